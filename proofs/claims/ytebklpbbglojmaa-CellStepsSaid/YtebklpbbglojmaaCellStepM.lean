/- cell.Step answers stepOf: where nothing is wrong. -/
import Derived.Test.YtebklpbbglojmaaCellStep
namespace Go.Proofs.Ytebklpbbglojmaa
set_option linter.unusedVariables false
set_option linter.unusedSimpArgs false
open Go.RowKit

theorem build_worker (c : Cel) (hwf : c.wf) (A A' : Option Addr) (m m' k k' : Nat) (w : World) :
    (Instr.build 91 #[(0, .agg (cellL c (.slice A m k)).toArray), (1, .slice A' m' k')]).run Try.prog w = .ok (.agg (workL c (.slice A m k) (.slice A' m' k') Wnt.zero).toArray) w := by
  obtain ⟨at_, regs, mem, rd, out, en⟩ := c
  obtain ⟨r0, r1, r2, r3, hregs⟩ := len_four hwf.1
  obtain ⟨m0, m1, m2, m3, m4, m5, m6, m7, hmem⟩ := len_eight hwf.2
  dsimp only at hregs hmem
  subst hregs hmem
  clear hwf
  kernel_rfl

theorem cellL_one (c : Cel) (hwf : c.wf) (A : Option Addr) (m k : Nat) : (cellL c (.slice A m k)).toArray.all (·.oneCell') = true := by
  obtain ⟨at_, regs, mem, rd, out, en⟩ := c
  obtain ⟨r0, r1, r2, r3, hregs⟩ := len_four hwf.1
  obtain ⟨m0, m1, m2, m3, m4, m5, m6, m7, hmem⟩ := len_eight hwf.2
  dsimp only at hregs hmem
  subst hregs hmem
  clear hwf
  kernel_rfl
theorem wantL_one (k : Wnt) : (wantL k).toArray.all (·.oneCell') = true := by
  obtain ⟨a, b, c, d, e⟩ := k
  kernel_rfl

theorem work_first (c : Cel) (ov iv : Value) (k : Wnt) : ∀ j v, (cellL c ov)[j]? = some v → (workL c ov iv k)[0 + j]? = some v := by
  intro j v h
  unfold workL
  rw [Nat.zero_add, List.getElem?_append_left ((List.getElem?_eq_some_iff.1 h).1)]
  exact h
theorem work_last {c : Cel} (h : c.wf) {ov iv : Value} {k : Wnt} : ∀ j v, (wantL k)[j]? = some v → (workL c ov iv k)[17 + j]? = some v := fun j v hv => by rw [work_want h]; exact hv


set_option maxRecDepth 100000 in
set_option maxHeartbeats 1000000 in
theorem cellStep_ok (p : Prt) (c : Cel) (cv iv ov : Value) (w : World) (hwf : c.wf) (ho : Ints w ov c.out) (hc : Code_ w cv p.code) (hi : Ints w iv p.inp) (h1 : chkCode p.code = 0) (h2 : ¬ 12 < p.inp.length) (h3 : cellFine c = true ∧ c.read ≤ p.inp.length) :
    Calls Try.prog 21 #[.agg #[cv, iv], celV c ov] w (StepBack w (stepOf p c).1 (stepOf p c).2 0) := by
  have hcc := fun w1 (hb : Below w.heap.size w w1) => codeCheck_any cv p.code w1 (hc.below hb)
  have hce := fun w1 (hb : Below w.heap.size w w1) => cellCheck_any c ov hwf w1 (ho.below hb)
  have hrd := cell_read (ov := ov) hwf
  have hou := cell_out (ov := ov) hwf
  have hen := cell_end (ov := ov) hwf
  have HLEN := hide (cellL_len (ov := ov) hwf)
  have hfine := h3.1
  have hol : c.out.length ≤ 1048576 := by unfold cellFine at hfine; simp only [decide_eq_true_eq] at hfine; omega
  have hcl := fun w1 (hb : Below w.heap.size w w1) => cloneInt_any (ho.below hb) hol
  have he : cellErr c = 0 := by simp [cellErr, hfine]
  obtain ⟨A, cap, rfl⟩ := hi.form rfl
  rw [h1] at hcc
  rw [he] at hce
  have d2 : decide ((12 : Int) < (p.inp.length : Int)) = false := by simp; omega
  have d3 : decide ((p.inp.length : Int) < c.read) = false := by simp; omega
  obtain ⟨m, hm⟩ : ∃ m, p.inp.length = m := ⟨_, rfl⟩
  rw [hm] at d2 d3 ⊢
  have HCC := hide hcc
  have HCE := hide hce
  have HCL := hide hcl
  have HH := hide (show chkCode p.code = 0 ∧ ¬ 12 < p.inp.length ∧ cellFine c = true ∧ c.read ≤ p.inp.length ∧ p.inp.length = m ∧ Ints w (.slice A m cap) p.inp ∧ Code_ w cv p.code ∧ c.wf from ⟨h1, h2, h3.1, h3.2, hm, by rw [hm] at hi; exact hi, hc, hwf⟩)
  obtain ⟨A', k', hov⟩ : ∃ A' k', ov = .slice A' c.out.length k' := by
    obtain ⟨A', k', h, -⟩ := ho
    exact ⟨A', k', h⟩
  have HBLD := hide (fun w => build_worker c hwf A' A c.out.length m k' cap w)
  rw [← hov] at HBLD
  clear hcc hce hcl h1 h2 h3 hi hc ho he hm hwf hfine hol hov
  unfold celV at *
  go_enter Try.func21, Try.ntmps21
  go_upto_region 9 with (first
    | (go_at_call 46; refine (HCC.out _ (by exact (by repeat' (first | with_reducible exact Below.refl _ _ | with_reducible assumption | with_reducible refine Below.alloc1 ?_ _ | with_reducible refine Below.drewN1 ?_ _ | with_reducible refine Below.drew ?_ | with_reducible refine Below.setCell1 ?_ ?_ _ | with_reducible refine Below.via ?_ (by with_reducible assumption) | with_reducible refine Below.viaD ?_ (by with_reducible assumption) | omega | (simp; done) | (simp; omega))))).mono ?_; rintro e w1 ⟨rfl, hb1⟩; have HA1 := (((Blk.new w _ _).alloc _).alloc _ |>.alloc _).kept hb1; have HB1 := ((Blk.new1 w _ _ _).alloc _ |>.alloc _).kept hb1; have HC1 := ((Blk.new2 w _ _ _ _).alloc _).kept hb1; have HD1 := (Blk.new3 w _ _ _ _ _).kept hb1; have ea1 := HA1.cell; have eb1 := HB1.cell; have ec1 := HC1.cell; have ed1 := HD1.cell; have fa1 := HA1.frozen; have fb1 := HB1.frozen; have fc1 := HC1.frozen; have fd1 := HD1.frozen; have bw1 : Below w.heap.size w _ := (Below.alloc1 (Below.alloc1 (Below.alloc1 (Below.alloc1 (Below.refl w.heap.size w) _) _) _) _).via hb1; have sz1 := HD1.lt; clear hb1)
    | (refine wpList_load_whole rfl 46 _ rfl _ _ _ HB2 rfl _ Try.underlying46 rfl (info_cell.trans (congrArg some HLEN.out.symm)) ?_)
    | (refine wpList_load_whole rfl 46 _ rfl _ _ _ HB1 rfl _ Try.underlying46 rfl (info_cell.trans (congrArg some HLEN.out.symm)) ?_)
    | (refine wpList_build rfl 91 _ rfl #[(0, .agg (cellL c ov).toArray), (1, .slice A m cap)] (by kernel_rfl) _ (HBLD.out _) ?_)
    | (go_at_call 25; refine (HCE.out _ (by exact (by repeat' (first | with_reducible exact Below.refl _ _ | with_reducible assumption | with_reducible refine Below.alloc1 ?_ _ | with_reducible refine Below.drewN1 ?_ _ | with_reducible refine Below.drew ?_ | with_reducible refine Below.setCell1 ?_ ?_ _ | with_reducible refine Below.via ?_ (by with_reducible assumption) | with_reducible refine Below.viaD ?_ (by with_reducible assumption) | omega | (simp; done) | (simp; omega))))).mono ?_; rintro e w2 ⟨rfl, hb2⟩; have HA2 := HA1.kept hb2; have HB2 := HB1.kept hb2; have HC2 := HC1.kept hb2; have HD2 := HD1.kept hb2; have ea2 := HA2.cell; have eb2 := HB2.cell; have ec2 := HC2.cell; have ed2 := HD2.cell; have fa2 := HA2.frozen; have fb2 := HB2.frozen; have fc2 := HC2.frozen; have fd2 := HD2.frozen; have bw2 : Below w.heap.size w _ := bw1.via hb2; have sz2 := HD2.lt; clear hb2))
  have HWK0 : Blk (w2.alloc (.cells (workL c ov (.slice A m cap) Wnt.zero).toArray 91)) w2.heap.size 91 (workL c ov (.slice A m cap) Wnt.zero) := Blk.new w2 _ _
  have HB3 := HB2.alloc (.cells (workL c ov (.slice A m cap) Wnt.zero).toArray 91)
  have HC3 := HC2.alloc (.cells (workL c ov (.slice A m cap) Wnt.zero).toArray 91)
  have HD3 := HD2.alloc (.cells (workL c ov (.slice A m cap) Wnt.zero).toArray 91)
  have HA3 := HA2.alloc (.cells (workL c ov (.slice A m cap) Wnt.zero).toArray 91)
  have bw3 := bw2.alloc1 (.cells (workL c ov (.slice A m cap) Wnt.zero).toArray 91)
  have hsz3 : (w2.alloc (.cells (workL c ov (.slice A m cap) Wnt.zero).toArray 91)).heap.size = w2.heap.size + 1 := World.size_alloc _ _
  have hB : w.heap.size + 1 + 1 + 1 < w2.heap.size := sz2
  generalize w2.alloc (.cells (workL c ov (.slice A m cap) Wnt.zero).toArray 91) = W at *
  generalize w2.heap.size = B at *
  clear HA1 HB1 HC1 HD1 HA2 HB2 HC2 HD2 ea1 eb1 ec1 ed1 fa1 fb1 fc1 fd1 ea2 eb2 ec2 ed2 fa2 fb2 fc2 fd2 bw1 bw2 sz1 sz2 HCC HCE HBLD HLEN
  have eb3 := HB3.cell
  have ea3 := HA3.cell
  go_upto_region 10 with (go_at_call 43; refine (HCL.out _ bw3).mono ?_; rintro e w3 ⟨A3, c3, rfl, hown3, hb3⟩; have HWK3 := HWK0.kept hb3; have HA4 := HA3.kept hb3; have HB4 := HB3.kept hb3; have HC4 := HC3.kept hb3; have HD4 := HD3.kept hb3; have bw4 := bw3.via hb3; have ew3 := HWK3.cell; have fw3 := HWK3.frozen; have hwo := work_out (c := c) (ov := ov) (iv := .slice A m cap) (k := Wnt.zero) HH.out.2.2.2.2.2.2.2; clear hb3)
  have hOn := Only.set w3 B 14 (.slice A3 c.out.length c3)
  have HWORK : Work (w3.setCell ⟨B, 14, none⟩ (.slice A3 c.out.length c3)) B c (.slice A3 c.out.length c3) (.slice A m cap) Wnt.zero p.inp :=
    ⟨(HWK3.set 14 _).same (set_out HH.out.2.2.2.2.2.2.2 c.out _), HH.out.2.2.2.2.2.2.2, hOn.ownAs (OwnAs.of_own hown3 (by omega)) (by omega), ⟨w, by omega, HH.out.2.2.2.2.2.1, bw4.only hOn (by omega)⟩⟩
  have HA5 := hOn.blk HA4 (by omega)
  have HB5 := hOn.blk HB4 (by omega)
  have HC5 := hOn.blk HC4 (by omega)
  have HD5 := hOn.blk HD4 (by omega)
  have bw5 := bw4.only hOn (by omega)
  generalize w3.setCell ⟨B, 14, none⟩ (.slice A3 c.out.length c3) = W5 at *
  clear HA4 HB4 HC4 HD4 bw4 hOn HWK3 hown3 ew3 fw3 hwo HWK0 HA3 HB3 HC3 HD3 bw3 eb3 ea3 hsz3
  generalize (Value.slice A3 c.out.length c3) = ov5 at *
  have eb5 := HB5.cell
  have ea5 := HA5.cell
  have HTR := hide (fun he => try_any B c ov5 (.slice A m cap) cv p.inp p.code W5 HWORK (HH.out.2.2.2.2.2.2.1.below bw5) HH.out.1 HH.out.2.2.1 HH.out.2.2.2.1 he)
  by_cases he : c.end_ = 0
  · have d4 : (c.end_ == 0) = true := by simpa using he
    have HTR' := hide (HTR.out he)
    clear HTR he
    generalize hce : stepOf p c = ce at *
    go_upto_region 12 with (go_at_call 47; refine HTR'.out.mono ?_; rintro e w6 ⟨rfl, hb6, ov6, HW6⟩; have HC6 := HC5.below hb6 (by omega); have HD6 := HD5.below hb6 (by omega); have bw6 := bw5.trans (hb6.mono (by omega)); clear hb6)
    obtain ⟨A9, k9, rfl⟩ := (HW6).out.form rfl
    have hwf' := (HW6).wf
    have hout' := (HW6).out
    have hS : Blk (w6).drew B 91 (workL ce.1 (.slice A9 ce.1.out.length k9) (.slice A m cap) ce.2) := (HW6).blk
    have hHC := (HC6).drew
    have hHD := (HD6).drew
    have hbw : Below w.heap.size w (w6).drew := Below.drew bw6
    clear HW6 HC6 HD6 bw6
    have H1 := hide (cellL_one ce.1 hwf' A9 ce.1.out.length k9)
    have H2 := hide (wantL_one ce.2)
    have HLEN' := hide (cellL_len (ov := .slice A9 ce.1.out.length k9) hwf')
    refine wp_region_held (S := fun W => Blk W B 91 (workL ce.1 (.slice A9 ce.1.out.length k9) (.slice A m cap) ce.2)) (by kernel_rfl) ?_
    change wpAnyH _ _ _ _ _ _ _ _ (World.drew _)
    have HS := hS
    refine wpAnyH_take (i := 0) (v := .pointer (some ⟨B, 0, none⟩)) rfl (by kernel_rfl) (by kernel_rfl) (by kernel_rfl) (fun _ _ _ h => h) (Or.inl ⟨by kernel_rfl, fun _ _ => by kernel_rfl⟩) HS ?_
    refine wpAnyH_take (i := 1) (v := .pointer (some ⟨B, 0, none⟩)) rfl (by kernel_rfl) (by kernel_rfl) (by kernel_rfl) (fun _ _ _ h => h) (Or.inl ⟨by kernel_rfl, fun _ _ => by kernel_rfl⟩) HS ?_
    refine wpAnyH_take (i := 2) (v := .pointer (some ⟨B, 0, none⟩)) rfl (by kernel_rfl) (by kernel_rfl) (by kernel_rfl) (fun _ _ _ h => h) (Or.inl ⟨by kernel_rfl, fun _ _ => by kernel_rfl⟩) HS ?_
    refine wpAnyH_take (i := 3) (v := .agg (cellL ce.1 (.slice A9 ce.1.out.length k9)).toArray) rfl (by kernel_rfl) (by kernel_rfl) (by kernel_rfl) (fun _ _ _ h => h) (yieldsIf_load_mid (by kernel_rfl) 46 (.tmp 57) rfl B 0 (by kernel_rfl) _ _ (fun W hW => hW.range (work_first ce.1 _ _ _)) Try.underlying46 rfl (info_cell.trans (congrArg some HLEN'.out.symm))) HS ?_
    refine wpAnyH_take (i := 4) (v := .pointer (some ⟨B, 0, none⟩)) rfl (by kernel_rfl) (by kernel_rfl) (by kernel_rfl) (fun _ _ _ h => h) (Or.inl ⟨by kernel_rfl, fun _ _ => by kernel_rfl⟩) HS ?_
    refine wpAnyH_take (i := 5) (v := .pointer (some ⟨B, 0, none⟩)) rfl (by kernel_rfl) (by kernel_rfl) (by kernel_rfl) (fun _ _ _ h => h) (Or.inl ⟨by kernel_rfl, fun _ _ => by kernel_rfl⟩) HS ?_
    refine wpAnyH_take (i := 6) (v := .pointer (some ⟨B, 17, none⟩)) rfl (by kernel_rfl) (by kernel_rfl) (by kernel_rfl) (fun _ _ _ h => h) (Or.inl ⟨by kernel_rfl, fun _ _ => by kernel_rfl⟩) HS ?_
    refine wpAnyH_take (i := 7) (v := .agg (wantL ce.2).toArray) rfl (by kernel_rfl) (by kernel_rfl) (by kernel_rfl) (fun _ _ _ h => h) (yieldsIf_load_mid (by kernel_rfl) 48 (.tmp 61) rfl B 17 (by kernel_rfl) _ _ (fun W hW => hW.range (work_last hwf')) Try.underlying48 rfl info_want) HS ?_
    generalize hA : Act.put _ _ _ = aa
    have q4 : aa.eval (.tmp 4) = .pointer (some ⟨w.heap.size + 1 + 1, 0, none⟩) := by rw [← hA]; as_aux_lemma => kernel_rfl
    have q5 : aa.eval (.tmp 5) = .pointer (some ⟨w.heap.size + 1 + 1 + 1, 0, none⟩) := by rw [← hA]; as_aux_lemma => kernel_rfl
    have q58 : aa.eval (.tmp 58) = .agg (cellL ce.1 (.slice A9 ce.1.out.length k9)).toArray := by rw [← hA]; as_aux_lemma => kernel_rfl
    have q62 : aa.eval (.tmp 62) = .agg (wantL ce.2).toArray := by rw [← hA]; as_aux_lemma => kernel_rfl
    have qd : aa.defers = [] := by rw [← hA]; as_aux_lemma => kernel_rfl
    have qs : aa.tmps.size = 63 := by rw [← hA]; as_aux_lemma => kernel_rfl
    clear hA
    refine wpAnyH_all (rs := [8]) (by kernel_rfl) (by simp) ?_
    intro i hi
    obtain rfl : i = 8 := by simpa using hi
    clear hi
    refine wpOp_step (o := { dst := none, op := .store 46 (.tmp 4) (.tmp 58), type := 0, pos := _, after := _, guard := none }) rfl (fun K hK => ?_)
    rw [if_pos (by simp [Region.wanted])]
    refine wp_store_mid 46 (.tmp 4) (.tmp 58) rfl (w.heap.size + 1 + 1) 0 (cellL ce.1 (.slice A9 ce.1.out.length k9)).toArray q4 q58 (hHC.there (by simp [HLEN'.out, zeros16])) (info_cell.trans (congrArg some (by simp [HLEN'.out]))) H1.out ?_
    refine hK _ _ ?_
    clear hK K
    have hsc := setCells_blk (cellL ce.1 (.slice A9 ce.1.out.length k9)).toArray.toList _ _ 0 hHC
    have hsa : splice zeros16 0 (cellL ce.1 (.slice A9 ce.1.out.length k9)).toArray.toList = cellL ce.1 (.slice A9 ce.1.out.length k9) := by
      have := splice_all (cellL ce.1 (.slice A9 ce.1.out.length k9)) [] zeros16 (by rw [HLEN'.out]; rfl)
      simpa using this
    obtain ⟨hR1, hO1⟩ := hsc
    replace hR1 := hR1.same hsa
    generalize World.setCells _ _ _ _ = X1 at *
    have HS1 := hO1.blk HS (by omega)
    have hHD1 := hO1.blk hHD (by omega)
    have hbw1 := hbw.only hO1 (by omega)
    have hout1 := hO1.ownAs hout' (by omega)
    clear hO1 hHD hbw hHC hsa HS hS hout'
    have HS := HS1
    refine ⟨HS, ?_⟩
    refine wpAnyH_all (rs := [9]) (by kernel_rfl) (by simp) ?_
    intro i hi
    obtain rfl : i = 9 := by simpa using hi
    clear hi
    refine wpOp_step (o := { dst := none, op := .store 48 (.tmp 5) (.tmp 62), type := 0, pos := _, after := _, guard := none }) rfl (fun K hK => ?_)
    rw [if_pos (by simp [Region.wanted])]
    refine wp_store_mid 48 (.tmp 5) (.tmp 62) rfl (w.heap.size + 1 + 1 + 1) 0 (wantL ce.2).toArray q5 q62 (hHD1.there (by simp [wantL, zeros5])) info_want H2.out ?_
    refine hK _ _ ?_
    clear hK K
    have hsc := setCells_blk (wantL ce.2).toArray.toList _ _ 0 hHD1
    have hsa : splice zeros5 0 (wantL ce.2).toArray.toList = wantL ce.2 := by
      have := splice_all (wantL ce.2) [] zeros5 rfl
      simpa using this
    obtain ⟨hR2, hO2⟩ := hsc
    replace hR2 := hR2.same hsa
    generalize World.setCells _ _ _ _ = X2 at *
    have HS2 := hO2.blk HS (by omega)
    replace hR1 := hO2.blk hR1 (by omega)
    have hbw2 := hbw1.only hO2 (by omega)
    have hout2 := hO2.ownAs hout1 (by omega)
    clear hO2 hHD1 hbw1 hsa HS HS1 hout1
    have HS := HS2
    refine ⟨HS, ?_⟩
    refine wpAnyH_take (i := 10) (v := .int .i64 0) (oi := { dst := some 6, op := .assign (.const (.int .i64 0)), type := _, pos := _, after := _, guard := none }) rfl (by kernel_rfl) (by kernel_rfl) (by kernel_rfl) (fun _ _ _ h => h) (Or.inl ⟨by kernel_rfl, fun _ _ => by kernel_rfl⟩) HS ?_
    refine wpAnyH_done (by kernel_rfl) ?_ _
    go_wp2_with fail
    obtain ⟨tm, df⟩ := aa
    simp only [Act.eval] at q4 q5
    refine bodyPost_ret (v := .tuple #[.agg (cellL ce.1 (.slice A9 ce.1.out.length k9)).toArray, .agg (wantL ce.2).toArray, .int .i64 0]) (results_cct Try.results21 _ (b := w.heap.size + 1 + 1) (b' := w.heap.size + 1 + 1 + 1) ?_ ?_ ?_ (run_load_blk hR1 Try.underlying46 rfl (info_cell.trans (congrArg some HLEN'.out.symm))) (run_load_blk hR2 Try.underlying48 rfl info_want)) qd ⟨_, rfl, hwf', OwnAs.less hout2 (by omega), hbw2⟩
    · simpa [Act.put] using q4
    · simpa [Act.put] using q5
    · simp only at qs
      simp [Act.put, qs]
  · have d4 : (c.end_ == 0) = false := by simpa using he
    have hst : stepOf p c = (c, Wnt.zero) := by unfold stepOf; rw [if_pos he]
    clear HTR he
    generalize hce : stepOf p c = ce at *
    have HWORK' : Work W5 B ce.1 ov5 (.slice A m cap) ce.2 p.inp := by rw [hst]; exact HWORK
    clear HWORK hst
    go_upto_region 12 with fail
    obtain ⟨A9, k9, rfl⟩ := (HWORK').out.form rfl
    have hwf' := (HWORK').wf
    have hout' := (HWORK').out
    have hS : Blk (W5).drew B 91 (workL ce.1 (.slice A9 ce.1.out.length k9) (.slice A m cap) ce.2) := (HWORK').blk
    have hHC := (HC5).drew
    have hHD := (HD5).drew
    have hbw : Below w.heap.size w (W5).drew := Below.drew bw5
    clear HWORK' HC5 HD5 bw5
    have H1 := hide (cellL_one ce.1 hwf' A9 ce.1.out.length k9)
    have H2 := hide (wantL_one ce.2)
    have HLEN' := hide (cellL_len (ov := .slice A9 ce.1.out.length k9) hwf')
    refine wp_region_held (S := fun W => Blk W B 91 (workL ce.1 (.slice A9 ce.1.out.length k9) (.slice A m cap) ce.2)) (by kernel_rfl) ?_
    change wpAnyH _ _ _ _ _ _ _ _ (World.drew _)
    have HS := hS
    refine wpAnyH_take (i := 0) (v := .pointer (some ⟨B, 0, none⟩)) rfl (by kernel_rfl) (by kernel_rfl) (by kernel_rfl) (fun _ _ _ h => h) (Or.inl ⟨by kernel_rfl, fun _ _ => by kernel_rfl⟩) HS ?_
    refine wpAnyH_take (i := 1) (v := .pointer (some ⟨B, 0, none⟩)) rfl (by kernel_rfl) (by kernel_rfl) (by kernel_rfl) (fun _ _ _ h => h) (Or.inl ⟨by kernel_rfl, fun _ _ => by kernel_rfl⟩) HS ?_
    refine wpAnyH_take (i := 2) (v := .pointer (some ⟨B, 0, none⟩)) rfl (by kernel_rfl) (by kernel_rfl) (by kernel_rfl) (fun _ _ _ h => h) (Or.inl ⟨by kernel_rfl, fun _ _ => by kernel_rfl⟩) HS ?_
    refine wpAnyH_take (i := 3) (v := .agg (cellL ce.1 (.slice A9 ce.1.out.length k9)).toArray) rfl (by kernel_rfl) (by kernel_rfl) (by kernel_rfl) (fun _ _ _ h => h) (yieldsIf_load_mid (by kernel_rfl) 46 (.tmp 57) rfl B 0 (by kernel_rfl) _ _ (fun W hW => hW.range (work_first ce.1 _ _ _)) Try.underlying46 rfl (info_cell.trans (congrArg some HLEN'.out.symm))) HS ?_
    refine wpAnyH_take (i := 4) (v := .pointer (some ⟨B, 0, none⟩)) rfl (by kernel_rfl) (by kernel_rfl) (by kernel_rfl) (fun _ _ _ h => h) (Or.inl ⟨by kernel_rfl, fun _ _ => by kernel_rfl⟩) HS ?_
    refine wpAnyH_take (i := 5) (v := .pointer (some ⟨B, 0, none⟩)) rfl (by kernel_rfl) (by kernel_rfl) (by kernel_rfl) (fun _ _ _ h => h) (Or.inl ⟨by kernel_rfl, fun _ _ => by kernel_rfl⟩) HS ?_
    refine wpAnyH_take (i := 6) (v := .pointer (some ⟨B, 17, none⟩)) rfl (by kernel_rfl) (by kernel_rfl) (by kernel_rfl) (fun _ _ _ h => h) (Or.inl ⟨by kernel_rfl, fun _ _ => by kernel_rfl⟩) HS ?_
    refine wpAnyH_take (i := 7) (v := .agg (wantL ce.2).toArray) rfl (by kernel_rfl) (by kernel_rfl) (by kernel_rfl) (fun _ _ _ h => h) (yieldsIf_load_mid (by kernel_rfl) 48 (.tmp 61) rfl B 17 (by kernel_rfl) _ _ (fun W hW => hW.range (work_last hwf')) Try.underlying48 rfl info_want) HS ?_
    generalize hA : Act.put _ _ _ = aa
    have q4 : aa.eval (.tmp 4) = .pointer (some ⟨w.heap.size + 1 + 1, 0, none⟩) := by rw [← hA]; as_aux_lemma => kernel_rfl
    have q5 : aa.eval (.tmp 5) = .pointer (some ⟨w.heap.size + 1 + 1 + 1, 0, none⟩) := by rw [← hA]; as_aux_lemma => kernel_rfl
    have q58 : aa.eval (.tmp 58) = .agg (cellL ce.1 (.slice A9 ce.1.out.length k9)).toArray := by rw [← hA]; as_aux_lemma => kernel_rfl
    have q62 : aa.eval (.tmp 62) = .agg (wantL ce.2).toArray := by rw [← hA]; as_aux_lemma => kernel_rfl
    have qd : aa.defers = [] := by rw [← hA]; as_aux_lemma => kernel_rfl
    have qs : aa.tmps.size = 63 := by rw [← hA]; as_aux_lemma => kernel_rfl
    clear hA
    refine wpAnyH_all (rs := [8]) (by kernel_rfl) (by simp) ?_
    intro i hi
    obtain rfl : i = 8 := by simpa using hi
    clear hi
    refine wpOp_step (o := { dst := none, op := .store 46 (.tmp 4) (.tmp 58), type := 0, pos := _, after := _, guard := none }) rfl (fun K hK => ?_)
    rw [if_pos (by simp [Region.wanted])]
    refine wp_store_mid 46 (.tmp 4) (.tmp 58) rfl (w.heap.size + 1 + 1) 0 (cellL ce.1 (.slice A9 ce.1.out.length k9)).toArray q4 q58 (hHC.there (by simp [HLEN'.out, zeros16])) (info_cell.trans (congrArg some (by simp [HLEN'.out]))) H1.out ?_
    refine hK _ _ ?_
    clear hK K
    have hsc := setCells_blk (cellL ce.1 (.slice A9 ce.1.out.length k9)).toArray.toList _ _ 0 hHC
    have hsa : splice zeros16 0 (cellL ce.1 (.slice A9 ce.1.out.length k9)).toArray.toList = cellL ce.1 (.slice A9 ce.1.out.length k9) := by
      have := splice_all (cellL ce.1 (.slice A9 ce.1.out.length k9)) [] zeros16 (by rw [HLEN'.out]; rfl)
      simpa using this
    obtain ⟨hR1, hO1⟩ := hsc
    replace hR1 := hR1.same hsa
    generalize World.setCells _ _ _ _ = X1 at *
    have HS1 := hO1.blk HS (by omega)
    have hHD1 := hO1.blk hHD (by omega)
    have hbw1 := hbw.only hO1 (by omega)
    have hout1 := hO1.ownAs hout' (by omega)
    clear hO1 hHD hbw hHC hsa HS hS hout'
    have HS := HS1
    refine ⟨HS, ?_⟩
    refine wpAnyH_all (rs := [9]) (by kernel_rfl) (by simp) ?_
    intro i hi
    obtain rfl : i = 9 := by simpa using hi
    clear hi
    refine wpOp_step (o := { dst := none, op := .store 48 (.tmp 5) (.tmp 62), type := 0, pos := _, after := _, guard := none }) rfl (fun K hK => ?_)
    rw [if_pos (by simp [Region.wanted])]
    refine wp_store_mid 48 (.tmp 5) (.tmp 62) rfl (w.heap.size + 1 + 1 + 1) 0 (wantL ce.2).toArray q5 q62 (hHD1.there (by simp [wantL, zeros5])) info_want H2.out ?_
    refine hK _ _ ?_
    clear hK K
    have hsc := setCells_blk (wantL ce.2).toArray.toList _ _ 0 hHD1
    have hsa : splice zeros5 0 (wantL ce.2).toArray.toList = wantL ce.2 := by
      have := splice_all (wantL ce.2) [] zeros5 rfl
      simpa using this
    obtain ⟨hR2, hO2⟩ := hsc
    replace hR2 := hR2.same hsa
    generalize World.setCells _ _ _ _ = X2 at *
    have HS2 := hO2.blk HS (by omega)
    replace hR1 := hO2.blk hR1 (by omega)
    have hbw2 := hbw1.only hO2 (by omega)
    have hout2 := hO2.ownAs hout1 (by omega)
    clear hO2 hHD1 hbw1 hsa HS HS1 hout1
    have HS := HS2
    refine ⟨HS, ?_⟩
    refine wpAnyH_take (i := 10) (v := .int .i64 0) (oi := { dst := some 6, op := .assign (.const (.int .i64 0)), type := _, pos := _, after := _, guard := none }) rfl (by kernel_rfl) (by kernel_rfl) (by kernel_rfl) (fun _ _ _ h => h) (Or.inl ⟨by kernel_rfl, fun _ _ => by kernel_rfl⟩) HS ?_
    refine wpAnyH_done (by kernel_rfl) ?_ _
    go_wp2_with fail
    obtain ⟨tm, df⟩ := aa
    simp only [Act.eval] at q4 q5
    refine bodyPost_ret (v := .tuple #[.agg (cellL ce.1 (.slice A9 ce.1.out.length k9)).toArray, .agg (wantL ce.2).toArray, .int .i64 0]) (results_cct Try.results21 _ (b := w.heap.size + 1 + 1) (b' := w.heap.size + 1 + 1 + 1) ?_ ?_ ?_ (run_load_blk hR1 Try.underlying46 rfl (info_cell.trans (congrArg some HLEN'.out.symm))) (run_load_blk hR2 Try.underlying48 rfl info_want)) qd ⟨_, rfl, hwf', OwnAs.less hout2 (by omega), hbw2⟩
    · simpa [Act.put] using q4
    · simpa [Act.put] using q5
    · simp only at qs
      simp [Act.put, qs]

theorem cellStep_any (p : Prt) (c : Cel) (cv iv ov : Value) (w : World) (hwf : c.wf) (ho : Ints w ov c.out) (hc : Code_ w cv p.code) (hi : Ints w iv p.inp) :
    Calls Try.prog 21 #[.agg #[cv, iv], celV c ov] w (if stepErr p c = 0 then StepBack w (stepOf p c).1 (stepOf p c).2 0 else StepBack w Cel.zero Wnt.zero (stepErr p c)) := by
  unfold stepErr
  by_cases h1 : chkCode p.code = 0
  · rw [if_neg (show ¬ chkCode p.code ≠ 0 by simp [h1])]
    by_cases h2 : 12 < p.inp.length
    · rw [if_pos h2, if_neg (by decide)]
      exact cellStep_many p c cv iv ov w hc hi h1 h2
    · rw [if_neg h2]
      by_cases h3 : cellFine c = true ∧ c.read ≤ p.inp.length
      · rw [if_pos h3, if_pos rfl]
        exact cellStep_ok p c cv iv ov w hwf ho hc hi h1 h2 h3
      · rw [if_neg h3, if_neg (by decide)]
        exact cellStep_form p c cv iv ov w hwf ho hc hi h1 h2 h3
  · rw [if_pos h1, if_neg h1]
    exact cellStep_code p c cv iv ov w hwf hc h1
end Go.Proofs.Ytebklpbbglojmaa
