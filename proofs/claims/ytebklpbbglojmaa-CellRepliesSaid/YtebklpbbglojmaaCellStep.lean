/- cell.Step answers stepOf. -/
import Derived.Test.YtebklpbbglojmaaCellOwn
import Derived.StillTailTactics
import Derived.Test.YtebklpbbglojmaaAbs
namespace Go.Proofs.Ytebklpbbglojmaa
set_option linter.unusedVariables false
set_option linter.unusedSimpArgs false
open Go.RowKit

/-- a cell, a want and an error come back -/
def StepBack (w0 : World) (c : Cel) (k : Wnt) (x : Int) (e : Ending) (w' : World) : Prop :=
  ∃ ov, e = .returned (.tuple #[celV c ov, wntV k, .int .i64 x]) ∧ c.wf ∧ OwnAs 3 w' w0.heap.size ov c.out ∧ Below w0.heap.size w0 w'
def stepErr (p : Prt) (c : Cel) : Int := if chkCode p.code ≠ 0 then chkCode p.code else if 12 < p.inp.length then 2 else if cellFine c = true ∧ c.read ≤ p.inp.length then 0 else 1
theorem Cel.zero_wf : Cel.zero.wf := ⟨rfl, rfl⟩
/-- the zeros of a cell and of a want -/
def zeros16 : List Value := [.int .i64 0, .int .i64 0, .int .i64 0, .int .i64 0, .int .i64 0, .int .i64 0, .int .i64 0, .int .i64 0, .int .i64 0, .int .i64 0, .int .i64 0, .int .i64 0, .int .i64 0, .int .i64 0, .slice none 0 0, .int .i64 0]
def zeros5 : List Value := [.int .i64 0, .int .i64 0, .int .i64 0, .int .i64 0, .int .i64 0]
theorem zeros16_one : zeros16.toArray.all (·.oneCell') = true := by kernel_rfl
theorem zeros5_one : zeros5.toArray.all (·.oneCell') = true := by kernel_rfl
theorem stepBack_err {w0 w' : World} {x : Int} (hb : Below w0.heap.size w0 w') : StepBack w0 Cel.zero Wnt.zero x (.returned (.tuple #[.agg zeros16.toArray, .agg zeros5.toArray, .int .i64 x])) w' :=
  ⟨_, rfl, Cel.zero_wf, OwnAs.nil_, hb⟩
theorem info_cell : (Try.prog.info? 46).map (·.size) = some 16 := by kernel_rfl
theorem info_want : (Try.prog.info? 48).map (·.size) = some 5 := by kernel_rfl
theorem cell_at {c : Cel} {ov : Value} : (cellL c ov)[0]? = some (.int .i64 c.at_) := rfl
theorem cell_read {c : Cel} {ov : Value} (h : c.wf) : (cellL c ov)[13]? = some (.int .i64 c.read) := by
  obtain ⟨at_, regs, mem, read, out, end_⟩ := c
  obtain ⟨a0, a1, a2, a3, hr⟩ := len_four h.1
  obtain ⟨m0, m1, m2, m3, m4, m5, m6, m7, hm⟩ := len_eight h.2
  simp only at hr hm
  subst hr hm
  rfl
theorem cell_out {c : Cel} {ov : Value} (h : c.wf) : (cellL c ov)[14]? = some ov := by
  obtain ⟨at_, regs, mem, read, out, end_⟩ := c
  obtain ⟨a0, a1, a2, a3, hr⟩ := len_four h.1
  obtain ⟨m0, m1, m2, m3, m4, m5, m6, m7, hm⟩ := len_eight h.2
  simp only at hr hm
  subst hr hm
  rfl
theorem cell_end {c : Cel} {ov : Value} (h : c.wf) : (cellL c ov)[15]? = some (.int .i64 c.end_) := by
  obtain ⟨at_, regs, mem, read, out, end_⟩ := c
  obtain ⟨a0, a1, a2, a3, hr⟩ := len_four h.1
  obtain ⟨m0, m1, m2, m3, m4, m5, m6, m7, hm⟩ := len_eight h.2
  simp only at hr hm
  subst hr hm
  rfl
theorem cellL_len {c : Cel} {ov : Value} (h : c.wf) : (cellL c ov).length = 16 := by
  unfold cellL
  simp [h.1, h.2]

set_option maxRecDepth 100000 in
set_option maxHeartbeats 1000000 in
theorem cellStep_code (p : Prt) (c : Cel) (cv iv ov : Value) (w : World) (hwf : c.wf) (hc : Code_ w cv p.code) (h1 : chkCode p.code ≠ 0) :
    Calls Try.prog 21 #[.agg #[cv, iv], celV c ov] w (StepBack w Cel.zero Wnt.zero (chkCode p.code)) := by
  have hcc := fun w1 (hb : Below w.heap.size w w1) => codeCheck_any cv p.code w1 (hc.below hb)
  have hne : (chkCode p.code != 0) = true := by simpa using h1
  generalize chkCode p.code = x at *
  have HCC := hide hcc
  clear hcc hc h1
  unfold celV
  go_enter Try.func21, Try.ntmps21
  go_upto_region 3 with (go_at_call 46; refine (HCC.out _ (by exact (by repeat' (first | with_reducible exact Below.refl _ _ | with_reducible assumption | with_reducible refine Below.alloc1 ?_ _ | with_reducible refine Below.drewN1 ?_ _ | with_reducible refine Below.drew ?_ | with_reducible refine Below.setCell1 ?_ ?_ _ | with_reducible refine Below.via ?_ (by with_reducible assumption) | with_reducible refine Below.viaD ?_ (by with_reducible assumption) | omega | (simp; done) | (simp; omega))))).mono ?_; rintro e w1 ⟨rfl, hb1⟩; have HA1 := (((Blk.new w _ _).alloc _).alloc _ |>.alloc _).kept hb1; have HB1 := ((Blk.new1 w _ _ _).alloc _ |>.alloc _).kept hb1; have HC1 := ((Blk.new2 w _ _ _ _).alloc _).kept hb1; have HD1 := (Blk.new3 w _ _ _ _ _).kept hb1; have ea1 := HA1.cell; have eb1 := HB1.cell; have ec1 := HC1.cell; have ed1 := HD1.cell; have fa1 := HA1.frozen; have fb1 := HB1.frozen; have fc1 := HC1.frozen; have fd1 := HD1.frozen; have bw1 : Below w.heap.size w _ := (Below.alloc1 (Below.alloc1 (Below.alloc1 (Below.alloc1 (Below.refl w.heap.size w) _) _) _) _).via hb1; have sz1 := HD1.lt; clear hb1)
  go_wp2_with (first
    | (refine wpList_store_whole rfl 46 _ _ rfl _ _ _ zeros16.toArray HC1 rfl rfl rfl info_cell zeros16_one ?_; intro ws1 hs1 ho1; have HS2 := ho1.blk HD1 (by omega))
    | (refine wpList_store_whole rfl 48 _ _ rfl _ _ _ zeros5.toArray HS2 rfl rfl rfl info_want zeros5_one ?_; intro ws2 hs2 ho2; have hs3 := ho2.blk hs1 (by omega)))
  refine bodyPost_ret (v := .tuple #[.agg zeros16.toArray, .agg zeros5.toArray, .int .i64 x]) (results_cct Try.results21 _ rfl rfl rfl (run_load_blk hs3 Try.underlying46 rfl info_cell) (run_load_blk hs2 Try.underlying48 rfl info_want)) rfl (stepBack_err ?_)
  exact (bw1.only ho1 (by omega)).only ho2 (by omega)

set_option maxRecDepth 100000 in
set_option maxHeartbeats 1000000 in
theorem cellStep_many (p : Prt) (c : Cel) (cv iv ov : Value) (w : World) (hc : Code_ w cv p.code) (hi : Ints w iv p.inp) (h1 : chkCode p.code = 0) (h2 : 12 < p.inp.length) :
    Calls Try.prog 21 #[.agg #[cv, iv], celV c ov] w (StepBack w Cel.zero Wnt.zero 2) := by
  have hcc := fun w1 (hb : Below w.heap.size w w1) => codeCheck_any cv p.code w1 (hc.below hb)
  obtain ⟨A, cap, rfl⟩ := hi.form rfl
  rw [h1] at hcc
  have d2 : decide ((12 : Int) < (p.inp.length : Int)) = true := by simp; omega
  generalize p.inp.length = m at *
  have HCC := hide hcc
  clear h1 h2 hcc hi hc
  unfold celV
  go_enter Try.func21, Try.ntmps21
  go_upto_region 5 with (go_at_call 46; refine (HCC.out _ (by exact (by repeat' (first | with_reducible exact Below.refl _ _ | with_reducible assumption | with_reducible refine Below.alloc1 ?_ _ | with_reducible refine Below.drewN1 ?_ _ | with_reducible refine Below.drew ?_ | with_reducible refine Below.setCell1 ?_ ?_ _ | with_reducible refine Below.via ?_ (by with_reducible assumption) | with_reducible refine Below.viaD ?_ (by with_reducible assumption) | omega | (simp; done) | (simp; omega))))).mono ?_; rintro e w1 ⟨rfl, hb1⟩; have HA1 := (((Blk.new w _ _).alloc _).alloc _ |>.alloc _).kept hb1; have HB1 := ((Blk.new1 w _ _ _).alloc _ |>.alloc _).kept hb1; have HC1 := ((Blk.new2 w _ _ _ _).alloc _).kept hb1; have HD1 := (Blk.new3 w _ _ _ _ _).kept hb1; have ea1 := HA1.cell; have eb1 := HB1.cell; have ec1 := HC1.cell; have ed1 := HD1.cell; have fa1 := HA1.frozen; have fb1 := HB1.frozen; have fc1 := HC1.frozen; have fd1 := HD1.frozen; have bw1 : Below w.heap.size w _ := (Below.alloc1 (Below.alloc1 (Below.alloc1 (Below.alloc1 (Below.refl w.heap.size w) _) _) _) _).via hb1; have sz1 := HD1.lt; clear hb1)
  go_wp2_with (first
    | (refine wpList_store_whole rfl 46 _ _ rfl _ _ _ zeros16.toArray HC1 rfl rfl rfl info_cell zeros16_one ?_; intro ws1 hs1 ho1; have HS2 := ho1.blk HD1 (by omega))
    | (refine wpList_store_whole rfl 48 _ _ rfl _ _ _ zeros5.toArray HS2 rfl rfl rfl info_want zeros5_one ?_; intro ws2 hs2 ho2; have hs3 := ho2.blk hs1 (by omega)))
  refine bodyPost_ret (v := .tuple #[.agg zeros16.toArray, .agg zeros5.toArray, .int .i64 2]) (results_cct Try.results21 _ rfl rfl rfl (run_load_blk hs3 Try.underlying46 rfl info_cell) (run_load_blk hs2 Try.underlying48 rfl info_want)) rfl (stepBack_err ?_)
  exact (bw1.only ho1 (by omega)).only ho2 (by omega)

set_option maxRecDepth 100000 in
set_option maxHeartbeats 1000000 in
theorem cellStep_form (p : Prt) (c : Cel) (cv iv ov : Value) (w : World) (hwf : c.wf) (ho : Ints w ov c.out) (hc : Code_ w cv p.code) (hi : Ints w iv p.inp) (h1 : chkCode p.code = 0) (h2 : ¬ 12 < p.inp.length) (h3 : ¬ (cellFine c = true ∧ c.read ≤ p.inp.length)) :
    Calls Try.prog 21 #[.agg #[cv, iv], celV c ov] w (StepBack w Cel.zero Wnt.zero 1) := by
  have hcc := fun w1 (hb : Below w.heap.size w w1) => codeCheck_any cv p.code w1 (hc.below hb)
  have hce := fun w1 (hb : Below w.heap.size w w1) => cellCheck_any c ov hwf w1 (ho.below hb)
  have hrd := cell_read (ov := ov) hwf
  obtain ⟨A, cap, rfl⟩ := hi.form rfl
  rw [h1] at hcc
  have d2 : decide ((12 : Int) < (p.inp.length : Int)) = false := by simp; omega
  have HLEN := hide (cellL_len (ov := ov) hwf)
  cases hf : cellFine c with
  | false =>
    have he : cellErr c = 1 := by simp [cellErr, hf]
    rw [he] at hce
    generalize p.inp.length = m at *
    have HCC := hide hcc
    have HCE := hide hce
    clear hcc hce h1 h2 h3 hi hc ho hf he
    unfold celV at *
    go_enter Try.func21, Try.ntmps21
    go_upto_region 7 with (first
      | (go_at_call 46; refine (HCC.out _ (by exact (by repeat' (first | with_reducible exact Below.refl _ _ | with_reducible assumption | with_reducible refine Below.alloc1 ?_ _ | with_reducible refine Below.drewN1 ?_ _ | with_reducible refine Below.drew ?_ | with_reducible refine Below.setCell1 ?_ ?_ _ | with_reducible refine Below.via ?_ (by with_reducible assumption) | with_reducible refine Below.viaD ?_ (by with_reducible assumption) | omega | (simp; done) | (simp; omega))))).mono ?_; rintro e w1 ⟨rfl, hb1⟩; have HA1 := (((Blk.new w _ _).alloc _).alloc _ |>.alloc _).kept hb1; have HB1 := ((Blk.new1 w _ _ _).alloc _ |>.alloc _).kept hb1; have HC1 := ((Blk.new2 w _ _ _ _).alloc _).kept hb1; have HD1 := (Blk.new3 w _ _ _ _ _).kept hb1; have ea1 := HA1.cell; have eb1 := HB1.cell; have ec1 := HC1.cell; have ed1 := HD1.cell; have fa1 := HA1.frozen; have fb1 := HB1.frozen; have fc1 := HC1.frozen; have fd1 := HD1.frozen; have bw1 : Below w.heap.size w _ := (Below.alloc1 (Below.alloc1 (Below.alloc1 (Below.alloc1 (Below.refl w.heap.size w) _) _) _) _).via hb1; have sz1 := HD1.lt; clear hb1)
      | (refine wpList_load_whole rfl 46 _ rfl _ _ _ HB1 rfl _ Try.underlying46 rfl (info_cell.trans (congrArg some HLEN.out.symm)) ?_)
      | (go_at_call 25; refine (HCE.out _ (by exact (by repeat' (first | with_reducible exact Below.refl _ _ | with_reducible assumption | with_reducible refine Below.alloc1 ?_ _ | with_reducible refine Below.drewN1 ?_ _ | with_reducible refine Below.drew ?_ | with_reducible refine Below.setCell1 ?_ ?_ _ | with_reducible refine Below.via ?_ (by with_reducible assumption) | with_reducible refine Below.viaD ?_ (by with_reducible assumption) | omega | (simp; done) | (simp; omega))))).mono ?_; rintro e w2 ⟨rfl, hb2⟩; have HA2 := HA1.kept hb2; have HB2 := HB1.kept hb2; have HC2 := HC1.kept hb2; have HD2 := HD1.kept hb2; have ea2 := HA2.cell; have eb2 := HB2.cell; have ec2 := HC2.cell; have ed2 := HD2.cell; have fa2 := HA2.frozen; have fb2 := HB2.frozen; have fc2 := HC2.frozen; have fd2 := HD2.frozen; have bw2 : Below w.heap.size w _ := bw1.via hb2; have sz2 := HD2.lt; clear hb2))
    go_wp2_with (first
      | (refine wpList_store_whole rfl 46 _ _ rfl _ _ _ zeros16.toArray HC2 rfl rfl rfl info_cell zeros16_one ?_; intro ws1 hs1 ho1; have HS2 := ho1.blk HD2 (by omega))
      | (refine wpList_store_whole rfl 48 _ _ rfl _ _ _ zeros5.toArray HS2 rfl rfl rfl info_want zeros5_one ?_; intro ws2 hs2 ho2; have hs3 := ho2.blk hs1 (by omega)))
    refine bodyPost_ret (v := .tuple #[.agg zeros16.toArray, .agg zeros5.toArray, .int .i64 1]) (results_cct Try.results21 _ rfl rfl rfl (run_load_blk hs3 Try.underlying46 rfl info_cell) (run_load_blk hs2 Try.underlying48 rfl info_want)) rfl (stepBack_err ?_)
    exact (bw2.only ho1 (by omega)).only ho2 (by omega)
  | true =>
    have he : cellErr c = 0 := by simp [cellErr, hf]
    rw [he] at hce
    have d3 : decide ((p.inp.length : Int) < c.read) = true := by simp only [decide_eq_true_eq]; exact Int.not_le.1 fun h => h3 ⟨hf, h⟩
    generalize p.inp.length = m at *
    have HCC := hide hcc
    have HCE := hide hce
    clear hcc hce h1 h2 h3 hi hc ho hf he
    unfold celV at *
    go_enter Try.func21, Try.ntmps21
    go_upto_region 7 with (first
      | (go_at_call 46; refine (HCC.out _ (by exact (by repeat' (first | with_reducible exact Below.refl _ _ | with_reducible assumption | with_reducible refine Below.alloc1 ?_ _ | with_reducible refine Below.drewN1 ?_ _ | with_reducible refine Below.drew ?_ | with_reducible refine Below.setCell1 ?_ ?_ _ | with_reducible refine Below.via ?_ (by with_reducible assumption) | with_reducible refine Below.viaD ?_ (by with_reducible assumption) | omega | (simp; done) | (simp; omega))))).mono ?_; rintro e w1 ⟨rfl, hb1⟩; have HA1 := (((Blk.new w _ _).alloc _).alloc _ |>.alloc _).kept hb1; have HB1 := ((Blk.new1 w _ _ _).alloc _ |>.alloc _).kept hb1; have HC1 := ((Blk.new2 w _ _ _ _).alloc _).kept hb1; have HD1 := (Blk.new3 w _ _ _ _ _).kept hb1; have ea1 := HA1.cell; have eb1 := HB1.cell; have ec1 := HC1.cell; have ed1 := HD1.cell; have fa1 := HA1.frozen; have fb1 := HB1.frozen; have fc1 := HC1.frozen; have fd1 := HD1.frozen; have bw1 : Below w.heap.size w _ := (Below.alloc1 (Below.alloc1 (Below.alloc1 (Below.alloc1 (Below.refl w.heap.size w) _) _) _) _).via hb1; have sz1 := HD1.lt; clear hb1)
      | (refine wpList_load_whole rfl 46 _ rfl _ _ _ HB1 rfl _ Try.underlying46 rfl (info_cell.trans (congrArg some HLEN.out.symm)) ?_)
      | (go_at_call 25; refine (HCE.out _ (by exact (by repeat' (first | with_reducible exact Below.refl _ _ | with_reducible assumption | with_reducible refine Below.alloc1 ?_ _ | with_reducible refine Below.drewN1 ?_ _ | with_reducible refine Below.drew ?_ | with_reducible refine Below.setCell1 ?_ ?_ _ | with_reducible refine Below.via ?_ (by with_reducible assumption) | with_reducible refine Below.viaD ?_ (by with_reducible assumption) | omega | (simp; done) | (simp; omega))))).mono ?_; rintro e w2 ⟨rfl, hb2⟩; have HA2 := HA1.kept hb2; have HB2 := HB1.kept hb2; have HC2 := HC1.kept hb2; have HD2 := HD1.kept hb2; have ea2 := HA2.cell; have eb2 := HB2.cell; have ec2 := HC2.cell; have ed2 := HD2.cell; have fa2 := HA2.frozen; have fb2 := HB2.frozen; have fc2 := HC2.frozen; have fd2 := HD2.frozen; have bw2 : Below w.heap.size w _ := bw1.via hb2; have sz2 := HD2.lt; clear hb2))
    go_wp2_with (first
      | (refine wpList_store_whole rfl 46 _ _ rfl _ _ _ zeros16.toArray HC2 rfl rfl rfl info_cell zeros16_one ?_; intro ws1 hs1 ho1; have HS2 := ho1.blk HD2 (by omega))
      | (refine wpList_store_whole rfl 48 _ _ rfl _ _ _ zeros5.toArray HS2 rfl rfl rfl info_want zeros5_one ?_; intro ws2 hs2 ho2; have hs3 := ho2.blk hs1 (by omega)))
    refine bodyPost_ret (v := .tuple #[.agg zeros16.toArray, .agg zeros5.toArray, .int .i64 1]) (results_cct Try.results21 _ rfl rfl rfl (run_load_blk hs3 Try.underlying46 rfl info_cell) (run_load_blk hs2 Try.underlying48 rfl info_want)) rfl (stepBack_err ?_)
    exact (bw2.only ho1 (by omega)).only ho2 (by omega)
end Go.Proofs.Ytebklpbbglojmaa
