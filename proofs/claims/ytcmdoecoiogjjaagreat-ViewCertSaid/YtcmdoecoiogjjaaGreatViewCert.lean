/- The law ViewCert answers true for every input. -/
import Derived.Test.YtcmdoecoiogjjaaGreatViewD
import Derived.Test.YtcmdoecoiogjjaaGreatViewPl
import Derived.Test.YtcmdoecoiogjjaaGreatPartW
import Derived.Test.YtcmdoecoiogjjaaGreatCertO
namespace Go.Proofs.YtcmdoecoiogjjaaGreat
set_option linter.unusedVariables false
set_option linter.unusedSimpArgs false
open Go.ChangeShapes Go.WideShapes Go.ChangeAt Go.RowKit
theorem bu_ViewCert_86_0_1 (x0 : Int) (x1 : Int) (w : World) : (Instr.build 86 #[(0, (.int .i64 x0)), (1, (.int .i64 x1))]).run Tryz.prog w = .ok (.agg #[(.int .i64 x0), (.int .i64 x1)]) w := by kernel_rfl
set_option maxRecDepth 100000

theorem view_alikeR {s s' : Sys} {u : Nat} {R : Nat → Prop} (hk : chkSys s = 0) (hk' : chkSys s' = 0) (hS : Shut s R) (hu : R u) (hL : Alike s s' R) {n : Nat} (hn : n ≤ 300) : viewOf s (runW s n) u = viewOf s' (runW s' n) u := by
  have hA := agree_run hk hk' hL hS n hn
  unfold viewOf
  rw [hA.cells u hu, hL.chans]
  congr 1
  unfold linesTo
  refine List.map_congr_left fun i hi => ?_
  obtain ⟨h1, h2⟩ := List.mem_filter.1 hi
  refine hA.lines i u (List.mem_range.1 h1) hu ?_
  unfold touches at h2
  simpa using h2
theorem cert_view {s : Sys} {u v n : Nat} {q : Prt} {P : List Edg} {ss : List (List Int)} (hk : chkSys s = 0) (hk' : chkSys (otherSys s v q) = 0) (hu : u < s.parts.length) (hv : v < s.parts.length) (hV : verB s.parts.length P (edgesTo s.chans s.parts.length s.parts.length) ss = true) (hne : u ≠ v) (hno : edgeIn P v u = false) (hn : n ≤ 300) : viewOf s (runW s n) u = viewOf (otherSys s v q) (runW (otherSys s v q) n) u := by
  unfold verB at hV
  rw [Bool.and_eq_true, all_iff, decide_eq_true_eq] at hV
  have h1 := hV.1 u (by omega)
  unfold verAt at h1
  rw [decide_eq_true hu] at h1
  have hs : IsSet s.chans s.parts.length P (u : Int) (ss.getD u []) := setOK_iff.1 (by rw [Bool.not_true, Bool.false_or] at h1; exact h1)
  refine view_alikeR (R := fun a => a < s.parts.length ∧ (a : Int) ∈ ss.getD u []) hk hk' (fun a b ha hb hl => ⟨ha, hs.shut a b ha hb.1 hl hb.2⟩) ⟨hu, hs.self⟩ ⟨rfl, rfl, by simp [otherSys], fun m hm => getD_set_no fun h => ?_⟩ hn
  subst h
  obtain ⟨k, hkl, e⟩ := getD_mem_iff.1 hm.2
  have h2 := hs.may k hkl
  rw [e] at h2
  unfold mayB at h2
  rw [hno, Bool.or_false, decide_eq_true_eq] at h2
  omega
set_option maxHeartbeats 8000000 in
theorem viewCert_run (x : SysD) (P : List Edg) (A : Option Addr) (c : Nat) (qs : List IR) (B : Option Addr) (d : Nat) (part by_ n : Int) (q : PP) (w : World) (hx : x.At w) (hm : May_ w A c P) (hs : Sets_ w B d qs) (hq : q.At w) (hl : q.1.code.length * 32 ≤ 140737488355328 ∧ q.1.inp.length * 8 ≤ 140737488355328)
    (hcp : -9223372036854775808 ≤ part ∧ part ≤ 9223372036854775807) (hcb : -9223372036854775808 ≤ by_ ∧ by_ ≤ 9223372036854775807) :
    Calls Tryz.prog 6 #[x.val, .agg #[.slice A P.length c], .agg #[.slice B qs.length d], .int .i64 part, .int .i64 by_, .int .i64 n, .agg (encP q).toArray] w fun e w' => e = .returned (.bool true) ∧ Below w.heap.size w w' := by
  have hve := fun w1 (hb : Below w.heap.size w w1) => certVerify_any (hx.below hb) (Flat.below hm hb) hm.len (hs.below hb)
  have hM : RF w A P.length 2 (fun k => Edg.cells (P.getD k E0)) := Flat.rf Edg.cells_len E0 hm
  have hPl := hm.len
  unfold maxLen at hPl
  change Calls _ _ #[_, _, _, _, _, _, .agg #[.slice q.2.ca q.1.code.length q.2.cc, .slice q.2.ia q.1.inp.length q.2.ic]] _ _
  have hsl : x.sys.parts.length = x.parts.length := by simp [SysD.sys]
  by_cases h0 : (certErr x.sys P = 0 ∧ verB x.parts.length P (edgesTo x.chans x.parts.length x.parts.length) (qs.map IR.l) = true) ∧ 0 ≤ n ∧ n ≤ 300
  · obtain ⟨⟨hce, hV⟩, hn0, hn1⟩ := h0
    obtain ⟨hk, -⟩ := certErr_zero hce
    obtain ⟨⟨hz1, hz2⟩, hz3, -⟩ := sizes_get (chkSys_zero hk).1
    obtain ⟨k, rfl⟩ := Int.eq_ofNat_of_zero_le hn0
    have hkl : k ≤ 300 := by omega
    rw [hce, hV, show (decide ((0 : Int) = 0) && true) = true from rfl] at hve
    have hoth := fun w1 (hb : Below w.heap.size w w1) (v : Int) => viewOther_any (hx.below hb) (hq.below hb) v hl
    have hs1 := fun w1 (hb : Below w.heap.size w w1) (u : Nat) (hu : u < x.parts.length) => seen_ok (hx.below hb) hk hu hkl
    have hs2 := fun (y : SysD) (v : Nat) (hys : y.sys = otherSys x.sys v q.1) (hk' : chkSys (otherSys x.sys v q.1) = 0) w1 (hy : y.At w1) (u : Nat) (hu : u < x.parts.length) => seen_ok (n := k) hy (by rw [hys]; exact hk') (p := u) (by rw [sysP_len hys]; simpa [otherSys, SysD.sys] using hu) hkl
    have hVV := fun (u v : Nat) (hu : u < x.parts.length) (hv : v < x.parts.length) (hk' : chkSys (otherSys x.sys v q.1) = 0) (hne : u ≠ v) (hno : edgeIn P v u = false) => cert_view (n := k) hk hk' (by rw [hsl]; exact hu) (by rw [hsl]; exact hv) (by rw [hsl]; exact hV) hne hno hkl
    have hthere := fun (v : Nat) (hv : v < x.parts.length) => there_0 hk (p := (v : Int)) (by rw [hsl]; omega)
    rw [x.val_eq] at *
    refine enter Tryz.func6 rfl Tryz.ntmps6 rfl fun a hF => ?_
    have hW := Wd.start w NoB
    refine c_sr ?_; refine pe (e_box hF hW rfl rfl rfl rfl ?_); intro b1 a wc hF hW; refine pe (e_box hF hW rfl rfl rfl rfl ?_); intro b2 a wc hF hW; refine pe (e_box hF hW rfl rfl rfl rfl ?_); intro b3 a wc hF hW; refine pe (e_box hF hW rfl rfl rfl rfl ?_); intro b4 a wc hF hW; refine pv hF hW (y_assign hF rfl) fun a hF => l_nil <| t_n <| c_sr <| pv hF hW (y_loadAll hF rfl 3 rfl Tryz.underlying26 rfl sz_26) fun a hF => pv hF hW (y_loadAll hF rfl 2 rfl Tryz.underlying78 rfl sz_78) fun a hF => pv hF hW (y_loadAll hF rfl 1 rfl Tryz.underlying81 rfl sz_81) fun a hF => ?_; refine pe (e_call hF rfl rfl en_28 (by rfl) rfl rfl (hve _ hW.below) ?_); rintro e w1 ⟨rfl, hb⟩; replace hW := hW.kept hb; clear hb; refine ⟨_, rfl, fun a hF => ?_⟩; refine pv hF hW (y_move hF rfl) fun a hF => pv hF hW (y_extract hF rfl rfl) fun a hF => pv hF hW (y_extract hF rfl rfl) fun a hF => pv hF hW (y_assign hF rfl) fun a hF => pv hF hW (y_assign hF rfl) fun a hF => l_nil ?_; replace hF := hF.ks [0, 1, 2, 3, 4, 5, 6, 7, 8, 9, 13, 14, 15, 16] rfl; refine t_n <| c_s <| c_sr <| pv hF hW (y_move hF rfl) fun a hF => pv hF hW (y_neq hF rfl rfl) fun a hF => ?_; replace hF := hF.ff; refine pv hF hW (y_move hF rfl) fun a hF => ?_; replace hF := hF.ff; refine pvg hF hW (y_move hF rfl) (ws hF rfl rfl) fun a hF => pvg hF hW (y_not hF rfl) (ws hF rfl rfl) fun a hF => ?_; replace hF := hF.ff; refine pv hF hW (y_pick hF rfl rfl) fun a hF => ?_; replace hF := hF.ff; refine pv hF hW (y_move hF rfl) fun a hF => ?_; replace hF := hF.ff; refine pvg hF hW (y_move hF rfl) (ws hF rfl rfl) fun a hF => pvg hF hW (y_lss hF rfl rfl) (ws hF rfl rfl) fun a hF => ?_; refine Fr.splitD hF ?_ ?_
    · intro h5 hF; exfalso
      omega
    · intro h5 hF; refine pv hF hW (y_pick hF rfl rfl) fun a hF => pv hF hW (y_move hF rfl) fun a hF => pvg hF hW (y_move hF rfl) (ws hF rfl rfl) fun a hF => pvg hF hW (y_gtr hF rfl rfl) (ws hF rfl rfl) fun a hF => ?_; refine Fr.splitD hF ?_ ?_
      · intro h6 hF; exfalso
        omega
      · intro h6 hF; refine pv hF hW (y_pick hF rfl rfl) fun a hF => pv hF hW (y_move hF rfl) fun a hF => pvg hF hW (y_fieldOwn hF rfl fa_26_0) (ws hF rfl rfl) fun a hF => pvg hF hW (y_loadOwn hF rfl 3 rfl rfl Tryz.underlying22 rfl) (ws hF rfl rfl) fun a hF => pvg hF hW (y_len hF rfl Tryz.underlying22) (ws hF rfl rfl) fun a hF => pvg hF hW (y_eql hF rfl rfl) (ws hF rfl rfl) fun a hF => ?_; refine Fr.splitD hF ?_ ?_
        · intro h7 hF; exfalso
          omega
        · intro h7 hF; refine pv hF hW (y_pick hF rfl rfl) fun a hF => l_nil ?_; replace hF := hF.ks [0, 1, 2, 3, 4, 5, 6, 7, 8, 9, 13, 14, 15, 16, 52] rfl; refine t_n <| c_f hF rfl <| wp_skip <| t_n <| c_sd mixed_ok hW (hW) ?_
          clear hW; intro wc hW hS
          refine dv 0 rfl hF hS (y_move hF rfl) fun a hF => dv 1 rfl hF hS (y_fieldOwn hF rfl fa_26_0) fun a hF => dv 2 rfl hF hS (y_loadOwn hF rfl 3 rfl rfl Tryz.underlying22 rfl) fun a hF => dv 3 rfl hF hS (y_len hF rfl Tryz.underlying22) fun a hF => dv 5 rfl hF hS (y_move hF rfl) fun a hF => dv 6 rfl hF hS (y_fieldOwn hF rfl fa_26_0) fun a hF => dv 7 rfl hF hS (y_loadOwn hF rfl 3 rfl rfl Tryz.underlying22 rfl) fun a hF => dv 8 rfl hF hS (y_len hF rfl Tryz.underlying22) fun a hF => d_1 4 (by kernel_rfl) ?_; refine d_op rfl rfl (e_call hF rfl rfl en_30 (by rfl) rfl rfl (chooseN_any hcp (by omega) _) ?_); rintro e w1 ⟨⟨u0, rfl, hu0, hu1⟩, hb⟩; replace hW := hW.kept hb; clear hb; refine ⟨_, rfl, fun a hF => ?_⟩
          obtain ⟨u, rfl⟩ := Int.eq_ofNat_of_zero_le hu0
          have hu : u < x.parts.length := (by omega)
          replace hS := hW; refine ⟨hS, ?_⟩; refine d_1 9 (by kernel_rfl) ?_; refine d_op rfl rfl (e_call hF rfl rfl en_30 (by rfl) rfl rfl (chooseN_any hcb (by omega) _) ?_); rintro e w1 ⟨⟨v0, rfl, hv0, hv1⟩, hb⟩; replace hW := hW.kept hb; clear hb; refine ⟨_, rfl, fun a hF => ?_⟩
          obtain ⟨v, rfl⟩ := Int.eq_ofNat_of_zero_le hv0
          have hv : v < x.parts.length := (by omega)
          replace hS := hW; refine ⟨hS, ?_⟩; refine dv 10 rfl hF hS (y_assign hF rfl) fun a hF => dv 11 rfl hF hS (y_assign hF rfl) fun a hF => ?_; clear hS; refine d_nil (by kernel_rfl) ?_; replace hF := hF.ks [0, 1, 2, 3, 4, 5, 6, 7, 8, 9, 13, 14, 15, 16, 17, 18, 52] rfl; refine t_n <| c_s <| c_sr <| pv hF hW (y_assign hF rfl) fun a hF => l_nil <| t_n <| wp_block ?_; refine c_loop (G := Nat) (fun j : Nat => [(19, .int .i64 (j : Int))]) (fun j : Nat => []) (fun j : Nat => j ≤ P.length ∧ edgeIn (P.take j) v u = false) (fun j : Nat => P.length - j) 0 (hF.ks [0, 1, 2, 3, 4, 5, 6, 7, 8, 9, 13, 15, 16, 17, 18, 52] rfl) (Fr.cons hF (t := 19) rfl (by first | rfl | (simp; done)) (Fr.nil hF)) (hW) ?_ ?_
          · exact ⟨by omega, rfl⟩
          clear hF hW
          try clear a
          intro j a wc hC hF hW
          obtain ⟨hjl, hno⟩ := hC
          refine c_s <| c_sr <| pv hF hW (y_move hF rfl) fun a hF => pv hF hW (y_fieldOwn hF rfl fa_78_0) fun a hF => pv hF hW (y_loadOwn hF rfl 2 rfl rfl Tryz.underlying76 rfl) fun a hF => pv hF hW (y_len hF rfl Tryz.underlying76) fun a hF => pv hF hW (y_lss hF rfl rfl) fun a hF => ?_; refine Fr.splitD hF ?_ ?_
          · intro h8 hF; refine l_nil ?_; replace hF := hF.ks [0, 1, 2, 3, 4, 5, 6, 7, 8, 9, 13, 15, 16, 17, 18, 19, 52, 68] rfl; refine t_n <| c_t hF rfl <| wp_skip <| t_n <| c_s <| wp_block ?_
            obtain ⟨z, hz⟩ : ∃ q, P.getD j E0 = q := ⟨_, rfl⟩
            obtain ⟨fr, tt⟩ := z
            have hjl2 : j < P.length := (by omega)
            refine c_sr <| pv hF hW (y_fieldOwn hF rfl fa_78_0) fun a hF => pv hF hW (y_loadOwn hF rfl 2 rfl rfl Tryz.underlying76 rfl) fun a hF => pv hF hW (y_move hF rfl) fun a hF => pv hF hW (y_indexS hF rfl rfl (by exact hjl2) Tryz.underlying76 sz_86 (fun w h => (hM).wd h)) fun a hF => pv hF hW (y_loadRowW hF rfl (fun w h => (hM).wd h) (by exact hjl2) Tryz.underlying86 rfl (by rw [hz]; exact sz_86)) fun a hF => ?_; replace hF := Fr.cast (v' := .agg #[.int .i64 fr, .int .i64 tt]) (by rw [hz]; rfl) hF; refine pv hF hW (y_move hF rfl) fun a hF => pv hF hW (y_move hF rfl) fun a hF => pv hF hW (y_build hF rfl (fun w => bu_ViewCert_86_0_1 _ _ w)) fun a hF => pv hF hW (y_bin hF rfl rfl (fun w => eqt_86 _ _ _ _ _ _ w)) fun a hF => ?_; refine Fr.splitD hF ?_ ?_
            · intro h9 hF; refine l_nil ?_; replace hF := hF.ks [0, 1, 2, 3, 4, 5, 6, 7, 8, 9, 13, 15, 16, 17, 18, 19, 52, 68, 79] rfl; refine t_n <| c_t hF rfl <| c_sr ?_; refine pe (e_call hF rfl rfl en_29 (by rfl) rfl rfl (viewBegun_any _) ?_); rintro e w1 ⟨rfl, hb⟩; replace hW := hW.kept hb; clear hb; refine ⟨_, rfl, fun a hF => ?_⟩; refine pv hF hW (y_assign hF rfl) fun a hF => l_nil ?_; replace hF := hF.ks [0, 1, 2, 3, 4, 5, 6, 7, 8, 9, 13, 14, 15, 16, 17, 18, 19, 52, 68, 79] rfl; refine t_n <| wp_ret <| b_r <| t_r <| t_r <| b_r <| t_r <| ret1 Tryz.results6 hF (rv_t hF rfl) ?_
              exact ⟨rfl, hW.below⟩
            · intro h9 hF; refine l_nil ?_; replace hF := hF.ks [0, 1, 2, 3, 4, 5, 6, 7, 8, 9, 13, 15, 16, 17, 18, 19, 52, 68, 79] rfl; refine t_n <| c_f hF rfl <| wp_skip <| b_n <| t_n <| c_r <| pv hF hW (y_move hF rfl) fun a hF => pv hF hW (y_add hF rfl rfl (IntWalk.i64_in _ (by omega))) fun a hF => ?_; replace hF := hF.drop 19; refine pv hF hW (y_assign hF rfl) fun a hF => l_nil ?_; replace hF := hF.ks [0, 1, 2, 3, 4, 5, 6, 7, 8, 9, 13, 15, 16, 17, 18, 19, 52, 68, 79] rfl; refine t_n ?_; refine ⟨(j + 1), ?_, ?_, ?_, ?_⟩
              · exact ⟨by omega, by rw [edgeIn_snoc hjl2, hz, hno, Bool.false_or, decide_eq_false (by assumption)]⟩
              · first | omega | (dsimp only; omega)
              · exact Fr.app (Fr.cons hF (t := 19) rfl (by first | rfl | (simp; done) | omega) (Fr.nil hF)) (hF.ks [0, 1, 2, 3, 4, 5, 6, 7, 8, 9, 13, 15, 16, 17, 18, 52] rfl)
              · exact hW
          · intro h8 hF; refine l_nil ?_; replace hF := hF.ks [0, 1, 2, 3, 4, 5, 6, 7, 8, 9, 13, 15, 16, 17, 18, 19, 52, 68] rfl; refine t_n <| c_f hF rfl <| wp_exit <| t_x <| t_x <| b_h <| t_n ?_
            rw [List.take_of_length_le (show P.length ≤ j by omega)] at hno
            refine c_sr <| pv hF hW (y_loadAll hF rfl 3 rfl Tryz.underlying26 rfl sz_26) fun a hF => pv hF hW (y_move hF rfl) fun a hF => pv hF hW (y_loadAll hF rfl 0 rfl Tryz.underlying49 rfl sz_49) fun a hF => ?_; refine pe (e_call hF rfl rfl en_31 (by rfl) rfl rfl (hoth _ hW.below v) ?_); rintro e w1 ⟨y, rfl, hys, hb, hr⟩; replace hW := hW.gotR hb hr; refine ⟨_, rfl, fun a hF => ?_⟩; replace hF := Fr.cast (v' := .tuple #[.agg #[.slice y.pa y.parts.length y.pc, .slice y.ha y.chans.length y.hc, .slice y.sa y.slots.length y.sc], .int .i64 (otherErr x.sys v q.1)]) rfl hF; refine pv hF hW (y_move hF rfl) fun a hF => pv hF hW (y_extract hF rfl rfl) fun a hF => pv hF hW (y_extract hF rfl rfl) fun a hF => ?_; refine pe (e_alloc hF hW ze_26 rfl rfl rfl ?_); intro b10 a wc hF hW; refine pe (e_storeAll rfl hF hW rfl rfl 0 rfl rfl rfl (by kernel_rfl) sz_26 ?_); intro wc hW; refine pv hF hW (y_assign hF rfl) fun a hF => l_nil ?_; replace hF := hF.ks [0, 1, 2, 3, 4, 5, 6, 7, 8, 9, 13, 15, 16, 17, 18, 19, 20, 21, 52, 68] rfl; refine t_n <| c_s <| c_sr <| pv hF hW (y_move hF rfl) fun a hF => pv hF hW (y_move hF rfl) fun a hF => pv hF hW (y_eql hF rfl rfl) fun a hF => ?_; refine Fr.splitD hF ?_ ?_
            · intro h11 hF; refine pv hF hW (y_move hF rfl) fun a hF => pk hF (wn hF rfl rfl rfl) fun a hF => pk hF (wn hF rfl rfl rfl) fun a hF => pv hF hW (y_pick hF rfl rfl) fun a hF => l_nil ?_; replace hF := hF.ks [0, 1, 2, 3, 4, 5, 6, 7, 8, 9, 13, 15, 16, 17, 18, 19, 20, 21, 52, 68, 94] rfl; refine t_n <| c_t hF rfl <| c_sr ?_; refine pe (e_call hF rfl rfl en_29 (by rfl) rfl rfl (viewBegun_any _) ?_); rintro e w1 ⟨rfl, hb⟩; replace hW := hW.kept hb; clear hb; refine ⟨_, rfl, fun a hF => ?_⟩; refine pv hF hW (y_assign hF rfl) fun a hF => l_nil ?_; replace hF := hF.ks [0, 1, 2, 3, 4, 5, 6, 7, 8, 9, 13, 14, 15, 16, 17, 18, 19, 20, 21, 52, 68, 94] rfl; refine t_n <| wp_ret <| t_r <| ret1 Tryz.results6 hF (rv_t hF rfl) ?_
              exact ⟨rfl, hW.below⟩
            · intro h11 hF; refine pv hF hW (y_move hF rfl) fun a hF => pvg hF hW (y_move hF rfl) (ws hF rfl rfl) fun a hF => pvg hF hW (y_neq hF rfl rfl) (ws hF rfl rfl) fun a hF => ?_; refine Fr.splitD hF ?_ ?_
              · intro h12 hF; refine pv hF hW (y_pick hF rfl rfl) fun a hF => l_nil ?_; replace hF := hF.ks [0, 1, 2, 3, 4, 5, 6, 7, 8, 9, 13, 15, 16, 17, 18, 19, 20, 21, 52, 68, 94] rfl; refine t_n <| c_t hF rfl <| c_sr ?_; refine pe (e_call hF rfl rfl en_29 (by rfl) rfl rfl (viewBegun_any _) ?_); rintro e w1 ⟨rfl, hb⟩; replace hW := hW.kept hb; clear hb; refine ⟨_, rfl, fun a hF => ?_⟩; refine pv hF hW (y_assign hF rfl) fun a hF => l_nil ?_; replace hF := hF.ks [0, 1, 2, 3, 4, 5, 6, 7, 8, 9, 13, 14, 15, 16, 17, 18, 19, 20, 21, 52, 68, 94] rfl; refine t_n <| wp_ret <| t_r <| ret1 Tryz.results6 hF (rv_t hF rfl) ?_
                exact ⟨rfl, hW.below⟩
              · intro h12 hF; refine pv hF hW (y_pick hF rfl rfl) fun a hF => l_nil ?_; replace hF := hF.ks [0, 1, 2, 3, 4, 5, 6, 7, 8, 9, 13, 15, 16, 17, 18, 19, 20, 21, 52, 68, 94] rfl; refine t_n <| c_f hF rfl <| wp_skip <| t_n ?_
                have hE : otherErr x.sys v q.1 = 0 := (by omega)
                have hne : u ≠ v := (by omega)
                have hk' : chkSys (otherSys x.sys v q.1) = 0 := (by have := otherErr_c (q := q.1) (hthere v hv); rw [Int.toNat_natCast] at this; omega)
                have hys' : y.sys = otherSys x.sys v q.1 := hys.trans ((if_pos hE).trans (by rw [Int.toNat_natCast]))
                have hVw := hVV u v hu hv hk' hne hno
                refine c_sr <| pv hF hW (y_loadAll hF rfl 5 rfl Tryz.underlying26 rfl sz_26) fun a hF => pv hF hW (y_move hF rfl) fun a hF => pv hF hW (y_move hF rfl) fun a hF => ?_; refine pe (e_call hF rfl rfl en_32 (by rfl) rfl rfl (hs1 _ hW.below u hu) ?_); rintro e w1 ⟨z, rfl, hva, hb, hr2⟩; replace hW := hW.gotR hb hr2
                obtain ⟨⟨⟨atA, rgA, mmA, rdA, outA, enA⟩, wfA, qaA, qkA⟩, LA, laA, lcA⟩ := z
                obtain ⟨raA, rbA, rcA, reA, hrA⟩ := len_four wfA.1
                obtain ⟨maA, mbA, mcA, mdA, meA, mfA, mgA, mhA, hmA⟩ := len_eight wfA.2
                dsimp only at hrA hmA
                subst hrA hmA; refine ⟨_, rfl, fun a hF => ?_⟩; replace hF := Fr.cast (v' := .tuple #[.agg #[.int .i64 atA, .int .i64 raA, .int .i64 rbA, .int .i64 rcA, .int .i64 reA, .int .i64 maA, .int .i64 mbA, .int .i64 mcA, .int .i64 mdA, .int .i64 meA, .int .i64 mfA, .int .i64 mgA, .int .i64 mhA, .int .i64 rdA, .slice qaA outA.length qkA, .int .i64 enA, .slice laA LA.length lcA], .bool true]) rfl hF; refine pv hF hW (y_move hF rfl) fun a hF => pv hF hW (y_extract hF rfl rfl) fun a hF => pv hF hW (y_extract hF rfl rfl) fun a hF => ?_; refine pe (e_alloc hF hW ze_53 rfl rfl rfl ?_); intro b13 a wc hF hW; refine pe (e_storeAll rfl hF hW rfl rfl 0 rfl rfl rfl (by kernel_rfl) sz_53 ?_); intro wc hW; refine pv hF hW (y_assign hF rfl) fun a hF => l_nil ?_; replace hF := hF.ks [0, 1, 2, 3, 4, 5, 6, 7, 8, 9, 13, 15, 16, 17, 18, 19, 20, 21, 22, 23, 52, 68, 94] rfl; refine t_n <| c_sr <| pv hF hW (y_loadAll hF rfl 2 rfl Tryz.underlying26 rfl sz_26) fun a hF => pv hF hW (y_move hF rfl) fun a hF => pv hF hW (y_move hF rfl) fun a hF => ?_; refine pe (e_call hF rfl rfl en_32 (by rfl) rfl rfl (hs2 y v hys' hk' _ (hW.res 3 rfl) u hu) ?_); rintro e w1 ⟨z, rfl, hvb, hb, hr2⟩; replace hW := hW.gotR hb hr2
                obtain ⟨⟨⟨atB, rgB, mmB, rdB, outB, enB⟩, wfB, qaB, qkB⟩, LB, laB, lcB⟩ := z
                obtain ⟨raB, rbB, rcB, reB, hrB⟩ := len_four wfB.1
                obtain ⟨maB, mbB, mcB, mdB, meB, mfB, mgB, mhB, hmB⟩ := len_eight wfB.2
                dsimp only at hrB hmB
                subst hrB hmB; refine ⟨_, rfl, fun a hF => ?_⟩; replace hF := Fr.cast (v' := .tuple #[.agg #[.int .i64 atB, .int .i64 raB, .int .i64 rbB, .int .i64 rcB, .int .i64 reB, .int .i64 maB, .int .i64 mbB, .int .i64 mcB, .int .i64 mdB, .int .i64 meB, .int .i64 mfB, .int .i64 mgB, .int .i64 mhB, .int .i64 rdB, .slice qaB outB.length qkB, .int .i64 enB, .slice laB LB.length lcB], .bool true]) rfl hF; refine pv hF hW (y_move hF rfl) fun a hF => pv hF hW (y_extract hF rfl rfl) fun a hF => pv hF hW (y_extract hF rfl rfl) fun a hF => ?_; refine pe (e_alloc hF hW ze_53 rfl rfl rfl ?_); intro b14 a wc hF hW; refine pe (e_storeAll rfl hF hW rfl rfl 0 rfl rfl rfl (by kernel_rfl) sz_53 ?_); intro wc hW; refine pv hF hW (y_assign hF rfl) fun a hF => l_nil ?_; replace hF := hF.ks [0, 1, 2, 3, 4, 5, 6, 7, 8, 9, 13, 15, 16, 17, 18, 19, 20, 21, 22, 23, 24, 25, 52, 68, 94] rfl; refine t_n <| c_sr ?_; refine pe (e_call hF rfl rfl en_29 (by rfl) rfl rfl (viewBegun_any _) ?_); rintro e w1 ⟨rfl, hb⟩; replace hW := hW.kept hb; clear hb; refine ⟨_, rfl, fun a hF => ?_⟩; refine pv hF hW (y_move hF rfl) fun a hF => pvg hF hW (y_move hF rfl) (ws hF rfl rfl) fun a hF => pv hF hW (y_pick hF rfl rfl) fun a hF => pv hF hW (y_move hF rfl) fun a hF => pvg hF hW (y_move hF rfl) (ws hF rfl rfl) fun a hF => pv hF hW (y_pick hF rfl rfl) fun a hF => pv hF hW (y_move hF rfl) fun a hF => pvg hF hW (y_loadAll hF rfl 2 rfl Tryz.underlying53 rfl sz_53) (ws hF rfl rfl) fun a hF => pvg hF hW (y_loadAll hF rfl 0 rfl Tryz.underlying53 rfl sz_53) (ws hF rfl rfl) fun a hF => ?_; refine pe (e_call hF rfl rfl en_33 (by rfl) rfl rfl (same_views (hW.res 3 rfl) (hW.res 1 rfl) (hva.trans (hVw.trans (by rw [hvb, hys'])))) ?_) (ws hF rfl rfl); rintro e w1 ⟨rfl, hb⟩; replace hW := hW.kept hb; clear hb; refine ⟨_, rfl, fun a hF => ?_⟩; refine pv hF hW (y_pick hF rfl rfl) fun a hF => pv hF hW (y_assign hF rfl) fun a hF => l_nil ?_; replace hF := hF.ks [0, 1, 2, 3, 4, 5, 6, 7, 8, 9, 13, 14, 15, 16, 17, 18, 19, 20, 21, 22, 23, 24, 25, 52, 68, 94] rfl; refine t_n <| wp_ret <| ret1 Tryz.results6 hF (rv_t hF rfl) ?_
                exact ⟨rfl, hW.below⟩
  · generalize hGE : certErr x.sys P = E at *
    generalize hGV : (decide (E = 0) && verB x.parts.length P (edgesTo x.chans x.parts.length x.parts.length) (qs.map IR.l)) = V at *
    have hbad : ¬ ((E = 0 ∧ V = true) ∧ 0 ≤ n ∧ n ≤ 300) := fun h => h0 ⟨⟨h.1.1, by have := h.1.2; rw [← hGV, h.1.1] at this; simpa using this⟩, h.2⟩
    clear h0 hGE hGV
    rw [x.val_eq] at *
    refine enter Tryz.func6 rfl Tryz.ntmps6 rfl fun a hF => ?_
    have hW := Wd.start w NoB
    refine c_sr ?_; refine pe (e_box hF hW rfl rfl rfl rfl ?_); intro b1 a wc hF hW; refine pe (e_box hF hW rfl rfl rfl rfl ?_); intro b2 a wc hF hW; refine pe (e_box hF hW rfl rfl rfl rfl ?_); intro b3 a wc hF hW; refine pe (e_box hF hW rfl rfl rfl rfl ?_); intro b4 a wc hF hW; refine pv hF hW (y_assign hF rfl) fun a hF => l_nil <| t_n <| c_sr <| pv hF hW (y_loadAll hF rfl 3 rfl Tryz.underlying26 rfl sz_26) fun a hF => pv hF hW (y_loadAll hF rfl 2 rfl Tryz.underlying78 rfl sz_78) fun a hF => pv hF hW (y_loadAll hF rfl 1 rfl Tryz.underlying81 rfl sz_81) fun a hF => ?_; refine pe (e_call hF rfl rfl en_28 (by rfl) rfl rfl (hve _ hW.below) ?_); rintro e w1 ⟨rfl, hb⟩; replace hW := hW.kept hb; clear hb; refine ⟨_, rfl, fun a hF => ?_⟩; refine pv hF hW (y_move hF rfl) fun a hF => pv hF hW (y_extract hF rfl rfl) fun a hF => pv hF hW (y_extract hF rfl rfl) fun a hF => pv hF hW (y_assign hF rfl) fun a hF => pv hF hW (y_assign hF rfl) fun a hF => l_nil ?_; replace hF := hF.ks [0, 1, 2, 3, 4, 5, 6, 7, 8, 9, 13, 14, 15, 16] rfl; refine t_n <| c_s <| c_sr <| pv hF hW (y_move hF rfl) fun a hF => pv hF hW (y_neq hF rfl rfl) fun a hF => ?_; refine Fr.splitD hF ?_ ?_
    · intro h5 hF; refine pv hF hW (y_move hF rfl) fun a hF => pk hF (wn hF rfl rfl rfl) fun a hF => pk hF (wn hF rfl rfl rfl) fun a hF => pv hF hW (y_pick hF rfl rfl) fun a hF => pv hF hW (y_move hF rfl) fun a hF => pk hF (wn hF rfl rfl rfl) fun a hF => pk hF (wn hF rfl rfl rfl) fun a hF => pv hF hW (y_pick hF rfl rfl) fun a hF => pv hF hW (y_move hF rfl) fun a hF => pk hF (wn hF rfl rfl rfl) fun a hF => pk hF (wn hF rfl rfl rfl) fun a hF => pv hF hW (y_pick hF rfl rfl) fun a hF => pv hF hW (y_move hF rfl) fun a hF => pk hF (wn hF rfl rfl rfl) fun a hF => pk hF (wn hF rfl rfl rfl) fun a hF => pk hF (wn hF rfl rfl rfl) fun a hF => pk hF (wn hF rfl rfl rfl) fun a hF => pv hF hW (y_pick hF rfl rfl) fun a hF => l_nil ?_; replace hF := hF.ks [0, 1, 2, 3, 4, 5, 6, 7, 8, 9, 13, 14, 15, 16, 52] rfl; refine t_n <| c_t hF rfl <| c_sr ?_; refine pe (e_call hF rfl rfl en_29 (by rfl) rfl rfl (viewBegun_any _) ?_); rintro e w1 ⟨rfl, hb⟩; replace hW := hW.kept hb; clear hb; refine ⟨_, rfl, fun a hF => ?_⟩; replace hF := hF.drop 14; refine pv hF hW (y_assign hF rfl) fun a hF => l_nil ?_; replace hF := hF.ks [0, 1, 2, 3, 4, 5, 6, 7, 8, 9, 13, 14, 15, 16, 52] rfl; refine t_n <| wp_ret <| t_r <| ret1 Tryz.results6 hF (rv_t hF rfl) ?_
      exact ⟨rfl, hW.below⟩
    · intro h5 hF; refine pv hF hW (y_move hF rfl) fun a hF => pvg hF hW (y_move hF rfl) (ws hF rfl rfl) fun a hF => ?_; refine Fr.splitB hF ?_ ?_
      · intro h6 hF; refine pvg hF hW (y_not hF rfl) (ws hF rfl rfl) fun a hF => ?_; replace hF := hF.ff; refine pv hF hW (y_pick hF rfl rfl) fun a hF => ?_; replace hF := hF.ff; refine pv hF hW (y_move hF rfl) fun a hF => ?_; replace hF := hF.ff; refine pvg hF hW (y_move hF rfl) (ws hF rfl rfl) fun a hF => pvg hF hW (y_lss hF rfl rfl) (ws hF rfl rfl) fun a hF => ?_; refine Fr.splitD hF ?_ ?_
        · intro h7 hF; refine pv hF hW (y_pick hF rfl rfl) fun a hF => pv hF hW (y_move hF rfl) fun a hF => pk hF (wn hF rfl rfl rfl) fun a hF => pk hF (wn hF rfl rfl rfl) fun a hF => pv hF hW (y_pick hF rfl rfl) fun a hF => pv hF hW (y_move hF rfl) fun a hF => pk hF (wn hF rfl rfl rfl) fun a hF => pk hF (wn hF rfl rfl rfl) fun a hF => pk hF (wn hF rfl rfl rfl) fun a hF => pk hF (wn hF rfl rfl rfl) fun a hF => pv hF hW (y_pick hF rfl rfl) fun a hF => l_nil ?_; replace hF := hF.ks [0, 1, 2, 3, 4, 5, 6, 7, 8, 9, 13, 14, 15, 16, 52] rfl; refine t_n <| c_t hF rfl <| c_sr ?_; refine pe (e_call hF rfl rfl en_29 (by rfl) rfl rfl (viewBegun_any _) ?_); rintro e w1 ⟨rfl, hb⟩; replace hW := hW.kept hb; clear hb; refine ⟨_, rfl, fun a hF => ?_⟩; replace hF := hF.drop 14; refine pv hF hW (y_assign hF rfl) fun a hF => l_nil ?_; replace hF := hF.ks [0, 1, 2, 3, 4, 5, 6, 7, 8, 9, 13, 14, 15, 16, 52] rfl; refine t_n <| wp_ret <| t_r <| ret1 Tryz.results6 hF (rv_t hF rfl) ?_
          exact ⟨rfl, hW.below⟩
        · intro h7 hF; refine pv hF hW (y_pick hF rfl rfl) fun a hF => pv hF hW (y_move hF rfl) fun a hF => pvg hF hW (y_move hF rfl) (ws hF rfl rfl) fun a hF => pvg hF hW (y_gtr hF rfl rfl) (ws hF rfl rfl) fun a hF => ?_; refine Fr.splitD hF ?_ ?_
          · intro h8 hF; refine pv hF hW (y_pick hF rfl rfl) fun a hF => pv hF hW (y_move hF rfl) fun a hF => pk hF (wn hF rfl rfl rfl) fun a hF => pk hF (wn hF rfl rfl rfl) fun a hF => pk hF (wn hF rfl rfl rfl) fun a hF => pk hF (wn hF rfl rfl rfl) fun a hF => pv hF hW (y_pick hF rfl rfl) fun a hF => l_nil ?_; replace hF := hF.ks [0, 1, 2, 3, 4, 5, 6, 7, 8, 9, 13, 14, 15, 16, 52] rfl; refine t_n <| c_t hF rfl <| c_sr ?_; refine pe (e_call hF rfl rfl en_29 (by rfl) rfl rfl (viewBegun_any _) ?_); rintro e w1 ⟨rfl, hb⟩; replace hW := hW.kept hb; clear hb; refine ⟨_, rfl, fun a hF => ?_⟩; replace hF := hF.drop 14; refine pv hF hW (y_assign hF rfl) fun a hF => l_nil ?_; replace hF := hF.ks [0, 1, 2, 3, 4, 5, 6, 7, 8, 9, 13, 14, 15, 16, 52] rfl; refine t_n <| wp_ret <| t_r <| ret1 Tryz.results6 hF (rv_t hF rfl) ?_
            exact ⟨rfl, hW.below⟩
          · intro h8 hF; refine pv hF hW (y_pick hF rfl rfl) fun a hF => pv hF hW (y_move hF rfl) fun a hF => pvg hF hW (y_fieldOwn hF rfl fa_26_0) (ws hF rfl rfl) fun a hF => pvg hF hW (y_loadOwn hF rfl 3 rfl rfl Tryz.underlying22 rfl) (ws hF rfl rfl) fun a hF => pvg hF hW (y_len hF rfl Tryz.underlying22) (ws hF rfl rfl) fun a hF => pvg hF hW (y_eql hF rfl rfl) (ws hF rfl rfl) fun a hF => ?_; refine Fr.splitD hF ?_ ?_
            · intro h9 hF; refine pv hF hW (y_pick hF rfl rfl) fun a hF => l_nil ?_; replace hF := hF.ks [0, 1, 2, 3, 4, 5, 6, 7, 8, 9, 13, 14, 15, 16, 52] rfl; refine t_n <| c_t hF rfl <| c_sr ?_; refine pe (e_call hF rfl rfl en_29 (by rfl) rfl rfl (viewBegun_any _) ?_); rintro e w1 ⟨rfl, hb⟩; replace hW := hW.kept hb; clear hb; refine ⟨_, rfl, fun a hF => ?_⟩; replace hF := hF.drop 14; refine pv hF hW (y_assign hF rfl) fun a hF => l_nil ?_; replace hF := hF.ks [0, 1, 2, 3, 4, 5, 6, 7, 8, 9, 13, 14, 15, 16, 52] rfl; refine t_n <| wp_ret <| t_r <| ret1 Tryz.results6 hF (rv_t hF rfl) ?_
              exact ⟨rfl, hW.below⟩
            · intro h9 hF; exfalso
              exact hbad ⟨⟨by omega, by first | assumption | simp_all⟩, by omega⟩
      · intro h6 hF; refine pvg hF hW (y_not hF rfl) (ws hF rfl rfl) fun a hF => ?_; replace hF := hF.tt; refine pv hF hW (y_pick hF rfl rfl) fun a hF => ?_; replace hF := hF.tt; refine pv hF hW (y_move hF rfl) fun a hF => ?_; replace hF := hF.tt; refine pk hF (wn hF rfl rfl rfl) fun a hF => pk hF (wn hF rfl rfl rfl) fun a hF => pv hF hW (y_pick hF rfl rfl) fun a hF => pv hF hW (y_move hF rfl) fun a hF => pk hF (wn hF rfl rfl rfl) fun a hF => pk hF (wn hF rfl rfl rfl) fun a hF => pv hF hW (y_pick hF rfl rfl) fun a hF => pv hF hW (y_move hF rfl) fun a hF => pk hF (wn hF rfl rfl rfl) fun a hF => pk hF (wn hF rfl rfl rfl) fun a hF => pk hF (wn hF rfl rfl rfl) fun a hF => pk hF (wn hF rfl rfl rfl) fun a hF => pv hF hW (y_pick hF rfl rfl) fun a hF => l_nil ?_; replace hF := hF.ks [0, 1, 2, 3, 4, 5, 6, 7, 8, 9, 13, 14, 15, 16, 52] rfl; refine t_n <| c_t hF rfl <| c_sr ?_; refine pe (e_call hF rfl rfl en_29 (by rfl) rfl rfl (viewBegun_any _) ?_); rintro e w1 ⟨rfl, hb⟩; replace hW := hW.kept hb; clear hb; refine ⟨_, rfl, fun a hF => ?_⟩; replace hF := hF.drop 14; refine pv hF hW (y_assign hF rfl) fun a hF => l_nil ?_; replace hF := hF.ks [0, 1, 2, 3, 4, 5, 6, 7, 8, 9, 13, 14, 15, 16, 52] rfl; refine t_n <| wp_ret <| t_r <| ret1 Tryz.results6 hF (rv_t hF rfl) ?_
        exact ⟨rfl, hW.below⟩

set_option maxRecDepth 100000 in
theorem viewCert_contract (H : Type) (enc : TypeId × Value → H) (W : World) (base : Nat) (args : Array Value) (ds gs : List (DataW H)) (before : List MemPlace)
    (hval : ∀ (j : Nat) t v, Tryz.f6.params[j]? = some t → args[j]? = some v → Value.okWide Tryz.prog W .any base t v)
    (hW : DataW.Whole enc Tryz.prog Tryz.f6.params.toList Rows.viewCertSpec.vars false W args.toList ds gs before) (hwt : (DataW.weightsEach Tryz.prog [26, 78, 81, 3, 3, 3, 49] ds).all (· ≤ reachBytes) = true) :
    Calls Tryz.prog 6 args W fun e W' => ∃ v, e = .returned v ∧ Rows.viewCertSpec.post enc Tryz.prog Tryz.f6 false true false false W args v W' := by
  have hW' := hW
  obtain ⟨p, q, hA0, hV, rfl, hfz, hnd⟩ := hW
  have hA : DataW.TrodAll enc Tryz.prog W 0 (fun _ => true) true Tryz.f6.params.toList args.toList ds p := hA0
  rw [Tryz.params6] at hA hval
  obtain ⟨v0, v1, v2, v3, v4, v5, v6, d0, d1, d2, d3, d4, d5, d6, p0, p1, p2, p3, p4, p5, p6, rfl, rfl, rfl, h0, h1, h2, h3, h4, h5, h6⟩ := trodAll_seven hA
  obtain ⟨x, rfl, hx⟩ := sys_open (hval 0 26 v0 rfl rfl) h0
  obtain ⟨P, A, c, rfl, hm⟩ := pol_open (hval 1 78 v1 rfl rfl) h1
  obtain ⟨qs, B, d, rfl, hs⟩ := crt_open (hval 2 81 v2 rfl rfl) h2
  obtain ⟨part, rfl, rfl, rfl, wk3⟩ := open_int Tryz.underlying3 (hval 3 3 v3 rfl rfl) h3
  obtain ⟨by_, rfl, rfl, rfl, wk4⟩ := open_int Tryz.underlying3 (hval 4 3 v4 rfl rfl) h4
  obtain ⟨n, rfl, rfl, rfl, wk5⟩ := open_int Tryz.underlying3 (hval 5 3 v5 rfl rfl) h5
  obtain ⟨q, rfl, hq, hql⟩ := partW_open (hval 6 49 v6 rfl rfl) h6
  refine (viewCert_run x P A c qs B d part by_ n q W hx hm hs hq (hql (by simp only [DataW.weightsEach, List.all_append, Bool.and_eq_true] at hwt; exact hwt.2.2.2.2.2.2.1)) (bounds_i64 wk3) (bounds_i64 wk4)).mono fun e W' ⟨he, hb⟩ => ?_
  subst he
  exact ⟨_, rfl, law_post Tryz.laidOut hW' hb rfl (by kernel_rfl) Tryz.underlying4 (by kernel_rfl) rfl⟩

set_option maxRecDepth 100000 in
theorem viewCert_lifted (os : Os) (started : os.Started) (H : Type) (enc : TypeId × Value → H) :
    ReturnsInHanded {} Tryz.checked os 6 .any (Rows.viewCertSpec.pre6 enc Tryz.prog Tryz.f6 Rows.viewCertRow.domain false) (Rows.viewCertSpec.post enc Tryz.prog Tryz.f6 false true false false) := by
  refine returnsInHanded_of_change_sized (C := Tryz.checked) Tryz.own started (by kernel_rfl) Tryz.func6
    (ChangeSpec.witness6 (enc := enc) (C := Tryz.checked) false ⟨#[], #[.agg #[.slice none 0 0, .slice none 0 0, .slice none 0 0], .agg #[.slice none 0 0], .agg #[.slice none 0 0], .int .i64 0, .int .i64 0, .int .i64 0, .agg #[.slice none 0 0, .slice none 0 0]], []⟩ 8 (by kernel_rfl) (by kernel_rfl) (by kernel_rfl) (by kernel_rfl)) ?_
  intro W base args ds gs before hval hW _ hwt _
  have hgs : gs = [] := by
    obtain ⟨p, q, _, hV, _⟩ := hW
    cases gs with
    | nil => rfl
    | cons _ _ => exact hV.elim
  subst hgs
  rw [List.append_nil] at hwt
  exact viewCert_contract H enc W base args ds [] before hval hW hwt

theorem viewCert_holds : Rows.ViewCertSaid :=
  OpenClaim.holds_of_wide 6 Tryz.f6 rfl rfl rfl rfl rfl rfl rfl ⟨rfl, rfl, rfl, rfl, rfl⟩ rfl rfl rfl rfl rfl (by kernel_rfl) Tryz.func6 (by kernel_rfl)
    (of_decide_eq_true (by kernel_rfl)) (by unfold Func.isWrapper; first | (rw [if_pos (by decide +kernel)]; kernel_rfl) | (rw [if_neg (by decide +kernel)]; exact ⟨rfl, rfl⟩))
    (fun os started H enc _ => viewCert_lifted os started H enc)
end Go.Proofs.YtcmdoecoiogjjaaGreat
