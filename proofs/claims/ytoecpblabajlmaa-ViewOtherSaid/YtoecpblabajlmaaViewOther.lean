/- The law ViewOther answers true for every input. -/
import Derived.Test.YtoecpblabajlmaaViewD
import Derived.Test.YtoecpblabajlmaaPartW
namespace Go.Proofs.Ytoecpblabajlmaa
set_option linter.unusedVariables false
set_option linter.unusedSimpArgs false
open Go.ChangeShapes Go.WideShapes Go.ChangeAt Go.RowKit

set_option maxRecDepth 100000

theorem other_view {s : Sys} {u v n : Nat} {q : Prt} (hk : chkSys s = 0) (hk' : chkSys (otherSys s v q) = 0) (hu : u < s.parts.length) (hv : v < s.parts.length) (hr : rch s.chans s.parts.length v u = false) (hn : n ≤ 300) : viewOf s (runW s n) u = viewOf (otherSys s v q) (runW (otherSys s v q) n) u :=
  view_alike hk hk' hu ⟨rfl, rfl, by simp [otherSys], fun m hm => getD_set_ne fun h => by
    subst h
    rw [(rch_iff hv hu).2 hm.2] at hr
    cases hr⟩ hn

set_option maxHeartbeats 8000000 in
theorem viewOther_run (x : SysD) (part by_ n : Int) (q : PP) (w : World) (hx : x.At w) (hq : q.At w) (hl : q.1.code.length * 32 ≤ 140737488355328 ∧ q.1.inp.length * 8 ≤ 140737488355328)
    (hcp : -9223372036854775808 ≤ part ∧ part ≤ 9223372036854775807) (hcb : -9223372036854775808 ≤ by_ ∧ by_ ≤ 9223372036854775807) :
    Calls Try.prog 8 #[x.val, .int .i64 part, .int .i64 by_, .int .i64 n, .agg (encP q).toArray] w fun e w' => e = .returned (.bool true) ∧ Below w.heap.size w w' := by
  have hrc := fun w1 (hb : Below w.heap.size w w1) => flowReach_any (hx.below hb)
  change Calls _ _ #[_, _, _, _, .agg #[.slice q.2.ca q.1.code.length q.2.cc, .slice q.2.ia q.1.inp.length q.2.ic]] _ _
  by_cases h0 : chkSys x.sys = 0 ∧ 0 ≤ n ∧ n ≤ 300
  · obtain ⟨hk, hn0, hn1⟩ := h0
    obtain ⟨⟨hz1, hz2⟩, hz3, -⟩ := sizes_get (chkSys_zero hk).1
    obtain ⟨k, rfl⟩ := Int.eq_ofNat_of_zero_le hn0
    have hkl : k ≤ 300 := by omega
    have hsl : x.sys.parts.length = x.parts.length := by simp [SysD.sys]
    rw [hk] at hrc
    have hoth := fun w1 (hb : Below w.heap.size w w1) (v : Int) => viewOther_any (hx.below hb) (hq.below hb) v hl
    have hs1 := fun w1 (hb : Below w.heap.size w w1) (u : Nat) (hu : u < x.parts.length) => seen_ok (hx.below hb) hk hu hkl
    have hs2 := fun (y : SysD) (v : Nat) (hys : y.sys = otherSys x.sys v q.1) (hk' : chkSys (otherSys x.sys v q.1) = 0) w1 (hy : y.At w1) (u : Nat) (hu : u < x.parts.length) => seen_ok (n := k) hy (by rw [hys]; exact hk') (p := u) (by rw [sys_len hys]; simpa [otherSys, SysD.sys] using hu) hkl
    have hV := fun (u v : Nat) (hu : u < x.parts.length) (hv : v < x.parts.length) (hk' : chkSys (otherSys x.sys v q.1) = 0) (hr : rch x.chans x.parts.length v u = false) => other_view (n := k) hk hk' (by rw [hsl]; exact hu) (by rw [hsl]; exact hv) (by rw [hsl]; exact hr) hkl
    have hthere := fun (v : Nat) (hv : v < x.parts.length) => there_0 hk (p := (v : Int)) (by rw [hsl]; omega)
    rw [x.val_eq] at *
    refine enter Try.func8 rfl Try.ntmps8 rfl fun a hF => ?_
    have hW := Wd.start w NoB
    refine c_sr ?_; refine pe (e_box hF hW rfl rfl rfl rfl ?_); intro b1 a wc hF hW; refine pe (e_box hF hW rfl rfl rfl rfl ?_); intro b2 a wc hF hW; refine pv hF hW (y_assign hF rfl) fun a hF => l_nil <| t_n <| c_sr <| pv hF hW (y_loadAll hF rfl 1 rfl Try.underlying26 rfl sz_26) fun a hF => ?_; refine pe (e_call hF rfl rfl en_28 (by rfl) rfl rfl (hrc _ hW.below) ?_); rintro e w1 ⟨D, A, c, rfl, hD, hb, hr⟩; replace hW := hW.gotR hb (hr.mono fun u h => RM.mk h.1 h.2)
    replace hD := IsReach.of (hD.trans (if_pos rfl))
    have hDl := hD.len
    refine ⟨_, rfl, fun a hF => ?_⟩; refine pv hF hW (y_move hF rfl) fun a hF => pv hF hW (y_extract hF rfl rfl) fun a hF => pv hF hW (y_extract hF rfl rfl) fun a hF => pv hF hW (y_assign hF rfl) fun a hF => pv hF hW (y_assign hF rfl) fun a hF => l_nil ?_; replace hF := hF.ks [0, 1, 2, 3, 4, 5, 9, 10, 11, 12] rfl; refine t_n <| c_s <| c_sr <| pv hF hW (y_move hF rfl) fun a hF => pv hF hW (y_neq hF rfl rfl) fun a hF => ?_; replace hF := hF.ff; refine pv hF hW (y_move hF rfl) fun a hF => ?_; replace hF := hF.ff; refine pvg hF hW (y_move hF rfl) (ws hF rfl rfl) fun a hF => pvg hF hW (y_lss hF rfl rfl) (ws hF rfl rfl) fun a hF => ?_; refine Fr.splitD hF ?_ ?_
    · intro h3 hF; exfalso
      omega
    · intro h3 hF; refine pv hF hW (y_pick hF rfl rfl) fun a hF => pv hF hW (y_move hF rfl) fun a hF => pvg hF hW (y_move hF rfl) (ws hF rfl rfl) fun a hF => pvg hF hW (y_gtr hF rfl rfl) (ws hF rfl rfl) fun a hF => ?_; refine Fr.splitD hF ?_ ?_
      · intro h4 hF; exfalso
        omega
      · intro h4 hF; refine pv hF hW (y_pick hF rfl rfl) fun a hF => pv hF hW (y_move hF rfl) fun a hF => pvg hF hW (y_fieldOwn hF rfl fa_26_0) (ws hF rfl rfl) fun a hF => pvg hF hW (y_loadOwn hF rfl 2 rfl rfl Try.underlying22 rfl) (ws hF rfl rfl) fun a hF => pvg hF hW (y_len hF rfl Try.underlying22) (ws hF rfl rfl) fun a hF => pvg hF hW (y_eql hF rfl rfl) (ws hF rfl rfl) fun a hF => ?_; refine Fr.splitD hF ?_ ?_
        · intro h5 hF; exfalso
          omega
        · intro h5 hF; refine pv hF hW (y_pick hF rfl rfl) fun a hF => l_nil ?_; replace hF := hF.ks [0, 1, 2, 3, 4, 5, 9, 10, 11, 12, 41] rfl; refine t_n <| c_f hF rfl <| wp_skip <| t_n <| c_sd mixed_ok hW (hW) ?_
          clear hW; intro wc hW hS
          refine dv 0 rfl hF hS (y_move hF rfl) fun a hF => dv 1 rfl hF hS (y_fieldOwn hF rfl fa_26_0) fun a hF => dv 2 rfl hF hS (y_loadOwn hF rfl 2 rfl rfl Try.underlying22 rfl) fun a hF => dv 3 rfl hF hS (y_len hF rfl Try.underlying22) fun a hF => dv 5 rfl hF hS (y_move hF rfl) fun a hF => dv 6 rfl hF hS (y_fieldOwn hF rfl fa_26_0) fun a hF => dv 7 rfl hF hS (y_loadOwn hF rfl 2 rfl rfl Try.underlying22 rfl) fun a hF => dv 8 rfl hF hS (y_len hF rfl Try.underlying22) fun a hF => d_1 4 (by kernel_rfl) ?_; refine d_op rfl rfl (e_call hF rfl rfl en_17 (by rfl) rfl rfl (chooseN_any hcp (by omega) _) ?_); rintro e w1 ⟨⟨u0, rfl, hu0, hu1⟩, hb⟩; replace hW := hW.kept hb; clear hb; refine ⟨_, rfl, fun a hF => ?_⟩
          obtain ⟨u, rfl⟩ := Int.eq_ofNat_of_zero_le hu0
          have hu : u < x.parts.length := (by omega)
          refine ⟨hW, ?_⟩; replace hS := hW; refine d_1 9 (by kernel_rfl) ?_; refine d_op rfl rfl (e_call hF rfl rfl en_17 (by rfl) rfl rfl (chooseN_any hcb (by omega) _) ?_); rintro e w1 ⟨⟨v0, rfl, hv0, hv1⟩, hb⟩; replace hW := hW.kept hb; clear hb; refine ⟨_, rfl, fun a hF => ?_⟩
          obtain ⟨v, rfl⟩ := Int.eq_ofNat_of_zero_le hv0
          have hv : v < x.parts.length := (by omega)
          have hvD : v < D.length := (by omega)
          have hvl := hD.each v hv
          have huD : u < (D.getD v BR0).l.length := (by omega)
          refine ⟨hW, ?_⟩; replace hS := hW; refine dv 10 rfl hF hS (y_assign hF rfl) fun a hF => dv 11 rfl hF hS (y_assign hF rfl) fun a hF => ?_; clear hS; refine d_nil (by kernel_rfl) ?_; replace hF := hF.ks [0, 1, 2, 3, 4, 5, 9, 10, 11, 12, 13, 14, 41] rfl; refine t_n <| c_s <| c_sr <| pv hF hW (y_move hF rfl) fun a hF => pv hF hW (y_len hF rfl Try.underlying70) fun a hF => pv hF hW (y_fieldOwn hF rfl fa_26_0) fun a hF => pv hF hW (y_loadOwn hF rfl 2 rfl rfl Try.underlying22 rfl) fun a hF => pv hF hW (y_len hF rfl Try.underlying22) fun a hF => pv hF hW (y_neq hF rfl rfl) fun a hF => ?_; refine Fr.splitD hF ?_ ?_
          · intro h6 hF; exfalso
            omega
          · intro h6 hF; refine pv hF hW (y_move hF rfl) fun a hF => pvg hF hW (y_move hF rfl) (ws hF rfl rfl) fun a hF => pvg hF hW (y_move hF rfl) (ws hF rfl rfl) fun a hF => pvg hF hW (y_indexS hF rfl rfl (by exact hvD) Try.underlying70 sz_73 (fun w h => (h.res 0 rfl).row)) (ws hF rfl rfl) fun a hF => pvg hF hW (y_loadRow hF rfl (fun w h => (h.res 0 rfl).row) (by exact hvD) rfl Try.underlying73 rfl) (ws hF rfl rfl) fun a hF => pvg hF hW (y_len hF rfl Try.underlying73) (ws hF rfl rfl) fun a hF => pvg hF hW (y_move hF rfl) (ws hF rfl rfl) fun a hF => pvg hF hW (y_len hF rfl Try.underlying70) (ws hF rfl rfl) fun a hF => pvg hF hW (y_neq hF rfl rfl) (ws hF rfl rfl) fun a hF => ?_; refine Fr.splitD hF ?_ ?_
            · intro h7 hF; exfalso
              omega
            · intro h7 hF; refine pv hF hW (y_pick hF rfl rfl) fun a hF => l_nil ?_; replace hF := hF.ks [0, 1, 2, 3, 4, 5, 9, 10, 11, 12, 13, 14, 41, 68] rfl; refine t_n <| c_f hF rfl <| wp_skip <| t_n <| c_sr <| pv hF hW (y_loadAll hF rfl 2 rfl Try.underlying26 rfl sz_26) fun a hF => pv hF hW (y_move hF rfl) fun a hF => pv hF hW (y_loadAll hF rfl 1 rfl Try.underlying69 rfl sz_69) fun a hF => ?_; refine pe (e_call hF rfl rfl en_29 (by rfl) rfl rfl (hoth _ hW.below v) ?_); rintro e w1 ⟨y, rfl, hys, hb, hr⟩; replace hW := hW.gotR hb hr; refine ⟨_, rfl, fun a hF => ?_⟩; replace hF := Fr.cast (v' := .tuple #[.agg #[.slice y.pa y.parts.length y.pc, .slice y.ha y.chans.length y.hc, .slice y.sa y.slots.length y.sc], .int .i64 (otherErr x.sys v q.1)]) rfl hF; refine pv hF hW (y_move hF rfl) fun a hF => pv hF hW (y_extract hF rfl rfl) fun a hF => pv hF hW (y_extract hF rfl rfl) fun a hF => ?_; refine pe (e_alloc hF hW ze_26 rfl rfl rfl ?_); intro b8 a wc hF hW; refine pe (e_storeAll rfl hF hW rfl rfl 0 rfl rfl rfl (by kernel_rfl) sz_26 ?_); intro wc hW; refine pv hF hW (y_assign hF rfl) fun a hF => l_nil ?_; replace hF := hF.ks [0, 1, 2, 3, 4, 5, 9, 10, 11, 12, 13, 14, 15, 16, 41, 68] rfl; refine t_n <| c_s <| c_sr <| pv hF hW (y_move hF rfl) fun a hF => pv hF hW (y_move hF rfl) fun a hF => pv hF hW (y_indexS hF rfl rfl (by exact hvD) Try.underlying70 sz_73 (fun w h => (h.res 2 rfl).row)) fun a hF => pv hF hW (y_loadRow hF rfl (fun w h => (h.res 2 rfl).row) (by exact hvD) rfl Try.underlying73 rfl) fun a hF => ?_; replace hF := Fr.cast (v' := .slice (D.getD v BR0).a (D.getD v BR0).l.length (D.getD v BR0).k) (by rfl) hF; refine pv hF hW (y_move hF rfl) fun a hF => pv hF hW (y_indexS hF rfl rfl (by exact huD) Try.underlying73 sz_4 (fun w h => (h.res 2 rfl).inner (k := v) hvD)) fun a hF => pv hF hW (y_loadRow hF rfl (fun w h => (h.res 2 rfl).inner (k := v) hvD) (by exact huD) rfl Try.underlying4 rfl) fun a hF => ?_; refine Fr.splitB hF ?_ ?_
              · intro h9 hF; refine pv hF hW (y_move hF rfl) fun a hF => pk hF (wn hF rfl rfl rfl) fun a hF => pk hF (wn hF rfl rfl rfl) fun a hF => pv hF hW (y_pick hF rfl rfl) fun a hF => l_nil ?_; replace hF := hF.ks [0, 1, 2, 3, 4, 5, 9, 10, 11, 12, 13, 14, 15, 16, 41, 68, 86] rfl; refine t_n <| c_t hF rfl <| c_sr ?_; refine pe (e_call hF rfl rfl en_25 (by rfl) rfl rfl (viewBegun_any _) ?_); rintro e w1 ⟨rfl, hb⟩; replace hW := hW.kept hb; clear hb; refine ⟨_, rfl, fun a hF => ?_⟩; replace hF := hF.drop 10; refine pv hF hW (y_assign hF rfl) fun a hF => l_nil ?_; replace hF := hF.ks [0, 1, 2, 3, 4, 5, 9, 10, 11, 12, 13, 14, 15, 16, 41, 68, 86] rfl; refine t_n <| wp_ret <| t_r <| ret1 Try.results8 hF (rv_t hF rfl) ?_
                exact ⟨rfl, hW.below⟩
              · intro h9 hF; refine pv hF hW (y_move hF rfl) fun a hF => pvg hF hW (y_move hF rfl) (ws hF rfl rfl) fun a hF => pvg hF hW (y_neq hF rfl rfl) (ws hF rfl rfl) fun a hF => ?_; refine Fr.splitD hF ?_ ?_
                · intro h10 hF; refine pv hF hW (y_pick hF rfl rfl) fun a hF => l_nil ?_; replace hF := hF.ks [0, 1, 2, 3, 4, 5, 9, 10, 11, 12, 13, 14, 15, 16, 41, 68, 86] rfl; refine t_n <| c_t hF rfl <| c_sr ?_; refine pe (e_call hF rfl rfl en_25 (by rfl) rfl rfl (viewBegun_any _) ?_); rintro e w1 ⟨rfl, hb⟩; replace hW := hW.kept hb; clear hb; refine ⟨_, rfl, fun a hF => ?_⟩; replace hF := hF.drop 10; refine pv hF hW (y_assign hF rfl) fun a hF => l_nil ?_; replace hF := hF.ks [0, 1, 2, 3, 4, 5, 9, 10, 11, 12, 13, 14, 15, 16, 41, 68, 86] rfl; refine t_n <| wp_ret <| t_r <| ret1 Try.results8 hF (rv_t hF rfl) ?_
                  exact ⟨rfl, hW.below⟩
                · intro h10 hF; refine pv hF hW (y_pick hF rfl rfl) fun a hF => l_nil ?_; replace hF := hF.ks [0, 1, 2, 3, 4, 5, 9, 10, 11, 12, 13, 14, 15, 16, 41, 68, 86] rfl; refine t_n <| c_f hF rfl <| wp_skip <| t_n ?_
                  have hE : otherErr x.sys v q.1 = 0 := (by omega)
                  have hru : rch x.chans x.parts.length v u = false := (by rw [← hD.val v u hv hu]; first | assumption | exact Bool.eq_false_iff.2 (by assumption))
                  have hk' : chkSys (otherSys x.sys v q.1) = 0 := (by have := otherErr_c (q := q.1) (hthere v hv); rw [Int.toNat_natCast] at this; omega)
                  have hys' : y.sys = otherSys x.sys v q.1 := hys.trans ((if_pos hE).trans (by rw [Int.toNat_natCast]))
                  have hVV := hV u v hu hv hk' hru
                  refine c_sr <| pv hF hW (y_loadAll hF rfl 4 rfl Try.underlying26 rfl sz_26) fun a hF => pv hF hW (y_move hF rfl) fun a hF => pv hF hW (y_move hF rfl) fun a hF => ?_; refine pe (e_call hF rfl rfl en_26 (by rfl) rfl rfl (hs1 _ hW.below u hu) ?_); rintro e w1 ⟨z, rfl, hva, hb, hr2⟩; replace hW := hW.gotR hb hr2
                  obtain ⟨⟨⟨atA, rgA, mmA, rdA, outA, enA⟩, wfA, qaA, qkA⟩, LA, laA, lcA⟩ := z
                  obtain ⟨raA, rbA, rcA, reA, hrA⟩ := len_four wfA.1
                  obtain ⟨maA, mbA, mcA, mdA, meA, mfA, mgA, mhA, hmA⟩ := len_eight wfA.2
                  dsimp only at hrA hmA
                  subst hrA hmA; refine ⟨_, rfl, fun a hF => ?_⟩; replace hF := Fr.cast (v' := .tuple #[.agg #[.int .i64 atA, .int .i64 raA, .int .i64 rbA, .int .i64 rcA, .int .i64 reA, .int .i64 maA, .int .i64 mbA, .int .i64 mcA, .int .i64 mdA, .int .i64 meA, .int .i64 mfA, .int .i64 mgA, .int .i64 mhA, .int .i64 rdA, .slice qaA outA.length qkA, .int .i64 enA, .slice laA LA.length lcA], .bool true]) rfl hF; refine pv hF hW (y_move hF rfl) fun a hF => pv hF hW (y_extract hF rfl rfl) fun a hF => pv hF hW (y_extract hF rfl rfl) fun a hF => ?_; refine pe (e_alloc hF hW ze_63 rfl rfl rfl ?_); intro b11 a wc hF hW; refine pe (e_storeAll rfl hF hW rfl rfl 0 rfl rfl rfl (by kernel_rfl) sz_63 ?_); intro wc hW; refine pv hF hW (y_assign hF rfl) fun a hF => l_nil ?_; replace hF := hF.ks [0, 1, 2, 3, 4, 5, 9, 10, 11, 12, 13, 14, 15, 16, 17, 18, 41, 68, 86] rfl; refine t_n <| c_sr <| pv hF hW (y_loadAll hF rfl 2 rfl Try.underlying26 rfl sz_26) fun a hF => pv hF hW (y_move hF rfl) fun a hF => pv hF hW (y_move hF rfl) fun a hF => ?_; refine pe (e_call hF rfl rfl en_26 (by rfl) rfl rfl (hs2 y v hys' hk' _ (hW.res 3 rfl) u hu) ?_); rintro e w1 ⟨z, rfl, hvb, hb, hr2⟩; replace hW := hW.gotR hb hr2
                  obtain ⟨⟨⟨atB, rgB, mmB, rdB, outB, enB⟩, wfB, qaB, qkB⟩, LB, laB, lcB⟩ := z
                  obtain ⟨raB, rbB, rcB, reB, hrB⟩ := len_four wfB.1
                  obtain ⟨maB, mbB, mcB, mdB, meB, mfB, mgB, mhB, hmB⟩ := len_eight wfB.2
                  dsimp only at hrB hmB
                  subst hrB hmB; refine ⟨_, rfl, fun a hF => ?_⟩; replace hF := Fr.cast (v' := .tuple #[.agg #[.int .i64 atB, .int .i64 raB, .int .i64 rbB, .int .i64 rcB, .int .i64 reB, .int .i64 maB, .int .i64 mbB, .int .i64 mcB, .int .i64 mdB, .int .i64 meB, .int .i64 mfB, .int .i64 mgB, .int .i64 mhB, .int .i64 rdB, .slice qaB outB.length qkB, .int .i64 enB, .slice laB LB.length lcB], .bool true]) rfl hF; refine pv hF hW (y_move hF rfl) fun a hF => pv hF hW (y_extract hF rfl rfl) fun a hF => pv hF hW (y_extract hF rfl rfl) fun a hF => ?_; refine pe (e_alloc hF hW ze_63 rfl rfl rfl ?_); intro b12 a wc hF hW; refine pe (e_storeAll rfl hF hW rfl rfl 0 rfl rfl rfl (by kernel_rfl) sz_63 ?_); intro wc hW; refine pv hF hW (y_assign hF rfl) fun a hF => l_nil ?_; replace hF := hF.ks [0, 1, 2, 3, 4, 5, 9, 10, 11, 12, 13, 14, 15, 16, 17, 18, 19, 20, 41, 68, 86] rfl; refine t_n <| c_sr ?_; refine pe (e_call hF rfl rfl en_25 (by rfl) rfl rfl (viewBegun_any _) ?_); rintro e w1 ⟨rfl, hb⟩; replace hW := hW.kept hb; clear hb; refine ⟨_, rfl, fun a hF => ?_⟩; refine pv hF hW (y_move hF rfl) fun a hF => pvg hF hW (y_move hF rfl) (ws hF rfl rfl) fun a hF => pv hF hW (y_pick hF rfl rfl) fun a hF => pv hF hW (y_move hF rfl) fun a hF => pvg hF hW (y_move hF rfl) (ws hF rfl rfl) fun a hF => pv hF hW (y_pick hF rfl rfl) fun a hF => pv hF hW (y_move hF rfl) fun a hF => pvg hF hW (y_loadAll hF rfl 2 rfl Try.underlying63 rfl sz_63) (ws hF rfl rfl) fun a hF => pvg hF hW (y_loadAll hF rfl 0 rfl Try.underlying63 rfl sz_63) (ws hF rfl rfl) fun a hF => ?_; refine pe (e_call hF rfl rfl en_27 (by rfl) rfl rfl (same_views (hW.res 3 rfl) (hW.res 1 rfl) (hva.trans (hVV.trans (by rw [hvb, hys'])))) ?_) (ws hF rfl rfl); rintro e w1 ⟨rfl, hb⟩; replace hW := hW.kept hb; clear hb; refine ⟨_, rfl, fun a hF => ?_⟩; refine pv hF hW (y_pick hF rfl rfl) fun a hF => ?_; replace hF := hF.drop 10; refine pv hF hW (y_assign hF rfl) fun a hF => l_nil ?_; replace hF := hF.ks [0, 1, 2, 3, 4, 5, 9, 10, 11, 12, 13, 14, 15, 16, 17, 18, 19, 20, 41, 68, 86] rfl; refine t_n <| wp_ret <| ret1 Try.results8 hF (rv_t hF rfl) ?_
                  exact ⟨rfl, hW.below⟩
  · generalize chkSys x.sys = E at *
    rw [x.val_eq] at *
    refine enter Try.func8 rfl Try.ntmps8 rfl fun a hF => ?_
    have hW := Wd.start w NoB
    refine c_sr ?_; refine pe (e_box hF hW rfl rfl rfl rfl ?_); intro b1 a wc hF hW; refine pe (e_box hF hW rfl rfl rfl rfl ?_); intro b2 a wc hF hW; refine pv hF hW (y_assign hF rfl) fun a hF => l_nil <| t_n <| c_sr <| pv hF hW (y_loadAll hF rfl 1 rfl Try.underlying26 rfl sz_26) fun a hF => ?_; refine pe (e_call hF rfl rfl en_28 (by rfl) rfl rfl (hrc _ hW.below) ?_); rintro e w1 ⟨D, A, c, rfl, hD, hb, hr⟩; replace hW := hW.gotR hb (hr.mono fun u h => RM.mk h.1 h.2); refine ⟨_, rfl, fun a hF => ?_⟩; refine pv hF hW (y_move hF rfl) fun a hF => pv hF hW (y_extract hF rfl rfl) fun a hF => pv hF hW (y_extract hF rfl rfl) fun a hF => pv hF hW (y_assign hF rfl) fun a hF => pv hF hW (y_assign hF rfl) fun a hF => l_nil ?_; replace hF := hF.ks [0, 1, 2, 3, 4, 5, 9, 10, 11, 12] rfl; refine t_n <| c_s <| c_sr <| pv hF hW (y_move hF rfl) fun a hF => pv hF hW (y_neq hF rfl rfl) fun a hF => ?_; refine Fr.splitD hF ?_ ?_
    · intro h3 hF; refine pv hF hW (y_move hF rfl) fun a hF => pk hF (wn hF rfl rfl rfl) fun a hF => pk hF (wn hF rfl rfl rfl) fun a hF => pv hF hW (y_pick hF rfl rfl) fun a hF => pv hF hW (y_move hF rfl) fun a hF => pk hF (wn hF rfl rfl rfl) fun a hF => pk hF (wn hF rfl rfl rfl) fun a hF => pv hF hW (y_pick hF rfl rfl) fun a hF => pv hF hW (y_move hF rfl) fun a hF => pk hF (wn hF rfl rfl rfl) fun a hF => pk hF (wn hF rfl rfl rfl) fun a hF => pk hF (wn hF rfl rfl rfl) fun a hF => pk hF (wn hF rfl rfl rfl) fun a hF => pv hF hW (y_pick hF rfl rfl) fun a hF => l_nil ?_; replace hF := hF.ks [0, 1, 2, 3, 4, 5, 9, 10, 11, 12, 41] rfl; refine t_n <| c_t hF rfl <| c_sr ?_; refine pe (e_call hF rfl rfl en_25 (by rfl) rfl rfl (viewBegun_any _) ?_); rintro e w1 ⟨rfl, hb⟩; replace hW := hW.kept hb; clear hb; refine ⟨_, rfl, fun a hF => ?_⟩; replace hF := hF.drop 10; refine pv hF hW (y_assign hF rfl) fun a hF => l_nil ?_; replace hF := hF.ks [0, 1, 2, 3, 4, 5, 9, 10, 11, 12, 41] rfl; refine t_n <| wp_ret <| t_r <| ret1 Try.results8 hF (rv_t hF rfl) ?_
      exact ⟨rfl, hW.below⟩
    · intro h3 hF; refine pv hF hW (y_move hF rfl) fun a hF => pvg hF hW (y_move hF rfl) (ws hF rfl rfl) fun a hF => pvg hF hW (y_lss hF rfl rfl) (ws hF rfl rfl) fun a hF => ?_; refine Fr.splitD hF ?_ ?_
      · intro h4 hF; refine pv hF hW (y_pick hF rfl rfl) fun a hF => pv hF hW (y_move hF rfl) fun a hF => pk hF (wn hF rfl rfl rfl) fun a hF => pk hF (wn hF rfl rfl rfl) fun a hF => pv hF hW (y_pick hF rfl rfl) fun a hF => pv hF hW (y_move hF rfl) fun a hF => pk hF (wn hF rfl rfl rfl) fun a hF => pk hF (wn hF rfl rfl rfl) fun a hF => pk hF (wn hF rfl rfl rfl) fun a hF => pk hF (wn hF rfl rfl rfl) fun a hF => pv hF hW (y_pick hF rfl rfl) fun a hF => l_nil ?_; replace hF := hF.ks [0, 1, 2, 3, 4, 5, 9, 10, 11, 12, 41] rfl; refine t_n <| c_t hF rfl <| c_sr ?_; refine pe (e_call hF rfl rfl en_25 (by rfl) rfl rfl (viewBegun_any _) ?_); rintro e w1 ⟨rfl, hb⟩; replace hW := hW.kept hb; clear hb; refine ⟨_, rfl, fun a hF => ?_⟩; replace hF := hF.drop 10; refine pv hF hW (y_assign hF rfl) fun a hF => l_nil ?_; replace hF := hF.ks [0, 1, 2, 3, 4, 5, 9, 10, 11, 12, 41] rfl; refine t_n <| wp_ret <| t_r <| ret1 Try.results8 hF (rv_t hF rfl) ?_
        exact ⟨rfl, hW.below⟩
      · intro h4 hF; refine pv hF hW (y_pick hF rfl rfl) fun a hF => pv hF hW (y_move hF rfl) fun a hF => pvg hF hW (y_move hF rfl) (ws hF rfl rfl) fun a hF => pvg hF hW (y_gtr hF rfl rfl) (ws hF rfl rfl) fun a hF => ?_; refine Fr.splitD hF ?_ ?_
        · intro h5 hF; refine pv hF hW (y_pick hF rfl rfl) fun a hF => pv hF hW (y_move hF rfl) fun a hF => pk hF (wn hF rfl rfl rfl) fun a hF => pk hF (wn hF rfl rfl rfl) fun a hF => pk hF (wn hF rfl rfl rfl) fun a hF => pk hF (wn hF rfl rfl rfl) fun a hF => pv hF hW (y_pick hF rfl rfl) fun a hF => l_nil ?_; replace hF := hF.ks [0, 1, 2, 3, 4, 5, 9, 10, 11, 12, 41] rfl; refine t_n <| c_t hF rfl <| c_sr ?_; refine pe (e_call hF rfl rfl en_25 (by rfl) rfl rfl (viewBegun_any _) ?_); rintro e w1 ⟨rfl, hb⟩; replace hW := hW.kept hb; clear hb; refine ⟨_, rfl, fun a hF => ?_⟩; replace hF := hF.drop 10; refine pv hF hW (y_assign hF rfl) fun a hF => l_nil ?_; replace hF := hF.ks [0, 1, 2, 3, 4, 5, 9, 10, 11, 12, 41] rfl; refine t_n <| wp_ret <| t_r <| ret1 Try.results8 hF (rv_t hF rfl) ?_
          exact ⟨rfl, hW.below⟩
        · intro h5 hF; refine pv hF hW (y_pick hF rfl rfl) fun a hF => pv hF hW (y_move hF rfl) fun a hF => pvg hF hW (y_fieldOwn hF rfl fa_26_0) (ws hF rfl rfl) fun a hF => pvg hF hW (y_loadOwn hF rfl 2 rfl rfl Try.underlying22 rfl) (ws hF rfl rfl) fun a hF => pvg hF hW (y_len hF rfl Try.underlying22) (ws hF rfl rfl) fun a hF => pvg hF hW (y_eql hF rfl rfl) (ws hF rfl rfl) fun a hF => ?_; refine Fr.splitD hF ?_ ?_
          · intro h6 hF; refine pv hF hW (y_pick hF rfl rfl) fun a hF => l_nil ?_; replace hF := hF.ks [0, 1, 2, 3, 4, 5, 9, 10, 11, 12, 41] rfl; refine t_n <| c_t hF rfl <| c_sr ?_; refine pe (e_call hF rfl rfl en_25 (by rfl) rfl rfl (viewBegun_any _) ?_); rintro e w1 ⟨rfl, hb⟩; replace hW := hW.kept hb; clear hb; refine ⟨_, rfl, fun a hF => ?_⟩; replace hF := hF.drop 10; refine pv hF hW (y_assign hF rfl) fun a hF => l_nil ?_; replace hF := hF.ks [0, 1, 2, 3, 4, 5, 9, 10, 11, 12, 41] rfl; refine t_n <| wp_ret <| t_r <| ret1 Try.results8 hF (rv_t hF rfl) ?_
            exact ⟨rfl, hW.below⟩
          · intro h6 hF; exfalso
            omega

set_option maxRecDepth 100000 in
theorem viewOther_contract (H : Type) (enc : TypeId × Value → H) (W : World) (base : Nat) (args : Array Value) (ds gs : List (DataW H)) (before : List MemPlace)
    (hval : ∀ (j : Nat) t v, Try.f8.params[j]? = some t → args[j]? = some v → Value.okWide Try.prog W .any base t v)
    (hW : DataW.Whole enc Try.prog Try.f8.params.toList Rows.viewOtherSpec.vars false W args.toList ds gs before) (hwt : (DataW.weightsEach Try.prog [26, 3, 3, 3, 69] ds).all (· ≤ reachBytes) = true) :
    Calls Try.prog 8 args W fun e W' => ∃ v, e = .returned v ∧ Rows.viewOtherSpec.post enc Try.prog Try.f8 false true false false W args v W' := by
  have hW' := hW
  obtain ⟨p, q, hA0, hV, rfl, hfz, hnd⟩ := hW
  have hA : DataW.TrodAll enc Try.prog W 0 (fun _ => true) true Try.f8.params.toList args.toList ds p := hA0
  rw [Try.params8] at hA hval
  obtain ⟨v0, v1, v2, v3, v4, d0, d1, d2, d3, d4, p0, p1, p2, p3, p4, rfl, rfl, rfl, h0, h1, h2, h3, h4⟩ := trodAll_five hA
  obtain ⟨x, rfl, hx⟩ := sys_open (hval 0 26 v0 rfl rfl) h0
  obtain ⟨part, rfl, rfl, rfl, wk1⟩ := open_int Try.underlying3 (hval 1 3 v1 rfl rfl) h1
  obtain ⟨by_, rfl, rfl, rfl, wk2⟩ := open_int Try.underlying3 (hval 2 3 v2 rfl rfl) h2
  obtain ⟨n, rfl, rfl, rfl, wk3⟩ := open_int Try.underlying3 (hval 3 3 v3 rfl rfl) h3
  obtain ⟨q, rfl, hq, hql⟩ := partW_open (hval 4 69 v4 rfl rfl) h4
  refine (viewOther_run x part by_ n q W hx hq (hql (by simp only [DataW.weightsEach, List.all_append, Bool.and_eq_true] at hwt; exact hwt.2.2.2.2.1)) (bounds_i64 wk1) (bounds_i64 wk2)).mono fun e W' ⟨he, hb⟩ => ?_
  subst he
  exact ⟨_, rfl, law_post Try.laidOut hW' hb rfl (by kernel_rfl) Try.underlying4 (by kernel_rfl) rfl⟩

set_option maxRecDepth 100000 in
theorem viewOther_lifted (os : Os) (started : os.Started) (H : Type) (enc : TypeId × Value → H) :
    ReturnsInHanded {} Try.checked os 8 .any (Rows.viewOtherSpec.pre6 enc Try.prog Try.f8 Rows.viewOtherRow.domain false) (Rows.viewOtherSpec.post enc Try.prog Try.f8 false true false false) := by
  refine returnsInHanded_of_change_sized (C := Try.checked) Try.own started (by kernel_rfl) Try.func8
    (ChangeSpec.witness6 (enc := enc) (C := Try.checked) false ⟨#[], #[.agg #[.slice none 0 0, .slice none 0 0, .slice none 0 0], .int .i64 0, .int .i64 0, .int .i64 0, .agg #[.slice none 0 0, .slice none 0 0]], []⟩ 8 (by kernel_rfl) (by kernel_rfl) (by kernel_rfl) (by kernel_rfl)) ?_
  intro W base args ds gs before hval hW _ hwt _
  have hgs : gs = [] := by
    obtain ⟨p, q, _, hV, _⟩ := hW
    cases gs with
    | nil => rfl
    | cons _ _ => exact hV.elim
  subst hgs
  rw [List.append_nil] at hwt
  exact viewOther_contract H enc W base args ds [] before hval hW hwt

theorem viewOther_holds : Rows.ViewOtherSaid :=
  OpenClaim.holds_of_wide 8 Try.f8 rfl rfl rfl rfl rfl rfl rfl ⟨rfl, rfl, rfl, rfl, rfl⟩ rfl rfl rfl rfl rfl (by kernel_rfl) Try.func8 (by kernel_rfl)
    (of_decide_eq_true (by kernel_rfl)) (by unfold Func.isWrapper; first | (rw [if_pos (by decide +kernel)]; kernel_rfl) | (rw [if_neg (by decide +kernel)]; exact ⟨rfl, rfl⟩))
    (fun os started H enc _ => viewOther_lifted os started H enc)
end Go.Proofs.Ytoecpblabajlmaa
