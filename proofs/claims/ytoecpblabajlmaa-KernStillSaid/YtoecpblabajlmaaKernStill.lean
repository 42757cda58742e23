/- The law KernStill answers true for every input. -/
import Derived.Test.YtoecpblabajlmaaKernO
namespace Go.Proofs.Ytoecpblabajlmaa
set_option linter.unusedVariables false
set_option linter.unusedSimpArgs false
open Go.ChangeShapes Go.WideShapes Go.ChangeAt Go.RowKit

set_option maxRecDepth 100000

/-- what ticks leave of a cell -/
structure Still (a b : Cel) : Prop where
  told : b.out.take a.out.length = a.out
  len : a.out.length ≤ b.out.length
  read : a.read ≤ b.read
  stays : a.end_ ≠ 0 → b = a
theorem Still.refl (a : Cel) : Still a a := ⟨by simp, Nat.le_refl _, Int.le_refl _, fun _ => rfl⟩
theorem Still.trans {a b c : Cel} (h : Still a b) (k : Still b c) : Still a c := by
  refine ⟨?_, Nat.le_trans h.len k.len, Int.le_trans h.read k.read, fun he => ?_⟩
  · have : (c.out.take b.out.length).take a.out.length = c.out.take a.out.length := by rw [List.take_take, Nat.min_eq_left h.len]
    rw [← this, k.told, h.told]
  · have e := h.stays he
    subst e
    exact k.stays he
theorem stepW_still {s : Sys} {w : Wrl} (hk : chkSys s = 0) (hr : Right s w) (ht : w.tick < 300) (u : Nat) : Still (w.cells.getD u Cel.zero) ((stepW s w).cells.getD u Cel.zero) := by
  obtain ⟨p, e, hp⟩ := who_part hk hr.t0
  have hs : stepW s w = stepP s p w := by unfold stepW; rw [e, Int.toNat_natCast]
  obtain ⟨-, hg, ho⟩ := stepP_right hk hr ht hp
  rw [hs]
  by_cases h : u = p
  · subst h
    refine ⟨hg.told, hg.len, hg.lo, fun he => ?_⟩
    have hz := (stepOf_goes (right_err hk hr hp)).2 he
    have hcl := hr.cl
    rw [stepP_0 hz rfl]
    dsimp only
    rw [getD_set (by omega), if_pos rfl]
  · rw [ho u h]
    exact Still.refl _
theorem runW_still {s : Sys} (hk : chkSys s = 0) (m u : Nat) : ∀ k : Nat, m + k ≤ 300 → Still ((runW s m).cells.getD u Cel.zero) ((runW s (m + k)).cells.getD u Cel.zero)
  | 0, _ => Still.refl _
  | k + 1, h => by
    obtain ⟨h1, h2⟩ := runW_right hk (m + k) (by omega)
    exact (runW_still hk m u k (by omega)).trans (stepW_still hk h1 (by omega) u)
theorem same_cells {c d : Cel} {ov pv : Value} {w : World} (hwf : c.wf) (hwd : d.wf) (ho : Ints w ov c.out) (hp : Ints w pv d.out) (h : c = d) :
    Calls Try.prog 20 #[celV c ov, celV d pv] w fun e w' => e = .returned (.bool true) ∧ Below w.heap.size w w' := by
  have := sameCells_any c d ov pv hwf hwd w ho hp
  rwa [decide_eq_true h] at this

set_option maxHeartbeats 8000000 in
theorem kernStill_run (x : SysD) (n more part : Int) (w : World) (hx : x.At w) (hcm : -9223372036854775808 ≤ more ∧ more ≤ 9223372036854775807) (hcp : -9223372036854775808 ≤ part ∧ part ≤ 9223372036854775807) :
    Calls Try.prog 5 #[x.val, .int .i64 n, .int .i64 more, .int .i64 part] w fun e w' => e = .returned (.bool true) ∧ Below w.heap.size w w' := by
  by_cases h0 : runErr x.sys n = 0
  · obtain ⟨hk, hn0, hn1⟩ := runErr_zero h0
    obtain ⟨m, rfl⟩ := Int.eq_ofNat_of_zero_le hn0
    obtain ⟨⟨hp1, hp2⟩, -⟩ := sizes_get (chkSys_zero hk).1
    have hrun := fun w1 (hb : Below w.heap.size w w1) (z : Int) (k : Nat) (hz : z = k) (hl : k ≤ 300) => run_ok (hx.below hb) hz hk hl
    have hlen := fun (y : WD) (k : Nat) (hw : y.wrl = runW x.sys k) (hl : k ≤ 300) => (show y.cells.length = x.parts.length from by have := (runW_right hk k hl).1.cl; rw [← hw] at this; simpa [WD.wrl, SysD.sys] using this)
    have hstl := fun (y z : WD) (k u : Nat) (hw : y.wrl = runW x.sys m) (hz : z.wrl = runW x.sys (m + k)) (hl : m + k ≤ 300) => (show Still (y.cells.getD u CD0).c (z.cells.getD u CD0).c from by have := runW_still hk m u k hl; rwa [← hw, ← hz, getD_mapC, getD_mapC] at this)
    rw [x.val_eq] at *
    refine enter Try.func5 rfl Try.ntmps5 rfl (fun a hF => ?_)
    have hW := Wd.start w NoB
    refine c_sr ?_; refine pe (e_box hF hW rfl rfl rfl rfl ?_); intro b1 a wc hF hW; refine pv hF hW (y_assign hF rfl) (fun a hF => ?_); refine l_nil ?_; refine t_n ?_; refine c_sr ?_; refine pv hF hW (y_loadAll hF rfl 0 rfl Try.underlying26 rfl sz_26) (fun a hF => ?_); refine pv hF hW (y_move hF rfl) (fun a hF => ?_); refine pe (e_call hF rfl rfl en_16 (by rfl) rfl rfl (hrun _ hW.below _ m rfl (by omega)) ?_); rintro e w1 ⟨y0, rfl, hy0, hN⟩; replace hW := hW.comb3 hN; replace hW := hW.own_world; refine ⟨_, rfl, fun a hF => ?_⟩; replace hF := Fr.cast (v' := .tuple #[.agg #[.int .i64 y0.tick, .slice y0.ca y0.cells.length y0.cc, .slice y0.la y0.lines.length y0.lc], .int .i64 0]) rfl hF; refine pv hF hW (y_move hF rfl) (fun a hF => ?_); refine pv hF hW (y_extract hF rfl rfl) (fun a hF => ?_); refine pv hF hW (y_extract hF rfl rfl) (fun a hF => ?_); refine pe (e_alloc hF hW ze_30 rfl rfl rfl ?_)
    intro b2 a wc hF hW; refine pe (e_storeAll rfl hF hW rfl rfl 0 rfl rfl rfl (by kernel_rfl) sz_30 ?_); intro wc hW; refine pv hF hW (y_assign hF rfl) (fun a hF => ?_); refine l_nil ?_; replace hF := hF.ks [0, 1, 2, 3, 4, 8, 9, 10] rfl; refine t_n ?_; refine c_s ?_; refine c_sr ?_; refine pv hF hW (y_move hF rfl) (fun a hF => ?_); refine pv hF hW (y_neq hF rfl rfl) (fun a hF => ?_); replace hF := hF.ff; refine pv hF hW (y_move hF rfl) (fun a hF => ?_); replace hF := hF.ff; refine pv hF hW (y_fieldOwn hF rfl fa_26_0) (fun a hF => ?_) (ws hF rfl rfl); refine pv hF hW (y_loadOwn hF rfl 2 rfl rfl Try.underlying22 rfl) (fun a hF => ?_) (ws hF rfl rfl); refine pv hF hW (y_len hF rfl Try.underlying22) (fun a hF => ?_) (ws hF rfl rfl); refine pv hF hW (y_eql hF rfl rfl) (fun a hF => ?_) (ws hF rfl rfl); refine Fr.splitD hF ?_ ?_
    · intro h3 hF; exfalso
      omega
    · intro h3 hF; refine pv hF hW (y_pick hF rfl rfl) (fun a hF => ?_); refine l_nil ?_; replace hF := hF.ks [0, 1, 2, 3, 4, 8, 9, 10, 29] rfl; refine t_n ?_; refine c_f hF rfl ?_; refine wp_skip ?_; refine t_n ?_; refine c_sr ?_; refine pv hF hW (y_move hF rfl) (fun a hF => ?_); refine pv hF hW (y_fieldOwn hF rfl fa_26_0) (fun a hF => ?_); refine pv hF hW (y_loadOwn hF rfl 2 rfl rfl Try.underlying22 rfl) (fun a hF => ?_); refine pv hF hW (y_len hF rfl Try.underlying22) (fun a hF => ?_); refine pe (e_call hF rfl rfl en_17 (by rfl) rfl rfl (chooseN_any hcp (by omega) _) ?_); rintro e w1 ⟨⟨u0, rfl, hu0, hu1⟩, hb⟩; replace hW := hW.kept hb; clear hb; refine ⟨_, rfl, fun a hF => ?_⟩
      obtain ⟨u, rfl⟩ := Int.eq_ofNat_of_zero_le hu0
      refine pv hF hW (y_assign hF rfl) (fun a hF => ?_); refine l_nil ?_; replace hF := hF.ks [0, 1, 2, 3, 4, 8, 9, 10, 11, 29] rfl; refine t_n ?_
      refine c_cut (G := Nat × WD × Nat) (fun (gq : Nat × WD × Nat) => match gq with | ⟨b12, y9, k⟩ => [(12, .pointer (some ⟨b12, 0, none⟩)), (13, .int .i64 0)]) (fun (gq : Nat × WD × Nat) => match gq with | ⟨b12, y9, k⟩ => [.res y9.At, .blk b12 30 [.int .i64 y9.tick, .slice y9.ca y9.cells.length y9.cc, .slice y9.la y9.lines.length y9.lc]]) (fun (gq : Nat × WD × Nat) => match gq with | ⟨b12, y9, k⟩ => y9.wrl = runW x.sys (m + k) ∧ m + k ≤ 300) (Fr.cons hF (t := 0) rfl rfl (Fr.cons hF (t := 1) rfl rfl (Fr.cons hF (t := 2) rfl rfl (Fr.cons hF (t := 3) rfl rfl (Fr.cons hF (t := 4) rfl rfl (Fr.cons hF (t := 8) rfl rfl (Fr.cons hF (t := 9) rfl rfl (Fr.cons hF (t := 10) rfl rfl (Fr.cons hF (t := 11) rfl rfl (Fr.cons hF (t := 29) rfl rfl (Fr.nil hF))))))))))) hW ?_ ?_
      · refine c_d mixed_ok hW (hW) ?_
        clear hW; intro wc hW hS
        refine dv 0 rfl hF hS (y_loadAll hF rfl 2 rfl Try.underlying26 rfl sz_26) (fun a hF => ?_); refine dv 1 rfl hF hS (y_move hF rfl) (fun a hF => ?_); refine dv 2 rfl hF hS (y_move hF rfl) (fun a hF => ?_); refine dv 3 rfl hF hS (y_move hF rfl) (fun a hF => ?_); refine dv 4 rfl hF hS (y_sub hF rfl rfl (IntWalk.i64_in _ (by omega))) (fun a hF => ?_); refine dv 5 rfl hF hS (y_add hF rfl rfl (IntWalk.i64_in _ (by omega))) (fun a hF => ?_); refine d_2 6 12 (by kernel_rfl) ?_ ?_
        · refine d_op rfl rfl (e_call hF rfl rfl en_17 (by rfl) rfl rfl (chooseN_any hcm (by omega) _) ?_); rintro e w1 ⟨⟨k0, rfl, hk0, hk1⟩, hb⟩; replace hW := hW.kept hb; clear hb; refine ⟨_, rfl, fun a hF => ?_⟩
          obtain ⟨k, rfl⟩ := Int.eq_ofNat_of_zero_le hk0
          refine ⟨hW, ?_⟩; replace hS := hW; refine dv 7 rfl hF hS (y_add hF rfl rfl (IntWalk.i64_in _ (by omega))) (fun a hF => ?_); refine d_2 8 12 (by kernel_rfl) ?_ ?_
          · refine d_op rfl rfl (e_call hF rfl rfl en_16 (by rfl) rfl rfl (hrun _ hW.below _ (m + k) (by omega) (by omega)) ?_); rintro e w1 ⟨y9, rfl, hy9, hN⟩; replace hW := hW.comb3 hN; replace hW := hW.own_world; refine ⟨_, rfl, fun a hF => ?_⟩; replace hF := Fr.cast (v' := .tuple #[.agg #[.int .i64 y9.tick, .slice y9.ca y9.cells.length y9.cc, .slice y9.la y9.lines.length y9.lc], .int .i64 0]) rfl hF; refine ⟨(hW.del 0 rfl), ?_⟩; replace hS := (hW.del 0 rfl); refine dv 9 rfl hF hS (y_move hF rfl) (fun a hF => ?_); refine dv 10 rfl hF hS (y_extract hF rfl rfl) (fun a hF => ?_); refine dv 11 rfl hF hS (y_extract hF rfl rfl) (fun a hF => ?_); refine d_1 12 (by kernel_rfl) ?_; refine d_op rfl rfl (e_alloc hF hW ze_30 rfl rfl rfl ?_); intro b4 a wc hF hW; refine ⟨((hW.del 0 rfl).del 0 rfl), ?_⟩; replace hS := ((hW.del 0 rfl).del 0 rfl); refine d_1 13 (by kernel_rfl) ?_
            refine d_op rfl rfl (e_storeAll rfl hF hW rfl rfl 0 rfl rfl rfl (by kernel_rfl) sz_30 ?_); intro wc hW; refine ⟨((hW.del 0 rfl).del 0 rfl), ?_⟩; replace hS := ((hW.del 0 rfl).del 0 rfl); refine dv 14 rfl hF hS (y_assign hF rfl) (fun a hF => ?_); clear hS; refine d_nil (by kernel_rfl) ?_; replace hF := hF.ks [0, 1, 2, 3, 4, 8, 9, 10, 11, 12, 13, 29] rfl; replace hW := hW.front 4 rfl rfl; replace hW := hW.front 4 rfl rfl; replace hW := hW.front 4 rfl rfl; replace hW := hW.front 3 rfl rfl; replace hW := hW.front 4 rfl rfl; refine t_n ?_; refine ⟨(b4, y9, k), ?_, ?_, ?_⟩
            · exact Fr.app (Fr.cons hF (t := 12) rfl rfl (Fr.cons hF (t := 13) rfl rfl (Fr.nil hF))) (Fr.cons hF (t := 0) rfl rfl (Fr.cons hF (t := 1) rfl rfl (Fr.cons hF (t := 2) rfl rfl (Fr.cons hF (t := 3) rfl rfl (Fr.cons hF (t := 4) rfl rfl (Fr.cons hF (t := 8) rfl rfl (Fr.cons hF (t := 9) rfl rfl (Fr.cons hF (t := 10) rfl rfl (Fr.cons hF (t := 11) rfl rfl (Fr.cons hF (t := 29) rfl rfl (Fr.nil hF)))))))))))
            · exact hW
            · exact ⟨hy9, by omega⟩
          · refine d_op rfl rfl (e_alloc hF hW ze_30 rfl rfl rfl ?_); intro b5 a wc hF hW; refine ⟨(hW.del 0 rfl), ?_⟩; replace hS := (hW.del 0 rfl); refine d_1 8 (by kernel_rfl) ?_; refine d_op rfl rfl (e_call hF rfl rfl en_16 (by rfl) rfl rfl (hrun _ hW.below _ (m + k) (by omega) (by omega)) ?_); rintro e w1 ⟨y9, rfl, hy9, hN⟩; replace hW := hW.comb3 hN; replace hW := hW.own_world; refine ⟨_, rfl, fun a hF => ?_⟩; replace hF := Fr.cast (v' := .tuple #[.agg #[.int .i64 y9.tick, .slice y9.ca y9.cells.length y9.cc, .slice y9.la y9.lines.length y9.lc], .int .i64 0]) rfl hF; refine ⟨((hW.del 0 rfl).del 0 rfl), ?_⟩; replace hS := ((hW.del 0 rfl).del 0 rfl); refine dv 9 rfl hF hS (y_move hF rfl) (fun a hF => ?_); refine dv 10 rfl hF hS (y_extract hF rfl rfl) (fun a hF => ?_); refine dv 11 rfl hF hS (y_extract hF rfl rfl) (fun a hF => ?_); refine d_1 13 (by kernel_rfl) ?_
            refine d_op rfl rfl (e_storeAll rfl hF hW rfl rfl 1 rfl rfl rfl (by kernel_rfl) sz_30 ?_); intro wc hW; refine ⟨((hW.del 0 rfl).del 0 rfl), ?_⟩; replace hS := ((hW.del 0 rfl).del 0 rfl); refine dv 14 rfl hF hS (y_assign hF rfl) (fun a hF => ?_); clear hS; refine d_nil (by kernel_rfl) ?_; replace hF := hF.ks [0, 1, 2, 3, 4, 8, 9, 10, 11, 12, 13, 29] rfl; refine t_n ?_; refine ⟨(b5, y9, k), ?_, ?_, ?_⟩
            · exact Fr.app (Fr.cons hF (t := 12) rfl rfl (Fr.cons hF (t := 13) rfl rfl (Fr.nil hF))) (Fr.cons hF (t := 0) rfl rfl (Fr.cons hF (t := 1) rfl rfl (Fr.cons hF (t := 2) rfl rfl (Fr.cons hF (t := 3) rfl rfl (Fr.cons hF (t := 4) rfl rfl (Fr.cons hF (t := 8) rfl rfl (Fr.cons hF (t := 9) rfl rfl (Fr.cons hF (t := 10) rfl rfl (Fr.cons hF (t := 11) rfl rfl (Fr.cons hF (t := 29) rfl rfl (Fr.nil hF)))))))))))
            · exact hW
            · exact ⟨hy9, by omega⟩
        · refine d_op rfl rfl (e_alloc hF hW ze_30 rfl rfl rfl ?_); intro b6 a wc hF hW; refine ⟨(hW.del 0 rfl), ?_⟩; replace hS := (hW.del 0 rfl); refine d_1 6 (by kernel_rfl) ?_; refine d_op rfl rfl (e_call hF rfl rfl en_17 (by rfl) rfl rfl (chooseN_any hcm (by omega) _) ?_); rintro e w1 ⟨⟨k0, rfl, hk0, hk1⟩, hb⟩; replace hW := hW.kept hb; clear hb; refine ⟨_, rfl, fun a hF => ?_⟩
          obtain ⟨k, rfl⟩ := Int.eq_ofNat_of_zero_le hk0
          refine ⟨(hW.del 0 rfl), ?_⟩; replace hS := (hW.del 0 rfl); refine dv 7 rfl hF hS (y_add hF rfl rfl (IntWalk.i64_in _ (by omega))) (fun a hF => ?_); refine d_1 8 (by kernel_rfl) ?_; refine d_op rfl rfl (e_call hF rfl rfl en_16 (by rfl) rfl rfl (hrun _ hW.below _ (m + k) (by omega) (by omega)) ?_); rintro e w1 ⟨y9, rfl, hy9, hN⟩; replace hW := hW.comb3 hN; replace hW := hW.own_world; refine ⟨_, rfl, fun a hF => ?_⟩; replace hF := Fr.cast (v' := .tuple #[.agg #[.int .i64 y9.tick, .slice y9.ca y9.cells.length y9.cc, .slice y9.la y9.lines.length y9.lc], .int .i64 0]) rfl hF; refine ⟨((hW.del 0 rfl).del 0 rfl), ?_⟩; replace hS := ((hW.del 0 rfl).del 0 rfl); refine dv 9 rfl hF hS (y_move hF rfl) (fun a hF => ?_); refine dv 10 rfl hF hS (y_extract hF rfl rfl) (fun a hF => ?_); refine dv 11 rfl hF hS (y_extract hF rfl rfl) (fun a hF => ?_); refine d_1 13 (by kernel_rfl) ?_
          refine d_op rfl rfl (e_storeAll rfl hF hW rfl rfl 1 rfl rfl rfl (by kernel_rfl) sz_30 ?_); intro wc hW; refine ⟨((hW.del 0 rfl).del 0 rfl), ?_⟩; replace hS := ((hW.del 0 rfl).del 0 rfl); refine dv 14 rfl hF hS (y_assign hF rfl) (fun a hF => ?_); clear hS; refine d_nil (by kernel_rfl) ?_; replace hF := hF.ks [0, 1, 2, 3, 4, 8, 9, 10, 11, 12, 13, 29] rfl; refine t_n ?_; refine ⟨(b6, y9, k), ?_, ?_, ?_⟩
          · exact Fr.app (Fr.cons hF (t := 12) rfl rfl (Fr.cons hF (t := 13) rfl rfl (Fr.nil hF))) (Fr.cons hF (t := 0) rfl rfl (Fr.cons hF (t := 1) rfl rfl (Fr.cons hF (t := 2) rfl rfl (Fr.cons hF (t := 3) rfl rfl (Fr.cons hF (t := 4) rfl rfl (Fr.cons hF (t := 8) rfl rfl (Fr.cons hF (t := 9) rfl rfl (Fr.cons hF (t := 10) rfl rfl (Fr.cons hF (t := 11) rfl rfl (Fr.cons hF (t := 29) rfl rfl (Fr.nil hF)))))))))))
          · exact hW
          · exact ⟨hy9, by omega⟩
      · clear hF hW
        try clear a
        intro gq a wc hC hF hW
        obtain ⟨b12, y9, k⟩ := gq
        dsimp only at hC
        obtain ⟨hy9, hkl⟩ := hC
        refine c_s ?_
        have hl0 := hlen y0 m hy0 (by omega)
        have hl9 := hlen y9 (m + k) hy9 hkl
        have hst := hstl y0 y9 k u hy0 hy9 hkl
        have hu : u < x.parts.length := (by omega)
        have hA := fun u' (h : y0.At u') => h.cell (k := u) (by omega)
        have hB := fun u' (h : y9.At u') => h.cell (k := u) (by omega)
        obtain ⟨qA, hqa⟩ : ∃ q, y0.cells.getD u CD0 = q := ⟨_, rfl⟩
        obtain ⟨⟨atA, rgA, mmA, rdA, outA, enA⟩, wfA, qaA, qkA⟩ := qA
        obtain ⟨raA, rbA, rcA, reA, hrA⟩ := len_four wfA.1
        obtain ⟨maA, mbA, mcA, mdA, meA, mfA, mgA, mhA, hmA⟩ := len_eight wfA.2
        dsimp only at hrA hmA
        subst hrA hmA
        obtain ⟨qB, hqb⟩ : ∃ q, y9.cells.getD u CD0 = q := ⟨_, rfl⟩
        obtain ⟨⟨atB, rgB, mmB, rdB, outB, enB⟩, wfB, qaB, qkB⟩ := qB
        obtain ⟨raB, rbB, rcB, reB, hrB⟩ := len_four wfB.1
        obtain ⟨maB, mbB, mcB, mdB, meB, mfB, mgB, mhB, hmB⟩ := len_eight wfB.2
        dsimp only at hrB hmB
        subst hrB hmB
        rw [hqa, hqb] at hst
        simp only [hqa] at hA
        simp only [hqb] at hB
        obtain ⟨st1, st2, st3, st4⟩ := hst
        dsimp only at st1 st2 st3 st4
        refine c_sr ?_; refine pv hF hW (y_move hF rfl) (fun a hF => ?_); refine pv hF hW (y_neq hF rfl rfl) (fun a hF => ?_); replace hF := hF.ff; refine pv hF hW (y_move hF rfl) (fun a hF => ?_); replace hF := hF.ff; refine pv hF hW (y_fieldOwn hF rfl fa_30_1) (fun a hF => ?_) (ws hF rfl rfl); refine pv hF hW (y_loadOwn hF rfl 2 rfl rfl Try.underlying27 rfl) (fun a hF => ?_) (ws hF rfl rfl); refine pv hF hW (y_len hF rfl Try.underlying27) (fun a hF => ?_) (ws hF rfl rfl); refine pv hF hW (y_fieldOwn hF rfl fa_26_0) (fun a hF => ?_) (ws hF rfl rfl); refine pv hF hW (y_loadOwn hF rfl 4 rfl rfl Try.underlying22 rfl) (fun a hF => ?_) (ws hF rfl rfl); refine pv hF hW (y_len hF rfl Try.underlying22) (fun a hF => ?_) (ws hF rfl rfl); refine pv hF hW (y_neq hF rfl rfl) (fun a hF => ?_) (ws hF rfl rfl); refine Fr.splitD hF ?_ ?_
        · intro h7 hF; exfalso
          omega
        · intro h7 hF; refine pv hF hW (y_pick hF rfl rfl) (fun a hF => ?_); refine pv hF hW (y_move hF rfl) (fun a hF => ?_); refine pv hF hW (y_fieldOwn hF rfl fa_30_1) (fun a hF => ?_) (ws hF rfl rfl); refine pv hF hW (y_loadOwn hF rfl 1 rfl rfl Try.underlying27 rfl) (fun a hF => ?_) (ws hF rfl rfl); refine pv hF hW (y_len hF rfl Try.underlying27) (fun a hF => ?_) (ws hF rfl rfl); refine pv hF hW (y_fieldOwn hF rfl fa_26_0) (fun a hF => ?_) (ws hF rfl rfl); refine pv hF hW (y_loadOwn hF rfl 4 rfl rfl Try.underlying22 rfl) (fun a hF => ?_) (ws hF rfl rfl); refine pv hF hW (y_len hF rfl Try.underlying22) (fun a hF => ?_) (ws hF rfl rfl); refine pv hF hW (y_neq hF rfl rfl) (fun a hF => ?_) (ws hF rfl rfl); refine Fr.splitD hF ?_ ?_
          · intro h8 hF; exfalso
            omega
          · intro h8 hF; refine pv hF hW (y_pick hF rfl rfl) (fun a hF => ?_); refine l_nil ?_; replace hF := hF.ks [0, 1, 2, 3, 4, 8, 9, 10, 11, 12, 13, 29, 67] rfl; refine t_n ?_; refine c_f hF rfl ?_; refine wp_skip ?_; refine t_n ?_
            refine c_cut (G := Nat × Nat) (fun (gq : Nat × Nat) => match gq with | ⟨b14, b15⟩ => [(14, .pointer (some ⟨b14, 0, none⟩)), (15, .pointer (some ⟨b15, 0, none⟩))]) (fun (gq : Nat × Nat) => match gq with | ⟨b14, b15⟩ => [.blk b14 48 (Value.cells (.agg #[.int .i64 atA, .int .i64 raA, .int .i64 rbA, .int .i64 rcA, .int .i64 reA, .int .i64 maA, .int .i64 mbA, .int .i64 mcA, .int .i64 mdA, .int .i64 meA, .int .i64 mfA, .int .i64 mgA, .int .i64 mhA, .int .i64 rdA, .slice qaA outA.length qkA, .int .i64 enA])).toList, .blk b15 48 (Value.cells (.agg #[.int .i64 atB, .int .i64 raB, .int .i64 rbB, .int .i64 rcB, .int .i64 reB, .int .i64 maB, .int .i64 mbB, .int .i64 mcB, .int .i64 mdB, .int .i64 meB, .int .i64 mfB, .int .i64 mgB, .int .i64 mhB, .int .i64 rdB, .slice qaB outB.length qkB, .int .i64 enB])).toList]) (fun (gq : Nat × Nat) => match gq with | ⟨b14, b15⟩ => True) (Fr.cons hF (t := 0) rfl rfl (Fr.cons hF (t := 1) rfl rfl (Fr.cons hF (t := 2) rfl rfl (Fr.cons hF (t := 3) rfl rfl (Fr.cons hF (t := 4) rfl rfl (Fr.cons hF (t := 8) rfl rfl (Fr.cons hF (t := 9) rfl rfl (Fr.cons hF (t := 10) rfl rfl (Fr.cons hF (t := 11) rfl rfl (Fr.cons hF (t := 12) rfl rfl (Fr.cons hF (t := 13) rfl rfl (Fr.cons hF (t := 29) rfl rfl (Fr.cons hF (t := 67) rfl rfl (Fr.nil hF)))))))))))))) hW ?_ ?_
            · refine c_d mixed_ok hW (hW) ?_
              clear hW; intro wc hW hS
              refine dv 0 rfl hF hS (y_fieldOwn hF rfl fa_30_1) (fun a hF => ?_); refine dv 1 rfl hF hS (y_loadOwn hF rfl 2 rfl rfl Try.underlying27 rfl) (fun a hF => ?_); refine dv 2 rfl hF hS (y_move hF rfl) (fun a hF => ?_); refine dv 3 rfl hF hS (y_indexS hF rfl rfl (by first | omega | decide) Try.underlying27 sz_48 (fun w h => (h.res 3 rfl).cellsR)) (fun a hF => ?_); refine dv 4 rfl hF hS (y_loadRowW hF rfl (fun w h => (h.res 3 rfl).cellsR) (by first | omega | decide) Try.underlying48 rfl (by rw [hqa]; exact sz_48)) (fun a hF => ?_); replace hF := Fr.cast (v' := .agg #[.int .i64 atA, .int .i64 raA, .int .i64 rbA, .int .i64 rcA, .int .i64 reA, .int .i64 maA, .int .i64 mbA, .int .i64 mcA, .int .i64 mdA, .int .i64 meA, .int .i64 mfA, .int .i64 mgA, .int .i64 mhA, .int .i64 rdA, .slice qaA outA.length qkA, .int .i64 enA]) (by rw [hqa]; rfl) hF
              refine dv 5 rfl hF hS (y_fieldOwn hF rfl fa_30_1) (fun a hF => ?_); refine dv 6 rfl hF hS (y_loadOwn hF rfl 1 rfl rfl Try.underlying27 rfl) (fun a hF => ?_); refine dv 7 rfl hF hS (y_move hF rfl) (fun a hF => ?_); refine dv 8 rfl hF hS (y_indexS hF rfl rfl (by first | omega | decide) Try.underlying27 sz_48 (fun w h => (h.res 0 rfl).cellsR)) (fun a hF => ?_); refine dv 9 rfl hF hS (y_loadRowW hF rfl (fun w h => (h.res 0 rfl).cellsR) (by first | omega | decide) Try.underlying48 rfl (by rw [hqb]; exact sz_48)) (fun a hF => ?_); replace hF := Fr.cast (v' := .agg #[.int .i64 atB, .int .i64 raB, .int .i64 rbB, .int .i64 rcB, .int .i64 reB, .int .i64 maB, .int .i64 mbB, .int .i64 mcB, .int .i64 mdB, .int .i64 meB, .int .i64 mfB, .int .i64 mgB, .int .i64 mhB, .int .i64 rdB, .slice qaB outB.length qkB, .int .i64 enB]) (by rw [hqb]; rfl) hF; refine d_2 10 11 (by kernel_rfl) ?_ ?_
              · refine d_op rfl rfl (e_alloc hF hW ze_48 rfl rfl rfl ?_); intro b9 a wc hF hW; refine ⟨(hW.del 0 rfl), ?_⟩; replace hS := (hW.del 0 rfl); refine d_1 11 (by kernel_rfl) ?_; refine d_op rfl rfl (e_alloc hF hW ze_48 rfl rfl rfl ?_); intro b10 a wc hF hW; refine ⟨((hW.del 0 rfl).del 0 rfl), ?_⟩; replace hS := ((hW.del 0 rfl).del 0 rfl); refine d_1 12 (by kernel_rfl) ?_; refine d_op rfl rfl (e_storeAll rfl hF hW rfl rfl 1 rfl rfl rfl (by kernel_rfl) sz_48 ?_); intro wc hW; refine ⟨((hW.del 0 rfl).del 0 rfl), ?_⟩; replace hS := ((hW.del 0 rfl).del 0 rfl); refine d_1 13 (by kernel_rfl) ?_; refine d_op rfl rfl (e_storeAll rfl hF hW rfl rfl 0 rfl rfl rfl (by kernel_rfl) sz_48 ?_); intro wc hW; refine ⟨((hW.del 0 rfl).del 0 rfl), ?_⟩; replace hS := ((hW.del 0 rfl).del 0 rfl); clear hS; refine d_nil (by kernel_rfl) ?_
                replace hF := hF.ks [0, 1, 2, 3, 4, 8, 9, 10, 11, 12, 13, 14, 15, 29, 67] rfl; replace hW := hW.front 6 rfl rfl; replace hW := hW.front 6 rfl rfl; replace hW := hW.front 6 rfl rfl; replace hW := hW.front 6 rfl rfl; replace hW := hW.front 6 rfl rfl; replace hW := hW.front 5 rfl rfl; replace hW := hW.front 6 rfl rfl; refine t_n ?_; refine ⟨(b9, b10), ?_, ?_, ?_⟩
                · exact Fr.app (Fr.cons hF (t := 14) rfl rfl (Fr.cons hF (t := 15) rfl rfl (Fr.nil hF))) (Fr.cons hF (t := 0) rfl rfl (Fr.cons hF (t := 1) rfl rfl (Fr.cons hF (t := 2) rfl rfl (Fr.cons hF (t := 3) rfl rfl (Fr.cons hF (t := 4) rfl rfl (Fr.cons hF (t := 8) rfl rfl (Fr.cons hF (t := 9) rfl rfl (Fr.cons hF (t := 10) rfl rfl (Fr.cons hF (t := 11) rfl rfl (Fr.cons hF (t := 12) rfl rfl (Fr.cons hF (t := 13) rfl rfl (Fr.cons hF (t := 29) rfl rfl (Fr.cons hF (t := 67) rfl rfl (Fr.nil hF))))))))))))))
                · exact hW
                · trivial
              · refine d_op rfl rfl (e_alloc hF hW ze_48 rfl rfl rfl ?_); intro b11 a wc hF hW; refine ⟨(hW.del 0 rfl), ?_⟩; replace hS := (hW.del 0 rfl); refine d_1 10 (by kernel_rfl) ?_; refine d_op rfl rfl (e_alloc hF hW ze_48 rfl rfl rfl ?_); intro b12 a wc hF hW; refine ⟨((hW.del 0 rfl).del 0 rfl), ?_⟩; replace hS := ((hW.del 0 rfl).del 0 rfl); refine d_1 12 (by kernel_rfl) ?_; refine d_op rfl rfl (e_storeAll rfl hF hW rfl rfl 0 rfl rfl rfl (by kernel_rfl) sz_48 ?_); intro wc hW; refine ⟨((hW.del 0 rfl).del 0 rfl), ?_⟩; replace hS := ((hW.del 0 rfl).del 0 rfl); refine d_1 13 (by kernel_rfl) ?_; refine d_op rfl rfl (e_storeAll rfl hF hW rfl rfl 1 rfl rfl rfl (by kernel_rfl) sz_48 ?_); intro wc hW; refine ⟨((hW.del 0 rfl).del 0 rfl), ?_⟩; replace hS := ((hW.del 0 rfl).del 0 rfl); clear hS; refine d_nil (by kernel_rfl) ?_
                replace hF := hF.ks [0, 1, 2, 3, 4, 8, 9, 10, 11, 12, 13, 14, 15, 29, 67] rfl; refine t_n ?_; refine ⟨(b12, b11), ?_, ?_, ?_⟩
                · exact Fr.app (Fr.cons hF (t := 14) rfl rfl (Fr.cons hF (t := 15) rfl rfl (Fr.nil hF))) (Fr.cons hF (t := 0) rfl rfl (Fr.cons hF (t := 1) rfl rfl (Fr.cons hF (t := 2) rfl rfl (Fr.cons hF (t := 3) rfl rfl (Fr.cons hF (t := 4) rfl rfl (Fr.cons hF (t := 8) rfl rfl (Fr.cons hF (t := 9) rfl rfl (Fr.cons hF (t := 10) rfl rfl (Fr.cons hF (t := 11) rfl rfl (Fr.cons hF (t := 12) rfl rfl (Fr.cons hF (t := 13) rfl rfl (Fr.cons hF (t := 29) rfl rfl (Fr.cons hF (t := 67) rfl rfl (Fr.nil hF))))))))))))))
                · exact hW
                · trivial
            · clear hF hW
              try clear a
              intro gq a wc hC hF hW
              obtain ⟨b14, b15⟩ := gq
              dsimp only at hC
              clear hC; refine c_s ?_; refine c_sd mixed_ok hW (hW) ?_
              clear hW; intro wc hW hS
              refine dv 0 rfl hF hS (y_fieldOwn hF rfl fa_48_4) (fun a hF => ?_); refine dv 1 rfl hF hS (y_loadOwn hF rfl 1 rfl rfl Try.underlying46 rfl) (fun a hF => ?_); refine dv 2 rfl hF hS (y_len hF rfl Try.underlying46) (fun a hF => ?_); refine dv 3 rfl hF hS (y_fieldOwn hF rfl fa_48_4) (fun a hF => ?_); refine dv 4 rfl hF hS (y_loadOwn hF rfl 0 rfl rfl Try.underlying46 rfl) (fun a hF => ?_); refine dv 5 rfl hF hS (y_len hF rfl Try.underlying46) (fun a hF => ?_); refine dv 6 rfl hF hS (y_lss hF rfl rfl) (fun a hF => ?_); refine Fr.splitD hF ?_ ?_
              · intro h13 hF; exfalso
                omega
              · intro h13 hF; refine dv 7 rfl hF hS (y_move hF rfl) (fun a hF => ?_); refine dv 8 rfl hF hS (y_fieldOwn hF rfl fa_48_4) (fun a hF => ?_) (ws hF rfl rfl); refine dv 9 rfl hF hS (y_loadOwn hF rfl 1 rfl rfl Try.underlying46 rfl) (fun a hF => ?_) (ws hF rfl rfl); refine dv 10 rfl hF hS (y_fieldOwn hF rfl fa_48_4) (fun a hF => ?_) (ws hF rfl rfl); refine dv 11 rfl hF hS (y_loadOwn hF rfl 0 rfl rfl Try.underlying46 rfl) (fun a hF => ?_) (ws hF rfl rfl); refine dv 12 rfl hF hS (y_len hF rfl Try.underlying46) (fun a hF => ?_) (ws hF rfl rfl); refine dv 13 rfl hF hS (y_sliceH hF rfl rfl (by have := (show Ints _ (.slice qaB outB.length qkB) outB from hB _ (hW.res 2 rfl)).len; omega) Try.underlying46 sz_3) (fun a hF => ?_) (ws hF rfl rfl); refine dv 14 rfl hF hS (y_fieldOwn hF rfl fa_48_4) (fun a hF => ?_) (ws hF rfl rfl)
                refine dv 15 rfl hF hS (y_loadOwn hF rfl 0 rfl rfl Try.underlying46 rfl) (fun a hF => ?_) (ws hF rfl rfl); refine d_1 16 (by kernel_rfl) ?_; refine d_op rfl (ws hF rfl rfl) (e_call hF rfl rfl en_19 (by rfl) rfl rfl (same_ints (Ints.takeS (hB _ (hW.res 2 rfl)) st2) (hA _ (hW.res 5 rfl)) st1) ?_); rintro e w1 ⟨rfl, hb⟩; replace hW := hW.kept hb; clear hb; refine ⟨_, rfl, fun a hF => ?_⟩; refine ⟨hW, ?_⟩; replace hS := hW; refine dv 17 rfl hF hS (y_not hF rfl) (fun a hF => ?_) (ws hF rfl rfl); replace hF := hF.ff; refine dv 18 rfl hF hS (y_pick hF rfl rfl) (fun a hF => ?_); replace hF := hF.ff; refine dv 19 rfl hF hS (y_move hF rfl) (fun a hF => ?_); replace hF := hF.ff; refine dv 20 rfl hF hS (y_fieldOwn hF rfl fa_48_3) (fun a hF => ?_) (ws hF rfl rfl); refine dv 21 rfl hF hS (y_loadOwn hF rfl 1 rfl rfl Try.underlying3 rfl) (fun a hF => ?_) (ws hF rfl rfl)
                refine dv 22 rfl hF hS (y_fieldOwn hF rfl fa_48_3) (fun a hF => ?_) (ws hF rfl rfl); refine dv 23 rfl hF hS (y_loadOwn hF rfl 0 rfl rfl Try.underlying3 rfl) (fun a hF => ?_) (ws hF rfl rfl); refine dv 24 rfl hF hS (y_lss hF rfl rfl) (fun a hF => ?_) (ws hF rfl rfl); refine Fr.splitD hF ?_ ?_
                · intro h14 hF; exfalso
                  omega
                · intro h14 hF; refine dv 25 rfl hF hS (y_pick hF rfl rfl) (fun a hF => ?_); clear hS; refine d_nil (by kernel_rfl) ?_; replace hF := hF.ks [0, 1, 2, 3, 4, 8, 9, 10, 11, 12, 13, 14, 15, 29, 67, 103] rfl; refine t_n ?_; refine c_f hF rfl ?_; refine wp_skip ?_; refine t_n ?_; refine c_sr ?_; refine pe (e_call hF rfl rfl en_12 (by rfl) rfl rfl (kernBegun_any _) ?_); rintro e w1 ⟨rfl, hb⟩; replace hW := hW.kept hb; clear hb; refine ⟨_, rfl, fun a hF => ?_⟩; refine pv hF hW (y_move hF rfl) (fun a hF => ?_); refine pv hF hW (y_fieldOwn hF rfl fa_48_5) (fun a hF => ?_) (ws hF rfl rfl); refine pv hF hW (y_loadOwn hF rfl 0 rfl rfl Try.underlying3 rfl) (fun a hF => ?_) (ws hF rfl rfl); refine pv hF hW (y_eql hF rfl rfl) (fun a hF => ?_) (ws hF rfl rfl); refine Fr.splitD hF ?_ ?_
                  · intro h15 hF; refine pv hF hW (y_move hF rfl) (fun a hF => ?_) (ws hF rfl rfl); refine p_skip hF (wn hF rfl rfl rfl) rfl rfl (fun a hF => ?_); refine p_skip hF (wn hF rfl rfl rfl) rfl rfl (fun a hF => ?_); refine p_skip hF (wn hF rfl rfl rfl) rfl rfl (fun a hF => ?_); refine pv hF hW (y_pick hF rfl rfl) (fun a hF => ?_) (ws hF rfl rfl); refine pv hF hW (y_pick hF rfl rfl) (fun a hF => ?_); replace hF := hF.drop 8; refine pv hF hW (y_assign hF rfl) (fun a hF => ?_); refine l_nil ?_; replace hF := hF.ks [0, 1, 2, 3, 4, 8, 9, 10, 11, 12, 13, 14, 15, 29, 67, 103] rfl; refine t_n ?_; refine wp_ret ?_; refine ret1 Try.results5 hF (rv_t hF rfl) ?_
                    exact ⟨rfl, hW.below⟩
                  · intro h15 hF; refine pv hF hW (y_move hF rfl) (fun a hF => ?_) (ws hF rfl rfl); refine pv hF hW (y_loadAll hF rfl 0 rfl Try.underlying48 rfl sz_48) (fun a hF => ?_) (ws hF rfl rfl); refine pv hF hW (y_loadAll hF rfl 1 rfl Try.underlying48 rfl sz_48) (fun a hF => ?_) (ws hF rfl rfl); refine pe (e_call hF rfl rfl en_20 (by rfl) rfl rfl (same_cells (c := ⟨atA, [raA, rbA, rcA, reA], [maA, mbA, mcA, mdA, meA, mfA, mgA, mhA], rdA, outA, enA⟩) (d := ⟨atB, [raB, rbB, rcB, reB], [maB, mbB, mcB, mdB, meB, mfB, mgB, mhB], rdB, outB, enB⟩) wfA wfB (hA _ (hW.res 5 rfl)) (hB _ (hW.res 2 rfl)) (st4 (by assumption)).symm) ?_) (ws hF rfl rfl); rintro e w1 ⟨rfl, hb⟩; replace hW := hW.kept hb; clear hb; refine ⟨_, rfl, fun a hF => ?_⟩; refine pv hF hW (y_pick hF rfl rfl) (fun a hF => ?_) (ws hF rfl rfl); refine pv hF hW (y_pick hF rfl rfl) (fun a hF => ?_); replace hF := hF.drop 8
                    refine pv hF hW (y_assign hF rfl) (fun a hF => ?_); refine l_nil ?_; replace hF := hF.ks [0, 1, 2, 3, 4, 8, 9, 10, 11, 12, 13, 14, 15, 29, 67, 103] rfl; refine t_n ?_; refine wp_ret ?_; refine ret1 Try.results5 hF (rv_t hF rfl) ?_
                    exact ⟨rfl, hW.below⟩
  · have hrun := fun w1 (hb : Below w.heap.size w w1) => run_no (hx.below hb) rfl h0
    generalize runErr x.sys n = E at *
    rw [x.val_eq] at *
    refine enter Try.func5 rfl Try.ntmps5 rfl (fun a hF => ?_)
    have hW := Wd.start w NoB
    refine c_sr ?_; refine pe (e_box hF hW rfl rfl rfl rfl ?_); intro b1 a wc hF hW; refine pv hF hW (y_assign hF rfl) (fun a hF => ?_); refine l_nil ?_; refine t_n ?_; refine c_sr ?_; refine pv hF hW (y_loadAll hF rfl 0 rfl Try.underlying26 rfl sz_26) (fun a hF => ?_); refine pv hF hW (y_move hF rfl) (fun a hF => ?_); refine pe (e_call hF rfl rfl en_16 (by rfl) rfl rfl (hrun _ hW.below) ?_); rintro e w1 ⟨y0, rfl, hy0, hN⟩; replace hW := hW.comb3 hN; replace hW := hW.own_world; refine ⟨_, rfl, fun a hF => ?_⟩; replace hF := Fr.cast (v' := .tuple #[.agg #[.int .i64 y0.tick, .slice y0.ca y0.cells.length y0.cc, .slice y0.la y0.lines.length y0.lc], .int .i64 E]) rfl hF; refine pv hF hW (y_move hF rfl) (fun a hF => ?_); refine pv hF hW (y_extract hF rfl rfl) (fun a hF => ?_); refine pv hF hW (y_extract hF rfl rfl) (fun a hF => ?_); refine pe (e_alloc hF hW ze_30 rfl rfl rfl ?_)
    intro b2 a wc hF hW; refine pe (e_storeAll rfl hF hW rfl rfl 0 rfl rfl rfl (by kernel_rfl) sz_30 ?_); intro wc hW; refine pv hF hW (y_assign hF rfl) (fun a hF => ?_); refine l_nil ?_; replace hF := hF.ks [0, 1, 2, 3, 4, 8, 9, 10] rfl; refine t_n ?_; refine c_s ?_; refine c_sr ?_; refine pv hF hW (y_move hF rfl) (fun a hF => ?_); refine pv hF hW (y_neq hF rfl rfl) (fun a hF => ?_); refine Fr.splitD hF ?_ ?_
    · intro h3 hF; refine pv hF hW (y_move hF rfl) (fun a hF => ?_); refine p_skip hF (wn hF rfl rfl rfl) rfl rfl (fun a hF => ?_); refine p_skip hF (wn hF rfl rfl rfl) rfl rfl (fun a hF => ?_); refine p_skip hF (wn hF rfl rfl rfl) rfl rfl (fun a hF => ?_); refine p_skip hF (wn hF rfl rfl rfl) rfl rfl (fun a hF => ?_); refine pv hF hW (y_pick hF rfl rfl) (fun a hF => ?_); refine l_nil ?_; replace hF := hF.ks [0, 1, 2, 3, 4, 8, 9, 10, 29] rfl; refine t_n ?_; refine c_t hF rfl ?_; refine c_sr ?_; refine pe (e_call hF rfl rfl en_12 (by rfl) rfl rfl (kernBegun_any _) ?_); rintro e w1 ⟨rfl, hb⟩; replace hW := hW.kept hb; clear hb; refine ⟨_, rfl, fun a hF => ?_⟩; replace hF := hF.drop 8; refine pv hF hW (y_assign hF rfl) (fun a hF => ?_); refine l_nil ?_; replace hF := hF.ks [0, 1, 2, 3, 4, 8, 9, 10, 29] rfl; refine t_n ?_; refine wp_ret ?_; refine t_r ?_
      refine ret1 Try.results5 hF (rv_t hF rfl) ?_
      exact ⟨rfl, hW.below⟩
    · intro h3 hF; exfalso
      omega

set_option maxRecDepth 100000 in
theorem kernStill_contract (H : Type) (enc : TypeId × Value → H) (W : World) (base : Nat) (args : Array Value) (ds gs : List (DataW H)) (before : List MemPlace)
    (hval : ∀ (j : Nat) t v, Try.f5.params[j]? = some t → args[j]? = some v → Value.okWide Try.prog W .any base t v)
    (hW : DataW.Whole enc Try.prog Try.f5.params.toList Rows.kernStillSpec.vars false W args.toList ds gs before) :
    Calls Try.prog 5 args W fun e W' => ∃ v, e = .returned v ∧ Rows.kernStillSpec.post enc Try.prog Try.f5 false true false false W args v W' := by
  have hW' := hW
  obtain ⟨p, q, hA0, hV, rfl, hfz, hnd⟩ := hW
  have hA : DataW.TrodAll enc Try.prog W 0 (fun _ => true) true Try.f5.params.toList args.toList ds p := hA0
  rw [Try.params5] at hA hval
  obtain ⟨v0, v1, v2, v3, d0, d1, d2, d3, p0, p1, p2, p3, rfl, rfl, rfl, h0, h1, h2, h3⟩ := trodAll_four hA
  obtain ⟨x, rfl, hx⟩ := sys_open (hval 0 26 v0 rfl rfl) h0
  obtain ⟨n, rfl, rfl, rfl, wk1⟩ := open_int Try.underlying3 (hval 1 3 v1 rfl rfl) h1
  obtain ⟨m, rfl, rfl, rfl, wk2⟩ := open_int Try.underlying3 (hval 2 3 v2 rfl rfl) h2
  obtain ⟨p, rfl, rfl, rfl, wk3⟩ := open_int Try.underlying3 (hval 3 3 v3 rfl rfl) h3
  refine (kernStill_run x n m p W hx (bounds_i64 wk2) (bounds_i64 wk3)).mono fun e W' ⟨he, hb⟩ => ?_
  subst he
  exact ⟨_, rfl, law_post Try.laidOut hW' hb rfl (by kernel_rfl) Try.underlying4 (by kernel_rfl) rfl⟩

set_option maxRecDepth 100000 in
theorem kernStill_lifted (os : Os) (started : os.Started) (H : Type) (enc : TypeId × Value → H) :
    ReturnsInHanded {} Try.checked os 5 .any (Rows.kernStillSpec.pre6 enc Try.prog Try.f5 Rows.kernStillRow.domain false) (Rows.kernStillSpec.post enc Try.prog Try.f5 false true false false) := by
  refine returnsInHanded_of_change (C := Try.checked) Try.own started (by kernel_rfl) Try.func5
    (ChangeSpec.witness6 (enc := enc) (C := Try.checked) false ⟨#[], #[.agg #[.slice none 0 0, .slice none 0 0, .slice none 0 0], .int .i64 0, .int .i64 0, .int .i64 0], []⟩ 8 (by kernel_rfl) (by kernel_rfl) (by kernel_rfl) (by kernel_rfl)) ?_
  intro W base args ds gs before hval hW _ _
  exact kernStill_contract H enc W base args ds gs before hval hW

theorem kernStill_holds : Rows.KernStillSaid :=
  OpenClaim.holds_of_wide 5 Try.f5 rfl rfl rfl rfl rfl rfl rfl ⟨rfl, rfl, rfl, rfl, rfl⟩ rfl rfl rfl rfl rfl (by kernel_rfl) Try.func5 (by kernel_rfl)
    (of_decide_eq_true (by kernel_rfl)) (by unfold Func.isWrapper; first | (rw [if_pos (by decide +kernel)]; kernel_rfl) | (rw [if_neg (by decide +kernel)]; exact ⟨rfl, rfl⟩))
    (fun os started H enc _ => kernStill_lifted os started H enc)
end Go.Proofs.Ytoecpblabajlmaa
