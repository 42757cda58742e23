/- cert.order: how edges are ordered. -/
import Derived.Test.YtlkkdpoioedacaaTyx
namespace Go.Proofs.Ytlkkdpoioedacaa
set_option linter.unusedVariables false
set_option linter.unusedSimpArgs false
open Go.ChangeShapes Go.WideShapes Go.ChangeAt Go.RowKit
theorem bs_CertA_42_2_0_1 (x0 : Int) (x1 : Int) (w : World) : (Instr.buildSlice 42 2 #[(0, (.int .i64 x0)), (1, (.int .i64 x1))]).run Try.prog w = .ok (.slice (some ⟨w.heap.size, 0, none⟩) 2 2) (w.alloc (.cells #[(.int .i64 x0), (.int .i64 x1)] 3)) := by kernel_rfl
set_option maxRecDepth 100000

def cmpI (m n : Int) : Int := if m < n then -1 else if n < m then 1 else 0
theorem isNaN_any (m : Int) (w : World) : Calls Try.prog 141 #[.int .i64 m] w fun e w' => e = .returned (.bool false) ∧ Below w.heap.size w w' := by
  refine enter Try.func141 rfl Try.ntmps141 rfl fun a hF => ?_
  have hW := Wd.start w NoB
  refine c_sr <| pv hF hW (y_assign hF rfl) fun a hF => l_nil <| t_n <| c_sr <| pv hF hW (y_move hF rfl) fun a hF => pv hF hW (y_move hF rfl) fun a hF => pv hF hW (y_neq hF rfl rfl) fun a hF => ?_; refine Fr.splitD hF ?_ ?_
  · intro h1 hF; replace hF := hF.drop 2; refine pv hF hW (y_assign hF rfl) fun a hF => l_nil ?_; replace hF := hF.ks [0, 2] rfl; refine t_n <| wp_ret <| ret1 Try.results141 hF (rv_t hF rfl) ?_
    first | exact ⟨rfl, hW.below⟩ | (exfalso; omega)
  · intro h1 hF; replace hF := hF.drop 2; refine pv hF hW (y_assign hF rfl) fun a hF => l_nil ?_; replace hF := hF.ks [0, 2] rfl; refine t_n <| wp_ret <| ret1 Try.results141 hF (rv_t hF rfl) ?_
    first | exact ⟨rfl, hW.below⟩ | (exfalso; omega)
theorem compare_any (m n : Int) (w : World) : Calls Try.prog 117 #[.int .i64 m, .int .i64 n] w fun e w' => e = .returned (.int .i64 (cmpI m n)) ∧ Below w.heap.size w w' := by
  refine enter Try.func117 rfl Try.ntmps117 rfl fun a hF => ?_
  have hW := Wd.start w NoB
  refine c_sr <| pv hF hW (y_assign hF rfl) fun a hF => l_nil <| t_n <| c_sr <| pv hF hW (y_move hF rfl) fun a hF => ?_; refine pe (e_call hF rfl rfl en_141 (by rfl) rfl rfl (isNaN_any _ _) ?_); rintro e w1 ⟨rfl, hb⟩; replace hW := hW.kept hb; clear hb; refine ⟨_, rfl, fun a hF => ?_⟩; refine pv hF hW (y_assign hF rfl) fun a hF => l_nil ?_; replace hF := hF.ks [0, 1, 4, 5] rfl; refine t_n <| c_sr <| pv hF hW (y_move hF rfl) fun a hF => ?_; refine pe (e_call hF rfl rfl en_141 (by rfl) rfl rfl (isNaN_any _ _) ?_); rintro e w1 ⟨rfl, hb⟩; replace hW := hW.kept hb; clear hb; refine ⟨_, rfl, fun a hF => ?_⟩; refine pv hF hW (y_assign hF rfl) fun a hF => l_nil ?_; replace hF := hF.ks [0, 1, 4, 5, 6] rfl; refine t_n <| c_s <| c_sr <| pv hF hW (y_move hF rfl) fun a hF => l_nil <| t_n <| c_f hF rfl <| wp_skip <| t_n <| c_s <| c_sr <| pv hF hW (y_move hF rfl) fun a hF => l_nil <| t_n <| c_f hF rfl <| wp_skip <| t_n <| c_s <| c_sr <| pv hF hW (y_move hF rfl) fun a hF => pv hF hW (y_move hF rfl) fun a hF => pv hF hW (y_lss hF rfl rfl) fun a hF => ?_; refine Fr.splitD hF ?_ ?_
  · intro h1 hF; refine l_nil ?_; replace hF := hF.ks [0, 1, 4, 5, 6, 11, 13, 16] rfl; refine t_n <| c_t hF rfl <| c_sr ?_; replace hF := hF.drop 4; refine pv hF hW (y_assign hF rfl) fun a hF => l_nil <| t_n <| wp_ret <| t_r <| ret1 Try.results117 hF (rv_t hF rfl) ?_
    first
    | exact ⟨by rw [show cmpI m n = -1 by unfold cmpI; rw [if_pos (by omega)]], hW.below⟩
    | exact ⟨by rw [show cmpI m n = 1 by unfold cmpI; rw [if_neg (by omega), if_pos (by omega)]], hW.below⟩
    | exact ⟨by rw [show cmpI m n = 0 by unfold cmpI; rw [if_neg (by omega), if_neg (by omega)]], hW.below⟩
  · intro h1 hF; refine l_nil ?_; replace hF := hF.ks [0, 1, 4, 5, 6, 11, 13, 16] rfl; refine t_n <| c_f hF rfl <| wp_skip <| t_n <| c_s <| c_sr <| pv hF hW (y_move hF rfl) fun a hF => pv hF hW (y_move hF rfl) fun a hF => pv hF hW (y_gtr hF rfl rfl) fun a hF => ?_; refine Fr.splitD hF ?_ ?_
    · intro h2 hF; refine l_nil ?_; replace hF := hF.ks [0, 1, 4, 5, 6, 11, 13, 16, 19] rfl; refine t_n <| c_t hF rfl <| c_sr ?_; replace hF := hF.drop 4; refine pv hF hW (y_assign hF rfl) fun a hF => l_nil <| t_n <| wp_ret <| t_r <| ret1 Try.results117 hF (rv_t hF rfl) ?_
      first
      | exact ⟨by rw [show cmpI m n = -1 by unfold cmpI; rw [if_pos (by omega)]], hW.below⟩
      | exact ⟨by rw [show cmpI m n = 1 by unfold cmpI; rw [if_neg (by omega), if_pos (by omega)]], hW.below⟩
      | exact ⟨by rw [show cmpI m n = 0 by unfold cmpI; rw [if_neg (by omega), if_neg (by omega)]], hW.below⟩
    · intro h2 hF; refine l_nil ?_; replace hF := hF.ks [0, 1, 4, 5, 6, 11, 13, 16, 19] rfl; refine t_n <| c_f hF rfl <| wp_skip <| t_n <| c_sr ?_; replace hF := hF.drop 4; refine pv hF hW (y_assign hF rfl) fun a hF => l_nil <| t_n <| wp_ret <| ret1 Try.results117 hF (rv_t hF rfl) ?_
      first
      | exact ⟨by rw [show cmpI m n = -1 by unfold cmpI; rw [if_pos (by omega)]], hW.below⟩
      | exact ⟨by rw [show cmpI m n = 1 by unfold cmpI; rw [if_neg (by omega), if_pos (by omega)]], hW.below⟩
      | exact ⟨by rw [show cmpI m n = 0 by unfold cmpI; rw [if_neg (by omega), if_neg (by omega)]], hW.below⟩
def orI (m n : Int) : Int := if m ≠ 0 then m else n
theorem or_two {w : World} {b : Nat} {T : TypeId} {m n : Int} (hB : Blk w b T [.int .i64 m, .int .i64 n]) : Calls Try.prog 116 #[.slice (some ⟨b, 0, none⟩) 2 2] w fun e w' => e = .returned (.int .i64 (orI m n)) ∧ Below w.heap.size w w' := by
  have hI : RF w (some ⟨b, 0, none⟩) 2 1 (fun i => [.int .i64 ([m, n].getD i 0)]) := by
    obtain ⟨A, c, e, _, _, h⟩ := RF.of_ints (ints_blk hB (xs := [m, n]) rfl rfl (by show 2 ≤ maxLen; decide))
    simp only [Value.slice.injEq] at e
    rw [e.1]
    exact h
  refine enter Try.func116 rfl Try.ntmps116 rfl fun a hF => ?_
  have hW := Wd.start w NoB
  refine c_sr <| pv hF hW (y_assign hF rfl) fun a hF => l_nil <| t_n <| c_sr <| pv hF hW (y_assign hF rfl) fun a hF => l_nil <| t_n <| c_s <| c_sr <| pv hF hW (y_move hF rfl) fun a hF => pv hF hW (y_len hF rfl Try.underlying42) fun a hF => pv hF hW (y_move hF rfl) fun a hF => l_nil <| t_n <| wp_block ?_; refine c_loop (G := Nat) (fun k : Nat => [(8, .int .i64 (k : Int))]) (fun k : Nat => []) (fun k : Nat => k ≤ 2 ∧ ∀ i, i < k → [m, n].getD i 0 = 0) (fun k : Nat => 2 - k) 0 (hF.ks [0, 3, 6, 7] rfl) (Fr.cons hF (t := 8) rfl (by first | rfl | (simp; done)) (Fr.nil hF)) (hW) ?_ ?_
  · exact ⟨by omega, fun i hi => by omega⟩
  clear hF hW
  try clear a
  intro k a wc hC hF hW
  obtain ⟨hk, hz⟩ := hC
  refine c_sr <| pv hF hW (y_lss hF rfl rfl) fun a hF => ?_; refine Fr.splitD hF ?_ ?_
  · intro h1 hF; refine l_nil <| t_n <| c_s <| c_t hF rfl <| wp_skip <| t_n <| c_s <| wp_block <| c_sr <| pv hF hW (y_indexS hF rfl rfl (by first | omega | decide) Try.underlying42 sz_3 (fun w h => (hI).wd h)) fun a hF => pv hF hW (y_loadRow hF rfl (fun w h => (hI).wd h) (by first | omega | decide) rfl Try.underlying3 rfl) fun a hF => pv hF hW (y_assign hF rfl) fun a hF => l_nil ?_; replace hF := hF.ks [0, 3, 5, 6, 7, 8, 9] rfl; refine t_n <| c_sr <| pv hF hW (y_move hF rfl) fun a hF => pv hF hW (y_move hF rfl) fun a hF => pv hF hW (y_neq hF rfl rfl) fun a hF => ?_; refine Fr.splitD hF ?_ ?_
    · intro h2 hF; refine l_nil ?_; replace hF := hF.ks [0, 3, 5, 6, 7, 8, 9, 14] rfl; refine t_n <| c_t hF rfl <| c_sr <| pv hF hW (y_move hF rfl) fun a hF => pv hF hW (y_assign hF rfl) fun a hF => l_nil ?_; replace hF := hF.ks [0, 2, 3, 5, 6, 7, 8, 9, 14] rfl; refine t_n <| wp_ret <| b_r <| t_r <| t_r <| b_r <| t_r <| ret1 Try.results116 hF (rv_t hF rfl) ?_
      first
      | (have hk2 : k = 0 ∨ k = 1 := (by omega); rcases hk2 with rfl | rfl; exact ⟨by rw [show orI m n = m from if_pos (by simpa using ‹¬ [m, n].getD 0 0 = 0›)]; rfl, hW.below⟩; exact ⟨by rw [show orI m n = n from if_neg (by simpa using hz 0 (by omega))]; rfl, hW.below⟩)
      | (have h0 := hz 0 (by omega); have h1 := hz 1 (by omega); exact ⟨by rw [show orI m n = n from if_neg (by simpa using h0), show n = 0 from h1], hW.below⟩)
    · intro h2 hF; refine l_nil ?_; replace hF := hF.ks [0, 3, 5, 6, 7, 8, 9, 14] rfl; refine t_n <| c_f hF rfl <| wp_skip <| b_n <| t_n <| c_r <| pv hF hW (y_add hF rfl rfl (IntWalk.i64_in _ (by omega))) fun a hF => ?_; replace hF := hF.drop 8; refine pv hF hW (y_move hF rfl) fun a hF => l_nil ?_; replace hF := hF.ks [0, 3, 5, 6, 7, 8, 9, 14] rfl; refine t_n ?_; refine ⟨(k + 1), ?_, ?_, ?_, ?_⟩
      · exact ⟨by omega, fun i hi => by rcases Nat.lt_or_ge i k with h | h; exact hz i h; (have : i = k := by omega); subst this; omega⟩
      · first | omega | (dsimp only; omega)
      · exact Fr.app (Fr.cons hF (t := 8) rfl (by first | rfl | (simp; done) | omega) (Fr.nil hF)) (hF.ks [0, 3, 6, 7] rfl)
      · exact hW
  · intro h1 hF; refine l_nil <| t_n <| c_s <| c_f hF rfl <| wp_exit <| t_x <| t_x <| b_h <| t_n <| c_sr <| pv hF hW (y_move hF rfl) fun a hF => pv hF hW (y_assign hF rfl) fun a hF => l_nil ?_; replace hF := hF.ks [0, 2, 3, 6, 7, 8, 9] rfl; refine t_n <| wp_ret <| ret1 Try.results116 hF (rv_t hF rfl) ?_
    first
    | (have hk2 : k = 0 ∨ k = 1 := (by omega); rcases hk2 with rfl | rfl; exact ⟨by rw [show orI m n = m from if_pos (by simpa using ‹¬ [m, n].getD 0 0 = 0›)]; rfl, hW.below⟩; exact ⟨by rw [show orI m n = n from if_neg (by simpa using hz 0 (by omega))]; rfl, hW.below⟩)
    | (have h0 := hz 0 (by omega); have h1 := hz 1 (by omega); exact ⟨by rw [show orI m n = n from if_neg (by simpa using h0), show n = 0 from h1], hW.below⟩)
/-- edges -/
structure Edg where
  from_ : Int
  to_ : Int
def Edg.cells (e : Edg) : List Value := [.int .i64 e.from_, .int .i64 e.to_]
def orderI (x y : Edg) : Int := orI (cmpI x.from_ y.from_) (cmpI x.to_ y.to_)
theorem order_any (x y : Edg) (w : World) : Calls Try.prog 61 #[.agg x.cells.toArray, .agg y.cells.toArray] w fun e w' => e = .returned (.int .i64 (orderI x y)) ∧ Below w.heap.size w w' := by
  obtain ⟨xf, xt⟩ := x
  obtain ⟨yf, yt⟩ := y
  change Calls _ _ #[.agg #[.int .i64 xf, .int .i64 xt], .agg #[.int .i64 yf, .int .i64 yt]] _ _
  refine enter Try.func61 rfl Try.ntmps61 rfl fun a hF => ?_
  have hW := Wd.start w NoB
  refine c_sr ?_; refine pe (e_box hF hW rfl rfl rfl rfl ?_); intro b1 a wc hF hW; refine pe (e_box hF hW rfl rfl rfl rfl ?_); intro b2 a wc hF hW; refine pv hF hW (y_assign hF rfl) fun a hF => l_nil <| t_n <| c_sd mixed_ok hW (hW) ?_
  clear hW; intro wc hW hS
  refine dv 0 rfl hF hS (y_fieldOwn hF rfl fa_37_0) fun a hF => dv 1 rfl hF hS (y_loadOwn hF rfl 1 rfl rfl Try.underlying3 rfl) fun a hF => dv 2 rfl hF hS (y_fieldOwn hF rfl fa_37_0) fun a hF => dv 3 rfl hF hS (y_loadOwn hF rfl 0 rfl rfl Try.underlying3 rfl) fun a hF => dv 5 rfl hF hS (y_fieldOwn hF rfl fa_37_1) fun a hF => dv 6 rfl hF hS (y_loadOwn hF rfl 1 rfl rfl Try.underlying3 rfl) fun a hF => dv 7 rfl hF hS (y_fieldOwn hF rfl fa_37_1) fun a hF => dv 8 rfl hF hS (y_loadOwn hF rfl 0 rfl rfl Try.underlying3 rfl) fun a hF => d_1 4 (by kernel_rfl) ?_; refine d_op rfl rfl (e_call hF rfl rfl en_117 (by rfl) rfl rfl (compare_any _ _ _) ?_); rintro e w1 ⟨rfl, hb⟩; replace hW := hW.kept hb; clear hb; refine ⟨_, rfl, fun a hF => ?_⟩; replace hS := hW; refine ⟨hS, ?_⟩; refine d_1 9 (by kernel_rfl) ?_; refine d_op rfl rfl (e_call hF rfl rfl en_117 (by rfl) rfl rfl (compare_any _ _ _) ?_); rintro e w1 ⟨rfl, hb⟩; replace hW := hW.kept hb; clear hb; refine ⟨_, rfl, fun a hF => ?_⟩; replace hS := hW; refine ⟨hS, ?_⟩; refine d_1 10 (by kernel_rfl) ?_; refine d_op rfl rfl (e_buildSlice hF hW rfl (fun w => bs_CertA_42_2_0_1 _ _ w) rfl rfl rfl ?_); intro b3 a wc hF hW; replace hS := (hW.del 0 rfl); refine ⟨hS, ?_⟩; refine d_1 11 (by kernel_rfl) ?_; refine d_op rfl rfl (e_call hF rfl rfl en_116 (by rfl) rfl rfl (or_two (hW.blk 0 rfl)) ?_); rintro e w1 ⟨rfl, hb⟩; replace hW := hW.kept hb; clear hb; refine ⟨_, rfl, fun a hF => ?_⟩; replace hS := (hW.del 0 rfl); refine ⟨hS, ?_⟩; replace hF := hF.drop 4; refine dv 12 rfl hF hS (y_assign hF rfl) fun a hF => ?_; clear hS; refine d_nil (by kernel_rfl) ?_; replace hF := hF.ks [0, 1, 2, 3, 4] rfl; refine t_n <| wp_ret <| ret1 Try.results61 hF (rv_t hF rfl) ?_
  exact ⟨rfl, hW.below⟩
end Go.Proofs.Ytlkkdpoioedacaa
