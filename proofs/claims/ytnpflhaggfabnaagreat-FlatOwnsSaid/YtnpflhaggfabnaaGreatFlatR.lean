/- The reference's rows: padded, cellRow, RowOf, cellSize, lineSize, listAt. -/
import Derived.Test.YtnpflhaggfabnaaGreatFlatV
import Derived.Test.YtnpflhaggfabnaaGreatFlatB
import Derived.Test.YtnpflhaggfabnaaGreatTyx
namespace Go.Proofs.YtnpflhaggfabnaaGreat
set_option linter.unusedVariables false
set_option linter.unusedSimpArgs false
open Go.ChangeShapes Go.WideShapes Go.ChangeAt Go.RowKit
theorem bs_FlatR_31_0_  (w : World) : (Instr.buildSlice 31 0 #[]).run Tryz.prog w = .ok (.slice (some ⟨w.heap.size, 0, none⟩) 0 0) (w.alloc (.cells #[] 3)) := by kernel_rfl
theorem bs_FlatR_31_1_0 (x0 : Int) (w : World) : (Instr.buildSlice 31 1 #[(0, (.int .i64 x0))]).run Tryz.prog w = .ok (.slice (some ⟨w.heap.size, 0, none⟩) 1 1) (w.alloc (.cells #[(.int .i64 x0)] 3)) := by kernel_rfl
theorem bs_FlatR_31_2_0_1 (x0 : Int) (x1 : Int) (w : World) : (Instr.buildSlice 31 2 #[(0, (.int .i64 x0)), (1, (.int .i64 x1))]).run Tryz.prog w = .ok (.slice (some ⟨w.heap.size, 0, none⟩) 2 2) (w.alloc (.cells #[(.int .i64 x0), (.int .i64 x1)] 3)) := by kernel_rfl
theorem bu_FlatR_58_  (w : World) : (Instr.build 58 #[]).run Tryz.prog w = .ok (.agg #[(.int .i64 0), (.int .i64 0), (.int .i64 0), (.int .i64 0), (.int .i64 0), (.int .i64 0), (.int .i64 0), (.int .i64 0), (.int .i64 0), (.int .i64 0), (.int .i64 0), (.int .i64 0), (.int .i64 0), (.int .i64 0), (.slice none 0 0), (.int .i64 0)]) w := by kernel_rfl
set_option maxRecDepth 100000

/-- so many zeros behind -/
def padT (k : Nat) (l : List Int) : List Int := ((l.length : Int) :: l) ++ List.replicate k 0
theorem padT_end {size : Nat} {l : List Int} : padT (size - l.length) l = padL size l := rfl
theorem padT_succ {k : Nat} {l : List Int} : padT k l ++ [0] = padT (k + 1) l := by simp [padT, List.replicate_succ']
theorem padT_len {k : Nat} {l : List Int} : (padT k l).length = l.length + 1 + k := by simp [padT]; omega
set_option maxHeartbeats 4000000 in
theorem padded_any {w : World} {A : Option Addr} {c size : Nat} {l : List Int} (hI : Ints w (.slice A l.length c) l) (hl : l.length ≤ size) (hs : size ≤ 100) :
    Calls Tryz.prog 34 #[.slice A l.length c, .int .i64 size] w fun e w' => ∃ A' c', e = .returned (.slice A' (padL size l).length c') ∧ Wd w NoB [rowI A' c' (padL size l)] w' := by
  refine enter Tryz.func34 rfl Tryz.ntmps34 rfl fun a hF => ?_
  have hW := Wd.start w NoB
  refine c_sr <| pv hF hW (y_assign hF rfl) fun a hF => l_nil <| t_n ?_
  have hpl0 := padT_len (k := 0) (l := l)
  refine c_sr <| pv hF hW (y_move hF rfl) fun a hF => pv hF hW (y_len hF rfl Tryz.underlying31) fun a hF => ?_; refine pe (e_buildSlice hF hW rfl (fun w => bs_FlatR_31_1_0 _ w) rfl rfl rfl ?_); intro b1 a wc hF hW; refine pv hF hW (y_move hF rfl) fun a hF => ?_; replace hW := hW.blk_row 0 rfl 1 1 rfl (by decide); refine pe (e_append hF hW 0 rfl rfl rfl Tryz.underlying31 inf_3 rfl (by decide) ((hI.below hW.below).rowAt) (by exact oneCell_ints l) (show _ = (padT 0 l).length by simp [padT]; omega) (show _ = (padT 0 l).map (.int .i64) by simp [padT]) (by first | omega | (simp; omega)) (by unfold maxLen; first | omega | (simp; omega)) rfl rfl ?_); intro A2 c3 a wc hF hW; refine pv hF hW (y_assign hF rfl) fun a hF => l_nil ?_; replace hF := hF.ks [0, 1, 4, 5] rfl; refine t_n <| c_s <| wp_block ?_; refine c_loop (G := Nat × Option Addr × Nat) (fun (gq : Nat × Option Addr × Nat) => match gq with | ⟨k, B, d⟩ => [(5, .slice B (padT k l).length d)]) (fun (gq : Nat × Option Addr × Nat) => match gq with | ⟨k, B, d⟩ => [.row 3 1 (.slice B (padT k l).length d) (padT k l).length ((padT k l).map (.int .i64))]) (fun (gq : Nat × Option Addr × Nat) => match gq with | ⟨k, B, d⟩ => k ≤ size - l.length) (fun (gq : Nat × Option Addr × Nat) => match gq with | ⟨k, B, d⟩ => size - l.length - k) (0, A2, c3) (hF.ks [0, 1, 4] rfl) (Fr.cons hF (t := 5) rfl (by first | rfl | (simp; done)) (Fr.nil hF)) (hW) ?_ ?_
  · omega
  clear hF hW
  try clear a
  intro gq a wc hC hF hW
  obtain ⟨k, B, d⟩ := gq
  dsimp only at hC
  have hkl := hC; have hpl := padT_len (k := k) (l := l); have hpl1 := padT_len (k := k + 1) (l := l)
  refine c_s <| c_sr <| pv hF hW (y_move hF rfl) fun a hF => pv hF hW (y_len hF rfl Tryz.underlying31) fun a hF => pv hF hW (y_move hF rfl) fun a hF => pv hF hW (y_leq hF rfl rfl) fun a hF => ?_; refine Fr.splitD hF ?_ ?_
  · intro h4 hF; refine l_nil ?_; replace hF := hF.ks [0, 1, 4, 5, 14] rfl; refine t_n <| c_t hF rfl <| wp_skip <| t_n <| wp_block <| c_r <| pv hF hW (y_move hF rfl) fun a hF => ?_; refine pe (e_buildSlice hF hW rfl (fun w => bs_FlatR_31_1_0 _ w) rfl rfl rfl ?_); intro b5 a wc hF hW; refine pe (e_append hF hW 1 rfl rfl rfl Tryz.underlying31 inf_3 rfl (by decide) (rowAt_blk (hW.blk 0 rfl) 1 1 rfl) (by simp [Value.oneCell']) (show _ = (padT (k + 1) l).length by simp [padT]; omega) (show _ = (padT (k + 1) l).map (.int .i64) by rw [← padT_succ]; simp) (by first | omega | (simp; omega)) (by unfold maxLen; first | omega | (simp; omega)) rfl rfl ?_); intro A6 c7 a wc hF hW; replace hF := hF.drop 5; refine pv hF hW (y_assign hF rfl) fun a hF => l_nil ?_; replace hF := hF.ks [0, 1, 4, 5, 14] rfl; refine b_n ?_; replace hW := hW.del 0 rfl; refine t_n ?_; refine ⟨(k + 1, A6, c7), ?_, ?_, ?_, ?_⟩
    · omega
    · first | omega | (dsimp only; omega)
    · exact Fr.app (Fr.cons hF (t := 5) rfl (by first | rfl | (simp; done) | omega) (Fr.nil hF)) (hF.ks [0, 1, 4] rfl)
    · exact hW
  · intro h4 hF; refine l_nil ?_; replace hF := hF.ks [0, 1, 4, 5, 14] rfl; refine t_n <| c_f hF rfl <| wp_exit <| t_x <| t_x <| b_h <| t_n <| c_sr <| pv hF hW (y_move hF rfl) fun a hF => ?_; replace hF := hF.drop 4; refine pv hF hW (y_assign hF rfl) fun a hF => l_nil ?_; replace hF := hF.ks [0, 1, 4, 5, 14] rfl; refine t_n <| wp_ret <| ret1 Tryz.results34 hF (rv_t hF rfl) ?_
    replace hW : Wd w NoB [rowI B d (padT k l)] wc := hW
    rw [show k = size - l.length by omega, padT_end] at hW ⊢
    exact ⟨_, _, rfl, hW⟩
theorem reg4_at (x : Value) (r0 r1 r2 r3 : Int) (l : List Value) {k : Nat} (hk : k < 4) : (x :: .int .i64 r0 :: .int .i64 r1 :: .int .i64 r2 :: .int .i64 r3 :: l)[0 + 1 + k * 1]? = some (.int .i64 ([r0, r1, r2, r3].getD k 0)) := by
  match k, hk with
  | 0, _ => rfl
  | 1, _ => rfl
  | 2, _ => rfl
  | 3, _ => rfl
theorem mem8_at (x r0 r1 r2 r3 : Value) (m0 m1 m2 m3 m4 m5 m6 m7 : Int) (l : List Value) {k : Nat} (hk : k < 8) : (x :: r0 :: r1 :: r2 :: r3 :: .int .i64 m0 :: .int .i64 m1 :: .int .i64 m2 :: .int .i64 m3 :: .int .i64 m4 :: .int .i64 m5 :: .int .i64 m6 :: .int .i64 m7 :: l)[0 + 5 + k * 1]? = some (.int .i64 ([m0, m1, m2, m3, m4, m5, m6, m7].getD k 0)) := by
  match k, hk with
  | 0, _ => rfl
  | 1, _ => rfl
  | 2, _ => rfl
  | 3, _ => rfl
  | 4, _ => rfl
  | 5, _ => rfl
  | 6, _ => rfl
  | 7, _ => rfl
theorem take_getD {l : List Int} {k : Nat} (hk : k < l.length) : l.take (k + 1) = l.take k ++ [l.getD k 0] := by
  rw [List.take_add_one, List.getElem?_eq_getElem hk]
  simp [List.getD, hk]
set_option maxHeartbeats 8000000 in
theorem cellRow_any {w : World} {at_ r0 r1 r2 r3 m0 m1 m2 m3 m4 m5 m6 m7 rd en : Int} {out : List Int} {qa : Option Addr} {qk : Nat} (hI : Ints w (.slice qa out.length qk) out) (ho : out.length ≤ 16) :
    Calls Tryz.prog 33 #[.agg #[.int .i64 at_, .int .i64 r0, .int .i64 r1, .int .i64 r2, .int .i64 r3, .int .i64 m0, .int .i64 m1, .int .i64 m2, .int .i64 m3, .int .i64 m4, .int .i64 m5, .int .i64 m6, .int .i64 m7, .int .i64 rd, .slice qa out.length qk, .int .i64 en]] w fun e w' =>
      ∃ A' c', e = .returned (.slice A' (cellRowL ⟨at_, [r0, r1, r2, r3], [m0, m1, m2, m3, m4, m5, m6, m7], rd, out, en⟩).length c') ∧ Wd w NoB [rowI A' c' (cellRowL ⟨at_, [r0, r1, r2, r3], [m0, m1, m2, m3, m4, m5, m6, m7], rd, out, en⟩)] w' := by
  have hpl := padL_len ho
  refine enter Tryz.func33 rfl Tryz.ntmps33 rfl fun a hF => ?_
  have hW := Wd.start w NoB
  refine c_sr ?_; refine pe (e_box hF hW rfl rfl rfl rfl ?_); intro b1 a wc hF hW; refine pv hF hW (y_assign hF rfl) fun a hF => l_nil <| t_n <| c_sr <| pv hF hW (y_fieldOwn hF rfl fa_58_0) fun a hF => pv hF hW (y_loadOwn hF rfl 0 rfl rfl Tryz.underlying3 rfl) fun a hF => ?_; refine pe (e_buildSlice hF hW rfl (fun w => bs_FlatR_31_1_0 _ w) rfl rfl rfl ?_); intro b2 a wc hF hW; refine pv hF hW (y_assign hF rfl) fun a hF => l_nil ?_; replace hF := hF.ks [0, 1, 2, 3] rfl; refine t_n <| c_s ?_; replace hW := hW.blk_row 0 rfl 1 1 rfl (by decide); refine c_sr <| pv hF hW (y_assign hF rfl) fun a hF => l_nil <| t_n <| wp_block ?_; refine c_loop (G := Nat × List Int × Option Addr × Nat) (fun (gq : Nat × List Int × Option Addr × Nat) => match gq with | ⟨k, F, B, d⟩ => [(4, .int .i64 (k : Int)), (3, .slice B F.length d)]) (fun (gq : Nat × List Int × Option Addr × Nat) => match gq with | ⟨k, F, B, d⟩ => [rowI B d F]) (fun (gq : Nat × List Int × Option Addr × Nat) => match gq with | ⟨k, F, B, d⟩ => k ≤ 4 ∧ F = at_ :: [r0, r1, r2, r3].take k) (fun (gq : Nat × List Int × Option Addr × Nat) => match gq with | ⟨k, F, B, d⟩ => 4 - k) (0, [at_], some ⟨b2, 0, none⟩, 1) (hF.ks [0, 1, 2] rfl) (Fr.cons hF (t := 4) rfl (by first | rfl | (simp; done)) (Fr.cons hF (t := 3) rfl (by first | rfl | (simp; done)) (Fr.nil hF))) (hW) ?_ ?_
  · exact ⟨by omega, rfl⟩
  clear hF hW
  try clear a
  intro gq a wc hC hF hW
  obtain ⟨k, F, B, d⟩ := gq
  dsimp only at hC
  obtain ⟨hk, hF0⟩ := hC
  refine c_s <| c_sr <| pv hF hW (y_move hF rfl) fun a hF => pv hF hW (y_lss hF rfl rfl) fun a hF => ?_; refine Fr.splitD hF ?_ ?_
  · intro h3 hF; refine l_nil ?_; replace hF := hF.ks [0, 1, 2, 3, 4, 10] rfl; refine t_n <| c_t hF rfl <| wp_skip <| t_n <| c_s <| wp_block ?_
    have hk4 : k < 4 := (by omega)
    have hFl : F.length = k + 1 := (by rw [hF0, List.length_cons, List.length_take]; simp only [List.length_cons, List.length_nil]; omega)
    refine c_r <| pv hF hW (y_move hF rfl) fun a hF => pv hF hW (y_move hF rfl) fun a hF => pv hF hW (y_fieldOwn hF rfl fa_58_1) fun a hF => pv hF hW (y_indexA hF rfl rfl (by exact hk4) Tryz.underlying55 sz_3) fun a hF => pv hF hW (y_loadOwn hF rfl 1 rfl (reg4_at _ r0 r1 r2 r3 _ hk4) Tryz.underlying3 rfl) fun a hF => ?_; refine pe (e_buildSlice hF hW rfl (fun w => bs_FlatR_31_1_0 _ w) rfl rfl rfl ?_); intro b4 a wc hF hW; refine pe (e_append hF hW 1 rfl rfl rfl Tryz.underlying31 inf_3 rfl (by decide) (rowAt_blk (hW.blk 0 rfl) 1 1 rfl) (by simp [Value.oneCell']) (show _ = (F ++ [[r0, r1, r2, r3].getD k 0]).length by simp) (show _ = (F ++ [[r0, r1, r2, r3].getD k 0]).map (.int .i64) by simp) (by first | omega | (simp; omega)) (by unfold maxLen; first | omega | (simp; omega)) rfl rfl ?_); intro A5 c6 a wc hF hW; replace hF := hF.drop 3; refine pv hF hW (y_assign hF rfl) fun a hF => l_nil ?_; replace hF := hF.ks [0, 1, 2, 3, 4, 10] rfl; refine b_n <| t_n <| c_r <| pv hF hW (y_move hF rfl) fun a hF => pv hF hW (y_add hF rfl rfl (IntWalk.i64_in _ (by omega))) fun a hF => ?_; replace hF := hF.drop 4; refine pv hF hW (y_assign hF rfl) fun a hF => l_nil ?_; replace hF := hF.ks [0, 1, 2, 3, 4, 10] rfl; replace hW := hW.del 0 rfl; refine t_n ?_; refine ⟨(k + 1, F ++ [[r0, r1, r2, r3].getD k 0], A5, c6), ?_, ?_, ?_, ?_⟩
    · exact ⟨by omega, by rw [hF0, take_getD (by simpa using hk4)]; rfl⟩
    · first | omega | (dsimp only; omega)
    · exact Fr.app (Fr.cons hF (t := 4) rfl (by first | rfl | (simp; done) | omega) (Fr.cons hF (t := 3) rfl (by first | rfl | (simp; done) | omega) (Fr.nil hF))) (hF.ks [0, 1, 2] rfl)
    · exact hW
  · intro h3 hF; refine l_nil ?_; replace hF := hF.ks [0, 1, 2, 3, 4, 10] rfl; refine t_n <| c_f hF rfl <| wp_exit <| t_x <| t_x <| b_h <| t_n <| c_s ?_
    have hF1 : F = [at_, r0, r1, r2, r3] := (by rw [hF0, show k = 4 by omega]; rfl)
    refine c_sr <| pv hF hW (y_assign hF rfl) fun a hF => l_nil <| t_n <| wp_block ?_; refine c_loop (G := Nat × List Int × Option Addr × Nat) (fun (gq : Nat × List Int × Option Addr × Nat) => match gq with | ⟨j, H, C, e⟩ => [(5, .int .i64 (j : Int)), (3, .slice C H.length e)]) (fun (gq : Nat × List Int × Option Addr × Nat) => match gq with | ⟨j, H, C, e⟩ => [rowI C e H]) (fun (gq : Nat × List Int × Option Addr × Nat) => match gq with | ⟨j, H, C, e⟩ => j ≤ 8 ∧ H = F ++ [m0, m1, m2, m3, m4, m5, m6, m7].take j) (fun (gq : Nat × List Int × Option Addr × Nat) => match gq with | ⟨j, H, C, e⟩ => 8 - j) (0, F, B, d) (hF.ks [0, 1, 2, 4, 10] rfl) (Fr.cons hF (t := 5) rfl (by first | rfl | (simp; done)) (Fr.cons hF (t := 3) rfl (by first | rfl | (simp; done)) (Fr.nil hF))) (hW) ?_ ?_
    · exact ⟨by omega, by simp⟩
    clear hF hW
    try clear a
    intro gq a wc hC hF hW
    obtain ⟨j, H, C, e⟩ := gq
    dsimp only at hC
    obtain ⟨hj, hH0⟩ := hC
    refine c_s <| c_sr <| pv hF hW (y_move hF rfl) fun a hF => pv hF hW (y_lss hF rfl rfl) fun a hF => ?_; refine Fr.splitD hF ?_ ?_
    · intro h7 hF; refine l_nil ?_; replace hF := hF.ks [0, 1, 2, 3, 4, 5, 10, 21] rfl; refine t_n <| c_t hF rfl <| wp_skip <| t_n <| c_s <| wp_block ?_
      have hj8 : j < 8 := (by omega)
      have hHl : H.length = 5 + j := (by rw [hH0, hF1, List.length_append, List.length_take]; simp only [List.length_cons, List.length_nil]; omega)
      refine c_r <| pv hF hW (y_move hF rfl) fun a hF => pv hF hW (y_move hF rfl) fun a hF => pv hF hW (y_fieldOwn hF rfl fa_58_2) fun a hF => pv hF hW (y_indexA hF rfl rfl (by exact hj8) Tryz.underlying56 sz_3) fun a hF => pv hF hW (y_loadOwn hF rfl 1 rfl (mem8_at _ _ _ _ _ m0 m1 m2 m3 m4 m5 m6 m7 _ hj8) Tryz.underlying3 rfl) fun a hF => ?_; refine pe (e_buildSlice hF hW rfl (fun w => bs_FlatR_31_1_0 _ w) rfl rfl rfl ?_); intro b8 a wc hF hW; refine pe (e_append hF hW 1 rfl rfl rfl Tryz.underlying31 inf_3 rfl (by decide) (rowAt_blk (hW.blk 0 rfl) 1 1 rfl) (by simp [Value.oneCell']) (show _ = (H ++ [[m0, m1, m2, m3, m4, m5, m6, m7].getD j 0]).length by simp) (show _ = (H ++ [[m0, m1, m2, m3, m4, m5, m6, m7].getD j 0]).map (.int .i64) by simp) (by first | omega | (simp; omega)) (by unfold maxLen; first | omega | (simp; omega)) rfl rfl ?_); intro A9 c10 a wc hF hW; replace hF := hF.drop 3; refine pv hF hW (y_assign hF rfl) fun a hF => l_nil ?_; replace hF := hF.ks [0, 1, 2, 3, 4, 5, 10, 21] rfl; refine b_n <| t_n <| c_r <| pv hF hW (y_move hF rfl) fun a hF => pv hF hW (y_add hF rfl rfl (IntWalk.i64_in _ (by omega))) fun a hF => ?_; replace hF := hF.drop 5; refine pv hF hW (y_assign hF rfl) fun a hF => l_nil ?_; replace hF := hF.ks [0, 1, 2, 3, 4, 5, 10, 21] rfl; replace hW := hW.del 0 rfl; refine t_n ?_; refine ⟨(j + 1, H ++ [[m0, m1, m2, m3, m4, m5, m6, m7].getD j 0], A9, c10), ?_, ?_, ?_, ?_⟩
      · exact ⟨by omega, by rw [hH0, take_getD (by simpa using hj8), List.append_assoc]⟩
      · first | omega | (dsimp only; omega)
      · exact Fr.app (Fr.cons hF (t := 5) rfl (by first | rfl | (simp; done) | omega) (Fr.cons hF (t := 3) rfl (by first | rfl | (simp; done) | omega) (Fr.nil hF))) (hF.ks [0, 1, 2, 4, 10] rfl)
      · exact hW
    · intro h7 hF; refine l_nil ?_; replace hF := hF.ks [0, 1, 2, 3, 4, 5, 10, 21] rfl; refine t_n <| c_f hF rfl <| wp_exit <| t_x <| t_x <| b_h <| t_n ?_
      have hH1 : H = [at_, r0, r1, r2, r3, m0, m1, m2, m3, m4, m5, m6, m7] := (by rw [hH0, hF1, show j = 8 by omega]; rfl)
      have hHl : H.length = 13 := (by rw [hH1]; rfl)
      refine c_sr <| pv hF hW (y_move hF rfl) fun a hF => pv hF hW (y_fieldOwn hF rfl fa_58_3) fun a hF => pv hF hW (y_loadOwn hF rfl 1 rfl rfl Tryz.underlying3 rfl) fun a hF => pv hF hW (y_fieldOwn hF rfl fa_58_5) fun a hF => pv hF hW (y_loadOwn hF rfl 1 rfl rfl Tryz.underlying3 rfl) fun a hF => ?_; refine pe (e_buildSlice hF hW rfl (fun w => bs_FlatR_31_2_0_1 _ _ w) rfl rfl rfl ?_); intro b11 a wc hF hW; refine pe (e_append hF hW 1 rfl rfl rfl Tryz.underlying31 inf_3 rfl (by decide) (rowAt_blk (hW.blk 0 rfl) 1 2 rfl) (by simp [Value.oneCell']) (show _ = (H ++ [rd, en]).length by simp) (show _ = (H ++ [rd, en]).map (.int .i64) by simp) (by first | omega | (simp; omega)) (by unfold maxLen; first | omega | (simp; omega)) rfl rfl ?_); intro A12 c13 a wc hF hW; replace hF := hF.drop 3; refine pv hF hW (y_assign hF rfl) fun a hF => l_nil ?_; replace hF := hF.ks [0, 1, 2, 3, 4, 5, 10, 21] rfl; refine t_n <| c_sr <| pv hF hW (y_move hF rfl) fun a hF => pv hF hW (y_fieldOwn hF rfl fa_58_4) fun a hF => pv hF hW (y_loadOwn hF rfl 2 rfl rfl Tryz.underlying31 rfl) fun a hF => ?_; refine pe (e_call hF rfl rfl en_34 (by rfl) rfl rfl (padded_any (hI.below hW.below) ho (by decide)) ?_); rintro e w1 ⟨A3, c3, rfl, hN⟩; replace hW := hW.comb1 hN; refine ⟨_, rfl, fun a hF => ?_⟩; refine pe (e_append hF hW 2 rfl rfl rfl Tryz.underlying31 inf_3 rfl (by decide) (RowAt.of_own (hW.row 0 rfl)) (by exact oneCell_ints _) (show _ = ((H ++ [rd, en]) ++ padL 16 out).length by simp; omega) (show _ = ((H ++ [rd, en]) ++ padL 16 out).map (.int .i64) by simp) (by first | omega | (simp; omega)) (by unfold maxLen; first | omega | (simp; omega)) rfl rfl ?_); intro A14 c15 a wc hF hW; replace hF := hF.drop 2; refine pv hF hW (y_assign hF rfl) fun a hF => l_nil ?_; replace hF := hF.ks [0, 1, 2, 3, 4, 5, 10, 21] rfl; refine t_n <| wp_ret <| ret1 Tryz.results33 hF (rv_t hF rfl) ?_; replace hW := hW.del 0 rfl; replace hW := hW.del 0 rfl; replace hW := hW.del 1 rfl
      have hE : (H ++ [rd, en]) ++ padL 16 out = cellRowL ⟨at_, [r0, r1, r2, r3], [m0, m1, m2, m3, m4, m5, m6, m7], rd, out, en⟩ := (by rw [hH1]; rfl)
      rw [hE] at hW ⊢
      exact ⟨_, _, rfl, hW⟩
theorem cellSize_any (w : World) : Calls Tryz.prog 41 #[] w fun e w' => e = .returned (.int .i64 32) ∧ Below w.heap.size w w' := by
  refine enter Tryz.func41 rfl Tryz.ntmps41 rfl fun a hF => ?_
  have hW := Wd.start w NoB
  refine c_sr <| pv hF hW (y_assign hF rfl) fun a hF => l_nil <| t_n <| c_sr <| pv hF hW (y_build hF rfl (fun w => bu_FlatR_58_  w)) fun a hF => ?_; refine pe (e_call hF rfl rfl en_33 (by rfl) rfl rfl (cellRow_any (out := []) Ints.nil_ (by decide)) ?_); rintro e w1 ⟨A3, c3, rfl, hN⟩; replace hW := hW.comb1 hN; refine ⟨_, rfl, fun a hF => ?_⟩; refine pv hF hW (y_len hF rfl Tryz.underlying31) fun a hF => ?_; replace hF := hF.drop 0; refine pv hF hW (y_assign hF rfl) fun a hF => l_nil ?_; replace hF := hF.ks [0] rfl; refine t_n <| wp_ret <| ret1 Tryz.results41 hF (rv_t hF rfl) ?_
  exact ⟨rfl, hW.below⟩
theorem lineSize_any (w : World) : Calls Tryz.prog 42 #[] w fun e w' => e = .returned (.int .i64 4) ∧ Below w.heap.size w w' := by
  refine enter Tryz.func42 rfl Tryz.ntmps42 rfl fun a hF => ?_
  have hW := Wd.start w NoB
  refine c_sr <| pv hF hW (y_assign hF rfl) fun a hF => l_nil <| t_n <| c_sr ?_; replace hF := hF.drop 0; refine pv hF hW (y_assign hF rfl) fun a hF => l_nil <| t_n <| wp_ret <| ret1 Tryz.results42 hF (rv_t hF rfl) ?_
  exact ⟨rfl, hW.below⟩
theorem ints_cut {u : World} {A : Option Addr} {c p n : Nat} {l : List Int} (h : Ints u (.slice A l.length c) l) (hk : p + n ≤ l.length) : RowAt u 1 (if c = p then A else A.map (·.add (p * 1))) (p + n - p) (((l.drop p).take n).map (.int .i64)) := by
  have hl := h.len
  have hr := h.rowAt
  refine ⟨by rw [List.length_map, List.length_take, List.length_drop]; omega, fun h0 => ?_⟩
  obtain ⟨ad, rfl, hc⟩ := hr.2 (by omega)
  rw [if_neg (by omega)]
  refine ⟨_, rfl, fun j v hv => ?_⟩
  rw [List.map_take, List.getElem?_take] at hv
  split at hv
  · have h2 := hc (p + j) v (by rw [List.map_drop, List.getElem?_drop] at hv; exact hv)
    rw [Nat.mul_one, Addr.add_add]
    exact h2
  · cases hv
set_option maxHeartbeats 4000000 in
theorem listAt_any {w : World} {A : Option Addr} {c p size : Nat} {l : List Int} (hI : Ints w (.slice A l.length c) l) (hp : p + 1 + size ≤ l.length) (hs : size ≤ 16) (hl : l.length ≤ 1000) :
    Calls Tryz.prog 43 #[.slice A l.length c, .int .i64 p, .int .i64 size] w fun e w' => ∃ A' c', e = .returned (.slice A' (listAtL (l.drop p) size).length c') ∧ Wd w NoB [rowI A' c' (listAtL (l.drop p) size)] w' := by
  have hlc := hI.len
  have hm := listAtL_eq l p size
  refine enter Tryz.func43 rfl Tryz.ntmps43 rfl fun a hF => ?_
  have hW := Wd.start w NoB
  refine c_sr <| pv hF hW (y_assign hF rfl) fun a hF => l_nil <| t_n <| c_sr <| pv hF hW (y_move hF rfl) fun a hF => pv hF hW (y_move hF rfl) fun a hF => pv hF hW (y_indexS hF rfl rfl (by omega) Tryz.underlying31 sz_3 (fun w h => (hI.rf).wd h)) fun a hF => pv hF hW (y_loadRow hF rfl (fun w h => (hI.rf).wd h) (by omega) rfl Tryz.underlying3 rfl) fun a hF => pv hF hW (y_assign hF rfl) fun a hF => l_nil ?_; replace hF := hF.ks [0, 1, 2, 6, 7] rfl; refine t_n <| c_s <| c_sr <| pv hF hW (y_move hF rfl) fun a hF => pv hF hW (y_move hF rfl) fun a hF => ?_; refine pe (e_call hF rfl rfl en_30 (by rfl) rfl rfl (withinD_any _ _ _ _) ?_); rintro e w1 ⟨rfl, hb⟩; replace hW := hW.kept hb; clear hb; refine ⟨_, rfl, fun a hF => ?_⟩; refine pv hF hW (y_not hF rfl) fun a hF => ?_; replace hF := Fr.cast (v' := .bool (decide (¬ (0 ≤ l.getD p 0 ∧ l.getD p 0 ≤ size)))) (by exact congrArg Value.bool decide_not.symm) hF; refine Fr.splitD hF ?_ ?_
  · intro h1 hF; refine l_nil ?_; replace hF := hF.ks [0, 1, 2, 6, 7, 15] rfl; refine t_n <| c_t hF rfl <| c_sr ?_; replace hF := hF.drop 6; refine pv hF hW (y_assign hF rfl) fun a hF => l_nil <| t_n <| wp_ret <| t_r <| ret1 Tryz.results43 hF (rv_t hF rfl) ?_; replace hW := hW.nil_row 3 1
    rw [hm, if_neg (by omega)]
    exact ⟨none, 0, rfl, hW⟩
  · intro h1 hF; refine l_nil ?_; replace hF := hF.ks [0, 1, 2, 6, 7, 15] rfl; refine t_n <| c_f hF rfl <| wp_skip <| t_n ?_
    have hn0 : 0 ≤ l.getD p 0 ∧ l.getD p 0 ≤ size := (by omega)
    obtain ⟨n, hn⟩ : ∃ n : Nat, l.getD p 0 = n := ⟨(l.getD p 0).toNat, by omega⟩
    rw [if_pos hn0, hn, Int.toNat_natCast] at hm
    refine c_sr ?_; refine pe (e_buildSlice hF hW rfl (fun w => bs_FlatR_31_0_  w) rfl rfl rfl ?_); intro b2 a wc hF hW; refine pv hF hW (y_move hF rfl) fun a hF => pv hF hW (y_move hF rfl) fun a hF => pv hF hW (y_add hF rfl rfl (IntWalk.i64_in _ (by omega))) fun a hF => ?_; replace hF := Fr.cast (v' := .int .i64 ((p + 1 : Nat) : Int)) (by congr 1) hF; refine pv hF hW (y_move hF rfl) fun a hF => pv hF hW (y_add hF rfl rfl (IntWalk.i64_in _ (by omega))) fun a hF => ?_; replace hF := Fr.cast (v' := .int .i64 ((p + 1 : Nat) : Int)) (by congr 1) hF; refine pv hF hW (y_move hF rfl) fun a hF => pv hF hW (y_add hF rfl rfl (IntWalk.i64_in _ (by omega))) fun a hF => ?_; replace hF := Fr.cast (v' := .int .i64 ((p + 1 + n : Nat) : Int)) (by congr 1; omega) hF; refine pv hF hW (y_sliceLH hF rfl rfl rfl (by omega) (by omega) Tryz.underlying31 sz_3) fun a hF => ?_; replace hW := hW.blk_row 0 rfl 1 0 rfl (by simp); refine pe (e_append hF hW 0 rfl rfl rfl Tryz.underlying31 inf_3 rfl (by decide) (ints_cut (p := p + 1) (n := n) (hI.below hW.below) (by omega)) (by exact oneCell_ints _) (show _ = ((l.drop (p + 1)).take n).length by rw [List.length_take, List.length_drop]; omega) (show _ = ((l.drop (p + 1)).take n).map (.int .i64) by simp) (by first | omega | (simp; omega)) (by unfold maxLen; first | omega | (simp; omega)) rfl rfl ?_); intro A3 c4 a wc hF hW; replace hF := hF.drop 6; refine pv hF hW (y_assign hF rfl) fun a hF => l_nil ?_; replace hF := hF.ks [0, 1, 2, 6, 7, 15] rfl; refine t_n <| wp_ret <| ret1 Tryz.results43 hF (rv_t hF rfl) ?_
    rw [hm]
    exact ⟨_, _, rfl, hW⟩
set_option maxHeartbeats 8000000 in
theorem rowOf_any {y : WD} {w : World} (hy : y.At w) (hcn : y.cells.length ≤ 4) (hln : y.lines.length ≤ 6) (hco : ∀ q, q ∈ y.cells → q.c.out.length ≤ 16) (hlv : ∀ q, q ∈ y.lines → q.vals.length ≤ 3) :
    Calls Tryz.prog 8 #[y.val] w fun e w' => ∃ A c, e = .returned (.slice A (rowL y.wrl).length c) ∧ Wd w NoB [rowI A c (rowL y.wrl)] w' := by
  have hrow : rowL y.wrl = y.tick :: (((y.cells.map CD.c).take y.cells.length).flatMap cellRowL ++ ((y.lines.map LD.vals).take y.lines.length).flatMap (padL 3)) := by rw [List.take_of_length_le (by simp), List.take_of_length_le (by simp)]; rfl
  have hclen : ∀ k, k ≤ y.cells.length → (((y.cells.map CD.c).take k).flatMap cellRowL).length ≤ 128 := fun k hkl => by
    rw [rows_len (n := 32) _ fun c hc => by obtain ⟨q, hq, rfl⟩ := List.mem_map.1 (List.mem_of_mem_take hc); exact cellRowL_len q.wf (hco q hq), List.length_take, List.length_map]
    omega
  have hllen : ∀ k, k ≤ y.lines.length → (((y.lines.map LD.vals).take k).flatMap (padL 3)).length ≤ 24 := fun k hkl => by
    rw [rows_len (n := 4) _ fun c hc => by obtain ⟨q, hq, rfl⟩ := List.mem_map.1 (List.mem_of_mem_take hc); exact padL_len (hlv q hq), List.length_take, List.length_map]
    omega
  rw [y.val_eq] at *
  refine enter Tryz.func8 rfl Tryz.ntmps8 rfl fun a hF => ?_
  have hW := Wd.start w NoB
  refine c_sr ?_; refine pe (e_box hF hW rfl rfl rfl rfl ?_); intro b1 a wc hF hW; refine pv hF hW (y_assign hF rfl) fun a hF => l_nil <| t_n <| c_sr <| pv hF hW (y_fieldOwn hF rfl fa_30_0) fun a hF => pv hF hW (y_loadOwn hF rfl 0 rfl rfl Tryz.underlying3 rfl) fun a hF => ?_; refine pe (e_buildSlice hF hW rfl (fun w => bs_FlatR_31_1_0 _ w) rfl rfl rfl ?_); intro b2 a wc hF hW; refine pv hF hW (y_assign hF rfl) fun a hF => l_nil ?_; replace hF := hF.ks [0, 1, 2, 3] rfl; refine t_n <| c_s ?_; replace hW := hW.blk_row 0 rfl 1 1 rfl (by decide); refine c_sr <| pv hF hW (y_assign hF rfl) fun a hF => l_nil <| t_n <| wp_block ?_; refine c_loop (G := Nat × List Int × Option Addr × Nat) (fun (gq : Nat × List Int × Option Addr × Nat) => match gq with | ⟨k, F, A, c⟩ => [(4, .int .i64 (k : Int)), (3, .slice A F.length c)]) (fun (gq : Nat × List Int × Option Addr × Nat) => match gq with | ⟨k, F, A, c⟩ => [rowI A c F]) (fun (gq : Nat × List Int × Option Addr × Nat) => match gq with | ⟨k, F, A, c⟩ => k ≤ y.cells.length ∧ F = y.tick :: ((y.cells.map CD.c).take k).flatMap cellRowL) (fun (gq : Nat × List Int × Option Addr × Nat) => match gq with | ⟨k, F, A, c⟩ => y.cells.length - k) (0, [y.tick], some ⟨b2, 0, none⟩, 1) (hF.ks [0, 1, 2] rfl) (Fr.cons hF (t := 4) rfl (by first | rfl | (simp; done)) (Fr.cons hF (t := 3) rfl (by first | rfl | (simp; done)) (Fr.nil hF))) (hW) ?_ ?_
  · exact ⟨by omega, rfl⟩
  clear hF hW
  try clear a
  intro gq a wc hC hF hW
  obtain ⟨k, F, A, c⟩ := gq
  dsimp only at hC
  obtain ⟨hkl, hF0⟩ := hC
  refine c_s <| c_sr <| pv hF hW (y_move hF rfl) fun a hF => pv hF hW (y_fieldOwn hF rfl fa_30_1) fun a hF => pv hF hW (y_loadOwn hF rfl 1 rfl rfl Tryz.underlying27 rfl) fun a hF => pv hF hW (y_len hF rfl Tryz.underlying27) fun a hF => pv hF hW (y_lss hF rfl rfl) fun a hF => ?_; refine Fr.splitD hF ?_ ?_
  · intro h3 hF; refine l_nil ?_; replace hF := hF.ks [0, 1, 2, 3, 4, 13] rfl; refine t_n <| c_t hF rfl <| wp_skip <| t_n <| c_s <| wp_block ?_
    have hk1 : k < y.cells.length := (by omega)
    obtain ⟨q, hq⟩ : ∃ p, y.cells.getD k CD0 = p := ⟨_, rfl⟩
    have hqm : q ∈ y.cells := (by rw [← hq]; exact mem_getD CD0 hk1)
    have hqA := hy.eachC q hqm
    have hqo := hco q hqm
    have hFl := hclen k (by omega)
    have hFl2 : F.length = (((y.cells.map CD.c).take k).flatMap cellRowL).length + 1 := (by rw [hF0, List.length_cons])
    have hcr := cellRowL_len q.wf hqo
    obtain ⟨⟨at_, rg, mm, rd, out, en⟩, wf, qa, qk⟩ := q
    obtain ⟨r0, r1, r2, r3, hrr⟩ := len_four wf.1
    obtain ⟨m0, m1, m2, m3, m4, m5, m6, m7, hmm⟩ := len_eight wf.2
    dsimp only at hrr hmm hqo hcr
    subst hrr hmm; refine c_r <| pv hF hW (y_move hF rfl) fun a hF => pv hF hW (y_fieldOwn hF rfl fa_30_1) fun a hF => pv hF hW (y_loadOwn hF rfl 1 rfl rfl Tryz.underlying27 rfl) fun a hF => pv hF hW (y_move hF rfl) fun a hF => pv hF hW (y_indexS hF rfl rfl (by exact hk1) Tryz.underlying27 sz_58 (fun w h => (hy.cellsR).wd h)) fun a hF => pv hF hW (y_loadRowW hF rfl (fun w h => (hy.cellsR).wd h) (by exact hk1) Tryz.underlying58 rfl (by rw [hq]; exact sz_58)) fun a hF => ?_; replace hF := Fr.cast (v' := .agg #[.int .i64 at_, .int .i64 r0, .int .i64 r1, .int .i64 r2, .int .i64 r3, .int .i64 m0, .int .i64 m1, .int .i64 m2, .int .i64 m3, .int .i64 m4, .int .i64 m5, .int .i64 m6, .int .i64 m7, .int .i64 rd, .slice qa out.length qk, .int .i64 en]) (by rw [hq]; rfl) hF; refine pe (e_call hF rfl rfl en_33 (by rfl) rfl rfl (cellRow_any (Ints.below (show Ints w (.slice qa out.length qk) out from hqA) hW.below) hqo) ?_); rintro e w1 ⟨A3, c3, rfl, hN⟩; replace hW := hW.comb1 hN; refine ⟨_, rfl, fun a hF => ?_⟩; refine pe (e_append hF hW 1 rfl rfl rfl Tryz.underlying31 inf_3 rfl (by decide) (RowAt.of_own (hW.row 0 rfl)) (by exact oneCell_ints _) (show _ = (F ++ cellRowL ⟨at_, [r0, r1, r2, r3], [m0, m1, m2, m3, m4, m5, m6, m7], rd, out, en⟩).length by simp) (show _ = (F ++ cellRowL ⟨at_, [r0, r1, r2, r3], [m0, m1, m2, m3, m4, m5, m6, m7], rd, out, en⟩).map (.int .i64) by simp) (by first | omega | (simp; omega)) (by unfold maxLen; first | omega | (simp; omega)) rfl rfl ?_); intro A4 c5 a wc hF hW; replace hF := hF.drop 3; refine pv hF hW (y_assign hF rfl) fun a hF => l_nil ?_; replace hF := hF.ks [0, 1, 2, 3, 4, 13] rfl; refine b_n <| t_n <| c_r <| pv hF hW (y_move hF rfl) fun a hF => pv hF hW (y_add hF rfl rfl (IntWalk.i64_in _ (by omega))) fun a hF => ?_; replace hF := hF.drop 4; refine pv hF hW (y_assign hF rfl) fun a hF => l_nil ?_; replace hF := hF.ks [0, 1, 2, 3, 4, 13] rfl; replace hW := hW.del 0 rfl; refine t_n ?_; refine ⟨(k + 1, F ++ cellRowL ⟨at_, [r0, r1, r2, r3], [m0, m1, m2, m3, m4, m5, m6, m7], rd, out, en⟩, A4, c5), ?_, ?_, ?_, ?_⟩
    · exact ⟨by omega, by rw [rowTo_cells hk1, hq, hF0]; simp⟩
    · first | omega | (dsimp only; omega)
    · exact Fr.app (Fr.cons hF (t := 4) rfl (by first | rfl | (simp; done) | omega) (Fr.cons hF (t := 3) rfl (by first | rfl | (simp; done) | omega) (Fr.nil hF))) (hF.ks [0, 1, 2] rfl)
    · exact hW
  · intro h3 hF; refine l_nil ?_; replace hF := hF.ks [0, 1, 2, 3, 4, 13] rfl; refine t_n <| c_f hF rfl <| wp_exit <| t_x <| t_x <| b_h <| t_n <| c_s ?_
    have hFl := hclen k (by omega)
    have hFl2 : F.length = (((y.cells.map CD.c).take k).flatMap cellRowL).length + 1 := (by rw [hF0, List.length_cons])
    rw [show k = y.cells.length by omega] at hF0
    refine c_sr <| pv hF hW (y_assign hF rfl) fun a hF => l_nil <| t_n <| wp_block ?_; refine c_loop (G := Nat × List Int × Option Addr × Nat) (fun (gq : Nat × List Int × Option Addr × Nat) => match gq with | ⟨j, H, B, d⟩ => [(5, .int .i64 (j : Int)), (3, .slice B H.length d)]) (fun (gq : Nat × List Int × Option Addr × Nat) => match gq with | ⟨j, H, B, d⟩ => [rowI B d H]) (fun (gq : Nat × List Int × Option Addr × Nat) => match gq with | ⟨j, H, B, d⟩ => j ≤ y.lines.length ∧ H = F ++ ((y.lines.map LD.vals).take j).flatMap (padL 3)) (fun (gq : Nat × List Int × Option Addr × Nat) => match gq with | ⟨j, H, B, d⟩ => y.lines.length - j) (0, F, A, c) (hF.ks [0, 1, 2, 4, 13] rfl) (Fr.cons hF (t := 5) rfl (by first | rfl | (simp; done)) (Fr.cons hF (t := 3) rfl (by first | rfl | (simp; done)) (Fr.nil hF))) (hW) ?_ ?_
    · exact ⟨by omega, by simp⟩
    clear hF hW
    try clear a
    intro gq a wc hC hF hW
    obtain ⟨j, H, B, d⟩ := gq
    dsimp only at hC
    obtain ⟨hjl, hH0⟩ := hC
    refine c_s <| c_sr <| pv hF hW (y_move hF rfl) fun a hF => pv hF hW (y_fieldOwn hF rfl fa_30_2) fun a hF => pv hF hW (y_loadOwn hF rfl 1 rfl rfl Tryz.underlying28 rfl) fun a hF => pv hF hW (y_len hF rfl Tryz.underlying28) fun a hF => pv hF hW (y_lss hF rfl rfl) fun a hF => ?_; refine Fr.splitD hF ?_ ?_
    · intro h6 hF; refine l_nil ?_; replace hF := hF.ks [0, 1, 2, 3, 4, 5, 13, 28] rfl; refine t_n <| c_t hF rfl <| wp_skip <| t_n <| c_s <| wp_block ?_
      have hj1 : j < y.lines.length := (by omega)
      obtain ⟨v, hv⟩ : ∃ p, y.lines.getD j LD0 = p := ⟨_, rfl⟩
      have hvm : v ∈ y.lines := (by rw [← hv]; exact mem_getD LD0 hj1)
      have hvA := hy.eachL v hvm
      have hvo := hlv v hvm
      have hHl := hllen j (by omega)
      have hHl2 : H.length = F.length + (((y.lines.map LD.vals).take j).flatMap (padL 3)).length := (by rw [hH0, List.length_append])
      have hpl := padL_len hvo
      obtain ⟨vs, va, vk⟩ := v
      dsimp only at hvo hpl
      refine c_r <| pv hF hW (y_move hF rfl) fun a hF => pv hF hW (y_fieldOwn hF rfl fa_30_2) fun a hF => pv hF hW (y_loadOwn hF rfl 1 rfl rfl Tryz.underlying28 rfl) fun a hF => pv hF hW (y_move hF rfl) fun a hF => pv hF hW (y_indexS hF rfl rfl (by exact hj1) Tryz.underlying28 sz_60 (fun w h => (hy.linesR).wd h)) fun a hF => pv hF hW (y_fieldRow hF rfl fa_60_0) fun a hF => pv hF hW (y_loadRow hF rfl (fun w h => (hy.linesR).wd h) (by exact hj1) (show _ = some (.slice va vs.length vk) by rw [hv]; rfl) Tryz.underlying31 rfl) fun a hF => ?_; refine pe (e_call hF rfl rfl en_34 (by rfl) rfl rfl (padded_any (Ints.below (show Ints w (.slice va vs.length vk) vs from hvA) hW.below) hvo (by decide)) ?_); rintro e w1 ⟨A4, c4, rfl, hN⟩; replace hW := hW.comb1 hN; refine ⟨_, rfl, fun a hF => ?_⟩; refine pe (e_append hF hW 1 rfl rfl rfl Tryz.underlying31 inf_3 rfl (by decide) (RowAt.of_own (hW.row 0 rfl)) (by exact oneCell_ints _) (show _ = (H ++ padL 3 vs).length by simp) (show _ = (H ++ padL 3 vs).map (.int .i64) by simp) (by first | omega | (simp; omega)) (by unfold maxLen; first | omega | (simp; omega)) rfl rfl ?_); intro A7 c8 a wc hF hW; replace hF := hF.drop 3; refine pv hF hW (y_assign hF rfl) fun a hF => l_nil ?_; replace hF := hF.ks [0, 1, 2, 3, 4, 5, 13, 28] rfl; refine b_n <| t_n <| c_r <| pv hF hW (y_move hF rfl) fun a hF => pv hF hW (y_add hF rfl rfl (IntWalk.i64_in _ (by omega))) fun a hF => ?_; replace hF := hF.drop 5; refine pv hF hW (y_assign hF rfl) fun a hF => l_nil ?_; replace hF := hF.ks [0, 1, 2, 3, 4, 5, 13, 28] rfl; replace hW := hW.del 0 rfl; refine t_n ?_; refine ⟨(j + 1, H ++ padL 3 vs, A7, c8), ?_, ?_, ?_, ?_⟩
      · exact ⟨by omega, by rw [rowTo_lines hj1, hv, hH0, List.append_assoc]⟩
      · first | omega | (dsimp only; omega)
      · exact Fr.app (Fr.cons hF (t := 5) rfl (by first | rfl | (simp; done) | omega) (Fr.cons hF (t := 3) rfl (by first | rfl | (simp; done) | omega) (Fr.nil hF))) (hF.ks [0, 1, 2, 4, 13] rfl)
      · exact hW
    · intro h6 hF; refine l_nil ?_; replace hF := hF.ks [0, 1, 2, 3, 4, 5, 13, 28] rfl; refine t_n <| c_f hF rfl <| wp_exit <| t_x <| t_x <| b_h <| t_n <| c_sr <| pv hF hW (y_move hF rfl) fun a hF => ?_; replace hF := hF.drop 2; refine pv hF hW (y_assign hF rfl) fun a hF => l_nil ?_; replace hF := hF.ks [0, 1, 2, 3, 4, 5, 13, 28] rfl; refine t_n <| wp_ret <| ret1 Tryz.results8 hF (rv_t hF rfl) ?_; replace hW := hW.del 1 rfl
      have hE : H = rowL y.wrl := (by rw [hH0, hF0, show j = y.lines.length by omega, hrow]; simp)
      rw [hE] at hW ⊢
      exact ⟨_, _, rfl, hW⟩
end Go.Proofs.YtnpflhaggfabnaaGreat
