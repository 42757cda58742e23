/- The reference's OwnOf. -/
import Derived.Test.YtnpflhaggfabnaaGreatFlatR
import Derived.Test.YtnpflhaggfabnaaGreatFlatH
import Derived.Test.YtnpflhaggfabnaaGreatTyx
namespace Go.Proofs.YtnpflhaggfabnaaGreat
set_option linter.unusedVariables false
set_option linter.unusedSimpArgs false
open Go.ChangeShapes Go.WideShapes Go.ChangeAt Go.RowKit
theorem bs_FlatO_46_1_0 (x0 : Bool) (w : World) : (Instr.buildSlice 46 1 #[(0, (.bool x0))]).run Tryz.prog w = .ok (.slice (some ⟨w.heap.size, 0, none⟩) 1 1) (w.alloc (.cells #[(.bool x0)] 4)) := by kernel_rfl
set_option maxRecDepth 100000

theorem encB_one (F : List Bool) (b : Bool) : F.flatMap encB ++ [.bool b] = (F ++ [b]).flatMap encB := by rw [List.flatMap_append]; rfl
set_option maxHeartbeats 16000000 in
theorem ownOf_any {x : SysD} {w : World} (hx : x.At w) (p : Int) (hk : chkSys x.sys = 0) : Calls Tryz.prog 17 #[x.val, .int .i64 p] w fun e w' => ∃ A c, e = .returned (.slice A (ownL x.sys p).length c) ∧ Below w.heap.size w w' ∧ OwnRes w w' (fun u => Flat encB 1 u (.slice A (ownL x.sys p).length c) (ownL x.sys p)) := by
  obtain ⟨⟨hq1, hq2⟩, hc6, -⟩ := sizes_get (chkSys_zero hk).1
  have hc7 : x.chans.length ≤ 6 := hc6
  have hq3 : x.parts.length ≤ 4 := by omega
  have hsl : x.sys.parts.length = x.parts.length := by simp [SysD.sys]
  have hown : ownL x.sys p = (true :: (List.range x.parts.length).flatMap (ownC p)) ++ x.chans.flatMap (ownH p) := by unfold ownL; rw [hsl]; rfl
  have hl2 := fun j => own_len2 p (x.chans.take j)
  rw [x.val_eq] at *
  refine enter Tryz.func17 rfl Tryz.ntmps17 rfl fun a hF => ?_
  have hW := Wd.start w NoB
  refine c_sr ?_; refine pe (e_box hF hW rfl rfl rfl rfl ?_); intro b1 a wc hF hW; refine pv hF hW (y_assign hF rfl) fun a hF => l_nil <| t_n <| c_sr ?_; refine pe (e_buildSlice hF hW rfl (fun w => bs_FlatO_46_1_0 _ w) rfl rfl rfl ?_); intro b2 a wc hF hW; refine pv hF hW (y_assign hF rfl) fun a hF => l_nil ?_; replace hF := hF.ks [0, 1, 2, 4, 5] rfl; refine t_n <| c_s ?_; replace hW := hW.blk_row 0 rfl 1 1 rfl (by decide); refine c_sr <| pv hF hW (y_assign hF rfl) fun a hF => l_nil <| t_n <| wp_block ?_; refine c_loop (G := Nat × List Bool × Option Addr × Nat) (fun (gq : Nat × List Bool × Option Addr × Nat) => match gq with | ⟨k, F, A, c⟩ => [(6, .int .i64 (k : Int)), (5, .slice A F.length c)]) (fun (gq : Nat × List Bool × Option Addr × Nat) => match gq with | ⟨k, F, A, c⟩ => [.row 4 1 (.slice A F.length c) F.length (F.flatMap encB)]) (fun (gq : Nat × List Bool × Option Addr × Nat) => match gq with | ⟨k, F, A, c⟩ => k ≤ x.parts.length ∧ F = true :: (List.range k).flatMap (ownC p)) (fun (gq : Nat × List Bool × Option Addr × Nat) => match gq with | ⟨k, F, A, c⟩ => x.parts.length - k) (0, [true], some ⟨b2, 0, none⟩, 1) (hF.ks [0, 1, 2, 4] rfl) (Fr.cons hF (t := 6) rfl (by first | rfl | (simp; done)) (Fr.cons hF (t := 5) rfl (by first | rfl | (simp; done)) (Fr.nil hF))) (hW) ?_ ?_
  · exact ⟨by omega, rfl⟩
  clear hF hW
  try clear a
  intro gq a wc hC hF hW
  obtain ⟨k, F, A, c⟩ := gq
  dsimp only at hC
  obtain ⟨hkl, hF0⟩ := hC
  refine c_s <| c_sr <| pv hF hW (y_move hF rfl) fun a hF => pv hF hW (y_fieldOwn hF rfl fa_26_0) fun a hF => pv hF hW (y_loadOwn hF rfl 1 rfl rfl Tryz.underlying22 rfl) fun a hF => pv hF hW (y_len hF rfl Tryz.underlying22) fun a hF => pv hF hW (y_lss hF rfl rfl) fun a hF => ?_; refine Fr.splitD hF ?_ ?_
  · intro h3 hF; refine l_nil ?_; replace hF := hF.ks [0, 1, 2, 4, 5, 6, 15] rfl; refine t_n <| c_t hF rfl <| wp_skip <| t_n <| c_s <| wp_block ?_
    have hk1 : k < x.parts.length := (by omega)
    have hFl : F.length = k * 32 + 1 := (by rw [hF0, List.length_cons, own_len1])
    refine c_sr <| pv hF hW (y_assign hF rfl) fun a hF => l_nil <| t_n <| wp_block ?_; refine c_loop (G := Nat × List Bool × Option Addr × Nat) (fun (gq : Nat × List Bool × Option Addr × Nat) => match gq with | ⟨j, H, B, d⟩ => [(7, .int .i64 (j : Int)), (5, .slice B H.length d)]) (fun (gq : Nat × List Bool × Option Addr × Nat) => match gq with | ⟨j, H, B, d⟩ => [.row 4 1 (.slice B H.length d) H.length (H.flatMap encB)]) (fun (gq : Nat × List Bool × Option Addr × Nat) => match gq with | ⟨j, H, B, d⟩ => j ≤ 32 ∧ H = F ++ List.replicate j (decide ((k : Int) = p))) (fun (gq : Nat × List Bool × Option Addr × Nat) => match gq with | ⟨j, H, B, d⟩ => 32 - j) (0, F, A, c) (hF.ks [0, 1, 2, 4, 6, 15] rfl) (Fr.cons hF (t := 7) rfl (by first | rfl | (simp; done)) (Fr.cons hF (t := 5) rfl (by first | rfl | (simp; done)) (Fr.nil hF))) (hW) ?_ ?_
    · exact ⟨by omega, by simp⟩
    clear hF hW
    try clear a
    intro gq a wc hC hF hW
    obtain ⟨j, H, B, d⟩ := gq
    dsimp only at hC
    obtain ⟨hjl, hH0⟩ := hC
    refine c_s <| c_sr <| pv hF hW (y_move hF rfl) fun a hF => ?_; refine pe (e_call hF rfl rfl en_41 (by rfl) rfl rfl (cellSize_any _) ?_); rintro e w1 ⟨rfl, hb⟩; replace hW := hW.kept hb; clear hb; refine ⟨_, rfl, fun a hF => ?_⟩; refine pv hF hW (y_lss hF rfl rfl) fun a hF => ?_; refine Fr.splitD hF ?_ ?_
    · intro h4 hF; refine l_nil ?_; replace hF := hF.ks [0, 1, 2, 4, 5, 6, 7, 15, 20] rfl; refine t_n <| c_t hF rfl <| wp_skip <| t_n <| c_s <| wp_block ?_
      have hHl : H.length = F.length + j := (by rw [hH0, List.length_append, List.length_replicate])
      refine c_r <| pv hF hW (y_move hF rfl) fun a hF => pv hF hW (y_move hF rfl) fun a hF => pv hF hW (y_move hF rfl) fun a hF => pv hF hW (y_eql hF rfl rfl) fun a hF => ?_; refine pe (e_buildSlice hF hW rfl (fun w => bs_FlatO_46_1_0 _ w) rfl rfl rfl ?_); intro b5 a wc hF hW; refine pe (e_append hF hW 1 rfl rfl rfl Tryz.underlying46 inf_4 rfl (by decide) (rowAt_blk (hW.blk 0 rfl) 1 1 rfl) (by simp [Value.oneCell']) (show _ = (H ++ [decide ((k : Int) = p)]).length by simp) (show _ = (H ++ [decide ((k : Int) = p)]).flatMap encB by exact encB_one _ _) (by first | omega | (simp; omega)) (by unfold maxLen; first | omega | (simp; omega)) rfl rfl ?_); intro A6 c7 a wc hF hW; replace hF := hF.drop 5; refine pv hF hW (y_assign hF rfl) fun a hF => l_nil ?_; replace hF := hF.ks [0, 1, 2, 4, 5, 6, 7, 15, 20] rfl; refine b_n <| t_n <| c_r <| pv hF hW (y_move hF rfl) fun a hF => pv hF hW (y_add hF rfl rfl (IntWalk.i64_in _ (by omega))) fun a hF => ?_; replace hF := hF.drop 7; refine pv hF hW (y_assign hF rfl) fun a hF => l_nil ?_; replace hF := hF.ks [0, 1, 2, 4, 5, 6, 7, 15, 20] rfl; replace hW := hW.del 0 rfl; refine t_n ?_; refine ⟨(j + 1, H ++ [decide ((k : Int) = p)], A6, c7), ?_, ?_, ?_, ?_⟩
      · exact ⟨by omega, by rw [hH0, List.replicate_succ', List.append_assoc]⟩
      · first | omega | (dsimp only; omega)
      · exact Fr.app (Fr.cons hF (t := 7) rfl (by first | rfl | (simp; done) | omega) (Fr.cons hF (t := 5) rfl (by first | rfl | (simp; done) | omega) (Fr.nil hF))) (hF.ks [0, 1, 2, 4, 6, 15] rfl)
      · exact hW
    · intro h4 hF; refine l_nil ?_; replace hF := hF.ks [0, 1, 2, 4, 5, 6, 7, 15, 20] rfl; refine t_n <| c_f hF rfl <| wp_exit <| t_x <| t_x <| b_h <| b_n <| t_n <| c_r <| pv hF hW (y_move hF rfl) fun a hF => pv hF hW (y_add hF rfl rfl (IntWalk.i64_in _ (by omega))) fun a hF => ?_; replace hF := hF.drop 6; refine pv hF hW (y_assign hF rfl) fun a hF => l_nil ?_; replace hF := hF.ks [0, 1, 2, 4, 5, 6, 7, 15, 20] rfl; refine t_n ?_; refine ⟨(k + 1, H, B, d), ?_, ?_, ?_, ?_⟩
      · exact ⟨by omega, by rw [hH0, hF0, range_flat, show j = 32 by omega]; rfl⟩
      · first | omega | (dsimp only; omega)
      · exact Fr.app (Fr.cons hF (t := 6) rfl (by first | rfl | (simp; done) | omega) (Fr.cons hF (t := 5) rfl (by first | rfl | (simp; done) | omega) (Fr.nil hF))) (hF.ks [0, 1, 2, 4] rfl)
      · exact hW
  · intro h3 hF; refine l_nil ?_; replace hF := hF.ks [0, 1, 2, 4, 5, 6, 15] rfl; refine t_n <| c_f hF rfl <| wp_exit <| t_x <| t_x <| b_h <| t_n <| c_s ?_
    have hFl : F.length = k * 32 + 1 := (by rw [hF0, List.length_cons, own_len1])
    rw [show k = x.parts.length by omega] at hF0
    refine c_sr <| pv hF hW (y_assign hF rfl) fun a hF => l_nil <| t_n <| wp_block ?_; refine c_loop (G := Nat × List Bool × Option Addr × Nat) (fun (gq : Nat × List Bool × Option Addr × Nat) => match gq with | ⟨k, G, A', c'⟩ => [(8, .int .i64 (k : Int)), (5, .slice A' G.length c')]) (fun (gq : Nat × List Bool × Option Addr × Nat) => match gq with | ⟨k, G, A', c'⟩ => [.row 4 1 (.slice A' G.length c') G.length (G.flatMap encB)]) (fun (gq : Nat × List Bool × Option Addr × Nat) => match gq with | ⟨k, G, A', c'⟩ => k ≤ x.chans.length ∧ G = F ++ (x.chans.take k).flatMap (ownH p)) (fun (gq : Nat × List Bool × Option Addr × Nat) => match gq with | ⟨k, G, A', c'⟩ => x.chans.length - k) (0, F, A, c) (hF.ks [0, 1, 2, 4, 6, 15] rfl) (Fr.cons hF (t := 8) rfl (by first | rfl | (simp; done)) (Fr.cons hF (t := 5) rfl (by first | rfl | (simp; done)) (Fr.nil hF))) (hW) ?_ ?_
    · exact ⟨by omega, by simp⟩
    clear hF hW
    try clear a
    intro gq a wc hC hF hW
    obtain ⟨k, G, A', c'⟩ := gq
    dsimp only at hC
    obtain ⟨hkl2, hG0⟩ := hC
    refine c_s <| c_sr <| pv hF hW (y_move hF rfl) fun a hF => pv hF hW (y_fieldOwn hF rfl fa_26_1) fun a hF => pv hF hW (y_loadOwn hF rfl 1 rfl rfl Tryz.underlying23 rfl) fun a hF => pv hF hW (y_len hF rfl Tryz.underlying23) fun a hF => pv hF hW (y_lss hF rfl rfl) fun a hF => ?_; refine Fr.splitD hF ?_ ?_
    · intro h8 hF; refine l_nil ?_; replace hF := hF.ks [0, 1, 2, 4, 5, 6, 8, 15, 33] rfl; refine t_n <| c_t hF rfl <| wp_skip <| t_n <| c_s <| wp_block ?_
      have hj1 : k < x.chans.length := (by omega)
      obtain ⟨z, hz⟩ : ∃ q, x.chans.getD k C0 = q := ⟨_, rfl⟩
      obtain ⟨kd, fr, tt⟩ := z
      have hGl : G.length = F.length + k * 4 := (by rw [hG0, List.length_append, hl2, List.length_take]; congr 1; rw [Nat.min_eq_left (by omega)])
      refine c_sr <| pv hF hW (y_assign hF rfl) fun a hF => l_nil <| t_n <| wp_block ?_; refine c_loop (G := Nat × List Bool × Option Addr × Nat) (fun (gq : Nat × List Bool × Option Addr × Nat) => match gq with | ⟨j, H, B, d⟩ => [(9, .int .i64 (j : Int)), (5, .slice B H.length d)]) (fun (gq : Nat × List Bool × Option Addr × Nat) => match gq with | ⟨j, H, B, d⟩ => [.row 4 1 (.slice B H.length d) H.length (H.flatMap encB)]) (fun (gq : Nat × List Bool × Option Addr × Nat) => match gq with | ⟨j, H, B, d⟩ => j ≤ 4 ∧ H = G ++ List.replicate j (decide (fr = p) || decide (tt = p))) (fun (gq : Nat × List Bool × Option Addr × Nat) => match gq with | ⟨j, H, B, d⟩ => 4 - j) (0, G, A', c') (hF.ks [0, 1, 2, 4, 6, 8, 15, 33] rfl) (Fr.cons hF (t := 9) rfl (by first | rfl | (simp; done)) (Fr.cons hF (t := 5) rfl (by first | rfl | (simp; done)) (Fr.nil hF))) (hW) ?_ ?_
      · exact ⟨by omega, by simp⟩
      clear hF hW
      try clear a
      intro gq a wc hC hF hW
      obtain ⟨j, H, B, d⟩ := gq
      dsimp only at hC
      obtain ⟨hjl, hH0⟩ := hC
      refine c_s <| c_sr <| pv hF hW (y_move hF rfl) fun a hF => ?_; refine pe (e_call hF rfl rfl en_42 (by rfl) rfl rfl (lineSize_any _) ?_); rintro e w1 ⟨rfl, hb⟩; replace hW := hW.kept hb; clear hb; refine ⟨_, rfl, fun a hF => ?_⟩; refine pv hF hW (y_lss hF rfl rfl) fun a hF => ?_; refine Fr.splitD hF ?_ ?_
      · intro h9 hF; refine l_nil ?_; replace hF := hF.ks [0, 1, 2, 4, 5, 6, 8, 9, 15, 33, 38] rfl; refine t_n <| c_t hF rfl <| wp_skip <| t_n <| c_s <| wp_block ?_
        have hHl : H.length = G.length + j := (by rw [hH0, List.length_append, List.length_replicate])
        refine c_r <| pv hF hW (y_move hF rfl) fun a hF => pv hF hW (y_fieldOwn hF rfl fa_26_1) fun a hF => pv hF hW (y_loadOwn hF rfl 1 rfl rfl Tryz.underlying23 rfl) fun a hF => pv hF hW (y_move hF rfl) fun a hF => pv hF hW (y_indexS hF rfl rfl (by exact hj1) Tryz.underlying23 sz_85 (fun w h => (hx.chansR).wd h)) fun a hF => pv hF hW (y_fieldRow hF rfl fa_85_1) fun a hF => pv hF hW (y_loadRow hF rfl (fun w h => (hx.chansR).wd h) (by exact hj1) (show _ = some (.int .i64 fr) by rw [hz]; rfl) Tryz.underlying3 rfl) fun a hF => pv hF hW (y_move hF rfl) fun a hF => pv hF hW (y_eql hF rfl rfl) fun a hF => ?_; refine Fr.splitD hF ?_ ?_
        · intro h10 hF; refine pv hF hW (y_move hF rfl) fun a hF => pk hF (wn hF rfl rfl rfl) fun a hF => pk hF (wn hF rfl rfl rfl) fun a hF => pk hF (wn hF rfl rfl rfl) fun a hF => pk hF (wn hF rfl rfl rfl) fun a hF => pk hF (wn hF rfl rfl rfl) fun a hF => pk hF (wn hF rfl rfl rfl) fun a hF => pk hF (wn hF rfl rfl rfl) fun a hF => pk hF (wn hF rfl rfl rfl) fun a hF => pv hF hW (y_pick hF rfl rfl) fun a hF => ?_; refine pe (e_buildSlice hF hW rfl (fun w => bs_FlatO_46_1_0 _ w) rfl rfl rfl ?_); intro b11 a wc hF hW; refine pe (e_append hF hW 1 rfl rfl rfl Tryz.underlying46 inf_4 rfl (by decide) (rowAt_blk (hW.blk 0 rfl) 1 1 rfl) (by simp [Value.oneCell']) (show _ = (H ++ [decide (fr = p) || decide (tt = p)]).length by simp) (show _ = (H ++ [decide (fr = p) || decide (tt = p)]).flatMap encB by rw [← encB_one]; simp_all) (by first | omega | (simp; omega)) (by unfold maxLen; first | omega | (simp; omega)) rfl rfl ?_); intro A12 c13 a wc hF hW; replace hF := hF.drop 5; refine pv hF hW (y_assign hF rfl) fun a hF => l_nil ?_; replace hF := hF.ks [0, 1, 2, 4, 5, 6, 8, 9, 15, 33, 38] rfl; refine b_n <| t_n <| c_r <| pv hF hW (y_move hF rfl) fun a hF => pv hF hW (y_add hF rfl rfl (IntWalk.i64_in _ (by omega))) fun a hF => ?_; replace hF := hF.drop 9; refine pv hF hW (y_assign hF rfl) fun a hF => l_nil ?_; replace hF := hF.ks [0, 1, 2, 4, 5, 6, 8, 9, 15, 33, 38] rfl; replace hW := hW.del 0 rfl; refine t_n ?_; refine ⟨(j + 1, H ++ [decide (fr = p) || decide (tt = p)], A12, c13), ?_, ?_, ?_, ?_⟩
          · exact ⟨by omega, by rw [hH0, List.replicate_succ', List.append_assoc]⟩
          · first | omega | (dsimp only; omega)
          · exact Fr.app (Fr.cons hF (t := 9) rfl (by first | rfl | (simp; done) | omega) (Fr.cons hF (t := 5) rfl (by first | rfl | (simp; done) | omega) (Fr.nil hF))) (hF.ks [0, 1, 2, 4, 6, 8, 15, 33] rfl)
          · exact hW
        · intro h10 hF; refine pv hF hW (y_move hF rfl) fun a hF => pvg hF hW (y_fieldOwn hF rfl fa_26_1) (ws hF rfl rfl) fun a hF => pvg hF hW (y_loadOwn hF rfl 1 rfl rfl Tryz.underlying23 rfl) (ws hF rfl rfl) fun a hF => pvg hF hW (y_move hF rfl) (ws hF rfl rfl) fun a hF => pvg hF hW (y_indexS hF rfl rfl (by exact hj1) Tryz.underlying23 sz_85 (fun w h => (hx.chansR).wd h)) (ws hF rfl rfl) fun a hF => pvg hF hW (y_fieldRow hF rfl fa_85_2) (ws hF rfl rfl) fun a hF => pvg hF hW (y_loadRow hF rfl (fun w h => (hx.chansR).wd h) (by exact hj1) (show _ = some (.int .i64 tt) by rw [hz]; rfl) Tryz.underlying3 rfl) (ws hF rfl rfl) fun a hF => pvg hF hW (y_move hF rfl) (ws hF rfl rfl) fun a hF => pvg hF hW (y_eql hF rfl rfl) (ws hF rfl rfl) fun a hF => ?_; refine Fr.splitD hF ?_ ?_
          · intro h14 hF; refine pv hF hW (y_pick hF rfl rfl) fun a hF => ?_; refine pe (e_buildSlice hF hW rfl (fun w => bs_FlatO_46_1_0 _ w) rfl rfl rfl ?_); intro b15 a wc hF hW; refine pe (e_append hF hW 1 rfl rfl rfl Tryz.underlying46 inf_4 rfl (by decide) (rowAt_blk (hW.blk 0 rfl) 1 1 rfl) (by simp [Value.oneCell']) (show _ = (H ++ [decide (fr = p) || decide (tt = p)]).length by simp) (show _ = (H ++ [decide (fr = p) || decide (tt = p)]).flatMap encB by rw [← encB_one]; simp_all) (by first | omega | (simp; omega)) (by unfold maxLen; first | omega | (simp; omega)) rfl rfl ?_); intro A16 c17 a wc hF hW; replace hF := hF.drop 5; refine pv hF hW (y_assign hF rfl) fun a hF => l_nil ?_; replace hF := hF.ks [0, 1, 2, 4, 5, 6, 8, 9, 15, 33, 38] rfl; refine b_n <| t_n <| c_r <| pv hF hW (y_move hF rfl) fun a hF => pv hF hW (y_add hF rfl rfl (IntWalk.i64_in _ (by omega))) fun a hF => ?_; replace hF := hF.drop 9; refine pv hF hW (y_assign hF rfl) fun a hF => l_nil ?_; replace hF := hF.ks [0, 1, 2, 4, 5, 6, 8, 9, 15, 33, 38] rfl; replace hW := hW.del 0 rfl; refine t_n ?_; refine ⟨(j + 1, H ++ [decide (fr = p) || decide (tt = p)], A16, c17), ?_, ?_, ?_, ?_⟩
            · exact ⟨by omega, by rw [hH0, List.replicate_succ', List.append_assoc]⟩
            · first | omega | (dsimp only; omega)
            · exact Fr.app (Fr.cons hF (t := 9) rfl (by first | rfl | (simp; done) | omega) (Fr.cons hF (t := 5) rfl (by first | rfl | (simp; done) | omega) (Fr.nil hF))) (hF.ks [0, 1, 2, 4, 6, 8, 15, 33] rfl)
            · exact hW
          · intro h14 hF; refine pv hF hW (y_pick hF rfl rfl) fun a hF => ?_; refine pe (e_buildSlice hF hW rfl (fun w => bs_FlatO_46_1_0 _ w) rfl rfl rfl ?_); intro b18 a wc hF hW; refine pe (e_append hF hW 1 rfl rfl rfl Tryz.underlying46 inf_4 rfl (by decide) (rowAt_blk (hW.blk 0 rfl) 1 1 rfl) (by simp [Value.oneCell']) (show _ = (H ++ [decide (fr = p) || decide (tt = p)]).length by simp) (show _ = (H ++ [decide (fr = p) || decide (tt = p)]).flatMap encB by rw [← encB_one]; simp_all) (by first | omega | (simp; omega)) (by unfold maxLen; first | omega | (simp; omega)) rfl rfl ?_); intro A19 c20 a wc hF hW; replace hF := hF.drop 5; refine pv hF hW (y_assign hF rfl) fun a hF => l_nil ?_; replace hF := hF.ks [0, 1, 2, 4, 5, 6, 8, 9, 15, 33, 38] rfl; refine b_n <| t_n <| c_r <| pv hF hW (y_move hF rfl) fun a hF => pv hF hW (y_add hF rfl rfl (IntWalk.i64_in _ (by omega))) fun a hF => ?_; replace hF := hF.drop 9; refine pv hF hW (y_assign hF rfl) fun a hF => l_nil ?_; replace hF := hF.ks [0, 1, 2, 4, 5, 6, 8, 9, 15, 33, 38] rfl; replace hW := hW.del 0 rfl; refine t_n ?_; refine ⟨(j + 1, H ++ [decide (fr = p) || decide (tt = p)], A19, c20), ?_, ?_, ?_, ?_⟩
            · exact ⟨by omega, by rw [hH0, List.replicate_succ', List.append_assoc]⟩
            · first | omega | (dsimp only; omega)
            · exact Fr.app (Fr.cons hF (t := 9) rfl (by first | rfl | (simp; done) | omega) (Fr.cons hF (t := 5) rfl (by first | rfl | (simp; done) | omega) (Fr.nil hF))) (hF.ks [0, 1, 2, 4, 6, 8, 15, 33] rfl)
            · exact hW
      · intro h9 hF; refine l_nil ?_; replace hF := hF.ks [0, 1, 2, 4, 5, 6, 8, 9, 15, 33, 38] rfl; refine t_n <| c_f hF rfl <| wp_exit <| t_x <| t_x <| b_h <| b_n <| t_n <| c_r <| pv hF hW (y_move hF rfl) fun a hF => pv hF hW (y_add hF rfl rfl (IntWalk.i64_in _ (by omega))) fun a hF => ?_; replace hF := hF.drop 8; refine pv hF hW (y_assign hF rfl) fun a hF => l_nil ?_; replace hF := hF.ks [0, 1, 2, 4, 5, 6, 8, 9, 15, 33, 38] rfl; refine t_n ?_; refine ⟨(k + 1, H, B, d), ?_, ?_, ?_, ?_⟩
        · exact ⟨by omega, by rw [hH0, hG0, take_flat C0 _ hj1, show j = 4 by omega, List.append_assoc, hz]; rfl⟩
        · first | omega | (dsimp only; omega)
        · exact Fr.app (Fr.cons hF (t := 8) rfl (by first | rfl | (simp; done) | omega) (Fr.cons hF (t := 5) rfl (by first | rfl | (simp; done) | omega) (Fr.nil hF))) (hF.ks [0, 1, 2, 4, 6, 15] rfl)
        · exact hW
    · intro h8 hF; refine l_nil ?_; replace hF := hF.ks [0, 1, 2, 4, 5, 6, 8, 15, 33] rfl; refine t_n <| c_f hF rfl <| wp_exit <| t_x <| t_x <| b_h <| t_n <| c_sr <| pv hF hW (y_move hF rfl) fun a hF => ?_; replace hF := hF.drop 4; refine pv hF hW (y_assign hF rfl) fun a hF => l_nil ?_; replace hF := hF.ks [0, 1, 2, 4, 5, 6, 8, 15, 33] rfl; refine t_n <| wp_ret <| ret1 Tryz.results17 hF (rv_t hF rfl) ?_; replace hW := hW.del 1 rfl
      have hE : G = ownL x.sys p := (by rw [hown, hG0, hF0, show k = x.chans.length by omega, List.take_of_length_le (Nat.le_refl _)])
      rw [hE] at hW ⊢
      exact ⟨A', c', rfl, hW.below, (hW.row_res 0 rfl).res_res 0 rfl |>.mono fun u h => Flat.of_own h rfl⟩
end Go.Proofs.YtnpflhaggfabnaaGreat
