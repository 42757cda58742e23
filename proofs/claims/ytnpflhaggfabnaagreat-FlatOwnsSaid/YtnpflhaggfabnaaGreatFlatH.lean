/- flat.Own: whose the numbers of a row are. -/
import Derived.Test.YtnpflhaggfabnaaGreatFlatG
import Derived.Test.YtnpflhaggfabnaaGreatConfD1
import Derived.Test.YtnpflhaggfabnaaGreatEngY
namespace Go.Proofs.YtnpflhaggfabnaaGreat
set_option linter.unusedVariables false
set_option linter.unusedSimpArgs false
open Go.ChangeShapes Go.WideShapes Go.ChangeAt Go.RowKit
theorem bs_FlatH_46_1_0 (x0 : Bool) (w : World) : (Instr.buildSlice 46 1 #[(0, (.bool x0))]).run Tryz.prog w = .ok (.slice (some ⟨w.heap.size, 0, none⟩) 1 1) (w.alloc (.cells #[(.bool x0)] 4)) := by kernel_rfl
set_option maxRecDepth 100000

def ownC (p : Int) (k : Nat) : List Bool := List.replicate 32 (decide ((k : Int) = p))
def ownH (p : Int) (c : Chn) : List Bool := List.replicate 4 (decide (c.from_ = p) || decide (c.to_ = p))
def ownL (s : Sys) (p : Int) : List Bool := (true :: (List.range s.parts.length).flatMap (ownC p)) ++ s.chans.flatMap (ownH p)
def ownOr (s : Sys) (p : Int) : List Bool := if thereErr s p = 0 then ownL s p else []
def OwnBack (w : World) (x : SysD) (p : Int) (e : Ending) (w' : World) : Prop := ∃ (bs : List Bool) (A : Option Addr) (c : Nat), e = .returned (.tuple #[.slice A bs.length c, .int .i64 (thereErr x.sys p)]) ∧ bs = ownOr x.sys p ∧ Below w.heap.size w w' ∧ OwnRes w w' (fun u => Flat encB 1 u (.slice A bs.length c) bs)
theorem encB_reps (n : Nat) (b : Bool) : (List.replicate n b).flatMap encB = List.replicate n (.bool b) := by
  induction n with
  | zero => rfl
  | succ n ih => rw [List.replicate_succ, List.flatMap_cons, ih, List.replicate_succ]; rfl
theorem encB_app (F : List Bool) (n : Nat) (b : Bool) : F.flatMap encB ++ List.replicate n (.bool b) = (F ++ List.replicate n b).flatMap encB := by
  rw [List.flatMap_append, encB_reps]
theorem range_flat {α : Type} (f : Nat → List α) (k : Nat) : (List.range (k + 1)).flatMap f = (List.range k).flatMap f ++ f k := by
  rw [List.range_succ, List.flatMap_append]
  simp
theorem take_flat {α β : Type} (d : α) (f : α → List β) {l : List α} {k : Nat} (hk : k < l.length) : (l.take (k + 1)).flatMap f = (l.take k).flatMap f ++ f (l.getD k d) := by
  rw [List.take_add_one, List.getElem?_eq_getElem hk, List.flatMap_append]
  congr 1
  simp [List.getD, hk]
theorem own_len1 (p : Int) (k : Nat) : ((List.range k).flatMap (ownC p)).length = k * 32 := by
  induction k with
  | zero => rfl
  | succ k ih => rw [range_flat, List.length_append, ih, Nat.succ_mul]; simp [ownC]
theorem own_len2 (p : Int) (l : List Chn) : (l.flatMap (ownH p)).length = l.length * 4 := by
  induction l with
  | nil => rfl
  | cons c l ih => rw [List.flatMap_cons, List.length_append, ih, List.length_cons, Nat.succ_mul, Nat.add_comm]; simp [ownH]
set_option maxHeartbeats 16000000 in
theorem flatOwn_any {x : SysD} {w : World} (hx : x.At w) (p : Int) : Calls Tryz.prog 15 #[x.val, .int .i64 p] w (OwnBack w x p) := by
  have hth := fun w1 (hb : Below w.heap.size w w1) => confThere_any (hx.below hb) p
  unfold OwnBack ownOr
  by_cases h0 : thereErr x.sys p = 0
  · obtain ⟨hk, hp0, hp1⟩ := there_zero h0
    obtain ⟨⟨hq1, hq2⟩, hc6, -⟩ := sizes_get (chkSys_zero hk).1
    have hc7 : x.chans.length ≤ 6 := hc6
    have hq3 : x.parts.length ≤ 4 := by omega
    have hsl : x.sys.parts.length = x.parts.length := by simp [SysD.sys]
    rw [h0] at hth ⊢
    rw [if_pos rfl]
    have hown : ownL x.sys p = (true :: (List.range x.parts.length).flatMap (ownC p)) ++ x.chans.flatMap (ownH p) := by unfold ownL; rw [hsl]; rfl
    have hl2 := fun j => own_len2 p (x.chans.take j)
    rw [x.val_eq] at *
    refine enter Tryz.func15 rfl Tryz.ntmps15 rfl fun a hF => ?_
    have hW := Wd.start w NoB
    refine c_sr ?_; refine pe (e_box hF hW rfl rfl rfl rfl ?_); intro b1 a wc hF hW; refine pv hF hW (y_assign hF rfl) fun a hF => pv hF hW (y_assign hF rfl) fun a hF => l_nil <| t_n <| c_s <| c_sr <| pv hF hW (y_loadAll hF rfl 0 rfl Tryz.underlying26 rfl sz_26) fun a hF => pv hF hW (y_move hF rfl) fun a hF => ?_; refine pe (e_call hF rfl rfl en_48 (by rfl) rfl rfl (hth _ hW.below) ?_); rintro e w1 ⟨rfl, hb⟩; replace hW := hW.kept hb; clear hb; refine ⟨_, rfl, fun a hF => ?_⟩; refine pv hF hW (y_assign hF rfl) fun a hF => l_nil ?_; replace hF := hF.ks [0, 1, 2, 4, 5, 6] rfl; refine t_n <| c_sr <| pv hF hW (y_move hF rfl) fun a hF => pv hF hW (y_neq hF rfl rfl) fun a hF => ?_; replace hF := hF.ff; refine l_nil ?_; replace hF := hF.ks [0, 1, 2, 4, 5, 6, 15] rfl; refine t_n <| c_f hF rfl <| wp_skip <| t_n <| c_sr ?_; refine pe (e_buildSlice hF hW rfl (fun w => bs_FlatH_46_1_0 _ w) rfl rfl rfl ?_); intro b2 a wc hF hW; refine pv hF hW (y_assign hF rfl) fun a hF => l_nil ?_; replace hF := hF.ks [0, 1, 2, 4, 5, 6, 7, 15] rfl; refine t_n <| c_s ?_; replace hW := hW.blk_row 0 rfl 1 1 rfl (by decide); refine c_sr <| pv hF hW (y_fieldOwn hF rfl fa_26_0) fun a hF => pv hF hW (y_loadOwn hF rfl 1 rfl rfl Tryz.underlying22 rfl) fun a hF => pv hF hW (y_len hF rfl Tryz.underlying22) fun a hF => pv hF hW (y_move hF rfl) fun a hF => l_nil ?_; replace hF := hF.ks [0, 1, 2, 4, 5, 6, 7, 15, 20, 21] rfl; refine t_n <| wp_block ?_; refine c_loop (G := Nat × List Bool × Option Addr × Nat) (fun (gq : Nat × List Bool × Option Addr × Nat) => match gq with | ⟨k, F, A, c⟩ => [(21, .int .i64 (k : Int)), (7, .slice A F.length c)]) (fun (gq : Nat × List Bool × Option Addr × Nat) => match gq with | ⟨k, F, A, c⟩ => [.row 4 1 (.slice A F.length c) F.length (F.flatMap encB)]) (fun (gq : Nat × List Bool × Option Addr × Nat) => match gq with | ⟨k, F, A, c⟩ => k ≤ x.parts.length ∧ F = true :: (List.range k).flatMap (ownC p)) (fun (gq : Nat × List Bool × Option Addr × Nat) => match gq with | ⟨k, F, A, c⟩ => x.parts.length - k) (0, [true], some ⟨b2, 0, none⟩, 1) (hF.ks [0, 1, 2, 4, 5, 6, 15, 20] rfl) (Fr.cons hF (t := 21) rfl (by first | rfl | (simp; done)) (Fr.cons hF (t := 7) rfl (by first | rfl | (simp; done)) (Fr.nil hF))) (hW) ?_ ?_
    · exact ⟨by omega, rfl⟩
    clear hF hW
    try clear a
    intro gq a wc hC hF hW
    obtain ⟨k, F, A, c⟩ := gq
    dsimp only at hC
    obtain ⟨hkl, hF0⟩ := hC
    refine c_sr <| pv hF hW (y_lss hF rfl rfl) fun a hF => ?_; refine Fr.splitD hF ?_ ?_
    · intro h3 hF; refine l_nil <| t_n <| c_s <| c_t hF rfl <| wp_skip <| t_n <| c_s <| wp_block <| c_sr <| pv hF hW (y_move hF rfl) fun a hF => pv hF hW (y_assign hF rfl) fun a hF => l_nil ?_; replace hF := hF.ks [0, 1, 2, 4, 5, 6, 7, 8, 15, 20, 21, 22] rfl; refine t_n ?_
      have hFl : F.length = k * 32 + 1 := (by rw [hF0, List.length_cons, own_len1])
      refine c_r <| pv hF hW (y_move hF rfl) fun a hF => pv hF hW (y_move hF rfl) fun a hF => pv hF hW (y_move hF rfl) fun a hF => pv hF hW (y_eql hF rfl rfl) fun a hF => ?_; refine pe (e_buildSlice hF hW rfl (fun w => bs_FlatH_46_1_0 _ w) rfl rfl rfl ?_); intro b4 a wc hF hW; refine pe (e_call hF rfl rfl en_49 (by rfl) rfl rfl (Rep.repeat_any (n := 32) (bb := decide ((k : Int) = p)) (rowAt_blk (hW.blk 0 rfl) 1 1 rfl) (by decide) (by decide)) ?_); rintro e w1 ⟨g1, rfl, hN⟩; replace hW := hW.comb1 hN; refine ⟨_, rfl, fun a hF => ?_⟩; refine pe (e_append hF hW 2 rfl rfl rfl Tryz.underlying46 inf_4 rfl (by decide) (rowAt_blk (hW.blk 0 rfl) 1 32 (by simp)) (by intro u hu; rw [(List.mem_replicate.1 hu).2]; rfl) (show _ = (F ++ List.replicate 32 (decide ((k : Int) = p))).length by simp) (show _ = (F ++ List.replicate 32 (decide ((k : Int) = p))).flatMap encB by exact encB_app _ _ _) (by first | omega | (simp; omega)) (by unfold maxLen; first | omega | (simp; omega)) rfl rfl ?_); intro A5 c6 a wc hF hW; replace hF := hF.drop 7; refine pv hF hW (y_assign hF rfl) fun a hF => l_nil ?_; replace hF := hF.ks [0, 1, 2, 4, 5, 6, 7, 8, 15, 20, 21, 22] rfl; refine b_n <| t_n <| c_r <| pv hF hW (y_add hF rfl rfl (IntWalk.i64_in _ (by omega))) fun a hF => ?_; replace hF := hF.drop 21; refine pv hF hW (y_move hF rfl) fun a hF => l_nil ?_; replace hF := hF.ks [0, 1, 2, 4, 5, 6, 7, 8, 15, 20, 21, 22] rfl; replace hW := hW.del 0 rfl; replace hW := hW.del 0 rfl; refine t_n ?_; refine ⟨(k + 1, F ++ List.replicate 32 (decide ((k : Int) = p)), A5, c6), ?_, ?_, ?_, ?_⟩
      · exact ⟨by omega, by rw [range_flat, ← List.cons_append, ← hF0]; rfl⟩
      · first | omega | (dsimp only; omega)
      · exact Fr.app (Fr.cons hF (t := 21) rfl (by first | rfl | (simp; done) | omega) (Fr.cons hF (t := 7) rfl (by first | rfl | (simp; done) | omega) (Fr.nil hF))) (hF.ks [0, 1, 2, 4, 5, 6, 15, 20] rfl)
      · exact hW
    · intro h3 hF; refine l_nil <| t_n <| c_s <| c_f hF rfl <| wp_exit <| t_x <| t_x <| b_h <| t_n <| c_s ?_
      have hFl : F.length = k * 32 + 1 := (by rw [hF0, List.length_cons, own_len1])
      rw [show k = x.parts.length by omega] at hF0
      refine c_sr <| pv hF hW (y_fieldOwn hF rfl fa_26_1) fun a hF => pv hF hW (y_loadOwn hF rfl 1 rfl rfl Tryz.underlying23 rfl) fun a hF => pv hF hW (y_len hF rfl Tryz.underlying23) fun a hF => pv hF hW (y_move hF rfl) fun a hF => l_nil ?_; replace hF := hF.ks [0, 1, 2, 4, 5, 6, 7, 15, 20, 21, 22, 33, 34, 35] rfl; refine t_n <| wp_block ?_; refine c_loop (G := Nat × List Bool × Option Addr × Nat) (fun (gq : Nat × List Bool × Option Addr × Nat) => match gq with | ⟨j, H, B, d⟩ => [(35, .int .i64 (j : Int)), (7, .slice B H.length d)]) (fun (gq : Nat × List Bool × Option Addr × Nat) => match gq with | ⟨j, H, B, d⟩ => [.row 4 1 (.slice B H.length d) H.length (H.flatMap encB)]) (fun (gq : Nat × List Bool × Option Addr × Nat) => match gq with | ⟨j, H, B, d⟩ => j ≤ x.chans.length ∧ H = F ++ (x.chans.take j).flatMap (ownH p)) (fun (gq : Nat × List Bool × Option Addr × Nat) => match gq with | ⟨j, H, B, d⟩ => x.chans.length - j) (0, F, A, c) (hF.ks [0, 1, 2, 4, 5, 6, 15, 20, 21, 22, 33, 34] rfl) (Fr.cons hF (t := 35) rfl (by first | rfl | (simp; done)) (Fr.cons hF (t := 7) rfl (by first | rfl | (simp; done)) (Fr.nil hF))) (hW) ?_ ?_
      · exact ⟨by omega, by simp⟩
      clear hF hW
      try clear a
      intro gq a wc hC hF hW
      obtain ⟨j, H, B, d⟩ := gq
      dsimp only at hC
      obtain ⟨hjl, hH0⟩ := hC
      refine c_sr <| pv hF hW (y_lss hF rfl rfl) fun a hF => ?_; refine Fr.splitD hF ?_ ?_
      · intro h7 hF; refine l_nil <| t_n <| c_s <| c_t hF rfl <| wp_skip <| t_n <| c_s <| wp_block ?_
        have hj1 : j < x.chans.length := (by omega)
        obtain ⟨z, hz⟩ : ∃ q, x.chans.getD j C0 = q := ⟨_, rfl⟩
        obtain ⟨kd, fr, tt⟩ := z
        have hHl : H.length = F.length + j * 4 := (by rw [hH0, List.length_append, hl2, List.length_take]; congr 1; rw [Nat.min_eq_left (by omega)])
        refine c_sr <| pv hF hW (y_indexS hF rfl rfl (by exact hj1) Tryz.underlying23 sz_85 (fun w h => (hx.chansR).wd h)) fun a hF => pv hF hW (y_loadRowW hF rfl (fun w h => (hx.chansR).wd h) (by exact hj1) Tryz.underlying85 rfl (by rw [hz]; exact sz_85)) fun a hF => ?_; replace hF := Fr.cast (v' := .agg #[.int .i64 kd, .int .i64 fr, .int .i64 tt]) (by rw [hz]; rfl) hF; refine pe (e_alloc hF hW ze_85 rfl rfl rfl ?_); intro b8 a wc hF hW; refine pe (e_storeAll rfl hF hW rfl rfl 0 rfl rfl rfl (by kernel_rfl) sz_85 ?_); intro wc hW; refine l_nil ?_; replace hF := hF.ks [0, 1, 2, 4, 5, 6, 7, 10, 15, 20, 21, 22, 33, 34, 35, 36] rfl; refine t_n <| c_r <| pv hF hW (y_move hF rfl) fun a hF => pv hF hW (y_fieldOwn hF rfl fa_85_1) fun a hF => pv hF hW (y_loadOwn hF rfl 0 rfl rfl Tryz.underlying3 rfl) fun a hF => pv hF hW (y_move hF rfl) fun a hF => pv hF hW (y_eql hF rfl rfl) fun a hF => ?_; refine Fr.splitD hF ?_ ?_
        · intro h9 hF; refine pv hF hW (y_move hF rfl) fun a hF => pk hF (wn hF rfl rfl rfl) fun a hF => pk hF (wn hF rfl rfl rfl) fun a hF => pk hF (wn hF rfl rfl rfl) fun a hF => pk hF (wn hF rfl rfl rfl) fun a hF => pv hF hW (y_pick hF rfl rfl) fun a hF => ?_; refine pe (e_buildSlice hF hW rfl (fun w => bs_FlatH_46_1_0 _ w) rfl rfl rfl ?_); intro b10 a wc hF hW; refine pe (e_call hF rfl rfl en_49 (by rfl) rfl rfl (Rep.repeat_any (n := 4) (rowAt_blk (hW.blk 0 rfl) 1 1 rfl) (by decide) (by decide)) ?_); rintro e w1 ⟨g1, rfl, hN⟩; replace hW := hW.comb1 hN; refine ⟨_, rfl, fun a hF => ?_⟩; refine pe (e_append hF hW 3 rfl rfl rfl Tryz.underlying46 inf_4 rfl (by decide) (rowAt_blk (hW.blk 0 rfl) 1 4 (by simp)) (by intro u hu; rw [(List.mem_replicate.1 hu).2]; rfl) (show _ = (H ++ List.replicate 4 (decide (fr = p) || decide (tt = p))).length by simp) (show _ = (H ++ List.replicate 4 (decide (fr = p) || decide (tt = p))).flatMap encB by rw [← encB_app]; congr 2; by_cases e1 : fr = p <;> by_cases e2 : tt = p <;> simp only [e1, e2, decide_true, decide_false, Bool.or_true, Bool.true_or, Bool.or_false] <;> omega) (by first | omega | (simp; omega)) (by unfold maxLen; first | omega | (simp; omega)) rfl rfl ?_); intro A11 c12 a wc hF hW; replace hF := hF.drop 7; refine pv hF hW (y_assign hF rfl) fun a hF => l_nil ?_; replace hF := hF.ks [0, 1, 2, 4, 5, 6, 7, 10, 15, 20, 21, 22, 33, 34, 35, 36] rfl; refine b_n <| t_n <| c_r <| pv hF hW (y_add hF rfl rfl (IntWalk.i64_in _ (by omega))) fun a hF => ?_; replace hF := hF.drop 35; refine pv hF hW (y_move hF rfl) fun a hF => l_nil ?_; replace hF := hF.ks [0, 1, 2, 4, 5, 6, 7, 10, 15, 20, 21, 22, 33, 34, 35, 36] rfl; replace hW := hW.del 0 rfl; replace hW := hW.del 0 rfl; replace hW := hW.del 0 rfl; refine t_n ?_; refine ⟨(j + 1, H ++ List.replicate 4 (decide (fr = p) || decide (tt = p)), A11, c12), ?_, ?_, ?_, ?_⟩
          · exact ⟨by omega, by rw [take_flat C0 _ hj1, ← List.append_assoc, ← hH0, hz]; rfl⟩
          · first | omega | (dsimp only; omega)
          · exact Fr.app (Fr.cons hF (t := 35) rfl (by first | rfl | (simp; done) | omega) (Fr.cons hF (t := 7) rfl (by first | rfl | (simp; done) | omega) (Fr.nil hF))) (hF.ks [0, 1, 2, 4, 5, 6, 15, 20, 21, 22, 33, 34] rfl)
          · exact hW
        · intro h9 hF; refine pv hF hW (y_move hF rfl) fun a hF => pvg hF hW (y_fieldOwn hF rfl fa_85_2) (ws hF rfl rfl) fun a hF => pvg hF hW (y_loadOwn hF rfl 0 rfl rfl Tryz.underlying3 rfl) (ws hF rfl rfl) fun a hF => pvg hF hW (y_move hF rfl) (ws hF rfl rfl) fun a hF => pvg hF hW (y_eql hF rfl rfl) (ws hF rfl rfl) fun a hF => ?_; refine Fr.splitD hF ?_ ?_
          · intro h13 hF; refine pv hF hW (y_pick hF rfl rfl) fun a hF => ?_; refine pe (e_buildSlice hF hW rfl (fun w => bs_FlatH_46_1_0 _ w) rfl rfl rfl ?_); intro b14 a wc hF hW; refine pe (e_call hF rfl rfl en_49 (by rfl) rfl rfl (Rep.repeat_any (n := 4) (rowAt_blk (hW.blk 0 rfl) 1 1 rfl) (by decide) (by decide)) ?_); rintro e w1 ⟨g1, rfl, hN⟩; replace hW := hW.comb1 hN; refine ⟨_, rfl, fun a hF => ?_⟩; refine pe (e_append hF hW 3 rfl rfl rfl Tryz.underlying46 inf_4 rfl (by decide) (rowAt_blk (hW.blk 0 rfl) 1 4 (by simp)) (by intro u hu; rw [(List.mem_replicate.1 hu).2]; rfl) (show _ = (H ++ List.replicate 4 (decide (fr = p) || decide (tt = p))).length by simp) (show _ = (H ++ List.replicate 4 (decide (fr = p) || decide (tt = p))).flatMap encB by rw [← encB_app]; congr 2; by_cases e1 : fr = p <;> by_cases e2 : tt = p <;> simp only [e1, e2, decide_true, decide_false, Bool.or_true, Bool.true_or, Bool.or_false] <;> omega) (by first | omega | (simp; omega)) (by unfold maxLen; first | omega | (simp; omega)) rfl rfl ?_); intro A15 c16 a wc hF hW; replace hF := hF.drop 7; refine pv hF hW (y_assign hF rfl) fun a hF => l_nil ?_; replace hF := hF.ks [0, 1, 2, 4, 5, 6, 7, 10, 15, 20, 21, 22, 33, 34, 35, 36] rfl; refine b_n <| t_n <| c_r <| pv hF hW (y_add hF rfl rfl (IntWalk.i64_in _ (by omega))) fun a hF => ?_; replace hF := hF.drop 35; refine pv hF hW (y_move hF rfl) fun a hF => l_nil ?_; replace hF := hF.ks [0, 1, 2, 4, 5, 6, 7, 10, 15, 20, 21, 22, 33, 34, 35, 36] rfl; replace hW := hW.del 0 rfl; replace hW := hW.del 0 rfl; replace hW := hW.del 0 rfl; refine t_n ?_; refine ⟨(j + 1, H ++ List.replicate 4 (decide (fr = p) || decide (tt = p)), A15, c16), ?_, ?_, ?_, ?_⟩
            · exact ⟨by omega, by rw [take_flat C0 _ hj1, ← List.append_assoc, ← hH0, hz]; rfl⟩
            · first | omega | (dsimp only; omega)
            · exact Fr.app (Fr.cons hF (t := 35) rfl (by first | rfl | (simp; done) | omega) (Fr.cons hF (t := 7) rfl (by first | rfl | (simp; done) | omega) (Fr.nil hF))) (hF.ks [0, 1, 2, 4, 5, 6, 15, 20, 21, 22, 33, 34] rfl)
            · exact hW
          · intro h13 hF; refine pv hF hW (y_pick hF rfl rfl) fun a hF => ?_; refine pe (e_buildSlice hF hW rfl (fun w => bs_FlatH_46_1_0 _ w) rfl rfl rfl ?_); intro b17 a wc hF hW; refine pe (e_call hF rfl rfl en_49 (by rfl) rfl rfl (Rep.repeat_any (n := 4) (rowAt_blk (hW.blk 0 rfl) 1 1 rfl) (by decide) (by decide)) ?_); rintro e w1 ⟨g1, rfl, hN⟩; replace hW := hW.comb1 hN; refine ⟨_, rfl, fun a hF => ?_⟩; refine pe (e_append hF hW 3 rfl rfl rfl Tryz.underlying46 inf_4 rfl (by decide) (rowAt_blk (hW.blk 0 rfl) 1 4 (by simp)) (by intro u hu; rw [(List.mem_replicate.1 hu).2]; rfl) (show _ = (H ++ List.replicate 4 (decide (fr = p) || decide (tt = p))).length by simp) (show _ = (H ++ List.replicate 4 (decide (fr = p) || decide (tt = p))).flatMap encB by rw [← encB_app]; congr 2; by_cases e1 : fr = p <;> by_cases e2 : tt = p <;> simp only [e1, e2, decide_true, decide_false, Bool.or_true, Bool.true_or, Bool.or_false] <;> omega) (by first | omega | (simp; omega)) (by unfold maxLen; first | omega | (simp; omega)) rfl rfl ?_); intro A18 c19 a wc hF hW; replace hF := hF.drop 7; refine pv hF hW (y_assign hF rfl) fun a hF => l_nil ?_; replace hF := hF.ks [0, 1, 2, 4, 5, 6, 7, 10, 15, 20, 21, 22, 33, 34, 35, 36] rfl; refine b_n <| t_n <| c_r <| pv hF hW (y_add hF rfl rfl (IntWalk.i64_in _ (by omega))) fun a hF => ?_; replace hF := hF.drop 35; refine pv hF hW (y_move hF rfl) fun a hF => l_nil ?_; replace hF := hF.ks [0, 1, 2, 4, 5, 6, 7, 10, 15, 20, 21, 22, 33, 34, 35, 36] rfl; replace hW := hW.del 0 rfl; replace hW := hW.del 0 rfl; replace hW := hW.del 0 rfl; refine t_n ?_; refine ⟨(j + 1, H ++ List.replicate 4 (decide (fr = p) || decide (tt = p)), A18, c19), ?_, ?_, ?_, ?_⟩
            · exact ⟨by omega, by rw [take_flat C0 _ hj1, ← List.append_assoc, ← hH0, hz]; rfl⟩
            · first | omega | (dsimp only; omega)
            · exact Fr.app (Fr.cons hF (t := 35) rfl (by first | rfl | (simp; done) | omega) (Fr.cons hF (t := 7) rfl (by first | rfl | (simp; done) | omega) (Fr.nil hF))) (hF.ks [0, 1, 2, 4, 5, 6, 15, 20, 21, 22, 33, 34] rfl)
            · exact hW
      · intro h7 hF; refine l_nil <| t_n <| c_s <| c_f hF rfl <| wp_exit <| t_x <| t_x <| b_h <| t_n <| c_sr <| pv hF hW (y_move hF rfl) fun a hF => ?_; replace hF := hF.drop 4; refine pv hF hW (y_assign hF rfl) fun a hF => ?_; replace hF := hF.drop 5; refine pv hF hW (y_assign hF rfl) fun a hF => l_nil ?_; replace hF := hF.ks [0, 1, 2, 4, 5, 6, 7, 15, 20, 21, 22, 33, 34, 35, 36] rfl; refine t_n <| wp_ret <| ret2 Tryz.results15 hF (rv_t hF rfl) (rv_t hF rfl) ?_; replace hW := hW.del 1 rfl
        rw [show j = x.chans.length by omega, List.take_of_length_le (Nat.le_refl _), hF0] at hH0
        exact ⟨H, B, d, rfl, by rw [hown, hH0], hW.below, (hW.row_res 0 rfl).res_res 0 rfl |>.mono fun u h => Flat.of_own h rfl⟩
  · rw [if_neg h0]
    generalize thereErr x.sys p = E at *
    rw [x.val_eq] at *
    refine enter Tryz.func15 rfl Tryz.ntmps15 rfl fun a hF => ?_
    have hW := Wd.start w NoB
    refine c_sr ?_; refine pe (e_box hF hW rfl rfl rfl rfl ?_); intro b1 a wc hF hW; refine pv hF hW (y_assign hF rfl) fun a hF => pv hF hW (y_assign hF rfl) fun a hF => l_nil <| t_n <| c_s <| c_sr <| pv hF hW (y_loadAll hF rfl 0 rfl Tryz.underlying26 rfl sz_26) fun a hF => pv hF hW (y_move hF rfl) fun a hF => ?_; refine pe (e_call hF rfl rfl en_48 (by rfl) rfl rfl (hth _ hW.below) ?_); rintro e w1 ⟨rfl, hb⟩; replace hW := hW.kept hb; clear hb; refine ⟨_, rfl, fun a hF => ?_⟩; refine pv hF hW (y_assign hF rfl) fun a hF => l_nil ?_; replace hF := hF.ks [0, 1, 2, 4, 5, 6] rfl; refine t_n <| c_sr <| pv hF hW (y_move hF rfl) fun a hF => pv hF hW (y_neq hF rfl rfl) fun a hF => ?_; refine Fr.splitD hF ?_ ?_
    · intro h2 hF; refine l_nil ?_; replace hF := hF.ks [0, 1, 2, 4, 5, 6, 15] rfl; refine t_n <| c_t hF rfl <| c_sr <| pv hF hW (y_move hF rfl) fun a hF => ?_; replace hF := hF.drop 4; refine pv hF hW (y_assign hF rfl) fun a hF => ?_; replace hF := hF.drop 5; refine pv hF hW (y_assign hF rfl) fun a hF => l_nil ?_; replace hF := hF.ks [0, 1, 2, 4, 5, 6, 15] rfl; refine t_n <| wp_ret <| t_r <| ret2 Tryz.results15 hF (rv_t hF rfl) (rv_t hF rfl) ?_
      exact ⟨[], none, 0, rfl, rfl, hW.below, fun _ _ => Flat.nil_⟩
    · intro h2 hF; exfalso
      exact h2 h0
end Go.Proofs.YtnpflhaggfabnaaGreat
