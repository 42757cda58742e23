/- The reference's Named: the channels that a right program names, in order. -/
import Derived.Test.YtfkngjglnhfdcaaGreatDoorCodSh
namespace Go.Proofs.YtfkngjglnhfdcaaGreatDoor
set_option linter.unusedVariables false
set_option linter.unusedSimpArgs false
open Go.ChangeShapes Go.WideShapes Go.ChangeAt Go.RowKit
theorem bs_CodNa_23_1_0 (x0 : Int) (w : World) : (Instr.buildSlice 23 1 #[(0, (.int .i64 x0))]).run Tryz.prog w = .ok (.slice (some ⟨w.heap.size, 0, none⟩) 1 1) (w.alloc (.cells #[(.int .i64 x0)] 3)) := by kernel_rfl
set_option maxRecDepth 100000

theorem asc_unique : ∀ {l m : List Int}, l.Pairwise (· < ·) → m.Pairwise (· < ·) → (∀ x, x ∈ l ↔ x ∈ m) → l = m
  | [], [], _, _, _ => rfl
  | [], b :: m, _, _, h => by have := (h b).2 List.mem_cons_self; cases this
  | a :: l, [], _, _, h => by have := (h a).1 List.mem_cons_self; cases this
  | a :: l, b :: m, hl, hm, h => by
    obtain ⟨ha, hl2⟩ := List.pairwise_cons.1 hl
    obtain ⟨hb, hm2⟩ := List.pairwise_cons.1 hm
    have e : a = b := by
      rcases List.mem_cons.1 ((h a).1 List.mem_cons_self) with e | e
      · exact e
      · rcases List.mem_cons.1 ((h b).2 List.mem_cons_self) with e2 | e2
        · exact e2.symm
        · have := ha b e2
          have := hb a e
          omega
    subst e
    refine congrArg (a :: ·) (asc_unique hl2 hm2 fun x => ⟨fun hx => ?_, fun hx => ?_⟩)
    · rcases List.mem_cons.1 ((h x).1 (List.mem_cons_of_mem _ hx)) with e | e
      · have := ha x hx
        omega
      · exact e
    · rcases List.mem_cons.1 ((h x).2 (List.mem_cons_of_mem _ hx)) with e | e
      · have := hb x hx
        omega
      · exact e
theorem picks_nodup {op : Int} : ∀ (l : List Ins) (acc : List Int), acc.Nodup → (l.foldl (pickOp op) acc).Nodup
  | [], _, h => h
  | i :: l, acc, h => by
    refine picks_nodup l _ ?_
    unfold pickOp
    split
    · rename_i h2
      exact List.nodup_append.2 ⟨h, by simp, fun a ha b hb e => h2.2 (by rw [List.mem_singleton] at hb; rw [← hb, ← e]; exact ha)⟩
    · exact h
theorem named_asc (op : Int) (l : List Ins) : (namedOf op l).Pairwise (· < ·) := by
  unfold namedOf sorted
  have h1 := List.pairwise_mergeSort (le := fun x y : Int => decide (x ≤ y)) (fun a b c h1 h2 => by simp at *; omega) (fun a b => by simp; omega) (l.foldl (pickOp op) [])
  have h2 : ((l.foldl (pickOp op) []).mergeSort fun x y => decide (x ≤ y)).Nodup := (List.mergeSort_perm _ _).nodup_iff.2 (picks_nodup l [] List.nodup_nil)
  exact (h1.and h2).imp fun h => by
    have := of_decide_eq_true h.1
    have := h.2
    omega
/-- is a number named? -/
def isNum (op : Int) (l : List Ins) (j : Nat) : Bool := l.any fun x => decide (x.op = op ∧ x.n = (j : Int))
def filtN (op : Int) (l : List Ins) (k : Nat) : List Int := ((List.range k).filter (isNum op l)).map fun j : Nat => (j : Int)
theorem filtN_succ (op : Int) (l : List Ins) (k : Nat) : filtN op l (k + 1) = filtN op l k ++ (if isNum op l k then [(k : Int)] else []) := by
  unfold filtN
  rw [List.range_succ, List.filter_append, List.map_append]
  congr 1
  cases h : isNum op l k <;> simp [h]
theorem filtN_yes {op : Int} {l : List Ins} {k : Nat} (h : isNum op l k = true) : filtN op l (k + 1) = filtN op l k ++ [(k : Int)] := by rw [filtN_succ, if_pos h]
theorem filtN_no {op : Int} {l : List Ins} {k : Nat} (h : isNum op l k = false) : filtN op l (k + 1) = filtN op l k := by rw [filtN_succ, if_neg (by rw [h]; decide), List.append_nil]
theorem filtN_len (op : Int) (l : List Ins) (k : Nat) : (filtN op l k).length ≤ k := by
  unfold filtN
  rw [List.length_map]
  have := List.length_filter_le (isNum op l) (List.range k)
  rwa [List.length_range] at this
theorem filtN_asc (op : Int) (l : List Ins) (k : Nat) : (filtN op l k).Pairwise (· < ·) := by
  unfold filtN
  rw [List.pairwise_map]
  refine (List.Pairwise.filter _ (List.pairwise_lt_range)).imp ?_
  intro a b h
  omega
theorem chk_num {i : Ins} (h : chkIns i = 0) (ho : i.op = 12 ∨ i.op = 13) : 0 ≤ i.n ∧ i.n < 6 := by
  unfold chkIns chkI at h
  have h1 : numOk i.op i.n = decide (0 ≤ i.n ∧ i.n < 6) := by
    unfold numOk
    rw [if_neg (by omega), if_pos ho]
  split at h
  · cases h
  · split at h
    · cases h
    · split at h
      · cases h
      · rename_i h3
        rw [h1] at h3
        simpa using h3
theorem filt_named {op : Int} {l : List Ins} (ho : op = 12 ∨ op = 13) (hc : chkCode l = 0) : filtN op l 6 = namedOf op l := by
  refine asc_unique (filtN_asc _ _ _) (named_asc _ _) fun x => ?_
  rw [mem_namedOf]
  unfold filtN isNum
  simp only [List.mem_map, List.mem_filter, List.mem_range, List.any_eq_true, decide_eq_true_eq]
  constructor
  · rintro ⟨j, ⟨hj, i, hi, h1, h2⟩, rfl⟩
    exact ⟨i, hi, h1, h2⟩
  · rintro ⟨i, hi, h1, h2⟩
    have := chk_num ((chkCode_all hc).2 i hi) (by omega)
    exact ⟨x.toNat, ⟨by omega, i, hi, h1, by omega⟩, by omega⟩
theorem any_take {α : Type} (f : α → Bool) (d : α) {l : List α} {k : Nat} (hk : k < l.length) : (l.take (k + 1)).any f = ((l.take k).any f || f (l.getD k d)) := by
  rw [List.take_succ_eq_append_getElem hk, List.any_append, List.getD, List.getElem?_eq_getElem hk]
  simp
set_option maxHeartbeats 8000000 in
theorem namedR_any {A : Option Addr} {n c : Nat} {l : List Ins} {w : World} (h : Code_ w (.slice A n c) l) {op : Int} (ho : op = 12 ∨ op = 13) (hc : chkCode l = 0) :
    Calls Tryz.prog 9 #[.slice A n c, .int .i64 op] w fun e w' => ∃ A' c', e = .returned (.slice A' (namedOf op l).length c') ∧ Below w.heap.size w w' ∧ OwnRes w w' (fun u => Ints u (.slice A' (namedOf op l).length c') (namedOf op l)) := by
  have hl := h.len
  unfold maxLen at hl
  have hR := h.rf Ins.cells_len I0
  have hfn := filt_named ho hc
  refine enter Tryz.func9 rfl Tryz.ntmps9 rfl fun a hF => ?_
  have hW := Wd.start w NoB
  refine c_sr <| pv hF hW (y_assign hF rfl) fun a hF => l_nil <| t_n <| c_sr <| pv hF hW (y_assign hF rfl) fun a hF => l_nil <| t_n <| c_s <| c_sr <| pv hF hW (y_assign hF rfl) fun a hF => l_nil <| t_n <| wp_block ?_; replace hW := hW.nil_row 3 1; refine c_loop (G := Nat × Option Addr × Nat) (fun (gq : Nat × Option Addr × Nat) => match gq with | ⟨j, A', c'⟩ => [(6, .int .i64 (j : Int)), (5, .slice A' (filtN op l j).length c')]) (fun (gq : Nat × Option Addr × Nat) => match gq with | ⟨j, A', c'⟩ => [.row 3 1 (.slice A' (filtN op l j).length c') (filtN op l j).length ((filtN op l j).map (.int .i64))]) (fun (gq : Nat × Option Addr × Nat) => match gq with | ⟨j, A', c'⟩ => j ≤ 6) (fun (gq : Nat × Option Addr × Nat) => match gq with | ⟨j, A', c'⟩ => 6 - j) (0, none, 0) (hF.ks [0, 1, 4] rfl) (Fr.cons hF (t := 6) rfl (by first | rfl | (simp; done)) (Fr.cons hF (t := 5) rfl (by first | rfl | (simp; done)) (Fr.nil hF))) (hW) ?_ ?_
  · simp
  clear hF hW
  try clear a
  intro gq a wc hC hF hW
  obtain ⟨j, A', c'⟩ := gq
  dsimp only at hC
  refine c_s <| c_sr <| pv hF hW (y_move hF rfl) fun a hF => pv hF hW (y_lss hF rfl rfl) fun a hF => ?_; refine Fr.splitD hF ?_ ?_
  · intro h1 hF; refine l_nil ?_; replace hF := hF.ks [0, 1, 4, 5, 6, 10] rfl; refine t_n <| c_t hF rfl <| wp_skip <| t_n <| c_s <| wp_block <| c_sr <| pv hF hW (y_assign hF rfl) fun a hF => l_nil <| t_n <| c_s <| c_sr <| pv hF hW (y_assign hF rfl) fun a hF => l_nil <| t_n <| wp_block ?_; refine c_loop (G := Nat × Bool) (fun (gq : Nat × Bool) => match gq with | ⟨k, f⟩ => [(8, .int .i64 (k : Int)), (7, .bool f)]) (fun (gq : Nat × Bool) => match gq with | ⟨k, f⟩ => []) (fun (gq : Nat × Bool) => match gq with | ⟨k, f⟩ => k ≤ n ∧ f = (l.take k).any (fun x => decide (x.op = op ∧ x.n = (j : Int)))) (fun (gq : Nat × Bool) => match gq with | ⟨k, f⟩ => n - k) (0, false) (hF.ks [0, 1, 4, 5, 6, 10] rfl) (Fr.cons hF (t := 8) rfl (by first | rfl | (simp; done)) (Fr.cons hF (t := 7) rfl (by first | rfl | (simp; done)) (Fr.nil hF))) (hW) ?_ ?_
    · exact ⟨by omega, by simp⟩
    clear hF hW
    try clear a
    intro gq a wc hC hF hW
    obtain ⟨k, f⟩ := gq
    dsimp only at hC
    obtain ⟨hkn, hf⟩ := hC
    refine c_s <| c_sr <| pv hF hW (y_move hF rfl) fun a hF => pv hF hW (y_move hF rfl) fun a hF => pv hF hW (y_len hF rfl Tryz.underlying22) fun a hF => pv hF hW (y_lss hF rfl rfl) fun a hF => ?_; refine Fr.splitD hF ?_ ?_
    · intro h2 hF; refine l_nil ?_; replace hF := hF.ks [0, 1, 4, 5, 6, 7, 8, 10, 16] rfl; refine t_n <| c_t hF rfl <| wp_skip <| t_n <| c_s <| wp_block <| c_r <| pv hF hW (y_move hF rfl) fun a hF => ?_; refine Fr.splitB hF ?_ ?_
      · intro h3 hF; refine pv hF hW (y_move hF rfl) fun a hF => pk hF (wn hF rfl rfl rfl) fun a hF => pk hF (wn hF rfl rfl rfl) fun a hF => pk hF (wn hF rfl rfl rfl) fun a hF => pk hF (wn hF rfl rfl rfl) fun a hF => pk hF (wn hF rfl rfl rfl) fun a hF => pk hF (wn hF rfl rfl rfl) fun a hF => pk hF (wn hF rfl rfl rfl) fun a hF => pk hF (wn hF rfl rfl rfl) fun a hF => pk hF (wu hF rfl rfl) fun a hF => pk hF (wu hF rfl rfl) fun a hF => pk hF (wu hF rfl rfl) fun a hF => pk hF (wu hF rfl rfl) fun a hF => pk hF (wu hF rfl rfl) fun a hF => pk hF (wu hF rfl rfl) fun a hF => pk hF (wu hF rfl rfl) fun a hF => pk hF (wn hF rfl rfl rfl) fun a hF => pv hF hW (y_pick hF rfl rfl) fun a hF => ?_; replace hF := hF.drop 7; refine pv hF hW (y_assign hF rfl) fun a hF => l_nil ?_; replace hF := hF.ks [0, 1, 4, 5, 6, 7, 8, 10, 16] rfl; refine b_n <| t_n <| c_r <| pv hF hW (y_move hF rfl) fun a hF => pv hF hW (y_add hF rfl rfl (IntWalk.i64_in _ (by omega))) fun a hF => ?_; replace hF := hF.drop 8; refine pv hF hW (y_assign hF rfl) fun a hF => l_nil ?_; replace hF := hF.ks [0, 1, 4, 5, 6, 7, 8, 10, 16] rfl; refine t_n ?_; refine ⟨(k + 1, true), ?_, ?_, ?_, ?_⟩
        · exact ⟨by omega, by rw [any_take _ I0 (by omega), ← hf]; simp_all⟩
        · first | omega | (dsimp only; omega)
        · exact Fr.app (Fr.cons hF (t := 8) rfl (by first | rfl | (simp; done) | omega) (Fr.cons hF (t := 7) rfl (by first | rfl | (simp; done) | omega) (Fr.nil hF))) (hF.ks [0, 1, 4, 5, 6, 10] rfl)
        · exact hW
      · intro h3 hF; refine pv hF hW (y_move hF rfl) fun a hF => pvg hF hW (y_move hF rfl) (ws hF rfl rfl) fun a hF => pvg hF hW (y_move hF rfl) (ws hF rfl rfl) fun a hF => pvg hF hW (y_indexS hF rfl rfl (by omega) Tryz.underlying22 sz_46 (fun w h => (hR).wd h)) (ws hF rfl rfl) fun a hF => pvg hF hW (y_fieldRow hF rfl fa_46_0) (ws hF rfl rfl) fun a hF => pvg hF hW (y_loadRow hF rfl (fun w h => (hR).wd h) (by omega) rfl Tryz.underlying3 rfl) (ws hF rfl rfl) fun a hF => pvg hF hW (y_move hF rfl) (ws hF rfl rfl) fun a hF => pvg hF hW (y_eql hF rfl rfl) (ws hF rfl rfl) fun a hF => ?_; refine Fr.splitD hF ?_ ?_
        · intro h4 hF; refine pvg hF hW (y_move hF rfl) (ws hF rfl rfl) fun a hF => pvg hF hW (y_move hF rfl) (ws hF rfl rfl) fun a hF => pvg hF hW (y_move hF rfl) (ws hF rfl rfl) fun a hF => pvg hF hW (y_indexS hF rfl rfl (by omega) Tryz.underlying22 sz_46 (fun w h => (hR).wd h)) (ws hF rfl rfl) fun a hF => pvg hF hW (y_fieldRow hF rfl fa_46_3) (ws hF rfl rfl) fun a hF => pvg hF hW (y_loadRow hF rfl (fun w h => (hR).wd h) (by omega) rfl Tryz.underlying3 rfl) (ws hF rfl rfl) fun a hF => pvg hF hW (y_move hF rfl) (ws hF rfl rfl) fun a hF => pvg hF hW (y_eql hF rfl rfl) (ws hF rfl rfl) fun a hF => ?_; refine Fr.splitD hF ?_ ?_
          · intro h5 hF; refine pvg hF hW (y_pick hF rfl rfl) (ws hF rfl rfl) fun a hF => pv hF hW (y_pick hF rfl rfl) fun a hF => ?_; replace hF := hF.drop 7; refine pv hF hW (y_assign hF rfl) fun a hF => l_nil ?_; replace hF := hF.ks [0, 1, 4, 5, 6, 7, 8, 10, 16] rfl; refine b_n <| t_n <| c_r <| pv hF hW (y_move hF rfl) fun a hF => pv hF hW (y_add hF rfl rfl (IntWalk.i64_in _ (by omega))) fun a hF => ?_; replace hF := hF.drop 8; refine pv hF hW (y_assign hF rfl) fun a hF => l_nil ?_; replace hF := hF.ks [0, 1, 4, 5, 6, 7, 8, 10, 16] rfl; refine t_n ?_; refine ⟨(k + 1, true), ?_, ?_, ?_, ?_⟩
            · exact ⟨by omega, by rw [any_take _ I0 (by omega), ← hf]; simp_all⟩
            · first | omega | (dsimp only; omega)
            · exact Fr.app (Fr.cons hF (t := 8) rfl (by first | rfl | (simp; done) | omega) (Fr.cons hF (t := 7) rfl (by first | rfl | (simp; done) | omega) (Fr.nil hF))) (hF.ks [0, 1, 4, 5, 6, 10] rfl)
            · exact hW
          · intro h5 hF; refine pvg hF hW (y_pick hF rfl rfl) (ws hF rfl rfl) fun a hF => pv hF hW (y_pick hF rfl rfl) fun a hF => ?_; replace hF := hF.drop 7; refine pv hF hW (y_assign hF rfl) fun a hF => l_nil ?_; replace hF := hF.ks [0, 1, 4, 5, 6, 7, 8, 10, 16] rfl; refine b_n <| t_n <| c_r <| pv hF hW (y_move hF rfl) fun a hF => pv hF hW (y_add hF rfl rfl (IntWalk.i64_in _ (by omega))) fun a hF => ?_; replace hF := hF.drop 8; refine pv hF hW (y_assign hF rfl) fun a hF => l_nil ?_; replace hF := hF.ks [0, 1, 4, 5, 6, 7, 8, 10, 16] rfl; refine t_n ?_; refine ⟨(k + 1, false), ?_, ?_, ?_, ?_⟩
            · exact ⟨by omega, by rw [any_take _ I0 (by omega), ← hf]; simp_all⟩
            · first | omega | (dsimp only; omega)
            · exact Fr.app (Fr.cons hF (t := 8) rfl (by first | rfl | (simp; done) | omega) (Fr.cons hF (t := 7) rfl (by first | rfl | (simp; done) | omega) (Fr.nil hF))) (hF.ks [0, 1, 4, 5, 6, 10] rfl)
            · exact hW
        · intro h4 hF; refine pvg hF hW (y_move hF rfl) (ws hF rfl rfl) fun a hF => pk hF (wn hF rfl rfl rfl) fun a hF => pk hF (wn hF rfl rfl rfl) fun a hF => pk hF (wn hF rfl rfl rfl) fun a hF => pk hF (wn hF rfl rfl rfl) fun a hF => pk hF (wn hF rfl rfl rfl) fun a hF => pk hF (wn hF rfl rfl rfl) fun a hF => pk hF (wn hF rfl rfl rfl) fun a hF => pvg hF hW (y_pick hF rfl rfl) (ws hF rfl rfl) fun a hF => pv hF hW (y_pick hF rfl rfl) fun a hF => ?_; replace hF := hF.drop 7; refine pv hF hW (y_assign hF rfl) fun a hF => l_nil ?_; replace hF := hF.ks [0, 1, 4, 5, 6, 7, 8, 10, 16] rfl; refine b_n <| t_n <| c_r <| pv hF hW (y_move hF rfl) fun a hF => pv hF hW (y_add hF rfl rfl (IntWalk.i64_in _ (by omega))) fun a hF => ?_; replace hF := hF.drop 8; refine pv hF hW (y_assign hF rfl) fun a hF => l_nil ?_; replace hF := hF.ks [0, 1, 4, 5, 6, 7, 8, 10, 16] rfl; refine t_n ?_; refine ⟨(k + 1, false), ?_, ?_, ?_, ?_⟩
          · exact ⟨by omega, by rw [any_take _ I0 (by omega), ← hf]; simp_all⟩
          · first | omega | (dsimp only; omega)
          · exact Fr.app (Fr.cons hF (t := 8) rfl (by first | rfl | (simp; done) | omega) (Fr.cons hF (t := 7) rfl (by first | rfl | (simp; done) | omega) (Fr.nil hF))) (hF.ks [0, 1, 4, 5, 6, 10] rfl)
          · exact hW
    · intro h2 hF; refine l_nil ?_; replace hF := hF.ks [0, 1, 4, 5, 6, 7, 8, 10, 16] rfl; refine t_n <| c_f hF rfl <| wp_exit <| t_x <| t_x <| b_h <| t_n ?_
      have hq : isNum op l j = f := (by rw [hf, show k = n by omega, List.take_of_length_le (by omega)]; rfl)
      have hfl := filtN_len op l j
      have hfl1 := filtN_len op l (j + 1)
      refine c_sr <| pv hF hW (y_move hF rfl) fun a hF => ?_; refine Fr.splitB hF ?_ ?_
      · intro h6 hF; refine l_nil <| t_n <| c_t hF rfl <| c_r <| pv hF hW (y_move hF rfl) fun a hF => pv hF hW (y_move hF rfl) fun a hF => ?_; refine pe (e_buildSlice hF hW rfl (fun w => bs_CodNa_23_1_0 _ w) rfl rfl rfl ?_); intro b7 a wc hF hW; refine pe (e_append hF hW 1 rfl rfl rfl Tryz.underlying23 inf_3 rfl (by decide) (rowAt_blk (hW.blk 0 rfl) 1 1 rfl) (by simp [Value.oneCell']) (show _ = (filtN op l (j + 1)).length by rw [filtN_yes (hq.trans (by assumption))]; simp) (show _ = (filtN op l (j + 1)).map (.int .i64) by rw [filtN_yes (hq.trans (by assumption))]; simp) (by first | omega | (simp; omega)) (by unfold maxLen; first | omega | (simp; omega)) rfl rfl ?_); intro A8 c9 a wc hF hW; replace hF := hF.drop 5; refine pv hF hW (y_assign hF rfl) fun a hF => l_nil ?_; replace hF := hF.ks [0, 1, 4, 5, 6, 7, 8, 10, 16, 38] rfl; refine b_n <| t_n <| c_r <| pv hF hW (y_move hF rfl) fun a hF => pv hF hW (y_add hF rfl rfl (IntWalk.i64_in _ (by omega))) fun a hF => ?_; replace hF := hF.drop 6; refine pv hF hW (y_assign hF rfl) fun a hF => l_nil ?_; replace hF := hF.ks [0, 1, 4, 5, 6, 7, 8, 10, 16, 38] rfl; replace hW := hW.del 0 rfl; refine t_n ?_; refine ⟨(j + 1, A8, c9), ?_, ?_, ?_, ?_⟩
        · omega
        · first | omega | (dsimp only; omega)
        · exact Fr.app (Fr.cons hF (t := 6) rfl (by first | rfl | (rw [filtN_no (hq.trans (by assumption))]) | (simp; done) | omega) (Fr.cons hF (t := 5) rfl (by first | rfl | (rw [filtN_no (hq.trans (by assumption))]) | (simp; done) | omega) (Fr.nil hF))) (hF.ks [0, 1, 4] rfl)
        · exact hW
      · intro h6 hF; refine l_nil <| t_n <| c_f hF rfl <| wp_skip <| b_n <| t_n <| c_r <| pv hF hW (y_move hF rfl) fun a hF => pv hF hW (y_add hF rfl rfl (IntWalk.i64_in _ (by omega))) fun a hF => ?_; replace hF := hF.drop 6; refine pv hF hW (y_assign hF rfl) fun a hF => l_nil ?_; replace hF := hF.ks [0, 1, 4, 5, 6, 7, 8, 10, 16, 38] rfl; refine t_n ?_; refine ⟨(j + 1, A', c'), ?_, ?_, ?_, ?_⟩
        · omega
        · first | omega | (dsimp only; omega)
        · exact Fr.app (Fr.cons hF (t := 6) rfl (by first | rfl | (rw [filtN_no (hq.trans (by assumption))]) | (simp; done) | omega) (Fr.cons hF (t := 5) rfl (by first | rfl | (rw [filtN_no (hq.trans (by assumption))]) | (simp; done) | omega) (Fr.nil hF))) (hF.ks [0, 1, 4] rfl)
        · exact by dsimp only; rw [filtN_no (hq.trans (by assumption))]; exact hW
  · intro h1 hF; refine l_nil ?_; replace hF := hF.ks [0, 1, 4, 5, 6, 10] rfl; refine t_n <| c_f hF rfl <| wp_exit <| t_x <| t_x <| b_h <| t_n <| c_sr <| pv hF hW (y_move hF rfl) fun a hF => ?_; replace hF := hF.drop 4; refine pv hF hW (y_assign hF rfl) fun a hF => l_nil ?_; replace hF := hF.ks [0, 1, 4, 5, 6, 10] rfl; refine t_n <| wp_ret <| ret1 Tryz.results9 hF (rv_t hF rfl) ?_
    obtain rfl : j = 6 := (by omega)
    rw [← hfn]
    exact ⟨A', c', rfl, hW.below, (OwnRes.of_own (hW.row_own 0 rfl)).mono fun _ h => Ints.of_own h⟩
end Go.Proofs.YtfkngjglnhfdcaaGreatDoor
