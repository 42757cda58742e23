/- The reference's CodeFrom finds what a text says as a program. -/
import Derived.Test.YtfkngjglnhfdcaaGreatDoorCodRd
namespace Go.Proofs.YtfkngjglnhfdcaaGreatDoor
set_option linter.unusedVariables false
set_option linter.unusedSimpArgs false
open Go.ChangeShapes Go.WideShapes Go.ChangeAt Go.RowKit
theorem bs_CodFr_22_1_0 (x0 : Int) (x1 : Int) (x2 : Int) (x3 : Int) (w : World) : (Instr.buildSlice 22 1 #[(0, (.agg #[(.int .i64 x0), (.int .i64 x1), (.int .i64 x2), (.int .i64 x3)]))]).run Tryz.prog w = .ok (.slice (some ⟨w.heap.size, 0, none⟩) 1 1) (w.alloc (.cells #[(.int .i64 x0), (.int .i64 x1), (.int .i64 x2), (.int .i64 x3)] 46)) := by kernel_rfl
set_option maxRecDepth 100000

theorem getD_left {α : Type} {l m : List α} {j : Nat} {d : α} (h : j < l.length) : (l ++ m).getD j d = l.getD j d := by
  rw [List.getD, List.getElem?_append_left h]
  rfl
theorem getD_snoc {α : Type} {l : List α} {x d : α} : (l ++ [x]).getD l.length d = x := by
  rw [List.getD, List.getElem?_append_right (Nat.le_refl _), Nat.sub_self]
  rfl
theorem getD_get {α : Type} {l : List α} {j : Nat} {d : α} (h : j < l.length) : l.getD j d = l[j] := by
  rw [List.getD, List.getElem?_eq_getElem h]
  rfl
theorem split_code : ∀ l : List Ins, splitC 10 (codeTxt l) = l.map txtI ++ [[]]
  | [] => rfl
  | i :: l => by
    have : codeTxt (i :: l) = txtI i ++ 10 :: codeTxt l := by
      unfold codeTxt
      rw [List.flatMap_cons, List.append_assoc]
      rfl
    rw [this, splitC_app _ (txt_no10 i), split_code l]
    rfl
/-- where a program is said: its pieces -/
theorem saysC_take {s : List UInt8} {K : List Ins} (h : SaysC s K) : (splitC 10 s).take 22 = K.map txtI ++ [[]] ∧ K.length ≤ 20 := by
  have h20 := (chkCode_all h.1).1.2
  rw [← h.2.2, split_code, List.take_of_length_le (by simp; omega)]
  exact ⟨rfl, h20⟩
def FrI (P : List (List UInt8)) (k : Nat) (L : List Ins) : Prop := L.length = k ∧ k + 1 ≤ P.length ∧ ∀ j, j < k → Says (P.getD j []) (L.getD j I0)
theorem FrI.succ {P : List (List UInt8)} {k : Nat} {L : List Ins} (h : FrI P k L) (hk : k + 1 < P.length) {i : Ins} (hi : Says (P.getD k []) i) : FrI P (k + 1) (L ++ [i]) := by
  obtain ⟨h1, h2, h3⟩ := h
  refine ⟨by simp [h1], hk, fun j hj => ?_⟩
  by_cases e : j = k
  · subst e
    have e2 : (L ++ [i]).getD j I0 = i := by rw [← h1]; exact getD_snoc
    rw [e2]
    exact hi
  · rw [getD_left (l := L) (by omega)]
    exact h3 j (by omega)
theorem FrI.all {P : List (List UInt8)} {k : Nat} {L : List Ins} (h : FrI P k L) : ∀ i ∈ L, chkIns i = 0 ∧ i.In := by
  intro i hi
  obtain ⟨j, hj, rfl⟩ := List.mem_iff_getElem.1 hi
  have := h.2.2 j (by rw [← h.1]; exact hj)
  rw [getD_get hj] at this
  exact ⟨this.1, this.2.1⟩
theorem FrI.bad {s : List UInt8} {P : List (List UInt8)} (hP : P = (splitC 10 s).take 22) {k : Nat} {L : List Ins} (_ : FrI P k L) (hk : k + 1 < P.length) (hno : ∀ j, ¬ Says (P.getD k []) j) (K : List Ins) : ¬ SaysC s K := by
  intro hK
  have hP2 := hP.trans (saysC_take hK).1
  have hkl : k < K.length := by
    have := congrArg List.length hP2
    simp at this
    omega
  refine hno K[k] ⟨(chkCode_all hK.1).2 _ (List.getElem_mem hkl), hK.2.1 _ (List.getElem_mem hkl), ?_⟩
  rw [hP2, getD_left (by simpa using hkl), getD_get (by simpa using hkl), List.getElem_map]
theorem FrI.end_ {s : List UInt8} {P : List (List UInt8)} (hP : P = (splitC 10 s).take 22) {k : Nat} {L : List Ins} (h : FrI P k L) (hk : ¬ k + 1 < P.length) {K : List Ins} (hK : SaysC s K) : K = L := by
  have hP2 := hP.trans (saysC_take hK).1
  have hkl : K.length = k := by
    have := congrArg List.length hP2
    simp at this
    have := h.2.1
    omega
  apply List.ext_getElem (by rw [hkl, h.1])
  intro j h1 h2
  have h3 := h.2.2 j (by omega)
  rw [hP2, getD_left (by simpa using h1), getD_get (by simpa using h1), List.getElem_map, getD_get h2] at h3
  have h4 : Says (txtI K[j]) K[j] := ⟨(chkCode_all hK.1).2 _ (List.getElem_mem h1), hK.2.1 _ (List.getElem_mem h1), rfl⟩
  exact h4.unique h3
set_option maxHeartbeats 8000000 in
theorem codeFrom_any (l : List UInt8) (hl : l.length ≤ 1048576) (w : World) : Calls Tryz.prog 16 #[.string (bstr l)] w fun e w' =>
    ∃ (L : List Ins) (A : Option Addr) (c : Nat) (x : Bool), e = .returned (.tuple #[.slice A L.length c, .bool x]) ∧ Below w.heap.size w w' ∧ OwnRes w w' (fun u => Code_ u (.slice A L.length c) L) ∧ RdC l L x := by
  obtain ⟨P, hP⟩ : ∃ P, P = (splitC 10 l).take 22 := ⟨_, rfl⟩
  have hp0 : 0 < P.length := by
    have := splitC_pos 10 l
    rw [hP, List.length_take]
    omega
  have hp22 : P.length ≤ 22 := by rw [hP, List.length_take]; omega
  have hPl : ∀ k, (P.getD k []).length ≤ 1048576 := by
    intro k
    by_cases hk : k < P.length
    · rw [List.getD, List.getElem?_eq_getElem hk]
      have := piece_len (c := 10) l P[k] (List.mem_of_mem_take (i := 22) (by rw [← hP]; exact List.getElem_mem hk))
      show P[k].length ≤ _
      omega
    · rw [List.getD, List.getElem?_eq_none (by omega)]
      exact Nat.zero_le _
  have hsp := split_any 10 22 (by omega) l (by omega)
  rw [← hP] at hsp
  refine enter Tryz.func16 rfl Tryz.ntmps16 rfl fun a hF => ?_
  have hW := Wd.start w NoB
  refine c_sr <| pv hF hW (y_assign hF rfl) fun a hF => pv hF hW (y_assign hF rfl) fun a hF => l_nil <| t_n <| c_sr <| pv hF hW (y_move hF rfl) fun a hF => ?_; refine pe (e_call hF rfl rfl en_31 (by rfl) rfl rfl (hsp _) ?_); rintro e w1 ⟨A0, c0, rfl, hN⟩; replace hW := (hW.comb1 hN).row_vseg 0 rfl hp0; refine ⟨_, rfl, fun a hF => ?_⟩; refine pv hF hW (y_assign hF rfl) fun a hF => l_nil ?_; replace hF := hF.ks [0, 2, 3, 4] rfl; refine t_n <| c_sr <| pv hF hW (y_assign hF rfl) fun a hF => l_nil <| t_n <| c_s <| c_sr <| pv hF hW (y_assign hF rfl) fun a hF => l_nil <| t_n <| wp_block ?_; replace hW := hW.nil_row 46 4; refine c_loop (G := Nat × List Ins × Option Addr × Nat) (fun (gq : Nat × List Ins × Option Addr × Nat) => match gq with | ⟨k, L, A, c⟩ => [(6, .int .i64 (k : Int)), (5, .slice A L.length c)]) (fun (gq : Nat × List Ins × Option Addr × Nat) => match gq with | ⟨k, L, A, c⟩ => [.row 46 4 (.slice A L.length c) L.length (L.flatMap Ins.cells)]) (fun (gq : Nat × List Ins × Option Addr × Nat) => match gq with | ⟨k, L, A, c⟩ => FrI P k L) (fun (gq : Nat × List Ins × Option Addr × Nat) => match gq with | ⟨k, L, A, c⟩ => P.length - k) (0, [], none, 0) (hF.ks [0, 4] rfl) (Fr.cons hF (t := 6) rfl (by first | rfl | (simp; done)) (Fr.cons hF (t := 5) rfl (by first | rfl | (simp; done)) (Fr.nil hF))) (hW) ?_ ?_
  · exact ⟨rfl, hp0, fun j h => absurd h (by omega)⟩
  clear hF hW
  try clear a
  intro gq a wc hC hF hW
  obtain ⟨k, L, A, c⟩ := gq
  dsimp only at hC
  have hkP := hC.2.1
  have hL1 := hC.1
  refine c_s <| c_sr <| pv hF hW (y_move hF rfl) fun a hF => pv hF hW (y_add hF rfl rfl (IntWalk.i64_in _ (by omega))) fun a hF => pv hF hW (y_move hF rfl) fun a hF => pv hF hW (y_len hF rfl Tryz.underlying66) fun a hF => pv hF hW (y_lss hF rfl rfl) fun a hF => ?_; refine Fr.splitD hF ?_ ?_
  · intro h1 hF; refine l_nil ?_; replace hF := hF.ks [0, 4, 5, 6, 15] rfl; refine t_n <| c_t hF rfl <| wp_skip <| t_n <| c_s <| wp_block ?_
    have hk6 : k + 1 < P.length := (by omega)
    refine c_sr <| pv hF hW (y_move hF rfl) fun a hF => pv hF hW (y_move hF rfl) fun a hF => pv hF hW (y_indexS hF rfl rfl (by omega) Tryz.underlying66 sz_9 (fun w h => (h.vsegR (d0 := .nilFunc) 1 rfl))) fun a hF => pv hF hW (y_loadRow hF rfl (fun w h => (h.vsegR (d0 := .nilFunc) 1 rfl)) (by omega) (congrArg some (strV_getD (k := k) (by omega))) Tryz.underlying9 rfl) fun a hF => ?_; refine pe (e_call hF rfl rfl en_32 (by rfl) rfl rfl (instrFrom_any _ (Nat.le_trans (hPl k) (by decide)) _) ?_); rintro e w1 ⟨i, b, rfl, hb, hor⟩; replace hW := hW.kept hb; clear hb; refine ⟨_, rfl, fun a hF => ?_⟩; refine pv hF hW (y_move hF rfl) fun a hF => pv hF hW (y_extract hF rfl rfl) fun a hF => pv hF hW (y_extract hF rfl rfl) fun a hF => ?_; refine Fr.splitB hF ?_ ?_
    · intro h2 hF; refine pe (e_alloc hF hW ze_46 rfl rfl rfl ?_); intro b3 a wc hF hW; refine pe (e_storeAll rfl hF hW rfl rfl 0 rfl rfl rfl (by kernel_rfl) sz_46 ?_); intro wc hW; refine pv hF hW (y_assign hF rfl) fun a hF => l_nil ?_; replace hF := hF.ks [0, 4, 5, 6, 7, 8, 15] rfl; refine t_n <| c_s <| c_sr <| pv hF hW (y_move hF rfl) fun a hF => pv hF hW (y_not hF rfl) fun a hF => ?_; replace hF := hF.ff; refine l_nil ?_; replace hF := hF.ks [0, 4, 5, 6, 7, 8, 15, 27] rfl; refine t_n <| c_f hF rfl <| wp_skip <| t_n ?_
      have hi : Says (P.getD k []) i := (by rcases hor with ⟨_, h⟩ | ⟨h, _⟩; exact h; simp_all)
      refine c_r <| pv hF hW (y_move hF rfl) fun a hF => pv hF hW (y_loadAll hF rfl 0 rfl Tryz.underlying46 rfl sz_46) fun a hF => ?_; refine pe (e_buildSlice hF hW rfl (fun w => bs_CodFr_22_1_0 _ _ _ _ w) rfl rfl rfl ?_); intro b4 a wc hF hW; refine pe (e_append hF hW 2 rfl rfl rfl Tryz.underlying22 inf_46 rfl (by decide) (rowAt_blk (hW.blk 0 rfl) 4 1 rfl) (by simp [Value.oneCell']) (show _ = (L ++ [i]).length by simp) (show _ = (L ++ [i]).flatMap Ins.cells by rw [List.flatMap_append]; simp [Ins.cells]) (by first | omega | (simp; omega)) (by unfold maxLen; first | omega | (simp; omega)) rfl rfl ?_); intro A5 c6 a wc hF hW; replace hF := hF.drop 5; refine pv hF hW (y_assign hF rfl) fun a hF => l_nil ?_; replace hF := hF.ks [0, 4, 5, 6, 7, 8, 15, 27] rfl; refine b_n <| t_n <| c_r <| pv hF hW (y_move hF rfl) fun a hF => pv hF hW (y_add hF rfl rfl (IntWalk.i64_in _ (by omega))) fun a hF => ?_; replace hF := hF.drop 6; refine pv hF hW (y_assign hF rfl) fun a hF => l_nil ?_; replace hF := hF.ks [0, 4, 5, 6, 7, 8, 15, 27] rfl; replace hW := hW.del 0 rfl; replace hW := hW.del 0 rfl; refine t_n ?_; refine ⟨(k + 1, L ++ [i], A5, c6), ?_, ?_, ?_, ?_⟩
      · exact hC.succ (by omega) hi
      · first | omega | (dsimp only; omega)
      · exact Fr.app (Fr.cons hF (t := 6) rfl (by first | rfl | (simp; done) | omega) (Fr.cons hF (t := 5) rfl (by first | rfl | (simp; done) | omega) (Fr.nil hF))) (hF.ks [0, 4] rfl)
      · exact hW
    · intro h2 hF; refine pe (e_alloc hF hW ze_46 rfl rfl rfl ?_); intro b7 a wc hF hW; refine pe (e_storeAll rfl hF hW rfl rfl 0 rfl rfl rfl (by kernel_rfl) sz_46 ?_); intro wc hW; refine pv hF hW (y_assign hF rfl) fun a hF => l_nil ?_; replace hF := hF.ks [0, 4, 5, 6, 7, 8, 15] rfl; refine t_n <| c_s <| c_sr <| pv hF hW (y_move hF rfl) fun a hF => pv hF hW (y_not hF rfl) fun a hF => ?_; replace hF := hF.tt; refine l_nil ?_; replace hF := hF.ks [0, 4, 5, 6, 7, 8, 15, 27] rfl; refine t_n <| c_t hF rfl <| c_sr <| pv hF hW (y_assign hF rfl) fun a hF => pv hF hW (y_assign hF rfl) fun a hF => l_nil <| t_n <| wp_ret <| t_r <| b_r <| t_r <| t_r <| b_r <| t_r <| ret2 Tryz.results16 hF (rv_t hF rfl) (rv_t hF rfl) ?_
      have hno : ∀ j, ¬ Says (P.getD k []) j := (by rcases hor with ⟨h, _⟩ | ⟨_, _, h⟩; simp_all; exact h)
      exact ⟨[], none, 0, false, rfl, hW.below, fun _ _ => Flat.nil_, ⟨fun h => (by cases h), fun _ => ⟨rfl, fun K => hC.bad hP (by omega) hno K⟩⟩⟩
  · intro h1 hF; refine l_nil ?_; replace hF := hF.ks [0, 4, 5, 6, 15] rfl; refine t_n <| c_f hF rfl <| wp_exit <| t_x <| t_x <| b_h <| t_n <| c_s <| c_sr <| pv hF hW (y_move hF rfl) fun a hF => ?_; refine pe (e_call hF rfl rfl en_8 (by rfl) rfl rfl (checkCode_any _ _ _ (Flat.of_own (hW.row 0 rfl) rfl)) ?_); rintro e w1 ⟨rfl, hb⟩; replace hW := hW.kept hb; clear hb; refine ⟨_, rfl, fun a hF => ?_⟩; refine pv hF hW (y_neq hF rfl rfl) fun a hF => ?_; refine Fr.splitD hF ?_ ?_
    · intro h8 hF; refine pv hF hW (y_move hF rfl) fun a hF => pk hF (wn hF rfl rfl rfl) fun a hF => pk hF (wn hF rfl rfl rfl) fun a hF => pk hF (wn hF rfl rfl rfl) fun a hF => pk hF (wn hF rfl rfl rfl) fun a hF => pv hF hW (y_pick hF rfl rfl) fun a hF => l_nil ?_; replace hF := hF.ks [0, 4, 5, 6, 15, 40] rfl; refine t_n <| c_t hF rfl <| c_sr <| pv hF hW (y_assign hF rfl) fun a hF => pv hF hW (y_assign hF rfl) fun a hF => l_nil <| t_n <| wp_ret <| t_r <| ret2 Tryz.results16 hF (rv_t hF rfl) (rv_t hF rfl) ?_
      exact ⟨[], none, 0, false, rfl, hW.below, fun _ _ => Flat.nil_, ⟨fun h => (by cases h), fun _ => ⟨rfl, fun K hK => h8 (by rw [← hC.end_ hP (by omega) hK]; exact hK.1)⟩⟩⟩
    · intro h8 hF; refine pv hF hW (y_move hF rfl) fun a hF => pvg hF hW (y_move hF rfl) (ws hF rfl rfl) fun a hF => ?_; refine pe (e_call hF rfl rfl en_14 (by rfl) rfl rfl (codeText_any (Flat.of_own (hW.row 0 rfl) rfl) (fun i hi => (hC.all i hi).2) (by omega)) ?_) (ws hF rfl rfl); rintro e w1 ⟨rfl, hb⟩; replace hW := hW.kept hb; clear hb; refine ⟨_, rfl, fun a hF => ?_⟩; refine pvg hF hW (y_move hF rfl) (ws hF rfl rfl) fun a hF => pvg hF hW (y_neB hF rfl rfl) (ws hF rfl rfl) fun a hF => ?_; refine Fr.splitD hF ?_ ?_
      · intro h9 hF; refine pv hF hW (y_pick hF rfl rfl) fun a hF => l_nil ?_; replace hF := hF.ks [0, 4, 5, 6, 15, 40] rfl; refine t_n <| c_t hF rfl <| c_sr <| pv hF hW (y_assign hF rfl) fun a hF => pv hF hW (y_assign hF rfl) fun a hF => l_nil <| t_n <| wp_ret <| t_r <| ret2 Tryz.results16 hF (rv_t hF rfl) (rv_t hF rfl) ?_
        exact ⟨[], none, 0, false, rfl, hW.below, fun _ _ => Flat.nil_, ⟨fun h => (by cases h), fun _ => ⟨rfl, fun K hK => h9 (by rw [← hC.end_ hP (by omega) hK]; exact hK.2.2)⟩⟩⟩
      · intro h9 hF; refine pv hF hW (y_pick hF rfl rfl) fun a hF => l_nil ?_; replace hF := hF.ks [0, 4, 5, 6, 15, 40] rfl; refine t_n <| c_f hF rfl <| wp_skip <| t_n <| c_sr <| pv hF hW (y_move hF rfl) fun a hF => pv hF hW (y_assign hF rfl) fun a hF => pv hF hW (y_assign hF rfl) fun a hF => l_nil ?_; replace hF := hF.ks [0, 2, 3, 4, 5, 6, 15, 40] rfl; refine t_n <| wp_ret <| ret2 Tryz.results16 hF (rv_t hF rfl) (rv_t hF rfl) ?_; replace hW := hW.del 1 rfl
        exact ⟨L, A, c, true, rfl, hW.below, OwnRes.flat (hW.row_own 0 rfl), ⟨fun _ => ⟨Classical.not_not.1 h8, fun i hi => (hC.all i hi).2, Classical.not_not.1 h9⟩, fun h => (by cases h)⟩⟩
end Go.Proofs.YtfkngjglnhfdcaaGreatDoor
