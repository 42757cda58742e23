/- The reference's EdgesOf and PathOf. -/
import Derived.Test.YtlkkdpoioedacaaPathPl
import Derived.Test.YtlkkdpoioedacaaFlowC
import Derived.Test.YtlkkdpoioedacaaViewR
namespace Go.Proofs.Ytlkkdpoioedacaa
set_option linter.unusedVariables false
set_option linter.unusedSimpArgs false
open Go.ChangeShapes Go.WideShapes Go.ChangeAt Go.RowKit
theorem bs_FlowE_27_1_0 (x0 : Int) (x1 : Int) (w : World) : (Instr.buildSlice 27 1 #[(0, (.agg #[(.int .i64 x0), (.int .i64 x1)]))]).run Try.prog w = .ok (.slice (some ⟨w.heap.size, 0, none⟩) 1 1) (w.alloc (.cells #[(.int .i64 x0), (.int .i64 x1)] 37)) := by kernel_rfl
theorem bs_FlowE_42_1_0 (x0 : Int) (w : World) : (Instr.buildSlice 42 1 #[(0, (.int .i64 x0))]).run Try.prog w = .ok (.slice (some ⟨w.heap.size, 0, none⟩) 1 1) (w.alloc (.cells #[(.int .i64 x0)] 3)) := by kernel_rfl
theorem bu_FlowE_37_0_1 (x0 : Int) (x1 : Int) (w : World) : (Instr.build 37 #[(0, (.int .i64 x0)), (1, (.int .i64 x1))]).run Try.prog w = .ok (.agg #[(.int .i64 x0), (.int .i64 x1)]) w := by kernel_rfl
set_option maxRecDepth 100000

theorem tl_yes {j : Nat} {P : Nat → Bool} (h : P j = true) : tl (j + 1) P = tl j P ++ [(j : Int)] := by
  unfold tl
  rw [List.range_succ, List.filter_append]
  simp [h]
theorem tl_no {j : Nat} {P : Nat → Bool} (h : P j = false) : tl (j + 1) P = tl j P := by
  unfold tl
  rw [List.range_succ, List.filter_append]
  simp [h]
set_option maxHeartbeats 4000000 in
theorem edgesOfR_any {x : SysD} {w : World} (hx : x.At w) (hk : chkSys x.sys = 0) : Calls Try.prog 16 #[x.val] w fun e w' => ∃ (L : List Edg) (A : Option Addr) (c : Nat), e = .returned (.slice A L.length c) ∧ L = edgesTo x.chans x.parts.length x.parts.length ∧ Below w.heap.size w w' ∧ OwnRes w w' (fun u => Flat Edg.cells 2 u (.slice A L.length c) L) := by
  obtain ⟨⟨hp1, hp2⟩, hc6, -⟩ := sizes_get (chkSys_zero hk).1
  have hld := fun w1 (hb : Below w.heap.size w w1) (u v : Nat) => leadsR_any (hx.below hb) u v (by omega)
  rw [x.val_eq] at *
  refine enter Try.func16 rfl Try.ntmps16 rfl fun a hF => ?_
  have hW := Wd.start w NoB
  refine c_sr ?_; refine pe (e_box hF hW rfl rfl rfl rfl ?_); intro b1 a wc hF hW; refine pv hF hW (y_assign hF rfl) fun a hF => l_nil <| t_n <| c_sr <| pv hF hW (y_assign hF rfl) fun a hF => l_nil <| t_n <| c_s <| c_sr <| pv hF hW (y_assign hF rfl) fun a hF => l_nil <| t_n <| wp_block ?_; replace hW := hW.nil_row 37 2; refine c_loop (G := Nat × List Edg × Option Addr × Nat) (fun (gq : Nat × List Edg × Option Addr × Nat) => match gq with | ⟨k, L, A, c⟩ => [(4, .int .i64 (k : Int)), (3, .slice A L.length c)]) (fun (gq : Nat × List Edg × Option Addr × Nat) => match gq with | ⟨k, L, A, c⟩ => [.row 37 2 (.slice A L.length c) L.length (L.flatMap Edg.cells)]) (fun (gq : Nat × List Edg × Option Addr × Nat) => match gq with | ⟨k, L, A, c⟩ => k ≤ x.parts.length ∧ L = edgesTo x.chans x.parts.length k) (fun (gq : Nat × List Edg × Option Addr × Nat) => match gq with | ⟨k, L, A, c⟩ => x.parts.length - k) (0, [], none, 0) (hF.ks [0, 1, 2] rfl) (Fr.cons hF (t := 4) rfl (by first | rfl | (simp; done)) (Fr.cons hF (t := 3) rfl (by first | rfl | (simp; done)) (Fr.nil hF))) (hW) ?_ ?_
  · exact ⟨by omega, rfl⟩
  clear hF hW
  try clear a
  intro gq a wc hC hF hW
  obtain ⟨k, L, A, c⟩ := gq
  dsimp only at hC
  obtain ⟨hkp, hL⟩ := hC
  refine c_s <| c_sr <| pv hF hW (y_move hF rfl) fun a hF => pv hF hW (y_fieldOwn hF rfl fa_26_0) fun a hF => pv hF hW (y_loadOwn hF rfl 1 rfl rfl Try.underlying22 rfl) fun a hF => pv hF hW (y_len hF rfl Try.underlying22) fun a hF => pv hF hW (y_lss hF rfl rfl) fun a hF => ?_; refine Fr.splitD hF ?_ ?_
  · intro h2 hF; refine l_nil ?_; replace hF := hF.ks [0, 1, 2, 3, 4, 10] rfl; refine t_n <| c_t hF rfl <| wp_skip <| t_n <| c_s <| wp_block <| c_sr <| pv hF hW (y_assign hF rfl) fun a hF => l_nil <| t_n <| wp_block ?_; refine c_loop (G := Nat × List Edg × Option Addr × Nat) (fun (gq : Nat × List Edg × Option Addr × Nat) => match gq with | ⟨j, M, B, d⟩ => [(5, .int .i64 (j : Int)), (3, .slice B M.length d)]) (fun (gq : Nat × List Edg × Option Addr × Nat) => match gq with | ⟨j, M, B, d⟩ => [.row 37 2 (.slice B M.length d) M.length (M.flatMap Edg.cells)]) (fun (gq : Nat × List Edg × Option Addr × Nat) => match gq with | ⟨j, M, B, d⟩ => j ≤ x.parts.length ∧ M = L ++ (tl j (leadsB x.chans k)).map fun b => ⟨k, b⟩) (fun (gq : Nat × List Edg × Option Addr × Nat) => match gq with | ⟨j, M, B, d⟩ => x.parts.length - j) (0, L, A, c) (hF.ks [0, 1, 2, 4, 10] rfl) (Fr.cons hF (t := 5) rfl (by first | rfl | (simp; done)) (Fr.cons hF (t := 3) rfl (by first | rfl | (simp; done)) (Fr.nil hF))) (hW) ?_ ?_
    · exact ⟨by omega, by simp [tl]⟩
    clear hF hW
    try clear a
    intro gq a wc hC hF hW
    obtain ⟨j, M, B, d⟩ := gq
    dsimp only at hC
    obtain ⟨hj, hM⟩ := hC
    refine c_s <| c_sr <| pv hF hW (y_move hF rfl) fun a hF => pv hF hW (y_fieldOwn hF rfl fa_26_0) fun a hF => pv hF hW (y_loadOwn hF rfl 1 rfl rfl Try.underlying22 rfl) fun a hF => pv hF hW (y_len hF rfl Try.underlying22) fun a hF => pv hF hW (y_lss hF rfl rfl) fun a hF => ?_; refine Fr.splitD hF ?_ ?_
    · intro h3 hF; refine l_nil ?_; replace hF := hF.ks [0, 1, 2, 3, 4, 5, 10, 17] rfl; refine t_n <| c_t hF rfl <| wp_skip <| t_n <| c_s <| wp_block <| c_sr <| pv hF hW (y_loadAll hF rfl 1 rfl Try.underlying26 rfl sz_26) fun a hF => pv hF hW (y_move hF rfl) fun a hF => pv hF hW (y_move hF rfl) fun a hF => ?_; refine pe (e_call hF rfl rfl en_50 (by rfl) rfl rfl (hld _ hW.below k j) ?_); rintro e w1 ⟨rfl, hb⟩; replace hW := hW.kept hb; clear hb; refine ⟨_, rfl, fun a hF => ?_⟩; refine Fr.splitB hF ?_ ?_
      · intro h4 hF; refine l_nil ?_; replace hF := hF.ks [0, 1, 2, 3, 4, 5, 10, 17, 23] rfl; refine t_n <| c_t hF rfl ?_
        have hfew := edges_few x.chans x.parts.length k
        rw [← hL] at hfew
        have hfew2 : L.length ≤ 16 := Nat.le_trans hfew (Nat.mul_le_mul (show k ≤ 4 by omega) hp2)
        have hMl : M.length ≤ 20 := (by rw [hM, List.length_append, List.length_map]; have := tl_len j (leadsB x.chans k); omega)
        refine c_r <| pv hF hW (y_move hF rfl) fun a hF => pv hF hW (y_move hF rfl) fun a hF => pv hF hW (y_move hF rfl) fun a hF => pv hF hW (y_build hF rfl (fun w => bu_FlowE_37_0_1 _ _ w)) fun a hF => ?_; refine pe (e_buildSlice hF hW rfl (fun w => bs_FlowE_27_1_0 _ _ w) rfl rfl rfl ?_); intro b5 a wc hF hW; refine pe (e_append hF hW 1 rfl rfl rfl Try.underlying27 inf_37 rfl (by decide) (rowAt_blk (hW.blk 0 rfl) 2 1 rfl) (by simp [Value.oneCell']) (show _ = (M ++ [Edg.mk k j]).length by simp) (show _ = (M ++ [Edg.mk k j]).flatMap Edg.cells by simp [Edg.cells]) (by first | omega | (simp; omega)) (by unfold maxLen; first | omega | (simp; omega)) rfl rfl ?_); intro A6 c7 a wc hF hW; replace hF := hF.drop 3; refine pv hF hW (y_assign hF rfl) fun a hF => l_nil ?_; replace hF := hF.ks [0, 1, 2, 3, 4, 5, 10, 17, 23] rfl; refine b_n <| t_n <| c_r <| pv hF hW (y_move hF rfl) fun a hF => pv hF hW (y_add hF rfl rfl (IntWalk.i64_in _ (by omega))) fun a hF => ?_; replace hF := hF.drop 5; refine pv hF hW (y_assign hF rfl) fun a hF => l_nil ?_; replace hF := hF.ks [0, 1, 2, 3, 4, 5, 10, 17, 23] rfl; replace hW := hW.del 0 rfl; refine t_n ?_; refine ⟨(j + 1, M ++ [⟨k, j⟩], A6, c7), ?_, ?_, ?_, ?_⟩
        · exact ⟨by omega, by rw [tl_yes (by assumption), hM, List.map_append, List.append_assoc]; rfl⟩
        · first | omega | (dsimp only; omega)
        · exact Fr.app (Fr.cons hF (t := 5) rfl (by first | rfl | (simp; done) | omega) (Fr.cons hF (t := 3) rfl (by first | rfl | (simp; done) | omega) (Fr.nil hF))) (hF.ks [0, 1, 2, 4, 10] rfl)
        · exact hW
      · intro h4 hF; refine l_nil ?_; replace hF := hF.ks [0, 1, 2, 3, 4, 5, 10, 17, 23] rfl; refine t_n <| c_f hF rfl <| wp_skip <| b_n <| t_n <| c_r <| pv hF hW (y_move hF rfl) fun a hF => pv hF hW (y_add hF rfl rfl (IntWalk.i64_in _ (by omega))) fun a hF => ?_; replace hF := hF.drop 5; refine pv hF hW (y_assign hF rfl) fun a hF => l_nil ?_; replace hF := hF.ks [0, 1, 2, 3, 4, 5, 10, 17, 23] rfl; refine t_n ?_; refine ⟨(j + 1, M, B, d), ?_, ?_, ?_, ?_⟩
        · exact ⟨by omega, by rw [tl_no (by assumption)]; exact hM⟩
        · first | omega | (dsimp only; omega)
        · exact Fr.app (Fr.cons hF (t := 5) rfl (by first | rfl | (simp; done) | omega) (Fr.cons hF (t := 3) rfl (by first | rfl | (simp; done) | omega) (Fr.nil hF))) (hF.ks [0, 1, 2, 4, 10] rfl)
        · exact hW
    · intro h3 hF; refine l_nil ?_; replace hF := hF.ks [0, 1, 2, 3, 4, 5, 10, 17] rfl; refine t_n <| c_f hF rfl <| wp_exit <| t_x <| t_x <| b_h <| b_n <| t_n <| c_r <| pv hF hW (y_move hF rfl) fun a hF => pv hF hW (y_add hF rfl rfl (IntWalk.i64_in _ (by omega))) fun a hF => ?_; replace hF := hF.drop 4; refine pv hF hW (y_assign hF rfl) fun a hF => l_nil ?_; replace hF := hF.ks [0, 1, 2, 3, 4, 5, 10, 17] rfl; refine t_n ?_; refine ⟨(k + 1, M, B, d), ?_, ?_, ?_, ?_⟩
      · exact ⟨by omega, by rw [edgesTo_snoc, hM, hL, show j = x.parts.length by omega]⟩
      · first | omega | (dsimp only; omega)
      · exact Fr.app (Fr.cons hF (t := 4) rfl (by first | rfl | (simp; done) | omega) (Fr.cons hF (t := 3) rfl (by first | rfl | (simp; done) | omega) (Fr.nil hF))) (hF.ks [0, 1, 2] rfl)
      · exact hW
  · intro h2 hF; refine l_nil ?_; replace hF := hF.ks [0, 1, 2, 3, 4, 10] rfl; refine t_n <| c_f hF rfl <| wp_exit <| t_x <| t_x <| b_h <| t_n <| c_sr <| pv hF hW (y_move hF rfl) fun a hF => ?_; replace hF := hF.drop 2; refine pv hF hW (y_assign hF rfl) fun a hF => l_nil ?_; replace hF := hF.ks [0, 1, 2, 3, 4, 10] rfl; refine t_n <| wp_ret <| ret1 Try.results16 hF (rv_t hF rfl) ?_; replace hW := hW.del 1 rfl
    obtain rfl : k = x.parts.length := (by omega)
    exact ⟨L, _, _, rfl, hL, hW.below, ((hW.row_res 0 rfl).res_res 0 rfl).mono fun u h => Flat.of_own h rfl⟩
theorem greedy_at {cs : List Chn} {n b m : Nat} (h : Least cs n b m b) : greedy cs n b m b = [b] := by
  cases m with
  | zero => rfl
  | succ m => exact absurd rfl h.ne
theorem greedy_next {cs : List Chn} {n b m y c : Nat} (h : Least cs n b (m + 1) y) (hc : (leadsB cs y c && rchBy cs n m c b) = true) (hcn : c < n) (hno : ∀ j, j < c → (leadsB cs y j && rchBy cs n m j b) = false) : Least cs n b m c ∧ greedy cs n b (m + 1) y = y :: greedy cs n b m c := by
  obtain ⟨c0, h1, h2, h3, h4, h5⟩ := h.next
  have e : c = c0 := by
    rcases Nat.lt_trichotomy c c0 with h6 | h6 | h6
    · rw [h5 c h6] at hc; cases hc
    · exact h6
    · have h7 := hno c0 h6
      rw [h2, h4.1] at h7
      cases h7
  subst e
  exact ⟨h4, by rw [greedy, h1]⟩
theorem pathOf_first {cs : List Chn} {n f t k : Nat} (hk : k < n) (h : rchBy cs n k f t = true) (hno : ∀ j, j < k → rchBy cs n j f t = false) : pathOf cs n f t = some (greedy cs n t k f) := by
  unfold pathOf
  rw [(List.find?_range_eq_some (p := fun k => rchBy cs n k f t)).2 ⟨h, List.mem_range.2 hk, fun j hj => by rw [hno j hj]; rfl⟩]
  rfl
theorem pathOf_never {cs : List Chn} {n f t : Nat} (hno : ∀ j, j < n → rchBy cs n j f t = false) : pathOf cs n f t = none := by
  unfold pathOf
  rw [(List.find?_eq_none (p := fun k => rchBy cs n k f t)).2 fun j hj => by rw [hno j (List.mem_range.1 hj)]; simp]
  rfl
set_option maxHeartbeats 8000000 in
theorem pathOfR_any {x : SysD} {w : World} (hx : x.At w) (hk : chkSys x.sys = 0) {f t : Nat} : Calls Try.prog 21 #[x.val, .int .i64 f, .int .i64 t] w fun e w' => ∃ (L : List Int) (A : Option Addr) (c : Nat), e = .returned (.tuple #[.slice A L.length c, .bool (pathOf x.chans x.parts.length f t).isSome]) ∧
    L = ((pathOf x.chans x.parts.length f t).getD []).map Int.ofNat ∧ Below w.heap.size w w' ∧ OwnRes w w' (fun u => Ints u (.slice A L.length c) L) := by
  obtain ⟨⟨hp1, hp2⟩, hc6, -⟩ := sizes_get (chkSys_zero hk).1
  have hld := fun w1 (hb : Below w.heap.size w w1) (u v : Nat) => leadsR_any (hx.below hb) u v (by omega)
  have hrb := fun w1 (hb : Below w.heap.size w w1) (u m : Nat) (hm : m ≤ 1024) => reachesBy_any hx t (by omega) (by omega) m hm u w1 hb
  rw [x.val_eq] at *
  refine enter Try.func21 rfl Try.ntmps21 rfl fun a hF => ?_
  have hW := Wd.start w NoB
  refine c_sr ?_; refine pe (e_box hF hW rfl rfl rfl rfl ?_); intro b1 a wc hF hW; refine pv hF hW (y_assign hF rfl) fun a hF => pv hF hW (y_assign hF rfl) fun a hF => l_nil <| t_n <| c_s <| c_sr <| pv hF hW (y_assign hF rfl) fun a hF => l_nil <| t_n <| wp_block ?_; refine c_loop (G := Nat) (fun k : Nat => [(8, .int .i64 (k : Int))]) (fun k : Nat => []) (fun k : Nat => k ≤ x.parts.length ∧ ∀ j, j < k → rchBy x.chans x.parts.length j f t = false) (fun k : Nat => x.parts.length - k) 0 (hF.ks [0, 1, 2, 3] rfl) (Fr.cons hF (t := 8) rfl (by first | rfl | (simp; done)) (Fr.nil hF)) (hW) ?_ ?_
  · exact ⟨by omega, fun j hj => by omega⟩
  clear hF hW
  try clear a
  intro k a wc hC hF hW
  obtain ⟨hkp, hno⟩ := hC
  refine c_s <| c_sr <| pv hF hW (y_move hF rfl) fun a hF => pv hF hW (y_fieldOwn hF rfl fa_26_0) fun a hF => pv hF hW (y_loadOwn hF rfl 0 rfl rfl Try.underlying22 rfl) fun a hF => pv hF hW (y_len hF rfl Try.underlying22) fun a hF => pv hF hW (y_lss hF rfl rfl) fun a hF => ?_; refine Fr.splitD hF ?_ ?_
  · intro h2 hF; refine l_nil ?_; replace hF := hF.ks [0, 1, 2, 3, 8, 16] rfl; refine t_n <| c_t hF rfl <| wp_skip <| t_n <| c_s <| wp_block <| c_sr <| pv hF hW (y_loadAll hF rfl 0 rfl Try.underlying26 rfl sz_26) fun a hF => pv hF hW (y_move hF rfl) fun a hF => pv hF hW (y_move hF rfl) fun a hF => pv hF hW (y_move hF rfl) fun a hF => ?_; refine pe (e_call hF rfl rfl en_51 (by rfl) rfl rfl (hrb _ hW.below f k (by omega)) ?_); rintro e w1 ⟨rfl, hb⟩; replace hW := hW.kept hb; clear hb; refine ⟨_, rfl, fun a hF => ?_⟩; refine Fr.splitB hF ?_ ?_
    · intro h3 hF; refine l_nil ?_; replace hF := hF.ks [0, 1, 2, 3, 8, 16, 23] rfl; refine t_n <| c_t hF rfl ?_
      have hkn : k < x.parts.length := (by omega)
      have hpo := pathOf_first hkn (by assumption) hno
      have hls : Least x.chans x.parts.length t k f := ⟨by assumption, hno⟩
      have hgl := (greedy_road hls).2
      refine c_sr <| pv hF hW (y_move hF rfl) fun a hF => ?_; refine pe (e_buildSlice hF hW rfl (fun w => bs_FlowE_42_1_0 _ w) rfl rfl rfl ?_); intro b4 a wc hF hW; refine pv hF hW (y_assign hF rfl) fun a hF => l_nil ?_; replace hF := hF.ks [0, 1, 2, 3, 8, 9, 16, 23] rfl; refine t_n <| c_s <| c_sr <| pv hF hW (y_move hF rfl) fun a hF => pv hF hW (y_assign hF rfl) fun a hF => l_nil ?_; replace hF := hF.ks [0, 1, 2, 3, 8, 9, 10, 16, 23] rfl; refine t_n <| wp_block ?_; replace hW := hW.blk_row 0 rfl 1 1 rfl (by decide); refine c_loop (G := Nat × Nat × List Nat × List Nat × Option Addr × Nat) (fun (gq : Nat × Nat × List Nat × List Nat × Option Addr × Nat) => match gq with | ⟨y, m, Lp, L, A, c⟩ => [(10, .int .i64 (y : Int)), (8, .int .i64 (m : Int)), (9, .slice A L.length c)]) (fun (gq : Nat × Nat × List Nat × List Nat × Option Addr × Nat) => match gq with | ⟨y, m, Lp, L, A, c⟩ => [.row 3 1 (.slice A L.length c) L.length ((L.map Int.ofNat).map (.int .i64))]) (fun (gq : Nat × Nat × List Nat × List Nat × Option Addr × Nat) => match gq with | ⟨y, m, Lp, L, A, c⟩ => Least x.chans x.parts.length t m y ∧ L = Lp ++ [y] ∧ greedy x.chans x.parts.length t k f = Lp ++ greedy x.chans x.parts.length t m y) (fun (gq : Nat × Nat × List Nat × List Nat × Option Addr × Nat) => match gq with | ⟨y, m, Lp, L, A, c⟩ => m) (f, k, [], [f], some ⟨b4, 0, none⟩, 1) (hF.ks [0, 1, 2, 3, 16, 23] rfl) (Fr.cons hF (t := 10) rfl (by first | rfl | (simp; done)) (Fr.cons hF (t := 8) rfl (by first | rfl | (simp; done)) (Fr.cons hF (t := 9) rfl (by first | rfl | (simp; done)) (Fr.nil hF)))) (hW) ?_ ?_
      · exact ⟨hls, rfl, rfl⟩
      clear hF hW
      try clear a
      intro gq a wc hC hF hW
      obtain ⟨y, m, Lp, L, A, c⟩ := gq
      dsimp only at hC
      obtain ⟨hl, hL, hgr⟩ := hC
      refine c_s <| c_sr <| pv hF hW (y_move hF rfl) fun a hF => pv hF hW (y_move hF rfl) fun a hF => pv hF hW (y_neq hF rfl rfl) fun a hF => ?_; refine Fr.splitD hF ?_ ?_
      · intro h5 hF; refine l_nil ?_; replace hF := hF.ks [0, 1, 2, 3, 8, 9, 10, 16, 23, 29] rfl; refine t_n <| c_t hF rfl <| wp_skip <| t_n <| c_s <| wp_block ?_
        have hyt : y ≠ t := (by omega)
        obtain ⟨m, rfl⟩ : ∃ q, m = q + 1 := (by cases m with | zero => exact absurd hl.zero hyt | succ q => exact ⟨q, rfl⟩)
        have hlen := congrArg List.length hgr
        rw [hgl, List.length_append, (greedy_road hl).2] at hlen
        refine c_sr <| pv hF hW (y_assign hF rfl) fun a hF => l_nil <| t_n <| wp_block ?_; refine c_loop (G := Nat) (fun v : Nat => [(11, .int .i64 (v : Int)), (10, .int .i64 (y : Int)), (9, .slice A L.length c)]) (fun v : Nat => []) (fun v : Nat => v ≤ x.parts.length ∧ ∀ j, j < v → (leadsB x.chans y j && rchBy x.chans x.parts.length m j t) = false) (fun v : Nat => x.parts.length - v) 0 (hF.ks [0, 1, 2, 3, 8, 16, 23, 29] rfl) (Fr.cons hF (t := 11) rfl (by first | rfl | (simp; done)) (Fr.cons hF (t := 10) rfl (by first | rfl | (simp; done)) (Fr.cons hF (t := 9) rfl (by first | rfl | (simp; done)) (Fr.nil hF)))) (hW) ?_ ?_
        · exact ⟨by omega, fun j hj => by omega⟩
        clear hF hW
        try clear a
        intro v a wc hC hF hW
        obtain ⟨hvp, hnv⟩ := hC
        refine c_s <| c_sr <| pv hF hW (y_move hF rfl) fun a hF => pv hF hW (y_fieldOwn hF rfl fa_26_0) fun a hF => pv hF hW (y_loadOwn hF rfl 1 rfl rfl Try.underlying22 rfl) fun a hF => pv hF hW (y_len hF rfl Try.underlying22) fun a hF => pv hF hW (y_lss hF rfl rfl) fun a hF => ?_; refine Fr.splitD hF ?_ ?_
        · intro h6 hF; refine l_nil ?_; replace hF := hF.ks [0, 1, 2, 3, 8, 9, 10, 11, 16, 23, 29, 36] rfl; refine t_n <| c_t hF rfl <| wp_skip <| t_n <| c_s <| wp_block <| c_sr <| pv hF hW (y_loadAll hF rfl 1 rfl Try.underlying26 rfl sz_26) fun a hF => pv hF hW (y_move hF rfl) fun a hF => pv hF hW (y_move hF rfl) fun a hF => ?_; refine pe (e_call hF rfl rfl en_50 (by rfl) rfl rfl (hld _ hW.below y v) ?_); rintro e w1 ⟨rfl, hb⟩; replace hW := hW.kept hb; clear hb; refine ⟨_, rfl, fun a hF => ?_⟩; refine Fr.splitB hF ?_ ?_
          · intro h7 hF; refine pv hF hW (y_move hF rfl) fun a hF => pvg hF hW (y_loadAll hF rfl 1 rfl Try.underlying26 rfl sz_26) (ws hF rfl rfl) fun a hF => pvg hF hW (y_move hF rfl) (ws hF rfl rfl) fun a hF => pvg hF hW (y_move hF rfl) (ws hF rfl rfl) fun a hF => pvg hF hW (y_move hF rfl) (ws hF rfl rfl) fun a hF => pvg hF hW (y_sub hF rfl rfl (IntWalk.i64_in _ (by omega))) (ws hF rfl rfl) fun a hF => ?_; replace hF := Fr.cast (v' := .int .i64 (m : Int)) (by congr 1; omega) hF; refine pe (e_call hF rfl rfl en_51 (by rfl) rfl rfl (hrb _ hW.below v m (by omega)) ?_) (ws hF rfl rfl); rintro e w1 ⟨rfl, hb⟩; replace hW := hW.kept hb; clear hb; refine ⟨_, rfl, fun a hF => ?_⟩; refine Fr.splitB hF ?_ ?_
            · intro h8 hF; refine pv hF hW (y_pick hF rfl rfl) fun a hF => l_nil ?_; replace hF := hF.ks [0, 1, 2, 3, 8, 9, 10, 11, 16, 23, 29, 36, 50] rfl; refine t_n <| c_t hF rfl <| c_sr <| pv hF hW (y_move hF rfl) fun a hF => ?_; replace hF := hF.drop 10; refine pv hF hW (y_assign hF rfl) fun a hF => l_nil ?_; replace hF := hF.ks [0, 1, 2, 3, 8, 9, 10, 11, 16, 23, 29, 36, 50] rfl; refine t_n ?_
              have hvv : (leadsB x.chans y v && rchBy x.chans x.parts.length m v t) = true := (by simp_all)
              have hLl : L.length ≤ 4 := (by rw [hL, List.length_append]; simp only [List.length_cons, List.length_nil]; omega)
              refine c_sr <| pv hF hW (y_move hF rfl) fun a hF => pv hF hW (y_move hF rfl) fun a hF => ?_; refine pe (e_buildSlice hF hW rfl (fun w => bs_FlowE_42_1_0 _ w) rfl rfl rfl ?_); intro b9 a wc hF hW; refine pe (e_append hF hW 1 rfl rfl rfl Try.underlying42 inf_3 rfl (by decide) (rowAt_blk (hW.blk 0 rfl) 1 1 rfl) (by simp [Value.oneCell']) (show _ = (L ++ [v]).length by simp) (show _ = ((L ++ [v]).map Int.ofNat).map (.int .i64) by simp) (by first | omega | (simp; omega)) (by unfold maxLen; first | omega | (simp; omega)) rfl rfl ?_); intro A10 c11 a wc hF hW; replace hF := hF.drop 9; refine pv hF hW (y_assign hF rfl) fun a hF => l_nil ?_; replace hF := hF.ks [0, 1, 2, 3, 8, 9, 10, 11, 16, 23, 29, 36, 50] rfl; refine t_n <| wp_exit <| b_m rfl <| t_x <| t_x <| b_h <| b_n <| t_n <| c_r <| pv hF hW (y_move hF rfl) fun a hF => pv hF hW (y_sub hF rfl rfl (IntWalk.i64_in _ (by omega))) fun a hF => ?_; replace hF := hF.drop 8; refine pv hF hW (y_assign hF rfl) fun a hF => l_nil ?_; replace hF := hF.ks [0, 1, 2, 3, 8, 9, 10, 11, 16, 23, 29, 36, 50] rfl; replace hW := hW.del 0 rfl; refine t_n ?_; refine ⟨(v, m, Lp ++ [y], L ++ [v], A10, c11), ?_, ?_, ?_, ?_⟩
              · exact ⟨(greedy_next hl hvv (by omega) hnv).1, by rw [hL], by rw [hgr, (greedy_next hl hvv (by omega) hnv).2, List.append_assoc]; rfl⟩
              · first | omega | (dsimp only; omega)
              · exact Fr.app (Fr.cons hF (t := 10) rfl (by first | rfl | ((congr 1; omega)) | (simp; done) | omega) (Fr.cons hF (t := 8) rfl (by first | rfl | ((congr 1; omega)) | (simp; done) | omega) (Fr.cons hF (t := 9) rfl (by first | rfl | ((congr 1; omega)) | (simp; done) | omega) (Fr.nil hF)))) (hF.ks [0, 1, 2, 3, 16, 23] rfl)
              · exact hW
            · intro h8 hF; refine pv hF hW (y_pick hF rfl rfl) fun a hF => l_nil ?_; replace hF := hF.ks [0, 1, 2, 3, 8, 9, 10, 11, 16, 23, 29, 36, 50] rfl; refine t_n <| c_f hF rfl <| wp_skip <| b_n <| t_n <| c_r <| pv hF hW (y_move hF rfl) fun a hF => pv hF hW (y_add hF rfl rfl (IntWalk.i64_in _ (by omega))) fun a hF => ?_; replace hF := hF.drop 11; refine pv hF hW (y_assign hF rfl) fun a hF => l_nil ?_; replace hF := hF.ks [0, 1, 2, 3, 8, 9, 10, 11, 16, 23, 29, 36, 50] rfl; refine t_n ?_; refine ⟨v + 1, ?_, ?_, ?_, ?_⟩
              · exact ⟨by omega, fun j hj => by rcases Nat.lt_or_ge j v with h | h; exact hnv j h; (have : j = v := by omega); subst this; simp_all⟩
              · first | omega | (dsimp only; omega)
              · exact Fr.app (Fr.cons hF (t := 11) rfl (by first | rfl | (simp; done) | omega) (Fr.cons hF (t := 10) rfl (by first | rfl | (simp; done) | omega) (Fr.cons hF (t := 9) rfl (by first | rfl | (simp; done) | omega) (Fr.nil hF)))) (hF.ks [0, 1, 2, 3, 8, 16, 23, 29] rfl)
              · exact hW
          · intro h7 hF; refine pv hF hW (y_move hF rfl) fun a hF => pk hF (wn hF rfl rfl rfl) fun a hF => pk hF (wn hF rfl rfl rfl) fun a hF => pk hF (wn hF rfl rfl rfl) fun a hF => pk hF (wn hF rfl rfl rfl) fun a hF => pk hF (wn hF rfl rfl rfl) fun a hF => pk hF (wn hF rfl rfl rfl) fun a hF => pv hF hW (y_pick hF rfl rfl) fun a hF => l_nil ?_; replace hF := hF.ks [0, 1, 2, 3, 8, 9, 10, 11, 16, 23, 29, 36, 50] rfl; refine t_n <| c_f hF rfl <| wp_skip <| b_n <| t_n <| c_r <| pv hF hW (y_move hF rfl) fun a hF => pv hF hW (y_add hF rfl rfl (IntWalk.i64_in _ (by omega))) fun a hF => ?_; replace hF := hF.drop 11; refine pv hF hW (y_assign hF rfl) fun a hF => l_nil ?_; replace hF := hF.ks [0, 1, 2, 3, 8, 9, 10, 11, 16, 23, 29, 36, 50] rfl; refine t_n ?_; refine ⟨v + 1, ?_, ?_, ?_, ?_⟩
            · exact ⟨by omega, fun j hj => by rcases Nat.lt_or_ge j v with h | h; exact hnv j h; (have : j = v := by omega); subst this; simp_all⟩
            · first | omega | (dsimp only; omega)
            · exact Fr.app (Fr.cons hF (t := 11) rfl (by first | rfl | (simp; done) | omega) (Fr.cons hF (t := 10) rfl (by first | rfl | (simp; done) | omega) (Fr.cons hF (t := 9) rfl (by first | rfl | (simp; done) | omega) (Fr.nil hF)))) (hF.ks [0, 1, 2, 3, 8, 16, 23, 29] rfl)
            · exact hW
        · intro h6 hF; exfalso
          (obtain ⟨c0, -, g2, g3, g4, -⟩ := hl.next; have g5 := hnv c0 (by omega); rw [g2, g4.1] at g5; cases g5)
      · intro h5 hF; refine l_nil ?_; replace hF := hF.ks [0, 1, 2, 3, 8, 9, 10, 16, 23, 29] rfl; refine t_n <| c_f hF rfl <| wp_exit <| t_x <| t_x <| b_h <| t_n <| c_sr <| pv hF hW (y_move hF rfl) fun a hF => pv hF hW (y_assign hF rfl) fun a hF => pv hF hW (y_assign hF rfl) fun a hF => l_nil ?_; replace hF := hF.ks [0, 1, 2, 3, 6, 7, 8, 9, 10, 16, 23, 29] rfl; refine t_n <| wp_ret <| b_r <| t_r <| t_r <| b_r <| t_r <| ret2 Try.results21 hF (rv_t hF rfl) (rv_t hF rfl) ?_; replace hW := hW.del 1 rfl
        obtain rfl : y = t := (by omega)
        have hLg : L = greedy x.chans x.parts.length y k f := (by rw [hgr, greedy_at hl, hL])
        exact ⟨L.map Int.ofNat, A, c, by rw [hpo, List.length_map]; rfl, by rw [hpo, hLg]; rfl, hW.below, ((hW.row_res 0 rfl).res_res 0 rfl).mono fun u h => by rw [List.length_map]; exact Ints.of_own (by simpa using h)⟩
    · intro h3 hF; refine l_nil ?_; replace hF := hF.ks [0, 1, 2, 3, 8, 16, 23] rfl; refine t_n <| c_f hF rfl <| wp_skip <| b_n <| t_n <| c_r <| pv hF hW (y_move hF rfl) fun a hF => pv hF hW (y_add hF rfl rfl (IntWalk.i64_in _ (by omega))) fun a hF => ?_; replace hF := hF.drop 8; refine pv hF hW (y_assign hF rfl) fun a hF => l_nil ?_; replace hF := hF.ks [0, 1, 2, 3, 8, 16, 23] rfl; refine t_n ?_; refine ⟨(k + 1), ?_, ?_, ?_, ?_⟩
      · exact ⟨by omega, fun j hj => by rcases Nat.lt_or_ge j k with h | h; exact hno j h; (have : j = k := by omega); subst this; first | assumption | (simp_all; done)⟩
      · first | omega | (dsimp only; omega)
      · exact Fr.app (Fr.cons hF (t := 8) rfl (by first | rfl | (simp; done) | omega) (Fr.nil hF)) (hF.ks [0, 1, 2, 3] rfl)
      · exact hW
  · intro h2 hF; refine l_nil ?_; replace hF := hF.ks [0, 1, 2, 3, 8, 16] rfl; refine t_n <| c_f hF rfl <| wp_exit <| t_x <| t_x <| b_h <| t_n <| c_sr <| pv hF hW (y_assign hF rfl) fun a hF => pv hF hW (y_assign hF rfl) fun a hF => l_nil <| t_n <| wp_ret <| ret2 Try.results21 hF (rv_t hF rfl) (rv_t hF rfl) ?_; replace hW := hW.del 0 rfl
    have hpn := pathOf_never fun j hj => hno j (by omega)
    exact ⟨[], none, 0, by rw [hpn]; rfl, by rw [hpn]; rfl, hW.below, fun _ _ => Ints.nil_⟩
end Go.Proofs.Ytlkkdpoioedacaa
