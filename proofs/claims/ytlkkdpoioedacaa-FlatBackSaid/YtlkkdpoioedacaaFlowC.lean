/- flow.Edges. -/
import Derived.Test.YtlkkdpoioedacaaCertB
import Derived.Test.YtlkkdpoioedacaaFlowA
import Derived.Test.YtlkkdpoioedacaaTyx
namespace Go.Proofs.Ytlkkdpoioedacaa
set_option linter.unusedVariables false
set_option linter.unusedSimpArgs false
open Go.ChangeShapes Go.WideShapes Go.ChangeAt Go.RowKit
theorem bs_FlowC_27_1_0 (x0 : Int) (x1 : Int) (w : World) : (Instr.buildSlice 27 1 #[(0, (.agg #[(.int .i64 x0), (.int .i64 x1)]))]).run Try.prog w = .ok (.slice (some ⟨w.heap.size, 0, none⟩) 1 1) (w.alloc (.cells #[(.int .i64 x0), (.int .i64 x1)] 37)) := by kernel_rfl
theorem bu_FlowC_37_0_1 (x0 : Int) (x1 : Int) (w : World) : (Instr.build 37 #[(0, (.int .i64 x0)), (1, (.int .i64 x1))]).run Try.prog w = .ok (.agg #[(.int .i64 x0), (.int .i64 x1)]) w := by kernel_rfl
set_option maxRecDepth 100000

theorem irRF {q : IR} {w : World} (h : q.At w) : RF w q.a q.l.length 1 (fun i => [.int .i64 (q.l.getD i 0)]) := by
  obtain ⟨A, c, e, _, _, h⟩ := RF.of_ints (show Ints w (.slice q.a q.l.length q.k) q.l from h)
  simp only [Value.slice.injEq] at e
  rw [e.1]
  exact h
def edgesTo (cs : List Chn) (n k : Nat) : List Edg := (List.range k).flatMap fun a => (tl n (leadsB cs a)).map fun b => ⟨a, b⟩
theorem edgesTo_snoc (cs : List Chn) (n k : Nat) : edgesTo cs n (k + 1) = edgesTo cs n k ++ (tl n (leadsB cs k)).map fun b => ⟨k, b⟩ := by
  unfold edgesTo
  rw [List.range_succ, List.flatMap_append]
  simp
theorem take_map_snoc {l : List Int} {j : Nat} (hj : j < l.length) (f : Int → Edg) : (l.take (j + 1)).map f = (l.take j).map f ++ [f (l.getD j 0)] := by
  rw [List.take_add_one, List.getElem?_eq_getElem hj, List.map_append, List.getD, List.getElem?_eq_getElem hj]
  rfl
theorem edges_few (cs : List Chn) (n : Nat) : ∀ k, (edgesTo cs n k).length ≤ k * n
  | 0 => by simp [edgesTo]
  | k + 1 => by
    rw [edgesTo_snoc, List.length_append, List.length_map]
    have h1 := edges_few cs n k
    have h2 := tl_len n (leadsB cs k)
    rw [Nat.succ_mul]
    omega
def EdgesBack (w : World) (x : SysD) (E : Int) (e : Ending) (w' : World) : Prop := ∃ (L : List Edg) (A : Option Addr) (c : Nat), e = .returned (.tuple #[.slice A L.length c, .int .i64 E]) ∧
  L = (if E = 0 then edgesTo x.chans x.parts.length x.parts.length else []) ∧ Below w.heap.size w w' ∧ OwnRes w w' (fun u => Flat Edg.cells 2 u (.slice A L.length c) L)
set_option maxHeartbeats 4000000 in
theorem flowEdges_any {x : SysD} {w : World} (hx : x.At w) : Calls Try.prog 13 #[x.val] w (EdgesBack w x (chkSys x.sys)) := by
  have hc := fun w1 (hb : Below w.heap.size w w1) => confCheck_any (hx.below hb)
  have hof := fun w1 (hb : Below w.heap.size w w1) (h0 : chkSys x.sys = 0) => flowOf_any (hx.below hb) h0
  have hsz := fun (h0 : chkSys x.sys = 0) => (sizes_get (chkSys_zero h0).1).1
  rw [x.val_eq] at *
  refine enter Try.func13 rfl Try.ntmps13 rfl fun a hF => ?_
  have hW := Wd.start w NoB
  refine c_sr ?_; refine pe (e_box hF hW rfl rfl rfl rfl ?_); intro b1 a wc hF hW; refine pv hF hW (y_assign hF rfl) fun a hF => pv hF hW (y_assign hF rfl) fun a hF => l_nil <| t_n <| c_s <| c_sr <| pv hF hW (y_loadAll hF rfl 0 rfl Try.underlying26 rfl sz_26) fun a hF => ?_; refine pe (e_call hF rfl rfl en_45 (by rfl) rfl rfl (hc _ hW.below) ?_); rintro e w1 ⟨rfl, hb⟩; replace hW := hW.kept hb; clear hb; refine ⟨_, rfl, fun a hF => ?_⟩; refine pv hF hW (y_assign hF rfl) fun a hF => l_nil ?_; replace hF := hF.ks [0, 1, 2, 3, 4] rfl; refine t_n <| c_sr <| pv hF hW (y_move hF rfl) fun a hF => pv hF hW (y_neq hF rfl rfl) fun a hF => ?_; refine Fr.splitD hF ?_ ?_
  · intro h2 hF; refine l_nil ?_; replace hF := hF.ks [0, 1, 2, 3, 4, 13] rfl; refine t_n <| c_t hF rfl <| c_sr <| pv hF hW (y_move hF rfl) fun a hF => ?_; replace hF := hF.drop 2; refine pv hF hW (y_assign hF rfl) fun a hF => ?_; replace hF := hF.drop 3; refine pv hF hW (y_assign hF rfl) fun a hF => l_nil ?_; replace hF := hF.ks [0, 1, 2, 3, 4, 13] rfl; refine t_n <| wp_ret <| t_r <| ret2 Try.results13 hF (rv_t hF rfl) (rv_t hF rfl) ?_; replace hW := hW.del 0 rfl
    exact ⟨[], none, 0, rfl, (if_neg (by assumption)).symm, hW.below, fun _ _ => Flat.nil_⟩
  · intro h2 hF; refine l_nil ?_; replace hF := hF.ks [0, 1, 2, 3, 4, 13] rfl; refine t_n <| c_f hF rfl <| wp_skip <| t_n <| c_sr <| pv hF hW (y_assign hF rfl) fun a hF => l_nil <| t_n <| c_s ?_
    obtain ⟨hp1, hp2⟩ := hsz (by omega)
    refine c_sr <| pv hF hW (y_loadAll hF rfl 0 rfl Try.underlying26 rfl sz_26) fun a hF => ?_; refine pe (e_call hF rfl rfl en_46 (by rfl) rfl rfl (hof _ hW.below (by omega)) ?_); rintro e w1 ⟨qs, Ag, rfl, hg, hb, hr⟩; replace hW := hW.gotR hb hr; refine ⟨_, rfl, fun a hF => ?_⟩; refine pv hF hW (y_len hF rfl Try.underlying91) fun a hF => pv hF hW (y_move hF rfl) fun a hF => l_nil ?_; replace hF := hF.ks [0, 1, 2, 3, 4, 5, 13, 16, 17, 18] rfl; refine t_n <| wp_block ?_; replace hW := hW.nil_row 37 2
    have hgl := hg.len
    refine c_loop (G := Nat × List Edg × Option Addr × Nat) (fun (gq : Nat × List Edg × Option Addr × Nat) => match gq with | ⟨k, L, A, c⟩ => [(18, .int .i64 (k : Int)), (5, .slice A L.length c)]) (fun (gq : Nat × List Edg × Option Addr × Nat) => match gq with | ⟨k, L, A, c⟩ => [.row 37 2 (.slice A L.length c) L.length (L.flatMap Edg.cells)]) (fun (gq : Nat × List Edg × Option Addr × Nat) => match gq with | ⟨k, L, A, c⟩ => k ≤ x.parts.length ∧ L = edgesTo x.chans x.parts.length k) (fun (gq : Nat × List Edg × Option Addr × Nat) => match gq with | ⟨k, L, A, c⟩ => x.parts.length - k) (0, [], none, 0) (hF.ks [0, 1, 2, 3, 4, 13, 16, 17] rfl) (Fr.cons hF (t := 18) rfl (by first | rfl | (simp; done)) (Fr.cons hF (t := 5) rfl (by first | rfl | (simp; done)) (Fr.nil hF))) (hW) ?_ ?_
    · exact ⟨by omega, rfl⟩
    clear hF hW
    try clear a
    intro gq a wc hC hF hW
    obtain ⟨k, L, A, c⟩ := gq
    dsimp only at hC
    obtain ⟨hkp, hL⟩ := hC
    refine c_sr <| pv hF hW (y_lss hF rfl rfl) fun a hF => ?_; refine Fr.splitD hF ?_ ?_
    · intro h3 hF; refine l_nil <| t_n <| c_s <| c_t hF rfl <| wp_skip <| t_n <| c_s <| wp_block ?_
      have hkn : k < x.parts.length := (by omega)
      have hkq : k < qs.length := (by omega)
      have hql := hg.get hkn
      have hqn := tl_len x.parts.length (leadsB x.chans k)
      rw [← hql] at hqn
      have hfew := edges_few x.chans x.parts.length k
      rw [← hL] at hfew
      have hfew2 : L.length ≤ 16 := Nat.le_trans hfew (Nat.mul_le_mul (show k ≤ 4 by omega) hp2)
      refine c_sr <| pv hF hW (y_move hF rfl) fun a hF => pv hF hW (y_indexS hF rfl rfl (by exact hkn) Try.underlying91 sz_42 (fun w h => (h.res 1 rfl).1.rf IR.cells_len IR0)) fun a hF => pv hF hW (y_loadRow hF rfl (fun w h => (h.res 1 rfl).1.rf IR.cells_len IR0) (by exact hkn) rfl Try.underlying42 rfl) fun a hF => ?_; replace hF := Fr.cast (v' := .slice (qs.getD k IR0).a (qs.getD k IR0).l.length (qs.getD k IR0).k) (by rfl) hF; refine pv hF hW (y_assign hF rfl) fun a hF => pv hF hW (y_assign hF rfl) fun a hF => l_nil ?_; replace hF := hF.ks [0, 1, 2, 3, 4, 5, 6, 7, 13, 16, 17, 18, 19] rfl; refine t_n <| c_sr <| pv hF hW (y_move hF rfl) fun a hF => pv hF hW (y_len hF rfl Try.underlying42) fun a hF => pv hF hW (y_move hF rfl) fun a hF => l_nil <| t_n <| wp_block ?_; refine c_loop (G := Nat × List Edg × Option Addr × Nat) (fun (gq : Nat × List Edg × Option Addr × Nat) => match gq with | ⟨j, M, B, d⟩ => [(25, .int .i64 (j : Int)), (5, .slice B M.length d)]) (fun (gq : Nat × List Edg × Option Addr × Nat) => match gq with | ⟨j, M, B, d⟩ => [.row 37 2 (.slice B M.length d) M.length (M.flatMap Edg.cells)]) (fun (gq : Nat × List Edg × Option Addr × Nat) => match gq with | ⟨j, M, B, d⟩ => j ≤ (qs.getD k IR0).l.length ∧ M = L ++ ((qs.getD k IR0).l.take j).map fun b => ⟨k, b⟩) (fun (gq : Nat × List Edg × Option Addr × Nat) => match gq with | ⟨j, M, B, d⟩ => (qs.getD k IR0).l.length - j) (0, L, A, c) (hF.ks [0, 1, 2, 3, 4, 6, 7, 13, 16, 17, 18, 19, 23, 24] rfl) (Fr.cons hF (t := 25) rfl (by first | rfl | (simp; done)) (Fr.cons hF (t := 5) rfl (by first | rfl | (simp; done)) (Fr.nil hF))) (hW) ?_ ?_
      · exact ⟨by omega, by simp⟩
      clear hF hW
      try clear a
      intro gq a wc hC hF hW
      obtain ⟨j, M, B, d⟩ := gq
      dsimp only at hC
      obtain ⟨hj, hM⟩ := hC
      refine c_sr <| pv hF hW (y_lss hF rfl rfl) fun a hF => ?_; refine Fr.splitD hF ?_ ?_
      · intro h4 hF; refine l_nil <| t_n <| c_s <| c_t hF rfl <| wp_skip <| t_n <| c_s <| wp_block <| c_sr <| pv hF hW (y_indexS hF rfl rfl (by first | omega | decide) Try.underlying42 sz_3 (fun w h => (h.res 1 rfl).2 _ (mem_getD IR0 hkq) |> irRF)) fun a hF => pv hF hW (y_loadRow hF rfl (fun w h => (h.res 1 rfl).2 _ (mem_getD IR0 hkq) |> irRF) (by first | omega | decide) rfl Try.underlying3 rfl) fun a hF => pv hF hW (y_assign hF rfl) fun a hF => l_nil ?_; replace hF := hF.ks [0, 1, 2, 3, 4, 5, 6, 7, 9, 13, 16, 17, 18, 19, 23, 24, 25, 26] rfl; refine t_n ?_
        have hMl : M.length ≤ 20 := (by rw [hM, List.length_append, List.length_map, List.length_take]; omega)
        refine c_r <| pv hF hW (y_move hF rfl) fun a hF => pv hF hW (y_move hF rfl) fun a hF => pv hF hW (y_move hF rfl) fun a hF => pv hF hW (y_build hF rfl (fun w => bu_FlowC_37_0_1 _ _ w)) fun a hF => ?_; refine pe (e_buildSlice hF hW rfl (fun w => bs_FlowC_27_1_0 _ _ w) rfl rfl rfl ?_); intro b5 a wc hF hW; refine pe (e_append hF hW 1 rfl rfl rfl Try.underlying27 inf_37 rfl (by decide) (rowAt_blk (hW.blk 0 rfl) 2 1 rfl) (by simp [Value.oneCell']) (show _ = (M ++ [Edg.mk k ((qs.getD k IR0).l.getD j 0)]).length by simp) (show _ = (M ++ [Edg.mk k ((qs.getD k IR0).l.getD j 0)]).flatMap Edg.cells by simp [Edg.cells]) (by first | omega | (simp; omega)) (by unfold maxLen; first | omega | (simp; omega)) rfl rfl ?_); intro A6 c7 a wc hF hW; replace hF := hF.drop 5; refine pv hF hW (y_assign hF rfl) fun a hF => l_nil ?_; replace hF := hF.ks [0, 1, 2, 3, 4, 5, 6, 7, 9, 13, 16, 17, 18, 19, 23, 24, 25, 26] rfl; refine b_n <| t_n <| c_r <| pv hF hW (y_add hF rfl rfl (IntWalk.i64_in _ (by omega))) fun a hF => ?_; replace hF := hF.drop 25; refine pv hF hW (y_move hF rfl) fun a hF => l_nil ?_; replace hF := hF.ks [0, 1, 2, 3, 4, 5, 6, 7, 9, 13, 16, 17, 18, 19, 23, 24, 25, 26] rfl; replace hW := hW.del 0 rfl; refine t_n ?_; refine ⟨(j + 1, M ++ [⟨k, (qs.getD k IR0).l.getD j 0⟩], A6, c7), ?_, ?_, ?_, ?_⟩
        · exact ⟨by omega, by rw [take_map_snoc (by omega), hM, List.append_assoc]⟩
        · first | omega | (dsimp only; omega)
        · exact Fr.app (Fr.cons hF (t := 25) rfl (by first | rfl | (simp; done) | omega) (Fr.cons hF (t := 5) rfl (by first | rfl | (simp; done) | omega) (Fr.nil hF))) (hF.ks [0, 1, 2, 3, 4, 6, 7, 13, 16, 17, 18, 19, 23, 24] rfl)
        · exact hW
      · intro h4 hF; refine l_nil <| t_n <| c_s <| c_f hF rfl <| wp_exit <| t_x <| t_x <| b_h <| b_n <| t_n <| c_r <| pv hF hW (y_add hF rfl rfl (IntWalk.i64_in _ (by omega))) fun a hF => ?_; replace hF := hF.drop 18; refine pv hF hW (y_move hF rfl) fun a hF => l_nil ?_; replace hF := hF.ks [0, 1, 2, 3, 4, 5, 6, 7, 13, 16, 17, 18, 19, 23, 24, 25, 26] rfl; refine t_n ?_; refine ⟨(k + 1, M, B, d), ?_, ?_, ?_, ?_⟩
        · exact ⟨by omega, by rw [edgesTo_snoc, hM, hL, ← hql, List.take_of_length_le (by omega)]⟩
        · first | omega | (dsimp only; omega)
        · exact Fr.app (Fr.cons hF (t := 18) rfl (by first | rfl | (simp; done) | omega) (Fr.cons hF (t := 5) rfl (by first | rfl | (simp; done) | omega) (Fr.nil hF))) (hF.ks [0, 1, 2, 3, 4, 13, 16, 17] rfl)
        · exact hW
    · intro h3 hF; refine l_nil <| t_n <| c_s <| c_f hF rfl <| wp_exit <| t_x <| t_x <| b_h <| t_n <| c_sr <| pv hF hW (y_move hF rfl) fun a hF => ?_; replace hF := hF.drop 2; refine pv hF hW (y_assign hF rfl) fun a hF => ?_; replace hF := hF.drop 3; refine pv hF hW (y_assign hF rfl) fun a hF => l_nil ?_; replace hF := hF.ks [0, 1, 2, 3, 4, 5, 13, 16, 17, 18, 19] rfl; refine t_n <| wp_ret <| ret2 Try.results13 hF (rv_t hF rfl) (rv_t hF rfl) ?_; replace hW := hW.del 1 rfl; replace hW := hW.del 1 rfl
      obtain rfl : k = x.parts.length := (by omega)
      exact ⟨L, _, _, by rw [show chkSys x.sys = 0 by omega], by rw [if_pos (by omega)]; exact hL, hW.below, ((hW.row_res 0 rfl).res_res 0 rfl).mono fun u h => Flat.of_own h rfl⟩
end Go.Proofs.Ytlkkdpoioedacaa
