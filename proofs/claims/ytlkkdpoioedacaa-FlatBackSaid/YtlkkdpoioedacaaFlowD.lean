/- flow.Path. -/
import Derived.Test.YtlkkdpoioedacaaPathPl
import Derived.Test.YtlkkdpoioedacaaFlowC
import Derived.Test.YtlkkdpoioedacaaEngM
import Derived.Test.YtlkkdpoioedacaaEngQ
namespace Go.Proofs.Ytlkkdpoioedacaa
set_option linter.unusedVariables false
set_option linter.unusedSimpArgs false
open Go.ChangeShapes Go.WideShapes Go.ChangeAt Go.RowKit
theorem bs_FlowD_42_0_  (w : World) : (Instr.buildSlice 42 0 #[]).run Try.prog w = .ok (.slice (some ⟨w.heap.size, 0, none⟩) 0 0) (w.alloc (.cells #[] 3)) := by kernel_rfl
theorem bs_FlowD_42_1_0 (x0 : Int) (w : World) : (Instr.buildSlice 42 1 #[(0, (.int .i64 x0))]).run Try.prog w = .ok (.slice (some ⟨w.heap.size, 0, none⟩) 1 1) (w.alloc (.cells #[(.int .i64 x0)] 3)) := by kernel_rfl
theorem bs_FlowD_53_1_0 (x0 : Option Addr) (x0n x0c : Nat) (w : World) : (Instr.buildSlice 53 1 #[(0, (.slice x0 x0n x0c))]).run Try.prog w = .ok (.slice (some ⟨w.heap.size, 0, none⟩) 1 1) (w.alloc (.cells #[(.slice x0 x0n x0c)] 42)) := by kernel_rfl
set_option maxRecDepth 100000

theorem clone_intRow {A : Option Addr} {n c : Nat} {l : List Int} {w : World} (h : Ints w (.slice A n c) l) (hl0 : 0 < l.length) (hs : l.length * 8 ≤ 140737488355328) :
    Calls Try.prog 54 #[.slice A n c] w fun e w' => ∃ A' c', e = .returned (.slice A' l.length c') ∧ Below w.heap.size w w' ∧ w'.ownsRow w.heap.size 3 1 (.slice A' l.length c') l.length (l.map (.int .i64)) := by
  obtain rfl : n = l.length := h.len.1
  have hl := h.len
  unfold maxLen at hl
  refine enter Try.func54 rfl Try.ntmps54 rfl fun a hF => ?_
  have hW := Wd.start w NoB
  refine c_sr <| pv hF hW (y_assign hF rfl) fun a hF => l_nil <| t_n <| c_s <| c_sr <| pv hF hW (y_move hF rfl) fun a hF => pv hF hW (y_eqNilS hF rfl rfl Try.underlying42) fun a hF => ?_; refine Fr.splitB hF ?_ ?_
  · intro h1 hF; refine l_nil ?_; replace hF := hF.ks [0, 2, 4] rfl; refine t_n <| c_t hF rfl <| c_sr ?_; replace hF := hF.drop 2; refine pv hF hW (y_assign hF rfl) fun a hF => l_nil <| t_n <| wp_ret <| t_r <| ret1 Try.results54 hF (rv_t hF rfl) ?_
    obtain rfl := h.nil_of h1
    cases hl0
  · intro h1 hF; refine l_nil ?_; replace hF := hF.ks [0, 2, 4] rfl; refine t_n <| c_f hF rfl <| wp_skip <| t_n <| c_sr ?_; refine pe (e_buildSlice hF hW rfl (fun w => bs_FlowD_42_0_  w) rfl rfl rfl ?_); intro b2 a wc hF hW; refine pv hF hW (y_move hF rfl) fun a hF => ?_; replace hW := hW.blk_row 0 rfl 1 0 rfl (by simp); refine pe (e_append hF hW 0 rfl rfl rfl Try.underlying42 inf_3 rfl (by decide) (h.rowAt.below hW.below) (by exact oneCell_ints l) (show _ = l.length by omega) (show _ = l.map (.int .i64) by simp) (by first | omega | (simp; omega)) (by unfold maxLen; first | omega | (simp; omega)) rfl rfl ?_); intro A3 c4 a wc hF hW; replace hF := hF.drop 2; refine pv hF hW (y_assign hF rfl) fun a hF => l_nil ?_; replace hF := hF.ks [0, 2, 4] rfl; refine t_n <| wp_ret <| ret1 Try.results54 hF (rv_t hF rfl) ?_
    exact ⟨_, _, rfl, hW.below, hW.row_own 0 rfl⟩
/-- a road, and where it lies -/
structure RR where
  r : List Nat
  a : Option Addr
  k : Nat
def RR.ir (q : RR) : IR := ⟨q.r.map Int.ofNat, q.a, q.k⟩
def RR.val (q : RR) : Value := q.ir.val
def RR0 : RR := ⟨[], none, 0⟩
theorem sn_add {ks : List (Nat × Int)} {b : Nat} (h : 0 ≤ cget b ks) : (fun v => decide (0 < cget v (cadd b (cget b ks + 1) ks))) = fun v => decide (0 < cget v ks) || v == b := by
  funext v
  rw [cget_add]
  by_cases e : v = b
  · subst e
    rw [if_pos rfl]
    simp
    omega
  · simp [e]
theorem sn_old {ks : List (Nat × Int)} {b : Nat} (h : 0 < cget b ks) : (fun v => decide (0 < cget v (cadd b (cget b ks + 1) ks))) = fun v => decide (0 < cget v ks) := by
  rw [sn_add (by omega)]
  funext v
  by_cases e : v = b
  · subst e
    simp [h]
  · simp [e]
/-- counts are small -/
def Few (ks : List (Nat × Int)) (n : Nat) : Prop := ∀ v, 0 ≤ cget v ks ∧ cget v ks ≤ n
theorem Few.add {ks : List (Nat × Int)} {n b : Nat} (h : Few ks n) : Few (cadd b (cget b ks + 1) ks) (n + 1) := fun v => by
  rw [cget_add]
  have h1 := h v
  have h2 := h b
  split <;> omega
theorem Few.mono {ks : List (Nat × Int)} {n m : Nat} (h : Few ks n) (hm : n ≤ m) : Few ks m := fun v => by
  have := h v
  omega
theorem sn_start (f : Nat) : (fun v => decide (0 < cget v (cadd f 1 []))) = fun v => v == f := by
  funext v
  rw [cget_add]
  by_cases e : v = f <;> simp [e, cget_nil]
theorem few_start (f : Nat) : Few (cadd f 1 []) 1 := fun v => by
  rw [cget_add]
  split <;> simp [cget_nil]
def pathErr (s : Sys) (f t : Int) : Int := if thereErr s f = 0 then thereErr s t else thereErr s f
def pathOr (s : Sys) (f t : Int) : Option (List Nat) := if pathErr s f t = 0 then pathOf s.chans s.parts.length f.toNat t.toNat else none
theorem pathErr_1 {s : Sys} {f t : Int} (h : thereErr s f ≠ 0) : pathErr s f t = thereErr s f := if_neg h
theorem pathErr_2 {s : Sys} {f t : Int} (h : thereErr s f = 0) : pathErr s f t = thereErr s t := if_pos h
/-- what flow.Path gives -/
def PathBack (w : World) (x : SysD) (f t : Int) (e : Ending) (w' : World) : Prop := ∃ (L : List Int) (A : Option Addr) (c : Nat), e = .returned (.tuple #[.slice A L.length c, .bool (pathOr x.sys f t).isSome, .int .i64 (pathErr x.sys f t)]) ∧
  L = ((pathOr x.sys f t).getD []).map Int.ofNat ∧ Below w.heap.size w w' ∧ OwnRes w w' (fun u => Ints u (.slice A L.length c) L)
theorem sys_parts_len (x : SysD) : x.sys.parts.length = x.parts.length := by simp [SysD.sys]
theorem road_last {cs : List Chn} {n u v : Nat} {r : List Nat} (h : Road cs n u v r) : (r.map Int.ofNat).getD (r.length - 1) 0 = (v : Int) := by
  have h1 := h.last
  have h2 := h.pos
  rw [List.getD, List.getElem?_map] 
  rw [List.getD, List.getElem?_eq_getElem (by omega), Option.getD_some] at h1
  rw [List.getElem?_eq_getElem (by omega)]
  simp [h1]
theorem roadRF {r : List Nat} {ra : Option Addr} {rk : Nat} {u : World} (h : (RR.mk r ra rk).ir.At u) : RF u ra (r.map Int.ofNat).length 1 (fun i => [.int .i64 ((r.map Int.ofNat).getD i 0)]) := irRF h
theorem get_getD {α : Type} {l : List α} {j : Nat} (h : j < l.length) (d : α) : l[j]? = some (l.getD j d) := by simp [List.getD, h]
set_option maxHeartbeats 8000000 in
theorem flowPath_any {x : SysD} {w : World} (hx : x.At w) (f t : Int) : Calls Try.prog 19 #[x.val, .int .i64 f, .int .i64 t] w (PathBack w x f t) := by
  have hth := fun w1 (hb : Below w.heap.size w w1) (p : Int) => confThere_any (hx.below hb) p
  have hof := fun w1 (hb : Below w.heap.size w w1) (h0 : chkSys x.sys = 0) => flowOf_any (hx.below hb) h0
  have hspl := sys_parts_len x
  rw [x.val_eq] at *
  refine enter Try.func19 rfl Try.ntmps19 rfl fun a hF => ?_
  have hW := Wd.start w NoB
  refine c_sr ?_; refine pe (e_box hF hW rfl rfl rfl rfl ?_); intro b1 a wc hF hW; refine pv hF hW (y_assign hF rfl) fun a hF => pv hF hW (y_assign hF rfl) fun a hF => pv hF hW (y_assign hF rfl) fun a hF => l_nil <| t_n <| c_s <| c_sr <| pv hF hW (y_loadAll hF rfl 0 rfl Try.underlying26 rfl sz_26) fun a hF => pv hF hW (y_move hF rfl) fun a hF => ?_; refine pe (e_call hF rfl rfl en_53 (by rfl) rfl rfl (hth _ hW.below f) ?_); rintro e w1 ⟨rfl, hb⟩; replace hW := hW.kept hb; clear hb; refine ⟨_, rfl, fun a hF => ?_⟩; refine pv hF hW (y_assign hF rfl) fun a hF => l_nil ?_; replace hF := hF.ks [0, 1, 2, 3, 6, 7, 8, 9] rfl; refine t_n <| c_sr <| pv hF hW (y_move hF rfl) fun a hF => pv hF hW (y_neq hF rfl rfl) fun a hF => ?_; refine Fr.splitD hF ?_ ?_
  · intro h2 hF; refine l_nil ?_; replace hF := hF.ks [0, 1, 2, 3, 6, 7, 8, 9, 22] rfl; refine t_n <| c_t hF rfl <| c_sr <| pv hF hW (y_move hF rfl) fun a hF => ?_; replace hF := hF.drop 6; refine pv hF hW (y_assign hF rfl) fun a hF => ?_; replace hF := hF.drop 7; refine pv hF hW (y_assign hF rfl) fun a hF => ?_; replace hF := hF.drop 8; refine pv hF hW (y_assign hF rfl) fun a hF => l_nil ?_; replace hF := hF.ks [0, 1, 2, 3, 6, 7, 8, 9, 22] rfl; refine t_n <| wp_ret <| t_r <| ret3 Try.results19 hF (rv_t hF rfl) (rv_t hF rfl) (rv_t hF rfl) ?_; replace hW := hW.del 0 rfl
    exact ⟨[], none, 0, by rw [show pathOr x.sys f t = none from if_neg (by rw [pathErr_1 (by omega)]; omega), pathErr_1 (by omega)]; rfl, by rw [show pathOr x.sys f t = none from if_neg (by rw [pathErr_1 (by omega)]; omega)]; rfl, hW.below, fun _ _ => Ints.nil_⟩
  · intro h2 hF; refine l_nil ?_; replace hF := hF.ks [0, 1, 2, 3, 6, 7, 8, 9, 22] rfl; refine t_n <| c_f hF rfl <| wp_skip <| t_n <| c_s <| c_sr <| pv hF hW (y_loadAll hF rfl 0 rfl Try.underlying26 rfl sz_26) fun a hF => pv hF hW (y_move hF rfl) fun a hF => ?_; refine pe (e_call hF rfl rfl en_53 (by rfl) rfl rfl (hth _ hW.below t) ?_); rintro e w1 ⟨rfl, hb⟩; replace hW := hW.kept hb; clear hb; refine ⟨_, rfl, fun a hF => ?_⟩; refine pv hF hW (y_assign hF rfl) fun a hF => l_nil ?_; replace hF := hF.ks [0, 1, 2, 3, 6, 7, 8, 9, 10, 22] rfl; refine t_n <| c_sr <| pv hF hW (y_move hF rfl) fun a hF => pv hF hW (y_neq hF rfl rfl) fun a hF => ?_; refine Fr.splitD hF ?_ ?_
    · intro h3 hF; refine l_nil ?_; replace hF := hF.ks [0, 1, 2, 3, 6, 7, 8, 9, 10, 22, 28] rfl; refine t_n <| c_t hF rfl <| c_sr <| pv hF hW (y_move hF rfl) fun a hF => ?_; replace hF := hF.drop 6; refine pv hF hW (y_assign hF rfl) fun a hF => ?_; replace hF := hF.drop 7; refine pv hF hW (y_assign hF rfl) fun a hF => ?_; replace hF := hF.drop 8; refine pv hF hW (y_assign hF rfl) fun a hF => l_nil ?_; replace hF := hF.ks [0, 1, 2, 3, 6, 7, 8, 9, 10, 22, 28] rfl; refine t_n <| wp_ret <| t_r <| ret3 Try.results19 hF (rv_t hF rfl) (rv_t hF rfl) (rv_t hF rfl) ?_; replace hW := hW.del 0 rfl
      exact ⟨[], none, 0, by rw [show pathOr x.sys f t = none from if_neg (by rw [pathErr_2 (by omega)]; omega), pathErr_2 (by omega)]; rfl, by rw [show pathOr x.sys f t = none from if_neg (by rw [pathErr_2 (by omega)]; omega)]; rfl, hW.below, fun _ _ => Ints.nil_⟩
    · intro h3 hF; refine l_nil ?_; replace hF := hF.ks [0, 1, 2, 3, 6, 7, 8, 9, 10, 22, 28] rfl; refine t_n <| c_f hF rfl <| wp_skip <| t_n ?_
      have h10 : thereErr x.sys f = 0 := (by omega)
      have h20 : thereErr x.sys t = 0 := (by omega)
      have hpe : pathErr x.sys f t = 0 := (pathErr_2 h10).trans h20
      obtain ⟨hk, hf0, hf1⟩ := there_zero h10
      obtain ⟨-, ht0, ht1⟩ := there_zero h20
      rw [hspl] at hf1 ht1
      obtain ⟨pf, rfl⟩ := Int.eq_ofNat_of_zero_le hf0
      obtain ⟨pt, rfl⟩ := Int.eq_ofNat_of_zero_le ht0
      have hfn : pf < x.parts.length := (by omega)
      have htn : pt < x.parts.length := (by omega)
      have hpo : pathOr x.sys pf pt = pathOf x.chans x.parts.length pf pt := (if_pos hpe).trans (by rw [hspl]; rfl)
      obtain ⟨⟨hp1, hp2⟩, -⟩ := sizes_get (chkSys_zero hk).1
      refine c_sr <| pv hF hW (y_loadAll hF rfl 0 rfl Try.underlying26 rfl sz_26) fun a hF => ?_; refine pe (e_call hF rfl rfl en_46 (by rfl) rfl rfl (hof _ hW.below hk) ?_); rintro e w1 ⟨gs, Ag, rfl, hg, hb, hr⟩; replace hW := hW.gotR hb hr; refine ⟨_, rfl, fun a hF => ?_⟩
      have hgl := hg.len
      refine pv hF hW (y_assign hF rfl) fun a hF => l_nil ?_; replace hF := hF.ks [0, 1, 2, 3, 6, 7, 8, 9, 10, 11, 22, 28] rfl; refine t_n <| c_sr ?_; refine pe (e_makeMap hF hW (fun k : Nat => Value.int .i64 (k : Int)) rfl rfl ?_); intro b4 a wc hF hW; refine pv hF hW (y_move hF rfl) fun a hF => ?_; refine pe (e_mapUpdate rfl (keyOk_int Try.underlying3) hF hW rfl rfl rfl 0 rfl Try.underlying106 (.inr rfl) ?_); intro wc hW; refine pv hF hW (y_move hF rfl) fun a hF => pv hF hW (y_assign hF rfl) fun a hF => l_nil ?_; replace hF := hF.ks [0, 1, 2, 3, 6, 7, 8, 9, 10, 11, 12, 22, 28] rfl; refine t_n <| c_sr <| pv hF hW (y_move hF rfl) fun a hF => ?_; refine pe (e_buildSlice hF hW rfl (fun w => bs_FlowD_42_1_0 _ w) rfl rfl rfl ?_); intro b5 a wc hF hW; refine pe (e_buildSlice hF hW rfl (fun w => bs_FlowD_53_1_0 _ _ _ w) rfl rfl rfl ?_); intro b6 a wc hF hW; refine pv hF hW (y_assign hF rfl) fun a hF => l_nil ?_; replace hF := hF.ks [0, 1, 2, 3, 6, 7, 8, 9, 10, 11, 12, 13, 22, 28] rfl; refine t_n <| c_s <| wp_block ?_; replace hW := hW.front 2 rfl rfl; replace hW := hW.front 2 rfl rfl; replace hW := hW.front 2 rfl rfl; replace hW := hW.blk_vseg 0 [RR.val ⟨[pf], some ⟨b5, 0, none⟩, 1⟩] rfl rfl (show 1 ≤ maxLen by decide)
      replace hW := (hW.blk_res 1 rfl).weak 1 (R' := fun u => ∀ q, q ∈ [RR.mk [pf] (some ⟨b5, 0, none⟩) 1] → q.ir.At u) rfl fun u h q hq => by rw [List.mem_singleton.1 hq]; exact ints_blk (xs := [(pf : Int)]) h rfl rfl (show 1 ≤ maxLen by decide)
      refine c_loop (G := List (List Nat) × List RR × List (Nat × Int) × Option Addr × Nat) (fun (gq : List (List Nat) × List RR × List (Nat × Int) × Option Addr × Nat) => match gq with | ⟨P, rs, ks, A, c⟩ => [(13, .slice A (rs.map RR.val).length c)]) (fun (gq : List (List Nat) × List RR × List (Nat × Int) × Option Addr × Nat) => match gq with | ⟨P, rs, ks, A, c⟩ => [.vseg 42 (.slice A (rs.map RR.val).length c) (rs.map RR.val), .res (fun u => ∀ q, q ∈ rs → q.ir.At u), .cmap b4 (fun k : Nat => Value.int .i64 (k : Int)) ks]) (fun (gq : List (List Nat) × List RR × List (Nat × Int) × Option Addr × Nat) => match gq with | ⟨P, rs, ks, A, c⟩ => Bfs x.chans x.parts.length pf pt P (rs.map RR.r) (fun v => decide (0 < cget v ks)) ∧ Few ks (1 + 4 * P.length)) (fun (gq : List (List Nat) × List RR × List (Nat × Int) × Option Addr × Nat) => match gq with | ⟨P, rs, ks, A, c⟩ => x.parts.length - P.length) ([], [⟨[pf], some ⟨b5, 0, none⟩, 1⟩], cadd pf 1 [], some ⟨b6, 0, none⟩, 1) (hF.ks [0, 1, 2, 3, 9, 10, 11, 12, 22, 28] rfl) (Fr.cons hF (t := 13) rfl (by first | rfl | (simp; done)) (Fr.nil hF)) (hW) ?_ ?_
      · exact ⟨by rw [sn_start]; exact bfs_start hfn, few_start pf⟩
      clear hF hW
      try clear a
      intro gq a wc hC hF hW
      obtain ⟨P, rs, ks, A, c⟩ := gq
      dsimp only at hC
      obtain ⟨hB, hks⟩ := hC
      refine c_s <| c_sr <| pv hF hW (y_move hF rfl) fun a hF => pv hF hW (y_len hF rfl Try.underlying53) fun a hF => pv hF hW (y_gtr hF rfl rfl) fun a hF => ?_; refine Fr.splitD hF ?_ ?_
      · intro h7 hF; refine l_nil ?_; replace hF := hF.ks [0, 1, 2, 3, 9, 10, 11, 12, 13, 22, 28, 40] rfl; refine t_n <| c_t hF rfl <| wp_skip <| t_n <| wp_block ?_
        have hpos : 0 < rs.length := (by simp only [List.length_map] at *; omega)
        obtain ⟨r1, rs', rfl⟩ : ∃ m l, rs = m :: l := List.exists_cons_of_length_pos hpos
        obtain ⟨r, ra, rk⟩ := r1
        obtain ⟨xx, hxn, hxr⟩ := hB.log.road r (by simp)
        have hrp := hxr.pos
        have hrl : (r.map Int.ofNat).length = r.length := List.length_map _
        have hPn := hB.log.le
        simp only [List.length_append, List.map_cons, List.length_cons] at hPn
        have hlen := hB.log.len r (by simp)
        simp only [List.length_append, List.map_cons, List.length_cons] at hlen
        have hlast := road_last hxr
        have hr1 : RR.mk r ra rk ∈ RR.mk r ra rk :: rs' := List.mem_cons_self
        refine c_sr <| pv hF hW (y_move hF rfl) fun a hF => pv hF hW (y_indexS hF rfl rfl (by simp) Try.underlying53 sz_42 (fun w h => (h.vsegR (d0 := .nilFunc) 0 rfl))) fun a hF => pv hF hW (y_loadRow hF rfl (fun w h => (h.vsegR (d0 := .nilFunc) 0 rfl)) (by simp) rfl Try.underlying42 rfl) fun a hF => ?_; replace hF := Fr.cast (v' := .slice ra (r.map Int.ofNat).length rk) (by rfl) hF; refine pv hF hW (y_assign hF rfl) fun a hF => l_nil ?_; replace hF := hF.ks [0, 1, 2, 3, 9, 10, 11, 12, 13, 14, 22, 28, 40] rfl; refine t_n ?_
        obtain ⟨A1, c1, hv1⟩ : ∃ A1 c1, (Value.slice (if c = 1 then A else A.map (·.add (1 * 1))) (((RR.mk r ra rk :: rs').map RR.val).length - 1) (c - 1)) = .slice A1 (rs'.map RR.val).length c1 := ⟨_, _, rfl⟩
        replace hW := hW.vseg_tail 0 rfl (by simp)
        rw [hv1] at hW
        refine c_sr <| pv hF hW (y_move hF rfl) fun a hF => pv hF hW (y_sliceL hF rfl rfl (by simp) Try.underlying53 sz_42) fun a hF => ?_; replace hF := Fr.cast (v' := .slice A1 (rs'.map RR.val).length c1) (by exact hv1) hF; replace hF := hF.drop 13; refine pv hF hW (y_assign hF rfl) fun a hF => l_nil ?_; replace hF := hF.ks [0, 1, 2, 3, 9, 10, 11, 12, 13, 14, 22, 28, 40] rfl; refine t_n <| c_sr <| pv hF hW (y_move hF rfl) fun a hF => pv hF hW (y_move hF rfl) fun a hF => pv hF hW (y_len hF rfl Try.underlying42) fun a hF => pv hF hW (y_sub hF rfl rfl (IntWalk.i64_in _ (by omega))) fun a hF => ?_; replace hF := Fr.cast (v' := .int .i64 ((r.length - 1 : Nat) : Int)) (by congr 1; omega) hF; refine pv hF hW (y_indexS hF rfl rfl (by omega) Try.underlying42 sz_3 (fun w h => (h.res 1 rfl)|> fun h => roadRF (h _ hr1))) fun a hF => pv hF hW (y_loadRow hF rfl (fun w h => (h.res 1 rfl)|> fun h => roadRF (h _ hr1)) (by omega) rfl Try.underlying3 rfl) fun a hF => ?_; replace hF := Fr.cast (v' := .int .i64 (xx : Int)) (by rw [hlast]) hF; refine pv hF hW (y_assign hF rfl) fun a hF => l_nil ?_; replace hF := hF.ks [0, 1, 2, 3, 9, 10, 11, 12, 13, 14, 15, 22, 28, 40] rfl; refine t_n <| c_s <| c_sr <| pv hF hW (y_move hF rfl) fun a hF => pv hF hW (y_move hF rfl) fun a hF => pv hF hW (y_eql hF rfl rfl) fun a hF => ?_; refine Fr.splitD hF ?_ ?_
        · intro h8 hF; refine l_nil ?_; replace hF := hF.ks [0, 1, 2, 3, 9, 10, 11, 12, 13, 14, 15, 22, 28, 40, 54] rfl; refine t_n <| c_t hF rfl <| c_sr <| pv hF hW (y_move hF rfl) fun a hF => pv hF hW (y_assign hF rfl) fun a hF => pv hF hW (y_assign hF rfl) fun a hF => pv hF hW (y_assign hF rfl) fun a hF => l_nil ?_; replace hF := hF.ks [0, 1, 2, 3, 6, 7, 8, 9, 10, 11, 12, 13, 14, 15, 22, 28, 40, 54] rfl; refine t_n <| wp_ret <| t_r <| b_r <| t_r <| b_r <| t_r <| ret3 Try.results19 hF (rv_t hF rfl) (rv_t hF rfl) (rv_t hF rfl) ?_; replace hW := hW.del 0 rfl; replace hW := hW.del 1 rfl; replace hW := hW.del 1 rfl; replace hW := hW.del 1 rfl
          obtain rfl : xx = pt := (by omega)
          have hfo := hB.found hfn hxn hxr
          exact ⟨r.map Int.ofNat, ra, rk, by rw [hpo, hfo, hpe]; rfl, by rw [hpo, hfo]; rfl, hW.below, (hW.res_res 0 rfl).mono fun u h => h _ hr1⟩
        · intro h8 hF; refine l_nil ?_; replace hF := hF.ks [0, 1, 2, 3, 9, 10, 11, 12, 13, 14, 15, 22, 28, 40, 54] rfl; refine t_n <| c_f hF rfl <| wp_skip <| t_n ?_
          have hne : xx ≠ pt := (by omega)
          have hM0 := hB.take hxr hne
          have hxg : xx < gs.length := (by omega)
          have hql := hg.get hxn
          have hqn := tl_len x.parts.length (leadsB x.chans xx)
          rw [← hql] at hqn
          refine c_sr <| pv hF hW (y_move hF rfl) fun a hF => pv hF hW (y_move hF rfl) fun a hF => pv hF hW (y_indexS hF rfl rfl (by exact hxn) Try.underlying91 sz_42 (fun w h => (h.res 3 rfl).1.rf IR.cells_len IR0)) fun a hF => pv hF hW (y_loadRow hF rfl (fun w h => (h.res 3 rfl).1.rf IR.cells_len IR0) (by exact hxn) rfl Try.underlying42 rfl) fun a hF => ?_; replace hF := Fr.cast (v' := .slice (gs.getD xx IR0).a (gs.getD xx IR0).l.length (gs.getD xx IR0).k) (by rfl) hF; refine pv hF hW (y_len hF rfl Try.underlying42) fun a hF => pv hF hW (y_move hF rfl) fun a hF => l_nil ?_; replace hF := hF.ks [0, 1, 2, 3, 9, 10, 11, 12, 13, 14, 15, 22, 28, 40, 54, 59, 60, 61] rfl; refine t_n <| wp_block ?_; replace hW := hW.front 2 rfl rfl; replace hW := hW.front 2 rfl rfl; replace hW := hW.front 2 rfl rfl; refine c_loop (G := Nat × List RR × List (Nat × Int) × Option Addr × Nat) (fun (gq : Nat × List RR × List (Nat × Int) × Option Addr × Nat) => match gq with | ⟨j, zs, ks2, B, d⟩ => [(61, .int .i64 (j : Int)), (13, .slice B (zs.map RR.val).length d)]) (fun (gq : Nat × List RR × List (Nat × Int) × Option Addr × Nat) => match gq with | ⟨j, zs, ks2, B, d⟩ => [.vseg 42 (.slice B (zs.map RR.val).length d) (zs.map RR.val), .res (fun u => ∀ q, q ∈ RR.mk r ra rk :: zs → q.ir.At u), .cmap b4 (fun k : Nat => Value.int .i64 (k : Int)) ks2]) (fun (gq : Nat × List RR × List (Nat × Int) × Option Addr × Nat) => match gq with | ⟨j, zs, ks2, B, d⟩ => Mid x.chans x.parts.length pf pt P r xx (zs.map RR.r) (fun v => decide (0 < cget v ks2)) j ∧ Few ks2 (1 + 4 * P.length + j) ∧ j ≤ (gs.getD xx IR0).l.length) (fun (gq : Nat × List RR × List (Nat × Int) × Option Addr × Nat) => match gq with | ⟨j, zs, ks2, B, d⟩ => (gs.getD xx IR0).l.length - j) (0, rs', ks, A1, c1) (hF.ks [0, 1, 2, 3, 9, 10, 11, 12, 14, 15, 22, 28, 40, 54, 59, 60] rfl) (Fr.cons hF (t := 61) rfl (by first | rfl | (simp; done)) (Fr.cons hF (t := 13) rfl (by first | rfl | (simp; done)) (Fr.nil hF))) (hW) ?_ ?_
          · exact ⟨hM0, hks, by omega⟩
          clear hF hW
          try clear a
          intro gq a wc hC hF hW
          obtain ⟨j, zs, ks2, B, d⟩ := gq
          dsimp only at hC
          obtain ⟨hM, hks2, hjl⟩ := hC
          refine c_sr <| pv hF hW (y_lss hF rfl rfl) fun a hF => ?_; refine Fr.splitD hF ?_ ?_
          · intro h9 hF; refine l_nil <| t_n <| c_s <| c_t hF rfl <| wp_skip <| t_n <| c_s <| wp_block ?_
            have hjl2 : j < (gs.getD xx IR0).l.length := (by omega)
            obtain ⟨bb, hbe, -, -⟩ := tl_lt (by rw [← hql]; exact mem_getD (l := (gs.getD xx IR0).l) 0 hjl2)
            have hbj : (tl x.parts.length (leadsB x.chans xx))[j]? = some (bb : Int) := (by rw [← hql, ← hbe]; exact get_getD hjl2 0)
            have hcb := hks2 bb
            have hzl := hM.log.le
            simp only [List.length_append, List.length_map, List.length_cons] at hzl
            refine c_sr <| pv hF hW (y_indexS hF rfl rfl (by first | omega | decide) Try.underlying42 sz_3 (fun w h => (h.res 3 rfl).2 _ (mem_getD IR0 hxg) |> irRF)) fun a hF => pv hF hW (y_loadRow hF rfl (fun w h => (h.res 3 rfl).2 _ (mem_getD IR0 hxg) |> irRF) (by first | omega | decide) rfl Try.underlying3 rfl) fun a hF => ?_; replace hF := Fr.cast (v' := .int .i64 (bb : Int)) (by rw [hbe]) hF; refine pv hF hW (y_assign hF rfl) fun a hF => l_nil ?_; replace hF := hF.ks [0, 1, 2, 3, 9, 10, 11, 12, 13, 14, 15, 17, 22, 28, 40, 54, 59, 60, 61, 62] rfl; refine t_n <| c_sr <| pv hF hW (y_move hF rfl) fun a hF => pv hF hW (y_move hF rfl) fun a hF => pv hF hW (y_lookup (keyOk_int Try.underlying3) hF rfl rfl 2 rfl Try.underlying106 ze_3) fun a hF => pv hF hW (y_add hF rfl rfl (IntWalk.i64_in _ (by omega))) fun a hF => ?_; refine pe (e_mapUpdate rfl (keyOk_int Try.underlying3) hF hW rfl rfl rfl 2 rfl Try.underlying106 (.inl rfl) ?_); intro wc hW; refine l_nil ?_; replace hF := hF.ks [0, 1, 2, 3, 9, 10, 11, 12, 13, 14, 15, 17, 22, 28, 40, 54, 59, 60, 61, 62] rfl; refine t_n <| c_sr <| pv hF hW (y_move hF rfl) fun a hF => pv hF hW (y_move hF rfl) fun a hF => pv hF hW (y_lookup (keyOk_int Try.underlying3) hF rfl rfl 2 rfl Try.underlying106 ze_3) fun a hF => ?_; replace hF := Fr.cast (v' := .int .i64 (cget bb ks2 + 1)) (by rw [cget_add, if_pos rfl]) hF; refine pv hF hW (y_eql hF rfl rfl) fun a hF => ?_; refine Fr.splitD hF ?_ ?_
            · intro h10 hF; refine l_nil ?_; replace hF := hF.ks [0, 1, 2, 3, 9, 10, 11, 12, 13, 14, 15, 17, 22, 28, 40, 54, 59, 60, 61, 62, 72] rfl; refine t_n <| c_t hF rfl <| c_r <| pv hF hW (y_move hF rfl) fun a hF => pv hF hW (y_move hF rfl) fun a hF => ?_; refine pe (e_call hF rfl rfl en_54 (by rfl) rfl rfl (clone_intRow (show Ints _ (.slice ra (r.map Int.ofNat).length rk) (r.map Int.ofNat) from (hW.res 1 rfl) _ List.mem_cons_self) (by omega) (by omega)) ?_); rintro e w1 ⟨A3, c3, rfl, hb, hr⟩; replace hW := hW.got_row hb hr; refine ⟨_, rfl, fun a hF => ?_⟩; refine pv hF hW (y_move hF rfl) fun a hF => ?_; refine pe (e_buildSlice hF hW rfl (fun w => bs_FlowD_42_1_0 _ w) rfl rfl rfl ?_); intro b11 a wc hF hW; refine pe (e_append hF hW 1 rfl rfl rfl Try.underlying42 inf_3 rfl (by decide) (rowAt_blk (hW.blk 0 rfl) 1 1 rfl) (by simp [Value.oneCell']) (show _ = ((r ++ [bb]).map Int.ofNat).length by simp) (show _ = ((r ++ [bb]).map Int.ofNat).map (.int .i64) by simp) (by first | omega | (simp; omega)) (by unfold maxLen; first | omega | (simp; omega)) rfl rfl ?_); intro A12 c13 a wc hF hW; refine pe (e_buildSlice hF hW rfl (fun w => bs_FlowD_53_1_0 _ _ _ w) rfl rfl rfl ?_); intro b14 a wc hF hW; refine pe (e_appendVSeg hF hW 3 rfl rfl rfl Try.underlying53 inf_42 rfl (rowAt_blk (hW.blk 0 rfl) 1 1 rfl) (by simp [Value.oneCell']) (show _ = (zs ++ [RR.mk (r ++ [bb]) A12 c13]).map RR.val by exact (List.map_append (f := RR.val) (l₁ := zs) (l₂ := [RR.mk (r ++ [bb]) _ _])).symm) (by (simp only [List.length_map, List.length_append, List.length_cons, List.length_nil]; omega)) (by unfold maxLen; (simp only [List.length_map, List.length_append, List.length_cons, List.length_nil]; omega)) rfl rfl ?_); intro A15 c16 a wc hF hW; replace hF := hF.drop 13; refine pv hF hW (y_assign hF rfl) fun a hF => l_nil ?_; replace hF := hF.ks [0, 1, 2, 3, 9, 10, 11, 12, 13, 14, 15, 17, 22, 28, 40, 54, 59, 60, 61, 62, 72] rfl; refine b_n <| t_n <| c_r <| pv hF hW (y_add hF rfl rfl (IntWalk.i64_in _ (by omega))) fun a hF => ?_; replace hF := hF.drop 61; refine pv hF hW (y_move hF rfl) fun a hF => l_nil ?_; replace hF := hF.ks [0, 1, 2, 3, 9, 10, 11, 12, 13, 14, 15, 17, 22, 28, 40, 54, 59, 60, 61, 62, 72] rfl; replace hW := hW.front 4 rfl rfl; replace hW := hW.front 3 rfl rfl
              replace hW := hW.row1 (R := fun u => ∀ q, q ∈ RR.mk r ra rk :: (zs ++ [RR.mk (r ++ [bb]) A12 c13]) → q.ir.At u) fun u h1 h2 q hq => (List.mem_append.1 hq).elim (h2 q) fun h => by rw [List.mem_singleton.1 h]; exact Ints.of_own h1
              replace hW := hW.del 1 rfl; replace hW := hW.del 1 rfl; replace hW := hW.front 4 rfl rfl; replace hW := hW.front 4 rfl rfl; replace hW := hW.front 4 rfl rfl; replace hW := hW.front 3 rfl rfl; replace hW := hW.front 4 rfl rfl; refine t_n ?_; refine ⟨(j + 1, zs ++ [RR.mk (r ++ [bb]) A12 c13], cadd bb (cget bb ks2 + 1) ks2, A15, c16), ?_, ?_, ?_, ?_⟩
              · exact ⟨by rw [sn_add (by omega), List.map_append]; exact hM.add hbj (decide_eq_false (by omega)), hks2.add, by omega⟩
              · first | omega | (dsimp only; omega)
              · exact Fr.app (Fr.cons hF (t := 61) rfl (by first | rfl | (simp; done) | omega) (Fr.cons hF (t := 13) rfl (by first | rfl | (simp; done) | omega) (Fr.nil hF))) (hF.ks [0, 1, 2, 3, 9, 10, 11, 12, 14, 15, 22, 28, 40, 54, 59, 60] rfl)
              · exact hW
            · intro h10 hF; refine l_nil ?_; replace hF := hF.ks [0, 1, 2, 3, 9, 10, 11, 12, 13, 14, 15, 17, 22, 28, 40, 54, 59, 60, 61, 62, 72] rfl; refine t_n <| c_f hF rfl <| wp_skip <| b_n <| t_n <| c_r <| pv hF hW (y_add hF rfl rfl (IntWalk.i64_in _ (by omega))) fun a hF => ?_; replace hF := hF.drop 61; refine pv hF hW (y_move hF rfl) fun a hF => l_nil ?_; replace hF := hF.ks [0, 1, 2, 3, 9, 10, 11, 12, 13, 14, 15, 17, 22, 28, 40, 54, 59, 60, 61, 62, 72] rfl; refine t_n ?_; refine ⟨(j + 1, zs, cadd bb (cget bb ks2 + 1) ks2, B, d), ?_, ?_, ?_, ?_⟩
              · exact ⟨by rw [sn_old (by omega)]; exact hM.skip hbj (decide_eq_true (by omega)), hks2.add, by omega⟩
              · first | omega | (dsimp only; omega)
              · exact Fr.app (Fr.cons hF (t := 61) rfl (by first | rfl | (simp; done) | omega) (Fr.cons hF (t := 13) rfl (by first | rfl | (simp; done) | omega) (Fr.nil hF))) (hF.ks [0, 1, 2, 3, 9, 10, 11, 12, 14, 15, 22, 28, 40, 54, 59, 60] rfl)
              · exact hW
          · intro h9 hF; refine l_nil <| t_n <| c_s <| c_f hF rfl <| wp_exit <| t_x <| t_x <| b_h <| b_n <| t_n ?_
            replace hW := hW.weak 1 (R' := fun u => ∀ q, q ∈ zs → q.ir.At u) rfl fun u h q hq => h q (List.mem_cons_of_mem _ hq)
            refine ⟨(P ++ [r], zs, ks2, B, d), ?_, ?_, ?_, ?_⟩
            · exact ⟨hM.done (by rw [← hql]; omega), hks2.mono (by simp only [List.length_append, List.length_cons, List.length_nil]; omega)⟩
            · (simp only [List.length_append, List.length_cons, List.length_nil]; omega)
            · exact Fr.app (Fr.cons hF (t := 13) rfl (by first | rfl | (simp; done) | omega) (Fr.nil hF)) (hF.ks [0, 1, 2, 3, 9, 10, 11, 12, 22, 28] rfl)
            · exact hW
      · intro h7 hF; refine l_nil ?_; replace hF := hF.ks [0, 1, 2, 3, 9, 10, 11, 12, 13, 22, 28, 40] rfl; refine t_n <| c_f hF rfl <| wp_exit <| t_x <| t_x <| b_h <| t_n <| c_sr <| pv hF hW (y_assign hF rfl) fun a hF => pv hF hW (y_assign hF rfl) fun a hF => pv hF hW (y_assign hF rfl) fun a hF => l_nil <| t_n <| wp_ret <| ret3 Try.results19 hF (rv_t hF rfl) (rv_t hF rfl) (rv_t hF rfl) ?_; replace hW := hW.del 0 rfl; replace hW := hW.del 0 rfl; replace hW := hW.del 0 rfl; replace hW := hW.del 0 rfl; replace hW := hW.del 0 rfl
        have hrn : rs = [] := List.eq_nil_of_length_eq_zero (by simp only [List.length_map] at *; omega)
        subst hrn
        exact ⟨[], none, 0, by rw [hpo, hB.none, hpe]; rfl, by rw [hpo, hB.none]; rfl, hW.below, fun _ _ => Ints.nil_⟩
end Go.Proofs.Ytlkkdpoioedacaa
