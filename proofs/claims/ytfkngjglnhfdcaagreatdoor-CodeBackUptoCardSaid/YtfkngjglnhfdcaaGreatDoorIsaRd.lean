/- isa.Read reads what a text says. -/
import Derived.Test.YtfkngjglnhfdcaaGreatDoorIsaSh
import Derived.Test.YtfkngjglnhfdcaaGreatDoorIsaB
namespace Go.Proofs.YtfkngjglnhfdcaaGreatDoor
set_option linter.unusedVariables false
set_option linter.unusedSimpArgs false
open Go.ChangeShapes Go.WideShapes Go.ChangeAt Go.RowKit
theorem bu_IsaRd_46_  (w : World) : (Instr.build 46 #[]).run Tryz.prog w = .ok (.agg #[(.int .i64 0), (.int .i64 0), (.int .i64 0), (.int .i64 0)]) w := by kernel_rfl
theorem bu_IsaRd_46_0 (x0 : Int) (w : World) : (Instr.build 46 #[(0, (.int .i64 x0))]).run Tryz.prog w = .ok (.agg #[(.int .i64 x0), (.int .i64 0), (.int .i64 0), (.int .i64 0)]) w := by kernel_rfl
set_option maxRecDepth 100000

theorem piece_len {c : UInt8} : ∀ (l : List UInt8) (p : List UInt8), p ∈ splitC c l → p.length ≤ l.length
  | [], p, h => by
    rw [splitC, List.mem_singleton] at h
    rw [h]
    exact Nat.le_refl _
  | b :: l, p, h => by
    have ih := piece_len (c := c) l
    unfold splitC at h
    split at h
    · rcases List.mem_cons.1 h with h | h
      · rw [h]; exact Nat.zero_le _
      · have := ih p h
        simp only [List.length_cons]
        omega
    · split at h
      · rw [List.mem_singleton.1 h]; simp
      · rename_i q r e
        rw [e] at ih
        rcases List.mem_cons.1 h with h | h
        · rw [h]
          have := ih q List.mem_cons_self
          simp only [List.length_cons]
          omega
        · have := ih p (List.mem_cons_of_mem _ h)
          simp only [List.length_cons]
          omega
theorem piece_at (l : List UInt8) {k : Nat} (hk : k < (splitC 32 l).length) : ((splitC 32 l).map fun x => Value.string (bstr x))[k]? = some (.string (bstr ((splitC 32 l).getD k []))) := by
  rw [List.getElem?_map, List.getElem?_eq_getElem hk, List.getD, List.getElem?_eq_getElem hk]
  rfl
theorem piece_lenD (l : List UInt8) (k : Nat) : ((splitC 32 l).getD k []).length ≤ l.length := by
  by_cases hk : k < (splitC 32 l).length
  · rw [List.getD, List.getElem?_eq_getElem hk]
    exact piece_len l _ (List.getElem_mem hk)
  · rw [List.getD, List.getElem?_eq_none (by omega)]
    exact Nat.zero_le _
theorem splitC_pos (c : UInt8) (l : List UInt8) : 0 < (splitC c l).length := List.length_pos_iff.2 (splitC_ne c l)
theorem shape_0 : ∀ w, (Instr.index 90 shapesV (.int .i64 0)).run Tryz.prog w = .ok (.agg #[.string (wordB 0), .string (fieldB 0)]) w := fun _ => by kernel_rfl
theorem shape_1 : ∀ w, (Instr.index 90 shapesV (.int .i64 1)).run Tryz.prog w = .ok (.agg #[.string (wordB 1), .string (fieldB 1)]) w := fun _ => by kernel_rfl
theorem shape_2 : ∀ w, (Instr.index 90 shapesV (.int .i64 2)).run Tryz.prog w = .ok (.agg #[.string (wordB 2), .string (fieldB 2)]) w := fun _ => by kernel_rfl
theorem shape_3 : ∀ w, (Instr.index 90 shapesV (.int .i64 3)).run Tryz.prog w = .ok (.agg #[.string (wordB 3), .string (fieldB 3)]) w := fun _ => by kernel_rfl
theorem shape_4 : ∀ w, (Instr.index 90 shapesV (.int .i64 4)).run Tryz.prog w = .ok (.agg #[.string (wordB 4), .string (fieldB 4)]) w := fun _ => by kernel_rfl
theorem shape_5 : ∀ w, (Instr.index 90 shapesV (.int .i64 5)).run Tryz.prog w = .ok (.agg #[.string (wordB 5), .string (fieldB 5)]) w := fun _ => by kernel_rfl
theorem shape_6 : ∀ w, (Instr.index 90 shapesV (.int .i64 6)).run Tryz.prog w = .ok (.agg #[.string (wordB 6), .string (fieldB 6)]) w := fun _ => by kernel_rfl
theorem shape_7 : ∀ w, (Instr.index 90 shapesV (.int .i64 7)).run Tryz.prog w = .ok (.agg #[.string (wordB 7), .string (fieldB 7)]) w := fun _ => by kernel_rfl
theorem shape_8 : ∀ w, (Instr.index 90 shapesV (.int .i64 8)).run Tryz.prog w = .ok (.agg #[.string (wordB 8), .string (fieldB 8)]) w := fun _ => by kernel_rfl
theorem shape_9 : ∀ w, (Instr.index 90 shapesV (.int .i64 9)).run Tryz.prog w = .ok (.agg #[.string (wordB 9), .string (fieldB 9)]) w := fun _ => by kernel_rfl
theorem shape_10 : ∀ w, (Instr.index 90 shapesV (.int .i64 10)).run Tryz.prog w = .ok (.agg #[.string (wordB 10), .string (fieldB 10)]) w := fun _ => by kernel_rfl
theorem shape_11 : ∀ w, (Instr.index 90 shapesV (.int .i64 11)).run Tryz.prog w = .ok (.agg #[.string (wordB 11), .string (fieldB 11)]) w := fun _ => by kernel_rfl
theorem shape_12 : ∀ w, (Instr.index 90 shapesV (.int .i64 12)).run Tryz.prog w = .ok (.agg #[.string (wordB 12), .string (fieldB 12)]) w := fun _ => by kernel_rfl
theorem shape_13 : ∀ w, (Instr.index 90 shapesV (.int .i64 13)).run Tryz.prog w = .ok (.agg #[.string (wordB 13), .string (fieldB 13)]) w := fun _ => by kernel_rfl
theorem shape_14 : ∀ w, (Instr.index 90 shapesV (.int .i64 14)).run Tryz.prog w = .ok (.agg #[.string (wordB 14), .string (fieldB 14)]) w := fun _ => by kernel_rfl
theorem shape_15 : ∀ w, (Instr.index 90 shapesV (.int .i64 15)).run Tryz.prog w = .ok (.agg #[.string (wordB 15), .string (fieldB 15)]) w := fun _ => by kernel_rfl
theorem shapes_at {k : Nat} (hk : k < 16) (w : World) : (Instr.index 90 shapesV (.int .i64 (k : Int))).run Tryz.prog w = .ok (.agg #[.string (bstr (wordL (k : Int))), .string (bstr (fieldL (k : Int)))]) w := by
  rw [← word_bstr, ← field_bstr]
  match k, hk with
  | 0, _ => exact shape_0 w
  | 1, _ => exact shape_1 w
  | 2, _ => exact shape_2 w
  | 3, _ => exact shape_3 w
  | 4, _ => exact shape_4 w
  | 5, _ => exact shape_5 w
  | 6, _ => exact shape_6 w
  | 7, _ => exact shape_7 w
  | 8, _ => exact shape_8 w
  | 9, _ => exact shape_9 w
  | 10, _ => exact shape_10 w
  | 11, _ => exact shape_11 w
  | 12, _ => exact shape_12 w
  | 13, _ => exact shape_13 w
  | 14, _ => exact shape_14 w
  | 15, _ => exact shape_15 w
  | n + 16, h => exact absurd h (by omega)
/-- an instruction with one field set -/
def setI (J : Ins) (f : UInt8) (n : Int) : Ins := if f.toNat = 65 then { J with a := n } else if f.toNat = 66 then { J with b := n } else { J with n := n }
theorem setI_cells (J : Ins) (f : UInt8) (n : Int) : ([.int .i64 J.op, .int .i64 J.a, .int .i64 J.b, .int .i64 J.n] : List Value).set (0 + placeOf (f.toNat : Int)) (.int .i64 n) = [.int .i64 (setI J f n).op, .int .i64 (setI J f n).a, .int .i64 (setI J f n).b, .int .i64 (setI J f n).n] := by
  unfold placeOf setI
  by_cases h1 : f.toNat = 65
  · rw [if_pos (by omega), if_pos h1]
    rfl
  · rw [if_neg (by omega), if_neg h1]
    by_cases h2 : f.toNat = 66
    · rw [if_pos (by omega), if_pos h2]
      rfl
    · rw [if_neg (by omega), if_neg h2]
      rfl
theorem setI_op (J : Ins) (f : UInt8) (n : Int) : (setI J f n).op = J.op := by
  unfold setI
  split
  · rfl
  · split <;> rfl
theorem setI_in {J : Ins} (h : J.In) (f : UInt8) {n : Int} (hn : In64 n) : (setI J f n).In := by
  unfold setI
  split
  · exact ⟨hn, h.b, h.n⟩
  · split
    · exact ⟨h.a, hn, h.n⟩
    · exact ⟨h.a, h.b, hn⟩
theorem setI_same (J : Ins) {f : UInt8} (n : Int) : selI (setI J f n) f = n := by
  unfold setI selI selF
  by_cases h1 : f.toNat = 65
  · rw [if_pos h1, if_pos (by omega)]
  · rw [if_neg h1, if_neg (by omega)]
    by_cases h2 : f.toNat = 66
    · rw [if_pos h2, if_pos (by omega)]
    · rw [if_neg h2, if_neg (by omega)]
theorem setI_other (J : Ins) {f g : UInt8} (n : Int) (hf : f = 65 ∨ f = 66 ∨ f = 78) (hg : g = 65 ∨ g = 66 ∨ g = 78) (h : g ≠ f) : selI (setI J f n) g = selI J g := by
  rcases hf with rfl | rfl | rfl <;> rcases hg with rfl | rfl | rfl <;> first | exact absurd rfl h | rfl
theorem in64_zero : In64 0 := by unfold In64; decide
/-- what is parsed, so far -/
structure PInv (P : List (List UInt8)) (op : Int) (m : Nat) (J : Ins) : Prop where
  eqop : J.op = op
  inn : J.In
  len : m ≤ (fieldL op).length
  got : ∀ q, q < m → Lib.atoiAll (P.getD (1 + q) []) = .ok (selI J ((fieldL op).getD q 0))
  off : ∀ t : UInt8, (t = 65 ∨ t = 66 ∨ t = 78) → t ∉ (fieldL op).take m → selI J t = 0
theorem PInv.zero (P : List (List UInt8)) (op : Int) : PInv P op 0 ⟨op, 0, 0, 0⟩ :=
  ⟨rfl, ⟨in64_zero, in64_zero, in64_zero⟩, Nat.zero_le _, fun q h => absurd h (Nat.not_lt_zero _), fun t ht _ => by rcases ht with rfl | rfl | rfl <;> rfl⟩
theorem PInv.succ {P : List (List UInt8)} {op : Int} {m : Nat} {J : Ins} (h : PInv P op m J) (hm : m < (fieldL op).length) {n : Int} (hn : Lib.atoiAll (P.getD (1 + m) []) = .ok n) : PInv P op (m + 1) (setI J ((fieldL op).getD m 0) n) := by
  have hg : (fieldL op).getD m 0 = (fieldL op)[m] := by rw [List.getD, List.getElem?_eq_getElem hm]; rfl
  have hfm := field_is op _ (List.getElem_mem hm)
  refine ⟨(setI_op _ _ _).trans h.eqop, setI_in h.inn _ (by have := Lib.atoiAll_bounds hn; exact this), hm, fun q hq => ?_, fun t ht hnt => ?_⟩
  · by_cases e : q = m
    · subst e
      rw [setI_same]
      exact hn
    · have hq2 : q < (fieldL op).length := by omega
      have hgq : (fieldL op).getD q 0 = (fieldL op)[q] := by rw [List.getD, List.getElem?_eq_getElem hq2]; rfl
      rw [hgq, hg, setI_other J n hfm (field_is op _ (List.getElem_mem hq2)) (fun e2 => e ((List.getElem_inj (field_nodup op)).1 e2)), ← hgq]
      exact h.got q (by omega)
  · rw [List.take_succ_eq_append_getElem hm, List.mem_append, List.mem_singleton, not_or] at hnt
    rw [hg, setI_other J n hfm ht hnt.2]
    exact h.off t ht hnt.1
/-- whoever is said is what is parsed -/
theorem PInv.eq {l : List UInt8} {op : Int} {J j : Ins} (h : PInv (splitC 32 l) op (fieldL op).length J) (hj : Says l j) (ho : j.op = op) : j = J := by
  have hs := says_split hj
  have hoff := h.off
  rw [List.take_of_length_le (Nat.le_refl _)] at hoff
  refine ins_ext (ho.trans h.eqop.symm) (fun f hf => ?_) (chk_off hj.1) (by
    rw [ho]
    exact ⟨hoff 65 (.inl rfl), hoff 66 (.inr (.inl rfl)), hoff 78 (.inr (.inr rfl))⟩)
  rw [ho] at hf
  obtain ⟨q, hq, rfl⟩ := List.mem_iff_getElem.1 hf
  have hg := h.got q hq
  rw [hs, ho, Nat.add_comm, List.getD_cons_succ, List.getD, List.getElem?_map, List.getElem?_eq_getElem hq, Option.map_some, Option.getD_some, atoi_itoa (hj.2.1.sel _), List.getD, List.getElem?_eq_getElem hq] at hg
  injection hg
theorem says_op {l : List UInt8} {j : Ins} (hj : Says l j) : wordL j.op = (splitC 32 l).getD 0 [] ∧ (splitC 32 l).length = 1 + (fieldL j.op).length := by
  rw [says_split hj]
  exact ⟨rfl, by simp; omega⟩
theorem says_num {l : List UInt8} {j : Ins} (hj : Says l j) {m : Nat} (hm : m < (fieldL j.op).length) : Lib.atoiAll ((splitC 32 l).getD (1 + m) []) = .ok (selI j ((fieldL j.op).getD m 0)) := by
  rw [says_split hj, Nat.add_comm, List.getD_cons_succ, List.getD, List.getElem?_map, List.getElem?_eq_getElem hm, Option.map_some, Option.getD_some, atoi_itoa (hj.2.1.sel _), List.getD, List.getElem?_eq_getElem hm]
  rfl
theorem says_op_eq {l : List UInt8} {j : Ins} (hj : Says l j) {k : Nat} (hk : 1 ≤ k ∧ k ≤ 15) (h : wordL k = (splitC 32 l).getD (0 * 1) []) : j.op = k := word_inj (chk_op hj.1) (by omega) ((says_op hj).1.trans h.symm)
def isOp (l : List UInt8) (p : Int) : Prop := wordL p = (splitC 32 l).getD 0 [] ∧ (splitC 32 l).length = 1 + (fieldL p).length
theorem notOp_succ {l : List UInt8} {k : Nat} (h : ∀ p : Nat, 1 ≤ p → p < k → ¬ isOp l p) (hk : k < 16) (hn : 1 ≤ k → ¬ isOp l k) : k + 1 ≤ 16 ∧ ∀ p : Nat, 1 ≤ p → p < k + 1 → ¬ isOp l p := by
  refine ⟨hk, fun p h1 h2 => ?_⟩
  by_cases e : p = k
  · subst e
    exact hn h1
  · exact h p h1 (by omega)
abbrev insA (b : Nat) (J : Ins) : Asn := .blk b 46 [.int .i64 J.op, .int .i64 J.a, .int .i64 J.b, .int .i64 J.n]
set_option maxHeartbeats 32000000 in
theorem isaRead_any (l : List UInt8) (hl : l.length < 4294967281) {w : World} (hL : Lay w) : Calls Tryz.prog 29 #[.string (bstr l)] w fun e w' =>
    ∃ i c, e = .returned (.tuple #[i.val, .int .i64 c]) ∧ Below w.heap.size w w' ∧ (c = 0 ∧ Says l i ∨ c = 1 ∧ i = ⟨0, 0, 0, 0⟩ ∧ ∀ j, ¬ Says l j) := by
  have hpos := splitC_pos 32 l
  refine enter Tryz.func29 rfl Tryz.ntmps29 rfl fun a hF => ?_
  have hW := Wd.start w NoB
  refine c_sr ?_; refine pe (e_alloc hF hW ze_46 rfl rfl rfl ?_); intro b1 a wc hF hW; refine pv hF hW (y_assign hF rfl) fun a hF => l_nil <| t_n <| c_sr <| pv hF hW (y_move hF rfl) fun a hF => ?_; refine pe (e_call hF rfl rfl en_48 (by rfl) rfl rfl (split_one l hl _) ?_); rintro e w1 ⟨bp, rfl, hge, hb, hB⟩; replace hW := hW.addB hb hB hge; refine ⟨_, rfl, fun a hF => ?_⟩; refine pv hF hW (y_assign hF rfl) fun a hF => l_nil ?_; replace hF := hF.ks [0, 2, 3, 4] rfl; refine t_n <| c_s <| c_sr ?_; refine pe (e_call hF rfl rfl en_49 (by rfl) rfl rfl (shapes_any _) ?_); rintro e w1 ⟨rfl, hb⟩; replace hW := hW.kept hb; clear hb; refine ⟨_, rfl, fun a hF => ?_⟩; refine pv hF hW (y_move hF rfl) fun a hF => l_nil <| t_n <| wp_block ?_; refine c_loop (G := Nat) (fun k : Nat => [(17, .int .i64 (k : Int))]) (fun k : Nat => []) (fun k : Nat => k ≤ 16 ∧ ∀ p : Nat, 1 ≤ p → p < k → ¬ isOp l p) (fun k : Nat => 16 - k) 0 (hF.ks [0, 2, 4, 16] rfl) (Fr.cons hF (t := 17) rfl (by first | rfl | (simp; done)) (Fr.nil hF)) (hW) ?_ ?_
  · exact ⟨by omega, fun p h1 h2 => absurd h2 (by omega)⟩
  clear hF hW
  try clear a
  intro k a wc hC hF hW; refine c_sr <| pv hF hW (y_lss hF rfl rfl) fun a hF => ?_; refine Fr.splitD hF ?_ ?_
  · intro h2 hF; refine l_nil <| t_n <| c_s <| c_t hF rfl <| wp_skip <| t_n <| c_s <| wp_block <| c_sr <| pv hF hW (y_move hF rfl) fun a hF => pv hF hW (y_index hF rfl rfl (shapes_at (by omega))) fun a hF => ?_; refine pe (e_alloc hF hW ze_76 rfl rfl rfl ?_); intro b3 a wc hF hW; refine pv hF hW (y_assign hF rfl) fun a hF => ?_; refine pe (e_storeAll rfl hF hW rfl rfl 0 rfl rfl rfl (by kernel_rfl) sz_76 ?_); intro wc hW; refine l_nil ?_; replace hF := hF.ks [0, 2, 4, 5, 6, 16, 17, 18] rfl; refine t_n <| c_s <| c_sd mixed_ok hW (hW) ?_
    clear hW; intro wc hW hS
    refine dv 0 rfl hF hS (y_move hF rfl) fun a hF => dv 1 rfl hF hS (y_eql hF rfl rfl) fun a hF => ?_; refine Fr.splitD hF ?_ ?_
    · intro h4 hF; refine dv 2 rfl hF hS (y_move hF rfl) fun a hF => dk 3 rfl hF (wn hF rfl rfl rfl) hS fun a hF => dk 4 rfl hF (wn hF rfl rfl rfl) hS fun a hF => dk 5 rfl hF (wn hF rfl rfl rfl) hS fun a hF => dk 6 rfl hF (wn hF rfl rfl rfl) hS fun a hF => dk 7 rfl hF (wn hF rfl rfl rfl) hS fun a hF => dk 8 rfl hF (wn hF rfl rfl rfl) hS fun a hF => dv 9 rfl hF hS (y_pick hF rfl rfl) fun a hF => dv 10 rfl hF hS (y_move hF rfl) fun a hF => dk 11 rfl hF (wn hF rfl rfl rfl) hS fun a hF => dk 12 rfl hF (wn hF rfl rfl rfl) hS fun a hF => dk 13 rfl hF (wn hF rfl rfl rfl) hS fun a hF => dk 14 rfl hF (wn hF rfl rfl rfl) hS fun a hF => dk 15 rfl hF (wn hF rfl rfl rfl) hS fun a hF => dk 16 rfl hF (wn hF rfl rfl rfl) hS fun a hF => dk 17 rfl hF (wn hF rfl rfl rfl) hS fun a hF => dv 18 rfl hF hS (y_pick hF rfl rfl) fun a hF => ?_; clear hS; refine d_nil (by kernel_rfl) ?_; replace hF := hF.ks [0, 2, 4, 5, 6, 16, 17, 18, 39] rfl; refine t_n <| c_t hF rfl <| wp_exit <| t_x <| b_h <| t_n <| c_r <| pv hF hW (y_add hF rfl rfl (IntWalk.i64_in _ (by omega))) fun a hF => ?_; replace hF := hF.drop 17; refine pv hF hW (y_move hF rfl) fun a hF => l_nil ?_; replace hF := hF.ks [0, 2, 4, 5, 6, 16, 17, 18, 39] rfl; replace hW := hW.del 0 rfl; refine t_n ?_; refine ⟨(k + 1), ?_, ?_, ?_, ?_⟩
      · exact notOp_succ hC.2 (by omega) (by first | (intro e0; exact absurd e0 (by omega)) | (rintro - ⟨e1, e2⟩; first | omega | (exact absurd e1 ‹_›)))
      · first | omega | (dsimp only; omega)
      · exact Fr.app (Fr.cons hF (t := 17) rfl (by first | rfl | (simp; done) | omega) (Fr.nil hF)) (hF.ks [0, 2, 4, 16] rfl)
      · exact hW
    · intro h4 hF; refine dv 2 rfl hF hS (y_move hF rfl) fun a hF => dvg 3 rfl hF hS (y_fieldOwn hF rfl fa_76_0) (ws hF rfl rfl) fun a hF => dvg 4 rfl hF hS (y_loadOwn hF rfl 0 rfl rfl Tryz.underlying9 rfl) (ws hF rfl rfl) fun a hF => dvg 5 rfl hF hS (y_move hF rfl) (ws hF rfl rfl) fun a hF => dvg 6 rfl hF hS (y_indexOwnS hF rfl rfl (by exact hpos) Tryz.underlying66 sz_9) (ws hF rfl rfl) fun a hF => dvg 7 rfl hF hS (y_loadOwn hF rfl 1 rfl (piece_at l hpos) Tryz.underlying9 rfl) (ws hF rfl rfl) fun a hF => dvg 8 rfl hF hS (y_neB hF rfl rfl) (ws hF rfl rfl) fun a hF => ?_; refine Fr.splitD hF ?_ ?_
      · intro h5 hF; refine dv 9 rfl hF hS (y_pick hF rfl rfl) fun a hF => dv 10 rfl hF hS (y_move hF rfl) fun a hF => dk 11 rfl hF (wn hF rfl rfl rfl) hS fun a hF => dk 12 rfl hF (wn hF rfl rfl rfl) hS fun a hF => dk 13 rfl hF (wn hF rfl rfl rfl) hS fun a hF => dk 14 rfl hF (wn hF rfl rfl rfl) hS fun a hF => dk 15 rfl hF (wn hF rfl rfl rfl) hS fun a hF => dk 16 rfl hF (wn hF rfl rfl rfl) hS fun a hF => dk 17 rfl hF (wn hF rfl rfl rfl) hS fun a hF => dv 18 rfl hF hS (y_pick hF rfl rfl) fun a hF => ?_; clear hS; refine d_nil (by kernel_rfl) ?_; replace hF := hF.ks [0, 2, 4, 5, 6, 16, 17, 18, 39] rfl; refine t_n <| c_t hF rfl <| wp_exit <| t_x <| b_h <| t_n <| c_r <| pv hF hW (y_add hF rfl rfl (IntWalk.i64_in _ (by omega))) fun a hF => ?_; replace hF := hF.drop 17; refine pv hF hW (y_move hF rfl) fun a hF => l_nil ?_; replace hF := hF.ks [0, 2, 4, 5, 6, 16, 17, 18, 39] rfl; replace hW := hW.del 0 rfl; refine t_n ?_; refine ⟨(k + 1), ?_, ?_, ?_, ?_⟩
        · exact notOp_succ hC.2 (by omega) (by first | (intro e0; exact absurd e0 (by omega)) | (rintro - ⟨e1, e2⟩; first | omega | (exact absurd e1 ‹_›)))
        · first | omega | (dsimp only; omega)
        · exact Fr.app (Fr.cons hF (t := 17) rfl (by first | rfl | (simp; done) | omega) (Fr.nil hF)) (hF.ks [0, 2, 4, 16] rfl)
        · exact hW
      · intro h5 hF; refine dv 9 rfl hF hS (y_pick hF rfl rfl) fun a hF => dv 10 rfl hF hS (y_move hF rfl) fun a hF => dvg 11 rfl hF hS (y_move hF rfl) (ws hF rfl rfl) fun a hF => dvg 12 rfl hF hS (y_len hF rfl Tryz.underlying66) (ws hF rfl rfl) fun a hF => dvg 13 rfl hF hS (y_fieldOwn hF rfl fa_76_1) (ws hF rfl rfl) fun a hF => dvg 14 rfl hF hS (y_loadOwn hF rfl 0 rfl rfl Tryz.underlying9 rfl) (ws hF rfl rfl) fun a hF => dvg 15 rfl hF hS (y_lenB hF rfl Tryz.underlying9) (ws hF rfl rfl) fun a hF => dvg 16 rfl hF hS (y_add hF rfl rfl (IntWalk.i64_in _ (by have := field_len (k : Int); omega))) (ws hF rfl rfl) fun a hF => dvg 17 rfl hF hS (y_neq hF rfl rfl) (ws hF rfl rfl) fun a hF => ?_; refine Fr.splitD hF ?_ ?_
        · intro h6 hF; refine dv 18 rfl hF hS (y_pick hF rfl rfl) fun a hF => ?_; clear hS; refine d_nil (by kernel_rfl) ?_; replace hF := hF.ks [0, 2, 4, 5, 6, 16, 17, 18, 39] rfl; refine t_n <| c_t hF rfl <| wp_exit <| t_x <| b_h <| t_n <| c_r <| pv hF hW (y_add hF rfl rfl (IntWalk.i64_in _ (by omega))) fun a hF => ?_; replace hF := hF.drop 17; refine pv hF hW (y_move hF rfl) fun a hF => l_nil ?_; replace hF := hF.ks [0, 2, 4, 5, 6, 16, 17, 18, 39] rfl; replace hW := hW.del 0 rfl; refine t_n ?_; refine ⟨(k + 1), ?_, ?_, ?_, ?_⟩
          · exact notOp_succ hC.2 (by omega) (by first | (intro e0; exact absurd e0 (by omega)) | (rintro - ⟨e1, e2⟩; first | omega | (exact absurd e1 ‹_›)))
          · first | omega | (dsimp only; omega)
          · exact Fr.app (Fr.cons hF (t := 17) rfl (by first | rfl | (simp; done) | omega) (Fr.nil hF)) (hF.ks [0, 2, 4, 16] rfl)
          · exact hW
        · intro h6 hF; refine dv 18 rfl hF hS (y_pick hF rfl rfl) fun a hF => ?_; clear hS; refine d_nil (by kernel_rfl) ?_; replace hF := hF.ks [0, 2, 4, 5, 6, 16, 17, 18, 39] rfl; refine t_n <| c_f hF rfl <| wp_skip <| t_n <| c_sr <| pv hF hW (y_move hF rfl) fun a hF => pv hF hW (y_build hF rfl (fun w => bu_IsaRd_46_0 _ w)) fun a hF => ?_; refine pe (e_alloc hF hW ze_46 rfl rfl rfl ?_); intro b7 a wc hF hW; refine pe (e_storeAll rfl hF hW rfl rfl 0 rfl rfl rfl (by kernel_rfl) sz_46 ?_); intro wc hW; refine l_nil ?_; replace hF := hF.ks [0, 2, 4, 5, 6, 7, 16, 17, 18, 39] rfl; refine t_n <| c_s <| c_sr <| pv hF hW (y_fieldOwn hF rfl fa_76_1) fun a hF => pv hF hW (y_loadOwn hF rfl 1 rfl rfl Tryz.underlying9 rfl) fun a hF => ?_; refine pe (e_range hF hW rfl Tryz.underlying9 rfl rfl ?_); intro b8 a wc hF hW; refine l_nil ?_; replace hF := hF.ks [0, 2, 4, 5, 6, 7, 16, 17, 18, 39, 44] rfl; refine t_n <| wp_block ?_; replace hW := hW.front 1 rfl rfl; replace hW := hW.front 1 rfl rfl; refine c_loop (G := Nat × Ins) (fun (gq : Nat × Ins) => match gq with | ⟨m, J⟩ => []) (fun (gq : Nat × Ins) => match gq with | ⟨m, J⟩ => [.iter b8 (fieldL (k : Int)) m, insA b7 J]) (fun (gq : Nat × Ins) => match gq with | ⟨m, J⟩ => PInv (splitC 32 l) k m J) (fun (gq : Nat × Ins) => match gq with | ⟨m, J⟩ => (fieldL k).length - m) (0, ⟨k, 0, 0, 0⟩) (hF.ks [0, 2, 4, 5, 6, 7, 16, 17, 18, 39, 44] rfl) (Fr.nil hF) (hW) ?_ ?_
          · exact PInv.zero _ _
          clear hF hW
          try clear a
          intro gq a wc hC hF hW
          obtain ⟨m, J⟩ := gq
          dsimp only at hC
          refine c_sr ?_; refine pe (e_next hF hW 0 rfl rfl (fun j hj => field_ascii (k : Int) j hj) rfl rfl ?_ ?_)
          · intro h9 a wc hF hW; refine pv hF hW (y_extract hF rfl rfl) fun a hF => l_nil <| t_n <| c_s <| c_t hF rfl <| wp_skip <| t_n <| wp_block <| c_sr <| pv hF hW (y_extract hF rfl rfl) fun a hF => pv hF hW (y_extract hF rfl rfl) fun a hF => pv hF hW (y_assign hF rfl) fun a hF => pv hF hW (y_assign hF rfl) fun a hF => l_nil ?_; replace hF := hF.ks [0, 2, 4, 5, 6, 7, 8, 9, 16, 17, 18, 39, 44, 45, 46] rfl; refine t_n ?_
            have hf3 := field_len (k : Int)
            refine c_sr <| pv hF hW (y_move hF rfl) fun a hF => pv hF hW (y_move hF rfl) fun a hF => pv hF hW (y_add hF rfl rfl (IntWalk.i64_in _ (by omega))) fun a hF => ?_; replace hF := Fr.cast (v' := .int .i64 ((1 + m : Nat) : Int)) (by congr 1) hF; refine pv hF hW (y_indexOwnS hF rfl rfl (by omega) Tryz.underlying66 sz_9) fun a hF => pv hF hW (y_loadOwn hF rfl 3 rfl (by rw [Nat.mul_one]; exact piece_at l (by omega)) Tryz.underlying9 rfl) fun a hF => ?_; refine pe (e_call hF rfl rfl en_50 (by rfl) rfl rfl (atoi_own (hL.wd hW) _ (Nat.le_trans (piece_lenD l _) (by omega))) ?_); rintro e w1 ⟨n1, v1, rfl, hb, hv, hok, hno⟩; replace hW := hW.kept hb; clear hb; refine ⟨_, rfl, fun a hF => ?_⟩; refine pv hF hW (y_move hF rfl) fun a hF => pv hF hW (y_extract hF rfl rfl) fun a hF => pv hF hW (y_extract hF rfl rfl) fun a hF => pv hF hW (y_assign hF rfl) fun a hF => pv hF hW (y_assign hF rfl) fun a hF => l_nil ?_; replace hF := hF.ks [0, 2, 4, 5, 6, 7, 8, 9, 10, 11, 16, 17, 18, 39, 44, 45, 46] rfl; refine t_n <| c_s <| c_sr <| pv hF hW (y_move hF rfl) fun a hF => pv hF hW (y_neNil hF rfl (by exact hv) (by kernel_rfl)) fun a hF => ?_; refine Fr.splitB hF ?_ ?_
            · intro h10 hF; refine l_nil ?_; replace hF := hF.ks [0, 2, 4, 5, 6, 7, 8, 9, 10, 11, 16, 17, 18, 39, 44, 45, 46, 59] rfl; refine t_n <| c_t hF rfl <| c_sr <| pv hF hW (y_build hF rfl (fun w => bu_IsaRd_46_  w)) fun a hF => ?_; refine pe (e_storeAll rfl hF hW rfl rfl 4 rfl rfl rfl (by kernel_rfl) sz_46 ?_); intro wc hW; refine pv hF hW (y_assign hF rfl) fun a hF => l_nil ?_; replace hF := hF.ks [0, 2, 3, 4, 5, 6, 7, 8, 9, 10, 11, 16, 17, 18, 39, 44, 45, 46, 59] rfl; refine t_n <| wp_ret <| t_r <| b_r <| t_r <| b_r <| t_r <| b_r <| t_r <| t_r <| b_r <| t_r <| ret2 Tryz.results29 hF (rv_c hF rfl hW 4 rfl Tryz.underlying46 rfl sz_46) (rv_t hF rfl) ?_
              exact ⟨⟨0, 0, 0, 0⟩, 1, rfl, hW.below, .inr ⟨rfl, rfl, fun j hj => hno h10 _ (says_num hj (by rw [says_op_eq hj (k := k) (by omega) (Classical.not_not.1 h5)]; exact h9))⟩⟩
            · intro h10 hF; refine l_nil ?_; replace hF := hF.ks [0, 2, 4, 5, 6, 7, 8, 9, 10, 11, 16, 17, 18, 39, 44, 45, 46, 59] rfl; refine t_n <| c_f hF rfl <| wp_skip <| t_n <| c_r <| pv hF hW (y_move hF rfl) fun a hF => ?_; refine pe (e_call hF rfl rfl en_39 (by rfl) rfl rfl (place_any _ _ _ _) ?_); rintro e w1 ⟨rfl, rfl⟩; refine ⟨_, rfl, fun a hF => ?_⟩; refine pv hF hW (y_move hF rfl) fun a hF => pv hF hW (y_nilCheck hF rfl) fun a hF => ?_; refine pe (e_store rfl hF hW rfl rfl 1 rfl (by rw [cells_sel]; rfl) rfl sz_3 ?_); intro wc hW; replace hW := hW.cast 1 _ rfl (setI_cells J _ n1); refine l_nil ?_; replace hF := hF.ks [0, 2, 4, 5, 6, 7, 8, 9, 10, 11, 16, 17, 18, 39, 44, 45, 46, 59] rfl; refine b_n <| t_n ?_; refine ⟨(m + 1, setI J ((fieldL (k : Int)).getD m 0) n1), ?_, ?_, ?_, ?_⟩
              · exact hC.succ (by assumption) (hok (by assumption))
              · first | omega | (dsimp only; omega)
              · exact Fr.app (Fr.nil hF) (hF.ks [0, 2, 4, 5, 6, 7, 16, 17, 18, 39, 44] rfl)
              · exact hW
          · intro h9 a hF; refine pv hF hW (y_extract hF rfl rfl) fun a hF => l_nil <| t_n <| c_s <| c_f hF rfl <| wp_exit <| t_x <| t_x <| b_h <| t_n <| c_s <| c_sr <| pv hF hW (y_loadAll hF rfl 1 rfl Tryz.underlying46 rfl sz_46) fun a hF => ?_; refine pe (e_call hF rfl rfl en_23 (by rfl) rfl rfl (isaShow_any J hC.inn (hL.wd hW)) ?_); rintro e w1 ⟨rfl, hb⟩; replace hW := hW.kept hb; clear hb; refine ⟨_, rfl, fun a hF => ?_⟩; refine pv hF hW (y_move hF rfl) fun a hF => pv hF hW (y_extract hF rfl rfl) fun a hF => pv hF hW (y_extract hF rfl rfl) fun a hF => pv hF hW (y_assign hF rfl) fun a hF => pv hF hW (y_assign hF rfl) fun a hF => l_nil ?_; replace hF := hF.ks [0, 2, 4, 5, 6, 7, 12, 13, 16, 17, 18, 39, 44, 45, 46] rfl; refine t_n <| c_sr <| pv hF hW (y_move hF rfl) fun a hF => pv hF hW (y_neq hF rfl rfl) fun a hF => ?_; refine Fr.splitD hF ?_ ?_
            · intro h11 hF; refine pv hF hW (y_move hF rfl) fun a hF => pk hF (wn hF rfl rfl rfl) fun a hF => pk hF (wn hF rfl rfl rfl) fun a hF => pk hF (wn hF rfl rfl rfl) fun a hF => pv hF hW (y_pick hF rfl rfl) fun a hF => l_nil ?_; replace hF := hF.ks [0, 2, 4, 5, 6, 7, 12, 13, 16, 17, 18, 39, 44, 45, 46, 76] rfl; refine t_n <| c_t hF rfl <| c_sr <| pv hF hW (y_build hF rfl (fun w => bu_IsaRd_46_  w)) fun a hF => ?_; refine pe (e_storeAll rfl hF hW rfl rfl 4 rfl rfl rfl (by kernel_rfl) sz_46 ?_); intro wc hW; refine pv hF hW (y_assign hF rfl) fun a hF => l_nil ?_; replace hF := hF.ks [0, 2, 3, 4, 5, 6, 7, 12, 13, 16, 17, 18, 39, 44, 45, 46, 76] rfl; refine t_n <| wp_ret <| t_r <| b_r <| t_r <| t_r <| b_r <| t_r <| ret2 Tryz.results29 hF (rv_c hF rfl hW 4 rfl Tryz.underlying46 rfl sz_46) (rv_t hF rfl) ?_
              obtain rfl : m = (fieldL (k : Int)).length := by have := hC.len; omega
              refine ⟨⟨0, 0, 0, 0⟩, 1, rfl, hW.below, .inr ⟨rfl, rfl, fun j hj => ?_⟩⟩
              obtain rfl := hC.eq hj (says_op_eq hj (k := k) (by omega) (Classical.not_not.1 h5))
              exact h11 hj.1
            · intro h11 hF; refine pv hF hW (y_move hF rfl) fun a hF => pvg hF hW (y_move hF rfl) (ws hF rfl rfl) fun a hF => pvg hF hW (y_move hF rfl) (ws hF rfl rfl) fun a hF => pvg hF hW (y_neB hF rfl rfl) (ws hF rfl rfl) fun a hF => ?_; refine Fr.splitD hF ?_ ?_
              · intro h12 hF; refine pv hF hW (y_pick hF rfl rfl) fun a hF => l_nil ?_; replace hF := hF.ks [0, 2, 4, 5, 6, 7, 12, 13, 16, 17, 18, 39, 44, 45, 46, 76] rfl; refine t_n <| c_t hF rfl <| c_sr <| pv hF hW (y_build hF rfl (fun w => bu_IsaRd_46_  w)) fun a hF => ?_; refine pe (e_storeAll rfl hF hW rfl rfl 4 rfl rfl rfl (by kernel_rfl) sz_46 ?_); intro wc hW; refine pv hF hW (y_assign hF rfl) fun a hF => l_nil ?_; replace hF := hF.ks [0, 2, 3, 4, 5, 6, 7, 12, 13, 16, 17, 18, 39, 44, 45, 46, 76] rfl; refine t_n <| wp_ret <| t_r <| b_r <| t_r <| t_r <| b_r <| t_r <| ret2 Tryz.results29 hF (rv_c hF rfl hW 4 rfl Tryz.underlying46 rfl sz_46) (rv_t hF rfl) ?_
                obtain rfl : m = (fieldL (k : Int)).length := by have := hC.len; omega
                refine ⟨⟨0, 0, 0, 0⟩, 1, rfl, hW.below, .inr ⟨rfl, rfl, fun j hj => ?_⟩⟩
                obtain rfl := hC.eq hj (says_op_eq hj (k := k) (by omega) (Classical.not_not.1 h5))
                exact h12 (by rw [if_pos hj.1]; exact hj.2.2)
              · intro h12 hF; refine pv hF hW (y_pick hF rfl rfl) fun a hF => l_nil ?_; replace hF := hF.ks [0, 2, 4, 5, 6, 7, 12, 13, 16, 17, 18, 39, 44, 45, 46, 76] rfl; refine t_n <| c_f hF rfl <| wp_skip <| t_n <| c_sr <| pv hF hW (y_loadAll hF rfl 1 rfl Tryz.underlying46 rfl sz_46) fun a hF => ?_; refine pe (e_storeAll rfl hF hW rfl rfl 4 rfl rfl rfl (by kernel_rfl) sz_46 ?_); intro wc hW; refine pv hF hW (y_assign hF rfl) fun a hF => l_nil ?_; replace hF := hF.ks [0, 2, 3, 4, 5, 6, 7, 12, 13, 16, 17, 18, 39, 44, 45, 46, 76] rfl; refine t_n <| wp_ret <| b_r <| t_r <| t_r <| b_r <| t_r <| ret2 Tryz.results29 hF (rv_c hF rfl hW 4 rfl Tryz.underlying46 rfl sz_46) (rv_t hF rfl) ?_
                have e0 := Classical.not_not.1 h11
                have e1 := Classical.not_not.1 h12
                rw [if_pos e0] at e1
                exact ⟨J, 0, rfl, hW.below, .inl ⟨rfl, e0, hC.inn, e1⟩⟩
  · intro h2 hF; refine l_nil <| t_n <| c_s <| c_f hF rfl <| wp_exit <| t_x <| t_x <| b_h <| t_n <| c_sr <| pv hF hW (y_build hF rfl (fun w => bu_IsaRd_46_  w)) fun a hF => ?_; refine pe (e_storeAll rfl hF hW rfl rfl 1 rfl rfl rfl (by kernel_rfl) sz_46 ?_); intro wc hW; refine pv hF hW (y_assign hF rfl) fun a hF => l_nil ?_; replace hF := hF.ks [0, 2, 3, 4, 16, 17, 18] rfl; refine t_n <| wp_ret <| ret2 Tryz.results29 hF (rv_c hF rfl hW 1 rfl Tryz.underlying46 rfl sz_46) (rv_t hF rfl) ?_; refine ⟨⟨0, 0, 0, 0⟩, 1, rfl, hW.below, .inr ⟨rfl, rfl, fun j hj => ?_⟩⟩
    have ho := chk_op hj.1
    refine hC.2 j.op.toNat (by omega) (by omega) ?_
    rw [show (j.op.toNat : Int) = j.op by omega]
    exact says_op hj
end Go.Proofs.YtfkngjglnhfdcaaGreatDoor
