/- image's lists, and what reads one thing of each. -/
import Derived.Test.YtnpflhaggfabnaaImgG
namespace Go.Proofs.Ytnpflhaggfabnaa
set_option linter.unusedVariables false
set_option linter.unusedSimpArgs false
open Go.ChangeShapes Go.WideShapes Go.ChangeAt Go.RowKit
theorem bs_ImgL_22_1_0 (x0 : Option Addr) (x0n x0c : Nat) (x1 : Option Addr) (x1n x1c : Nat) (w : World) : (Instr.buildSlice 22 1 #[(0, (.agg #[(.slice x0 x0n x0c), (.slice x1 x1n x1c)]))]).run Try.prog w = .ok (.slice (some ⟨w.heap.size, 0, none⟩) 1 1) (w.alloc (.cells #[(.slice x0 x0n x0c), (.slice x1 x1n x1c)] 47)) := by kernel_rfl
theorem bs_ImgL_23_1_0 (x0 : Int) (x1 : Int) (x2 : Int) (w : World) : (Instr.buildSlice 23 1 #[(0, (.agg #[(.int .i64 x0), (.int .i64 x1), (.int .i64 x2)]))]).run Try.prog w = .ok (.slice (some ⟨w.heap.size, 0, none⟩) 1 1) (w.alloc (.cells #[(.int .i64 x0), (.int .i64 x1), (.int .i64 x2)] 52)) := by kernel_rfl
theorem bs_ImgL_24_1_0 (x0 : Int) (x1 : Int) (w : World) : (Instr.buildSlice 24 1 #[(0, (.agg #[(.int .i64 x0), (.int .i64 x1)]))]).run Try.prog w = .ok (.slice (some ⟨w.heap.size, 0, none⟩) 1 1) (w.alloc (.cells #[(.int .i64 x0), (.int .i64 x1)] 54)) := by kernel_rfl
theorem bs_ImgL_44_1_0 (x0 : Int) (x1 : Int) (x2 : Int) (x3 : Int) (w : World) : (Instr.buildSlice 44 1 #[(0, (.agg #[(.int .i64 x0), (.int .i64 x1), (.int .i64 x2), (.int .i64 x3)]))]).run Try.prog w = .ok (.slice (some ⟨w.heap.size, 0, none⟩) 1 1) (w.alloc (.cells #[(.int .i64 x0), (.int .i64 x1), (.int .i64 x2), (.int .i64 x3)] 49)) := by kernel_rfl
theorem bs_ImgL_45_1_0 (x0 : Int) (w : World) : (Instr.buildSlice 45 1 #[(0, (.int .i64 x0))]).run Try.prog w = .ok (.slice (some ⟨w.heap.size, 0, none⟩) 1 1) (w.alloc (.cells #[(.int .i64 x0)] 3)) := by kernel_rfl
theorem bs_ImgL_99_2_0_1 (x0 : Option Addr) (x1 : Option Addr) (w : World) : (Instr.buildSlice 99 2 #[(0, (.pointer x0)), (1, (.pointer x1))]).run Try.prog w = .ok (.slice (some ⟨w.heap.size, 0, none⟩) 2 2) (w.alloc (.cells #[(.pointer x0), (.pointer x1)] 67)) := by kernel_rfl
theorem bs_ImgL_99_3_0_1_2 (x0 : Option Addr) (x1 : Option Addr) (x2 : Option Addr) (w : World) : (Instr.buildSlice 99 3 #[(0, (.pointer x0)), (1, (.pointer x1)), (2, (.pointer x2))]).run Try.prog w = .ok (.slice (some ⟨w.heap.size, 0, none⟩) 3 3) (w.alloc (.cells #[(.pointer x0), (.pointer x1), (.pointer x2)] 67)) := by kernel_rfl
set_option maxRecDepth 100000

abbrev glassP (bp bg : Nat) : Asn := .blk bp 59 [.pointer (some ⟨bg, 0, none⟩)]
/-- what reads one thing into a block -/
def OneI {α β : Type} (g : FuncId) (bp : Nat) (T : TypeId) (zl : List Value) (v : β → α) (enc : β → List Value) (R : β → World → Prop) (one : List UInt8 → Option (α × List UInt8)) : Prop :=
  ∀ (w0 w : World) (X : Nat → Prop) (es : List Asn) (bg bx : Nat) (l : List UInt8), Wd w0 X (glassS bg l :: glassP bp bg :: .blk bx T zl :: es) w →
    Calls Try.prog g (#[.pointer (some ⟨bx, 0, none⟩)] ++ #[.pointer (some ⟨bp, 0, none⟩)]) w fun e w' => (∃ y r, e = .returned (.tuple #[]) ∧ one l = some (v y, r) ∧ Wd w0 X (glassS bg r :: glassP bp bg :: .blk bx T (enc y) :: .res (R y) :: es) w') ∨ (e = .panicked brkI ∧ one l = none ∧ Wd w0 X es w')
theorem num1_nat {l r : List UInt8} {n : Int} (h : numOf 1 l = some (n, r)) : ∃ m : Nat, n = (m : Int) ∧ m ≤ 255 := by
  have h1 := (numOf_one_inv h).2
  exact ⟨n.toNat, by omega, by omega⟩
theorem list_none {α : Type} {one : List UInt8 → Option (α × List UInt8)} {l r : List UInt8} {m : Nat} (h : numOf 1 l = some ((m : Int), r)) (h2 : manyB one m r = none) : listB one l = none := by
  unfold listB
  rw [h, Option.bind_some, Int.toNat_natCast, h2]
theorem list_some {α : Type} {one : List UInt8 → Option (α × List UInt8)} {l r F : List UInt8} {m k : Nat} {L : List α} (h : numOf 1 l = some ((m : Int), r)) (h2 : manyB one m r = (manyB one (m - k) F).map fun p => (L ++ p.1, p.2)) (hk : m - k = 0) : listB one l = some (L, F) := by
  unfold listB
  rw [h, Option.bind_some, Int.toNat_natCast, h2, hk]
  simp [manyB]
def encI (n : Int) : List Value := [.int .i64 n]
theorem encI_map (l : List Int) : l.flatMap encI = l.map (.int .i64) := by
  induction l with
  | nil => rfl
  | cons n l ih => rw [List.flatMap_cons, ih]; rfl

set_option maxHeartbeats 8000000 in
theorem list_ins {w : World} {X : Nat → Prop} {bg bp : Nat} {g : FuncId} {l : List UInt8} {v : Ins → Ins} {R : Ins → World → Prop} {one : List UInt8 → Option (Ins × List UInt8)} (hen : Enters Try.prog g) (hone : OneI g bp 49 [.int .i64 0, .int .i64 0, .int .i64 0, .int .i64 0] v Ins.cells R one) (hW : Wd w X [glassS bg l, glassP bp bg] w) :
    Calls Try.prog 22 #[.pointer (some ⟨bg, 0, none⟩), .func (.func g) #[] #[.pointer (some ⟨bp, 0, none⟩)]] w fun e w' => (∃ (xs : List Ins) (r : List UInt8) (A : Option Addr) (c : Nat), e = .returned (.slice A xs.length c) ∧ listB one l = some (xs.map v, r) ∧ Wd w X [.row 49 4 (.slice A xs.length c) xs.length (xs.flatMap Ins.cells), .res (fun u => ∀ y, y ∈ xs → R y u), glassS bg r, glassP bp bg] w') ∨ (e = .panicked brkI ∧ listB one l = none ∧ Wd w X [] w') := by
  refine enter Try.func22 rfl Try.ntmps22 rfl fun a hF => c_sr <| pv hF hW (y_assign hF rfl) fun a hF => l_nil <| t_n <| c_sr <| pv hF hW (y_assign hF rfl) fun a hF => l_nil <| t_n <| c_s <| c_sr <| pv hF hW (y_move hF rfl) fun a hF => ?_; refine pe (e_callp hF rfl rfl en_25 (by rfl) rfl rfl (number_call (size := 1) (hW.front 0 rfl rfl) (by decide)) ?_); rintro e w1 (⟨n, r0, rfl, hT, hN⟩ | ⟨rfl, hT, hN⟩)
  · obtain ⟨m, rfl, hm2⟩ := num1_nat hT
    replace hW := hN; refine .inl ⟨_, rfl, fun a hF => ?_⟩; refine pv hF hW (y_move hF rfl) fun a hF => l_nil ?_; replace hF := hF.ks [0, 1, 4, 5, 8, 9] rfl; refine t_n <| wp_block ?_; replace hW := hW.nil_row 49 4; replace hW := hW.free (R := fun u => ∀ y, y ∈ ([] : List Ins) → R y u) (fun _ _ h => by cases h); replace hW := hW.front 2 rfl rfl; replace hW := hW.front 2 rfl rfl; replace hW := hW.front 2 rfl rfl; refine c_loop (G := Nat × List Ins × Option Addr × Nat × List UInt8) (fun (gq : Nat × List Ins × Option Addr × Nat × List UInt8) => match gq with | ⟨k, L, A, c, F⟩ => [(9, .int .i64 (k : Int)), (5, .slice A k c)]) (fun (gq : Nat × List Ins × Option Addr × Nat × List UInt8) => match gq with | ⟨k, L, A, c, F⟩ => [.res (fun u => ∀ y, y ∈ L → R y u), .row 49 4 (.slice A k c) k (L.flatMap Ins.cells), glassS bg F]) (fun (gq : Nat × List Ins × Option Addr × Nat × List UInt8) => match gq with | ⟨k, L, A, c, F⟩ => L.length = k ∧ k ≤ m ∧ manyB one m r0 = (manyB one (m - k) F).map fun p => (L.map v ++ p.1, p.2)) (fun (gq : Nat × List Ins × Option Addr × Nat × List UInt8) => match gq with | ⟨k, L, A, c, F⟩ => m - k) (0, [], none, 0, r0) (hF.ks [0, 1, 4, 8] rfl) (Fr.cons hF (t := 9) rfl (by first | rfl | (simp; done)) (Fr.cons hF (t := 5) rfl (by first | rfl | (simp; done)) (Fr.nil hF))) (hW) ?_ ?_
    · exact ⟨rfl, by omega, by simp⟩
    clear hF hW
    try clear a
    intro gq a wc hC hF hW
    obtain ⟨k, L, A, c, F⟩ := gq
    dsimp only at hC
    obtain ⟨hL, hkm, hM⟩ := hC
    refine c_sr <| pv hF hW (y_lss hF rfl rfl) fun a hF => ?_; refine Fr.splitD hF ?_ ?_
    · intro h1 hF; refine l_nil <| t_n <| c_s <| c_t hF rfl <| wp_skip <| t_n <| c_s <| wp_block <| c_sr ?_; refine pe (e_alloc hF hW ze_49 rfl rfl rfl ?_); intro b2 a wc hF hW; refine l_nil <| t_n ?_
      have hkm1 : 0 < m - k := (by omega)
      refine c_sr <| pv hF hW (y_move hF rfl) fun a hF => ?_; refine pe (e_callp hF rfl rfl hen (by rfl) rfl rfl (hone _ _ _ _ _ _ _ (((hW.front 0 rfl rfl).front 4 rfl rfl).front 4 rfl rfl)) ?_); rintro e w1 (⟨y, r', rfl, hT2, hN⟩ | ⟨rfl, hT2, hN⟩)
      · replace hW := hN; refine .inl ⟨_, rfl, fun a hF => ?_⟩; refine l_nil ?_; replace hF := hF.ks [0, 1, 4, 5, 6, 8, 9, 10] rfl; refine t_n <| c_r <| pv hF hW (y_move hF rfl) fun a hF => pv hF hW (y_loadAll hF rfl 2 rfl Try.underlying49 rfl sz_49) fun a hF => ?_; replace hF := Fr.cast (v' := .agg #[.int .i64 y.op, .int .i64 y.a, .int .i64 y.b, .int .i64 y.n]) (by rfl) hF; refine pe (e_buildSlice hF hW rfl (fun w => bs_ImgL_44_1_0 _ _ _ _ w) rfl rfl rfl ?_); intro b3 a wc hF hW; refine pe (e_append hF hW 6 rfl rfl rfl Try.underlying44 inf_49 rfl (by decide) (rowAt_blk (hW.blk 0 rfl) 4 1 rfl) (by simp [Value.oneCell']) (show _ = k + 1 by omega) (show _ = (L ++ [y]).flatMap Ins.cells by simp [Ins.cells]) (by first | omega | (simp; omega)) (by unfold maxLen; first | omega | (simp; omega)) rfl rfl ?_); intro A4 c5 a wc hF hW; replace hF := hF.drop 5; refine pv hF hW (y_assign hF rfl) fun a hF => l_nil ?_; replace hF := hF.ks [0, 1, 4, 5, 6, 8, 9, 10] rfl; refine b_n <| t_n <| c_r <| pv hF hW (y_add hF rfl rfl (IntWalk.i64_in _ (by omega))) fun a hF => ?_; replace hF := hF.drop 9; refine pv hF hW (y_move hF rfl) fun a hF => l_nil ?_; replace hF := hF.ks [0, 1, 4, 5, 6, 8, 9, 10] rfl; replace hW := hW.front 5 rfl rfl; replace hW := hW.front 5 rfl rfl
        replace hW := hW.res2 (R := fun u => ∀ z, z ∈ L ++ [y] → R z u) fun u h1 h3 z hz => (List.mem_append.1 hz).elim (h3 z) fun h => by rw [List.mem_singleton.1 h]; exact h1
        replace hW := hW.del 1 rfl; replace hW := hW.del 3 rfl; replace hW := hW.front 2 rfl rfl; replace hW := hW.front 2 rfl rfl; replace hW := hW.front 3 rfl rfl; replace hW := hW.front 3 rfl rfl; refine t_n ?_; refine ⟨(k + 1, L ++ [y], A4, c5, r'), ?_, ?_, ?_, ?_⟩
        · exact ⟨by simp [hL], by omega, by rw [hM, manyB_step hT2 (by omega), List.map_append]; rfl⟩
        · first | omega | (dsimp only; omega)
        · exact Fr.app (Fr.cons hF (t := 9) rfl (by first | rfl | (simp; done) | omega) (Fr.cons hF (t := 5) rfl (by first | rfl | (simp; done) | omega) (Fr.nil hF))) (hF.ks [0, 1, 4, 8] rfl)
        · exact hW
      · replace hW := hN; refine .inr ⟨_, rfl, ?_⟩; refine t_p <| b_p <| t_p <| t_p <| b_p <| t_p <| endp hF ?_
        exact .inr ⟨rfl, list_none hT (by rw [hM, manyB_none hT2 hkm1]; rfl), hW.none_⟩
    · intro h1 hF; refine l_nil <| t_n <| c_s <| c_f hF rfl <| wp_exit <| t_x <| t_x <| b_h <| t_n <| c_sr <| pv hF hW (y_move hF rfl) fun a hF => ?_; replace hF := hF.drop 4; refine pv hF hW (y_assign hF rfl) fun a hF => l_nil ?_; replace hF := hF.ks [0, 1, 4, 5, 8, 9, 10] rfl; refine t_n <| wp_ret <| ret1 Try.results22 hF (rv_t hF rfl) ?_; replace hW := hW.front 3 rfl rfl; replace hW := hW.front 3 rfl rfl; replace hW := hW.front 2 rfl rfl; replace hW := hW.front 3 rfl rfl; subst hL
      exact .inl ⟨L, _, _, _, rfl, list_some hT hM (by omega), hW⟩
  · replace hW := hN; refine .inr ⟨_, rfl, ?_⟩; refine t_p <| t_p <| endp hF ?_
    exact .inr ⟨rfl, by unfold listB; rw [hT]; rfl, hW.none_⟩
theorem list_ins_call {w0 w : World} {X : Nat → Prop} {es : List Asn} {bg bp : Nat} {g : FuncId} {l : List UInt8} {v : Ins → Ins} {R : Ins → World → Prop} {one : List UInt8 → Option (Ins × List UInt8)} (hen : Enters Try.prog g) (hone : OneI g bp 49 [.int .i64 0, .int .i64 0, .int .i64 0, .int .i64 0] v Ins.cells R one) (hW : Wd w0 X (glassS bg l :: glassP bp bg :: es) w) :
    Calls Try.prog 22 #[.pointer (some ⟨bg, 0, none⟩), .func (.func g) #[] #[.pointer (some ⟨bp, 0, none⟩)]] w fun e w' => (∃ (xs : List Ins) (r : List UInt8) (A : Option Addr) (c : Nat), e = .returned (.slice A xs.length c) ∧ listB one l = some (xs.map v, r) ∧ Wd w0 X (.row 49 4 (.slice A xs.length c) xs.length (xs.flatMap Ins.cells) :: .res (fun u => ∀ y, y ∈ xs → R y u) :: glassS bg r :: glassP bp bg :: es) w') ∨ (e = .panicked brkI ∧ listB one l = none ∧ Wd w0 X es w') := by
  obtain ⟨X', hL, hback⟩ := Own.lendI [_, _] hW
  refine (list_ins hen hone hL).mono ?_
  rintro e w' (⟨xs, r, A, c, rfl, h1, hN⟩ | ⟨rfl, h1, hN⟩)
  · exact .inl ⟨xs, r, A, c, rfl, h1, hback _ _ hN⟩
  · exact .inr ⟨rfl, h1, hback _ _ hN⟩
set_option maxHeartbeats 8000000 in
theorem list_chn {w : World} {X : Nat → Prop} {bg bp : Nat} {g : FuncId} {l : List UInt8} {v : Chn → Chn} {R : Chn → World → Prop} {one : List UInt8 → Option (Chn × List UInt8)} (hen : Enters Try.prog g) (hone : OneI g bp 52 [.int .i64 0, .int .i64 0, .int .i64 0] v Chn.cells R one) (hW : Wd w X [glassS bg l, glassP bp bg] w) :
    Calls Try.prog 28 #[.pointer (some ⟨bg, 0, none⟩), .func (.func g) #[] #[.pointer (some ⟨bp, 0, none⟩)]] w fun e w' => (∃ (xs : List Chn) (r : List UInt8) (A : Option Addr) (c : Nat), e = .returned (.slice A xs.length c) ∧ listB one l = some (xs.map v, r) ∧ Wd w X [.row 52 3 (.slice A xs.length c) xs.length (xs.flatMap Chn.cells), .res (fun u => ∀ y, y ∈ xs → R y u), glassS bg r, glassP bp bg] w') ∨ (e = .panicked brkI ∧ listB one l = none ∧ Wd w X [] w') := by
  refine enter Try.func28 rfl Try.ntmps28 rfl fun a hF => c_sr <| pv hF hW (y_assign hF rfl) fun a hF => l_nil <| t_n <| c_sr <| pv hF hW (y_assign hF rfl) fun a hF => l_nil <| t_n <| c_s <| c_sr <| pv hF hW (y_move hF rfl) fun a hF => ?_; refine pe (e_callp hF rfl rfl en_25 (by rfl) rfl rfl (number_call (size := 1) (hW.front 0 rfl rfl) (by decide)) ?_); rintro e w1 (⟨n, r0, rfl, hT, hN⟩ | ⟨rfl, hT, hN⟩)
  · obtain ⟨m, rfl, hm2⟩ := num1_nat hT
    replace hW := hN; refine .inl ⟨_, rfl, fun a hF => ?_⟩; refine pv hF hW (y_move hF rfl) fun a hF => l_nil ?_; replace hF := hF.ks [0, 1, 4, 5, 8, 9] rfl; refine t_n <| wp_block ?_; replace hW := hW.nil_row 52 3; replace hW := hW.free (R := fun u => ∀ y, y ∈ ([] : List Chn) → R y u) (fun _ _ h => by cases h); replace hW := hW.front 2 rfl rfl; replace hW := hW.front 2 rfl rfl; replace hW := hW.front 2 rfl rfl; refine c_loop (G := Nat × List Chn × Option Addr × Nat × List UInt8) (fun (gq : Nat × List Chn × Option Addr × Nat × List UInt8) => match gq with | ⟨k, L, A, c, F⟩ => [(9, .int .i64 (k : Int)), (5, .slice A k c)]) (fun (gq : Nat × List Chn × Option Addr × Nat × List UInt8) => match gq with | ⟨k, L, A, c, F⟩ => [.res (fun u => ∀ y, y ∈ L → R y u), .row 52 3 (.slice A k c) k (L.flatMap Chn.cells), glassS bg F]) (fun (gq : Nat × List Chn × Option Addr × Nat × List UInt8) => match gq with | ⟨k, L, A, c, F⟩ => L.length = k ∧ k ≤ m ∧ manyB one m r0 = (manyB one (m - k) F).map fun p => (L.map v ++ p.1, p.2)) (fun (gq : Nat × List Chn × Option Addr × Nat × List UInt8) => match gq with | ⟨k, L, A, c, F⟩ => m - k) (0, [], none, 0, r0) (hF.ks [0, 1, 4, 8] rfl) (Fr.cons hF (t := 9) rfl (by first | rfl | (simp; done)) (Fr.cons hF (t := 5) rfl (by first | rfl | (simp; done)) (Fr.nil hF))) (hW) ?_ ?_
    · exact ⟨rfl, by omega, by simp⟩
    clear hF hW
    try clear a
    intro gq a wc hC hF hW
    obtain ⟨k, L, A, c, F⟩ := gq
    dsimp only at hC
    obtain ⟨hL, hkm, hM⟩ := hC
    refine c_sr <| pv hF hW (y_lss hF rfl rfl) fun a hF => ?_; refine Fr.splitD hF ?_ ?_
    · intro h1 hF; refine l_nil <| t_n <| c_s <| c_t hF rfl <| wp_skip <| t_n <| c_s <| wp_block <| c_sr ?_; refine pe (e_alloc hF hW ze_52 rfl rfl rfl ?_); intro b2 a wc hF hW; refine l_nil <| t_n ?_
      have hkm1 : 0 < m - k := (by omega)
      refine c_sr <| pv hF hW (y_move hF rfl) fun a hF => ?_; refine pe (e_callp hF rfl rfl hen (by rfl) rfl rfl (hone _ _ _ _ _ _ _ (((hW.front 0 rfl rfl).front 4 rfl rfl).front 4 rfl rfl)) ?_); rintro e w1 (⟨y, r', rfl, hT2, hN⟩ | ⟨rfl, hT2, hN⟩)
      · replace hW := hN; refine .inl ⟨_, rfl, fun a hF => ?_⟩; refine l_nil ?_; replace hF := hF.ks [0, 1, 4, 5, 6, 8, 9, 10] rfl; refine t_n <| c_r <| pv hF hW (y_move hF rfl) fun a hF => pv hF hW (y_loadAll hF rfl 2 rfl Try.underlying52 rfl sz_52) fun a hF => ?_; replace hF := Fr.cast (v' := .agg #[.int .i64 y.kind, .int .i64 y.from_, .int .i64 y.to_]) (by rfl) hF; refine pe (e_buildSlice hF hW rfl (fun w => bs_ImgL_23_1_0 _ _ _ w) rfl rfl rfl ?_); intro b3 a wc hF hW; refine pe (e_append hF hW 6 rfl rfl rfl Try.underlying23 inf_52 rfl (by decide) (rowAt_blk (hW.blk 0 rfl) 3 1 rfl) (by simp [Value.oneCell']) (show _ = k + 1 by omega) (show _ = (L ++ [y]).flatMap Chn.cells by simp [Chn.cells]) (by first | omega | (simp; omega)) (by unfold maxLen; first | omega | (simp; omega)) rfl rfl ?_); intro A4 c5 a wc hF hW; replace hF := hF.drop 5; refine pv hF hW (y_assign hF rfl) fun a hF => l_nil ?_; replace hF := hF.ks [0, 1, 4, 5, 6, 8, 9, 10] rfl; refine b_n <| t_n <| c_r <| pv hF hW (y_add hF rfl rfl (IntWalk.i64_in _ (by omega))) fun a hF => ?_; replace hF := hF.drop 9; refine pv hF hW (y_move hF rfl) fun a hF => l_nil ?_; replace hF := hF.ks [0, 1, 4, 5, 6, 8, 9, 10] rfl; replace hW := hW.front 5 rfl rfl; replace hW := hW.front 5 rfl rfl
        replace hW := hW.res2 (R := fun u => ∀ z, z ∈ L ++ [y] → R z u) fun u h1 h3 z hz => (List.mem_append.1 hz).elim (h3 z) fun h => by rw [List.mem_singleton.1 h]; exact h1
        replace hW := hW.del 1 rfl; replace hW := hW.del 3 rfl; replace hW := hW.front 2 rfl rfl; replace hW := hW.front 2 rfl rfl; replace hW := hW.front 3 rfl rfl; replace hW := hW.front 3 rfl rfl; refine t_n ?_; refine ⟨(k + 1, L ++ [y], A4, c5, r'), ?_, ?_, ?_, ?_⟩
        · exact ⟨by simp [hL], by omega, by rw [hM, manyB_step hT2 (by omega), List.map_append]; rfl⟩
        · first | omega | (dsimp only; omega)
        · exact Fr.app (Fr.cons hF (t := 9) rfl (by first | rfl | (simp; done) | omega) (Fr.cons hF (t := 5) rfl (by first | rfl | (simp; done) | omega) (Fr.nil hF))) (hF.ks [0, 1, 4, 8] rfl)
        · exact hW
      · replace hW := hN; refine .inr ⟨_, rfl, ?_⟩; refine t_p <| b_p <| t_p <| t_p <| b_p <| t_p <| endp hF ?_
        exact .inr ⟨rfl, list_none hT (by rw [hM, manyB_none hT2 hkm1]; rfl), hW.none_⟩
    · intro h1 hF; refine l_nil <| t_n <| c_s <| c_f hF rfl <| wp_exit <| t_x <| t_x <| b_h <| t_n <| c_sr <| pv hF hW (y_move hF rfl) fun a hF => ?_; replace hF := hF.drop 4; refine pv hF hW (y_assign hF rfl) fun a hF => l_nil ?_; replace hF := hF.ks [0, 1, 4, 5, 8, 9, 10] rfl; refine t_n <| wp_ret <| ret1 Try.results28 hF (rv_t hF rfl) ?_; replace hW := hW.front 3 rfl rfl; replace hW := hW.front 3 rfl rfl; replace hW := hW.front 2 rfl rfl; replace hW := hW.front 3 rfl rfl; subst hL
      exact .inl ⟨L, _, _, _, rfl, list_some hT hM (by omega), hW⟩
  · replace hW := hN; refine .inr ⟨_, rfl, ?_⟩; refine t_p <| t_p <| endp hF ?_
    exact .inr ⟨rfl, by unfold listB; rw [hT]; rfl, hW.none_⟩
theorem list_chn_call {w0 w : World} {X : Nat → Prop} {es : List Asn} {bg bp : Nat} {g : FuncId} {l : List UInt8} {v : Chn → Chn} {R : Chn → World → Prop} {one : List UInt8 → Option (Chn × List UInt8)} (hen : Enters Try.prog g) (hone : OneI g bp 52 [.int .i64 0, .int .i64 0, .int .i64 0] v Chn.cells R one) (hW : Wd w0 X (glassS bg l :: glassP bp bg :: es) w) :
    Calls Try.prog 28 #[.pointer (some ⟨bg, 0, none⟩), .func (.func g) #[] #[.pointer (some ⟨bp, 0, none⟩)]] w fun e w' => (∃ (xs : List Chn) (r : List UInt8) (A : Option Addr) (c : Nat), e = .returned (.slice A xs.length c) ∧ listB one l = some (xs.map v, r) ∧ Wd w0 X (.row 52 3 (.slice A xs.length c) xs.length (xs.flatMap Chn.cells) :: .res (fun u => ∀ y, y ∈ xs → R y u) :: glassS bg r :: glassP bp bg :: es) w') ∨ (e = .panicked brkI ∧ listB one l = none ∧ Wd w0 X es w') := by
  obtain ⟨X', hL, hback⟩ := Own.lendI [_, _] hW
  refine (list_chn hen hone hL).mono ?_
  rintro e w' (⟨xs, r, A, c, rfl, h1, hN⟩ | ⟨rfl, h1, hN⟩)
  · exact .inl ⟨xs, r, A, c, rfl, h1, hback _ _ hN⟩
  · exact .inr ⟨rfl, h1, hback _ _ hN⟩
set_option maxHeartbeats 8000000 in
theorem list_slt {w : World} {X : Nat → Prop} {bg bp : Nat} {g : FuncId} {l : List UInt8} {v : Slt → Slt} {R : Slt → World → Prop} {one : List UInt8 → Option (Slt × List UInt8)} (hen : Enters Try.prog g) (hone : OneI g bp 54 [.int .i64 0, .int .i64 0] v Slt.cells R one) (hW : Wd w X [glassS bg l, glassP bp bg] w) :
    Calls Try.prog 30 #[.pointer (some ⟨bg, 0, none⟩), .func (.func g) #[] #[.pointer (some ⟨bp, 0, none⟩)]] w fun e w' => (∃ (xs : List Slt) (r : List UInt8) (A : Option Addr) (c : Nat), e = .returned (.slice A xs.length c) ∧ listB one l = some (xs.map v, r) ∧ Wd w X [.row 54 2 (.slice A xs.length c) xs.length (xs.flatMap Slt.cells), .res (fun u => ∀ y, y ∈ xs → R y u), glassS bg r, glassP bp bg] w') ∨ (e = .panicked brkI ∧ listB one l = none ∧ Wd w X [] w') := by
  refine enter Try.func30 rfl Try.ntmps30 rfl fun a hF => c_sr <| pv hF hW (y_assign hF rfl) fun a hF => l_nil <| t_n <| c_sr <| pv hF hW (y_assign hF rfl) fun a hF => l_nil <| t_n <| c_s <| c_sr <| pv hF hW (y_move hF rfl) fun a hF => ?_; refine pe (e_callp hF rfl rfl en_25 (by rfl) rfl rfl (number_call (size := 1) (hW.front 0 rfl rfl) (by decide)) ?_); rintro e w1 (⟨n, r0, rfl, hT, hN⟩ | ⟨rfl, hT, hN⟩)
  · obtain ⟨m, rfl, hm2⟩ := num1_nat hT
    replace hW := hN; refine .inl ⟨_, rfl, fun a hF => ?_⟩; refine pv hF hW (y_move hF rfl) fun a hF => l_nil ?_; replace hF := hF.ks [0, 1, 4, 5, 8, 9] rfl; refine t_n <| wp_block ?_; replace hW := hW.nil_row 54 2; replace hW := hW.free (R := fun u => ∀ y, y ∈ ([] : List Slt) → R y u) (fun _ _ h => by cases h); replace hW := hW.front 2 rfl rfl; replace hW := hW.front 2 rfl rfl; replace hW := hW.front 2 rfl rfl; refine c_loop (G := Nat × List Slt × Option Addr × Nat × List UInt8) (fun (gq : Nat × List Slt × Option Addr × Nat × List UInt8) => match gq with | ⟨k, L, A, c, F⟩ => [(9, .int .i64 (k : Int)), (5, .slice A k c)]) (fun (gq : Nat × List Slt × Option Addr × Nat × List UInt8) => match gq with | ⟨k, L, A, c, F⟩ => [.res (fun u => ∀ y, y ∈ L → R y u), .row 54 2 (.slice A k c) k (L.flatMap Slt.cells), glassS bg F]) (fun (gq : Nat × List Slt × Option Addr × Nat × List UInt8) => match gq with | ⟨k, L, A, c, F⟩ => L.length = k ∧ k ≤ m ∧ manyB one m r0 = (manyB one (m - k) F).map fun p => (L.map v ++ p.1, p.2)) (fun (gq : Nat × List Slt × Option Addr × Nat × List UInt8) => match gq with | ⟨k, L, A, c, F⟩ => m - k) (0, [], none, 0, r0) (hF.ks [0, 1, 4, 8] rfl) (Fr.cons hF (t := 9) rfl (by first | rfl | (simp; done)) (Fr.cons hF (t := 5) rfl (by first | rfl | (simp; done)) (Fr.nil hF))) (hW) ?_ ?_
    · exact ⟨rfl, by omega, by simp⟩
    clear hF hW
    try clear a
    intro gq a wc hC hF hW
    obtain ⟨k, L, A, c, F⟩ := gq
    dsimp only at hC
    obtain ⟨hL, hkm, hM⟩ := hC
    refine c_sr <| pv hF hW (y_lss hF rfl rfl) fun a hF => ?_; refine Fr.splitD hF ?_ ?_
    · intro h1 hF; refine l_nil <| t_n <| c_s <| c_t hF rfl <| wp_skip <| t_n <| c_s <| wp_block <| c_sr ?_; refine pe (e_alloc hF hW ze_54 rfl rfl rfl ?_); intro b2 a wc hF hW; refine l_nil <| t_n ?_
      have hkm1 : 0 < m - k := (by omega)
      refine c_sr <| pv hF hW (y_move hF rfl) fun a hF => ?_; refine pe (e_callp hF rfl rfl hen (by rfl) rfl rfl (hone _ _ _ _ _ _ _ (((hW.front 0 rfl rfl).front 4 rfl rfl).front 4 rfl rfl)) ?_); rintro e w1 (⟨y, r', rfl, hT2, hN⟩ | ⟨rfl, hT2, hN⟩)
      · replace hW := hN; refine .inl ⟨_, rfl, fun a hF => ?_⟩; refine l_nil ?_; replace hF := hF.ks [0, 1, 4, 5, 6, 8, 9, 10] rfl; refine t_n <| c_r <| pv hF hW (y_move hF rfl) fun a hF => pv hF hW (y_loadAll hF rfl 2 rfl Try.underlying54 rfl sz_54) fun a hF => ?_; replace hF := Fr.cast (v' := .agg #[.int .i64 y.part, .int .i64 y.ticks]) (by rfl) hF; refine pe (e_buildSlice hF hW rfl (fun w => bs_ImgL_24_1_0 _ _ w) rfl rfl rfl ?_); intro b3 a wc hF hW; refine pe (e_append hF hW 6 rfl rfl rfl Try.underlying24 inf_54 rfl (by decide) (rowAt_blk (hW.blk 0 rfl) 2 1 rfl) (by simp [Value.oneCell']) (show _ = k + 1 by omega) (show _ = (L ++ [y]).flatMap Slt.cells by simp [Slt.cells]) (by first | omega | (simp; omega)) (by unfold maxLen; first | omega | (simp; omega)) rfl rfl ?_); intro A4 c5 a wc hF hW; replace hF := hF.drop 5; refine pv hF hW (y_assign hF rfl) fun a hF => l_nil ?_; replace hF := hF.ks [0, 1, 4, 5, 6, 8, 9, 10] rfl; refine b_n <| t_n <| c_r <| pv hF hW (y_add hF rfl rfl (IntWalk.i64_in _ (by omega))) fun a hF => ?_; replace hF := hF.drop 9; refine pv hF hW (y_move hF rfl) fun a hF => l_nil ?_; replace hF := hF.ks [0, 1, 4, 5, 6, 8, 9, 10] rfl; replace hW := hW.front 5 rfl rfl; replace hW := hW.front 5 rfl rfl
        replace hW := hW.res2 (R := fun u => ∀ z, z ∈ L ++ [y] → R z u) fun u h1 h3 z hz => (List.mem_append.1 hz).elim (h3 z) fun h => by rw [List.mem_singleton.1 h]; exact h1
        replace hW := hW.del 1 rfl; replace hW := hW.del 3 rfl; replace hW := hW.front 2 rfl rfl; replace hW := hW.front 2 rfl rfl; replace hW := hW.front 3 rfl rfl; replace hW := hW.front 3 rfl rfl; refine t_n ?_; refine ⟨(k + 1, L ++ [y], A4, c5, r'), ?_, ?_, ?_, ?_⟩
        · exact ⟨by simp [hL], by omega, by rw [hM, manyB_step hT2 (by omega), List.map_append]; rfl⟩
        · first | omega | (dsimp only; omega)
        · exact Fr.app (Fr.cons hF (t := 9) rfl (by first | rfl | (simp; done) | omega) (Fr.cons hF (t := 5) rfl (by first | rfl | (simp; done) | omega) (Fr.nil hF))) (hF.ks [0, 1, 4, 8] rfl)
        · exact hW
      · replace hW := hN; refine .inr ⟨_, rfl, ?_⟩; refine t_p <| b_p <| t_p <| t_p <| b_p <| t_p <| endp hF ?_
        exact .inr ⟨rfl, list_none hT (by rw [hM, manyB_none hT2 hkm1]; rfl), hW.none_⟩
    · intro h1 hF; refine l_nil <| t_n <| c_s <| c_f hF rfl <| wp_exit <| t_x <| t_x <| b_h <| t_n <| c_sr <| pv hF hW (y_move hF rfl) fun a hF => ?_; replace hF := hF.drop 4; refine pv hF hW (y_assign hF rfl) fun a hF => l_nil ?_; replace hF := hF.ks [0, 1, 4, 5, 8, 9, 10] rfl; refine t_n <| wp_ret <| ret1 Try.results30 hF (rv_t hF rfl) ?_; replace hW := hW.front 3 rfl rfl; replace hW := hW.front 3 rfl rfl; replace hW := hW.front 2 rfl rfl; replace hW := hW.front 3 rfl rfl; subst hL
      exact .inl ⟨L, _, _, _, rfl, list_some hT hM (by omega), hW⟩
  · replace hW := hN; refine .inr ⟨_, rfl, ?_⟩; refine t_p <| t_p <| endp hF ?_
    exact .inr ⟨rfl, by unfold listB; rw [hT]; rfl, hW.none_⟩
theorem list_slt_call {w0 w : World} {X : Nat → Prop} {es : List Asn} {bg bp : Nat} {g : FuncId} {l : List UInt8} {v : Slt → Slt} {R : Slt → World → Prop} {one : List UInt8 → Option (Slt × List UInt8)} (hen : Enters Try.prog g) (hone : OneI g bp 54 [.int .i64 0, .int .i64 0] v Slt.cells R one) (hW : Wd w0 X (glassS bg l :: glassP bp bg :: es) w) :
    Calls Try.prog 30 #[.pointer (some ⟨bg, 0, none⟩), .func (.func g) #[] #[.pointer (some ⟨bp, 0, none⟩)]] w fun e w' => (∃ (xs : List Slt) (r : List UInt8) (A : Option Addr) (c : Nat), e = .returned (.slice A xs.length c) ∧ listB one l = some (xs.map v, r) ∧ Wd w0 X (.row 54 2 (.slice A xs.length c) xs.length (xs.flatMap Slt.cells) :: .res (fun u => ∀ y, y ∈ xs → R y u) :: glassS bg r :: glassP bp bg :: es) w') ∨ (e = .panicked brkI ∧ listB one l = none ∧ Wd w0 X es w') := by
  obtain ⟨X', hL, hback⟩ := Own.lendI [_, _] hW
  refine (list_slt hen hone hL).mono ?_
  rintro e w' (⟨xs, r, A, c, rfl, h1, hN⟩ | ⟨rfl, h1, hN⟩)
  · exact .inl ⟨xs, r, A, c, rfl, h1, hback _ _ hN⟩
  · exact .inr ⟨rfl, h1, hback _ _ hN⟩
set_option maxHeartbeats 8000000 in
theorem list_prt {w : World} {X : Nat → Prop} {bg bp : Nat} {g : FuncId} {l : List UInt8} {v : PP → Prt} {R : PP → World → Prop} {one : List UInt8 → Option (Prt × List UInt8)} (hen : Enters Try.prog g) (hone : OneI g bp 47 [.slice none 0 0, .slice none 0 0] v encP R one) (hW : Wd w X [glassS bg l, glassP bp bg] w) :
    Calls Try.prog 20 #[.pointer (some ⟨bg, 0, none⟩), .func (.func g) #[] #[.pointer (some ⟨bp, 0, none⟩)]] w fun e w' => (∃ (xs : List PP) (r : List UInt8) (A : Option Addr) (c : Nat), e = .returned (.slice A xs.length c) ∧ listB one l = some (xs.map v, r) ∧ Wd w X [.row 47 2 (.slice A xs.length c) xs.length (xs.flatMap encP), .res (fun u => ∀ y, y ∈ xs → R y u), glassS bg r, glassP bp bg] w') ∨ (e = .panicked brkI ∧ listB one l = none ∧ Wd w X [] w') := by
  refine enter Try.func20 rfl Try.ntmps20 rfl fun a hF => c_sr <| pv hF hW (y_assign hF rfl) fun a hF => l_nil <| t_n <| c_sr <| pv hF hW (y_assign hF rfl) fun a hF => l_nil <| t_n <| c_s <| c_sr <| pv hF hW (y_move hF rfl) fun a hF => ?_; refine pe (e_callp hF rfl rfl en_25 (by rfl) rfl rfl (number_call (size := 1) (hW.front 0 rfl rfl) (by decide)) ?_); rintro e w1 (⟨n, r0, rfl, hT, hN⟩ | ⟨rfl, hT, hN⟩)
  · obtain ⟨m, rfl, hm2⟩ := num1_nat hT
    replace hW := hN; refine .inl ⟨_, rfl, fun a hF => ?_⟩; refine pv hF hW (y_move hF rfl) fun a hF => l_nil ?_; replace hF := hF.ks [0, 1, 4, 5, 8, 9] rfl; refine t_n <| wp_block ?_; replace hW := hW.nil_row 47 2; replace hW := hW.free (R := fun u => ∀ y, y ∈ ([] : List PP) → R y u) (fun _ _ h => by cases h); replace hW := hW.front 2 rfl rfl; replace hW := hW.front 2 rfl rfl; replace hW := hW.front 2 rfl rfl; refine c_loop (G := Nat × List PP × Option Addr × Nat × List UInt8) (fun (gq : Nat × List PP × Option Addr × Nat × List UInt8) => match gq with | ⟨k, L, A, c, F⟩ => [(9, .int .i64 (k : Int)), (5, .slice A k c)]) (fun (gq : Nat × List PP × Option Addr × Nat × List UInt8) => match gq with | ⟨k, L, A, c, F⟩ => [.res (fun u => ∀ y, y ∈ L → R y u), .row 47 2 (.slice A k c) k (L.flatMap encP), glassS bg F]) (fun (gq : Nat × List PP × Option Addr × Nat × List UInt8) => match gq with | ⟨k, L, A, c, F⟩ => L.length = k ∧ k ≤ m ∧ manyB one m r0 = (manyB one (m - k) F).map fun p => (L.map v ++ p.1, p.2)) (fun (gq : Nat × List PP × Option Addr × Nat × List UInt8) => match gq with | ⟨k, L, A, c, F⟩ => m - k) (0, [], none, 0, r0) (hF.ks [0, 1, 4, 8] rfl) (Fr.cons hF (t := 9) rfl (by first | rfl | (simp; done)) (Fr.cons hF (t := 5) rfl (by first | rfl | (simp; done)) (Fr.nil hF))) (hW) ?_ ?_
    · exact ⟨rfl, by omega, by simp⟩
    clear hF hW
    try clear a
    intro gq a wc hC hF hW
    obtain ⟨k, L, A, c, F⟩ := gq
    dsimp only at hC
    obtain ⟨hL, hkm, hM⟩ := hC
    refine c_sr <| pv hF hW (y_lss hF rfl rfl) fun a hF => ?_; refine Fr.splitD hF ?_ ?_
    · intro h1 hF; refine l_nil <| t_n <| c_s <| c_t hF rfl <| wp_skip <| t_n <| c_s <| wp_block <| c_sr ?_; refine pe (e_alloc hF hW ze_47 rfl rfl rfl ?_); intro b2 a wc hF hW; refine l_nil <| t_n ?_
      have hkm1 : 0 < m - k := (by omega)
      refine c_sr <| pv hF hW (y_move hF rfl) fun a hF => ?_; refine pe (e_callp hF rfl rfl hen (by rfl) rfl rfl (hone _ _ _ _ _ _ _ (((hW.front 0 rfl rfl).front 4 rfl rfl).front 4 rfl rfl)) ?_); rintro e w1 (⟨y, r', rfl, hT2, hN⟩ | ⟨rfl, hT2, hN⟩)
      · replace hW := hN; refine .inl ⟨_, rfl, fun a hF => ?_⟩; refine l_nil ?_; replace hF := hF.ks [0, 1, 4, 5, 6, 8, 9, 10] rfl; refine t_n <| c_r <| pv hF hW (y_move hF rfl) fun a hF => pv hF hW (y_loadAll hF rfl 2 rfl Try.underlying47 rfl sz_47) fun a hF => ?_; replace hF := Fr.cast (v' := .agg #[.slice y.2.ca y.1.code.length y.2.cc, .slice y.2.ia y.1.inp.length y.2.ic]) (by rfl) hF; refine pe (e_buildSlice hF hW rfl (fun w => bs_ImgL_22_1_0 _ _ _ _ _ _ w) rfl rfl rfl ?_); intro b3 a wc hF hW; refine pe (e_append hF hW 6 rfl rfl rfl Try.underlying22 inf_47 rfl (by decide) (rowAt_blk (hW.blk 0 rfl) 2 1 rfl) (by simp [Value.oneCell']) (show _ = k + 1 by omega) (show _ = (L ++ [y]).flatMap encP by simp [encP]) (by first | omega | (simp; omega)) (by unfold maxLen; first | omega | (simp; omega)) rfl rfl ?_); intro A4 c5 a wc hF hW; replace hF := hF.drop 5; refine pv hF hW (y_assign hF rfl) fun a hF => l_nil ?_; replace hF := hF.ks [0, 1, 4, 5, 6, 8, 9, 10] rfl; refine b_n <| t_n <| c_r <| pv hF hW (y_add hF rfl rfl (IntWalk.i64_in _ (by omega))) fun a hF => ?_; replace hF := hF.drop 9; refine pv hF hW (y_move hF rfl) fun a hF => l_nil ?_; replace hF := hF.ks [0, 1, 4, 5, 6, 8, 9, 10] rfl; replace hW := hW.front 5 rfl rfl; replace hW := hW.front 5 rfl rfl
        replace hW := hW.res2 (R := fun u => ∀ z, z ∈ L ++ [y] → R z u) fun u h1 h3 z hz => (List.mem_append.1 hz).elim (h3 z) fun h => by rw [List.mem_singleton.1 h]; exact h1
        replace hW := hW.del 1 rfl; replace hW := hW.del 3 rfl; replace hW := hW.front 2 rfl rfl; replace hW := hW.front 2 rfl rfl; replace hW := hW.front 3 rfl rfl; replace hW := hW.front 3 rfl rfl; refine t_n ?_; refine ⟨(k + 1, L ++ [y], A4, c5, r'), ?_, ?_, ?_, ?_⟩
        · exact ⟨by simp [hL], by omega, by rw [hM, manyB_step hT2 (by omega), List.map_append]; rfl⟩
        · first | omega | (dsimp only; omega)
        · exact Fr.app (Fr.cons hF (t := 9) rfl (by first | rfl | (simp; done) | omega) (Fr.cons hF (t := 5) rfl (by first | rfl | (simp; done) | omega) (Fr.nil hF))) (hF.ks [0, 1, 4, 8] rfl)
        · exact hW
      · replace hW := hN; refine .inr ⟨_, rfl, ?_⟩; refine t_p <| b_p <| t_p <| t_p <| b_p <| t_p <| endp hF ?_
        exact .inr ⟨rfl, list_none hT (by rw [hM, manyB_none hT2 hkm1]; rfl), hW.none_⟩
    · intro h1 hF; refine l_nil <| t_n <| c_s <| c_f hF rfl <| wp_exit <| t_x <| t_x <| b_h <| t_n <| c_sr <| pv hF hW (y_move hF rfl) fun a hF => ?_; replace hF := hF.drop 4; refine pv hF hW (y_assign hF rfl) fun a hF => l_nil ?_; replace hF := hF.ks [0, 1, 4, 5, 8, 9, 10] rfl; refine t_n <| wp_ret <| ret1 Try.results20 hF (rv_t hF rfl) ?_; replace hW := hW.front 3 rfl rfl; replace hW := hW.front 3 rfl rfl; replace hW := hW.front 2 rfl rfl; replace hW := hW.front 3 rfl rfl; subst hL
      exact .inl ⟨L, _, _, _, rfl, list_some hT hM (by omega), hW⟩
  · replace hW := hN; refine .inr ⟨_, rfl, ?_⟩; refine t_p <| t_p <| endp hF ?_
    exact .inr ⟨rfl, by unfold listB; rw [hT]; rfl, hW.none_⟩
theorem list_prt_call {w0 w : World} {X : Nat → Prop} {es : List Asn} {bg bp : Nat} {g : FuncId} {l : List UInt8} {v : PP → Prt} {R : PP → World → Prop} {one : List UInt8 → Option (Prt × List UInt8)} (hen : Enters Try.prog g) (hone : OneI g bp 47 [.slice none 0 0, .slice none 0 0] v encP R one) (hW : Wd w0 X (glassS bg l :: glassP bp bg :: es) w) :
    Calls Try.prog 20 #[.pointer (some ⟨bg, 0, none⟩), .func (.func g) #[] #[.pointer (some ⟨bp, 0, none⟩)]] w fun e w' => (∃ (xs : List PP) (r : List UInt8) (A : Option Addr) (c : Nat), e = .returned (.slice A xs.length c) ∧ listB one l = some (xs.map v, r) ∧ Wd w0 X (.row 47 2 (.slice A xs.length c) xs.length (xs.flatMap encP) :: .res (fun u => ∀ y, y ∈ xs → R y u) :: glassS bg r :: glassP bp bg :: es) w') ∨ (e = .panicked brkI ∧ listB one l = none ∧ Wd w0 X es w') := by
  obtain ⟨X', hL, hback⟩ := Own.lendI [_, _] hW
  refine (list_prt hen hone hL).mono ?_
  rintro e w' (⟨xs, r, A, c, rfl, h1, hN⟩ | ⟨rfl, h1, hN⟩)
  · exact .inl ⟨xs, r, A, c, rfl, h1, hback _ _ hN⟩
  · exact .inr ⟨rfl, h1, hback _ _ hN⟩
set_option maxHeartbeats 8000000 in
theorem list_int {w : World} {X : Nat → Prop} {bg bp : Nat} {g : FuncId} {l : List UInt8} {v : Int → Int} {R : Int → World → Prop} {one : List UInt8 → Option (Int × List UInt8)} (hen : Enters Try.prog g) (hone : OneI g bp 3 [.int .i64 0] v encI R one) (hW : Wd w X [glassS bg l, glassP bp bg] w) :
    Calls Try.prog 26 #[.pointer (some ⟨bg, 0, none⟩), .func (.func g) #[] #[.pointer (some ⟨bp, 0, none⟩)]] w fun e w' => (∃ (xs : List Int) (r : List UInt8) (A : Option Addr) (c : Nat), e = .returned (.slice A xs.length c) ∧ listB one l = some (xs.map v, r) ∧ Wd w X [.row 3 1 (.slice A xs.length c) xs.length (xs.flatMap encI), .res (fun u => ∀ y, y ∈ xs → R y u), glassS bg r, glassP bp bg] w') ∨ (e = .panicked brkI ∧ listB one l = none ∧ Wd w X [] w') := by
  refine enter Try.func26 rfl Try.ntmps26 rfl fun a hF => c_sr <| pv hF hW (y_assign hF rfl) fun a hF => l_nil <| t_n <| c_sr <| pv hF hW (y_assign hF rfl) fun a hF => l_nil <| t_n <| c_s <| c_sr <| pv hF hW (y_move hF rfl) fun a hF => ?_; refine pe (e_callp hF rfl rfl en_25 (by rfl) rfl rfl (number_call (size := 1) (hW.front 0 rfl rfl) (by decide)) ?_); rintro e w1 (⟨n, r0, rfl, hT, hN⟩ | ⟨rfl, hT, hN⟩)
  · obtain ⟨m, rfl, hm2⟩ := num1_nat hT
    replace hW := hN; refine .inl ⟨_, rfl, fun a hF => ?_⟩; refine pv hF hW (y_move hF rfl) fun a hF => l_nil ?_; replace hF := hF.ks [0, 1, 4, 5, 8, 9] rfl; refine t_n <| wp_block ?_; replace hW := hW.nil_row 3 1; replace hW := hW.free (R := fun u => ∀ y, y ∈ ([] : List Int) → R y u) (fun _ _ h => by cases h); replace hW := hW.front 2 rfl rfl; replace hW := hW.front 2 rfl rfl; replace hW := hW.front 2 rfl rfl; refine c_loop (G := Nat × List Int × Option Addr × Nat × List UInt8) (fun (gq : Nat × List Int × Option Addr × Nat × List UInt8) => match gq with | ⟨k, L, A, c, F⟩ => [(9, .int .i64 (k : Int)), (5, .slice A k c)]) (fun (gq : Nat × List Int × Option Addr × Nat × List UInt8) => match gq with | ⟨k, L, A, c, F⟩ => [.res (fun u => ∀ y, y ∈ L → R y u), .row 3 1 (.slice A k c) k (L.flatMap encI), glassS bg F]) (fun (gq : Nat × List Int × Option Addr × Nat × List UInt8) => match gq with | ⟨k, L, A, c, F⟩ => L.length = k ∧ k ≤ m ∧ manyB one m r0 = (manyB one (m - k) F).map fun p => (L.map v ++ p.1, p.2)) (fun (gq : Nat × List Int × Option Addr × Nat × List UInt8) => match gq with | ⟨k, L, A, c, F⟩ => m - k) (0, [], none, 0, r0) (hF.ks [0, 1, 4, 8] rfl) (Fr.cons hF (t := 9) rfl (by first | rfl | (simp; done)) (Fr.cons hF (t := 5) rfl (by first | rfl | (simp; done)) (Fr.nil hF))) (hW) ?_ ?_
    · exact ⟨rfl, by omega, by simp⟩
    clear hF hW
    try clear a
    intro gq a wc hC hF hW
    obtain ⟨k, L, A, c, F⟩ := gq
    dsimp only at hC
    obtain ⟨hL, hkm, hM⟩ := hC
    refine c_sr <| pv hF hW (y_lss hF rfl rfl) fun a hF => ?_; refine Fr.splitD hF ?_ ?_
    · intro h1 hF; refine l_nil <| t_n <| c_s <| c_t hF rfl <| wp_skip <| t_n <| c_s <| wp_block <| c_sr ?_; refine pe (e_alloc hF hW ze_3 rfl rfl rfl ?_); intro b2 a wc hF hW; refine l_nil <| t_n ?_
      have hkm1 : 0 < m - k := (by omega)
      refine c_sr <| pv hF hW (y_move hF rfl) fun a hF => ?_; refine pe (e_callp hF rfl rfl hen (by rfl) rfl rfl (hone _ _ _ _ _ _ _ (((hW.front 0 rfl rfl).front 4 rfl rfl).front 4 rfl rfl)) ?_); rintro e w1 (⟨y, r', rfl, hT2, hN⟩ | ⟨rfl, hT2, hN⟩)
      · replace hW := hN; refine .inl ⟨_, rfl, fun a hF => ?_⟩; refine l_nil ?_; replace hF := hF.ks [0, 1, 4, 5, 6, 8, 9, 10] rfl; refine t_n <| c_r <| pv hF hW (y_move hF rfl) fun a hF => pv hF hW (y_loadOwn hF rfl 2 rfl rfl Try.underlying3 rfl) fun a hF => ?_; replace hF := Fr.cast (v' := .int .i64 y) (by rfl) hF; refine pe (e_buildSlice hF hW rfl (fun w => bs_ImgL_45_1_0 _ w) rfl rfl rfl ?_); intro b3 a wc hF hW; refine pe (e_append hF hW 6 rfl rfl rfl Try.underlying45 inf_3 rfl (by decide) (rowAt_blk (hW.blk 0 rfl) 1 1 rfl) (by simp [Value.oneCell']) (show _ = k + 1 by omega) (show _ = (L ++ [y]).flatMap encI by simp [encI]) (by first | omega | (simp; omega)) (by unfold maxLen; first | omega | (simp; omega)) rfl rfl ?_); intro A4 c5 a wc hF hW; replace hF := hF.drop 5; refine pv hF hW (y_assign hF rfl) fun a hF => l_nil ?_; replace hF := hF.ks [0, 1, 4, 5, 6, 8, 9, 10] rfl; refine b_n <| t_n <| c_r <| pv hF hW (y_add hF rfl rfl (IntWalk.i64_in _ (by omega))) fun a hF => ?_; replace hF := hF.drop 9; refine pv hF hW (y_move hF rfl) fun a hF => l_nil ?_; replace hF := hF.ks [0, 1, 4, 5, 6, 8, 9, 10] rfl; replace hW := hW.front 5 rfl rfl; replace hW := hW.front 5 rfl rfl
        replace hW := hW.res2 (R := fun u => ∀ z, z ∈ L ++ [y] → R z u) fun u h1 h3 z hz => (List.mem_append.1 hz).elim (h3 z) fun h => by rw [List.mem_singleton.1 h]; exact h1
        replace hW := hW.del 1 rfl; replace hW := hW.del 3 rfl; replace hW := hW.front 2 rfl rfl; replace hW := hW.front 2 rfl rfl; replace hW := hW.front 3 rfl rfl; replace hW := hW.front 3 rfl rfl; refine t_n ?_; refine ⟨(k + 1, L ++ [y], A4, c5, r'), ?_, ?_, ?_, ?_⟩
        · exact ⟨by simp [hL], by omega, by rw [hM, manyB_step hT2 (by omega), List.map_append]; rfl⟩
        · first | omega | (dsimp only; omega)
        · exact Fr.app (Fr.cons hF (t := 9) rfl (by first | rfl | (simp; done) | omega) (Fr.cons hF (t := 5) rfl (by first | rfl | (simp; done) | omega) (Fr.nil hF))) (hF.ks [0, 1, 4, 8] rfl)
        · exact hW
      · replace hW := hN; refine .inr ⟨_, rfl, ?_⟩; refine t_p <| b_p <| t_p <| t_p <| b_p <| t_p <| endp hF ?_
        exact .inr ⟨rfl, list_none hT (by rw [hM, manyB_none hT2 hkm1]; rfl), hW.none_⟩
    · intro h1 hF; refine l_nil <| t_n <| c_s <| c_f hF rfl <| wp_exit <| t_x <| t_x <| b_h <| t_n <| c_sr <| pv hF hW (y_move hF rfl) fun a hF => ?_; replace hF := hF.drop 4; refine pv hF hW (y_assign hF rfl) fun a hF => l_nil ?_; replace hF := hF.ks [0, 1, 4, 5, 8, 9, 10] rfl; refine t_n <| wp_ret <| ret1 Try.results26 hF (rv_t hF rfl) ?_; replace hW := hW.front 3 rfl rfl; replace hW := hW.front 3 rfl rfl; replace hW := hW.front 2 rfl rfl; replace hW := hW.front 3 rfl rfl; subst hL
      exact .inl ⟨L, _, _, _, rfl, list_some hT hM (by omega), hW⟩
  · replace hW := hN; refine .inr ⟨_, rfl, ?_⟩; refine t_p <| t_p <| endp hF ?_
    exact .inr ⟨rfl, by unfold listB; rw [hT]; rfl, hW.none_⟩
theorem list_int_call {w0 w : World} {X : Nat → Prop} {es : List Asn} {bg bp : Nat} {g : FuncId} {l : List UInt8} {v : Int → Int} {R : Int → World → Prop} {one : List UInt8 → Option (Int × List UInt8)} (hen : Enters Try.prog g) (hone : OneI g bp 3 [.int .i64 0] v encI R one) (hW : Wd w0 X (glassS bg l :: glassP bp bg :: es) w) :
    Calls Try.prog 26 #[.pointer (some ⟨bg, 0, none⟩), .func (.func g) #[] #[.pointer (some ⟨bp, 0, none⟩)]] w fun e w' => (∃ (xs : List Int) (r : List UInt8) (A : Option Addr) (c : Nat), e = .returned (.slice A xs.length c) ∧ listB one l = some (xs.map v, r) ∧ Wd w0 X (.row 3 1 (.slice A xs.length c) xs.length (xs.flatMap encI) :: .res (fun u => ∀ y, y ∈ xs → R y u) :: glassS bg r :: glassP bp bg :: es) w') ∨ (e = .panicked brkI ∧ listB one l = none ∧ Wd w0 X es w') := by
  obtain ⟨X', hL, hback⟩ := Own.lendI [_, _] hW
  refine (list_int hen hone hL).mono ?_
  rintro e w' (⟨xs, r, A, c, rfl, h1, hN⟩ | ⟨rfl, h1, hN⟩)
  · exact .inl ⟨xs, r, A, c, rfl, h1, hback _ _ hN⟩
  · exact .inr ⟨rfl, h1, hback _ _ hN⟩
theorem ins_in {w : World} {X : Nat → Prop} {bg bp bx : Nat} {l : List UInt8} (hW : Wd w X [glassS bg l, glassP bp bg, .blk bx 49 [.int .i64 0, .int .i64 0, .int .i64 0, .int .i64 0]] w) :
    Calls Try.prog 23 #[.pointer (some ⟨bx, 0, none⟩), .pointer (some ⟨bp, 0, none⟩)] w fun e w' => (∃ y r, e = .returned (.tuple #[]) ∧ insP l = some (y, r) ∧ Wd w X [glassS bg r, glassP bp bg, .blk bx 49 y.cells] w') ∨ (e = .panicked brkI ∧ insP l = none ∧ Wd w X [] w') := by
  refine enter Try.func23 rfl Try.ntmps23 rfl fun a hF => c_sd mixed_ok hW (((hW.del 0 rfl).del 1 rfl)) ?_
  clear hW; intro wc hW hS
  refine dv 0 rfl hF hS (y_loadOwn hF rfl 0 rfl rfl Try.underlying59 rfl) fun a hF => dv 1 rfl hF hS (y_move hF rfl) fun a hF => dv 2 rfl hF hS (y_nilCheck hF rfl) fun a hF => dv 3 rfl hF hS (y_fieldOwn hF rfl fa_49_0) fun a hF => dv 4 rfl hF hS (y_move hF rfl) fun a hF => dv 5 rfl hF hS (y_nilCheck hF rfl) fun a hF => dv 6 rfl hF hS (y_fieldOwn hF rfl fa_49_1) fun a hF => dv 7 rfl hF hS (y_move hF rfl) fun a hF => dv 8 rfl hF hS (y_nilCheck hF rfl) fun a hF => dv 9 rfl hF hS (y_fieldOwn hF rfl fa_49_2) fun a hF => d_1 10 (by kernel_rfl) ?_; refine d_op rfl rfl (e_buildSlice hF hW rfl (fun w => bs_ImgL_99_3_0_1_2 _ _ _ w) rfl rfl rfl ?_); intro b1 a wc hF hW; replace hS := (((hW.del 0 rfl).del 0 rfl).del 1 rfl); refine ⟨hS, ?_⟩; refine d_1 11 (by kernel_rfl) ?_; refine d_op rfl rfl (e_callp hF rfl rfl en_24 (by rfl) rfl rfl (into_call (m := 3) (((hW.front 0 rfl rfl).front 3 rfl rfl).front 2 rfl rfl) (by decide) (by decide)) ?_); rintro e w1 (⟨rfl, hm, hN⟩ | ⟨rfl, hm, hN⟩)
  · obtain ⟨x0, x1, x2, t, rfl⟩ := len3 (show ¬ l.length < 3 by omega)
    replace hW := hN; refine .inl ⟨_, rfl, fun a hF => ?_⟩; replace hS := ((hW.del 0 rfl).del 0 rfl); refine ⟨hS, ?_⟩; clear hS; refine d_nil (by kernel_rfl) ?_; replace hF := hF.ks [0, 1] rfl; refine t_n <| c_r <| pv hF hW (y_move hF rfl) fun a hF => pv hF hW (y_loadOwn hF rfl 2 rfl rfl Try.underlying59 rfl) fun a hF => ?_; refine pe (e_callp hF rfl rfl en_25 (by rfl) rfl rfl (number_call (size := 8) (hW.front 0 rfl rfl) (by decide)) ?_); rintro e w1 (⟨n, r, rfl, hT, hN⟩ | ⟨rfl, hT, hN⟩)
    · replace hW := hN; refine .inl ⟨_, rfl, fun a hF => ?_⟩; refine pv hF hW (y_nilCheck hF rfl) fun a hF => pv hF hW (y_fieldOwn hF rfl fa_49_3) fun a hF => ?_; refine pe (e_store rfl hF hW rfl rfl 1 rfl rfl rfl sz_3 ?_); intro wc hW; refine l_nil ?_; replace hF := hF.ks [0, 1] rfl; refine end0 Try.results23 hF ?_; replace hW := hW.front 1 rfl rfl; replace hW := hW.front 2 rfl rfl; replace hW := hW.front 2 rfl rfl
      exact .inl ⟨⟨x0.toNat, x1.toNat, x2.toNat, n⟩, r, rfl, by unfold insP; rw [if_neg (by simp), hT]; rfl, hW⟩
    · replace hW := hN; refine .inr ⟨_, rfl, ?_⟩; refine endp hF ?_
      exact .inr ⟨rfl, by unfold insP; rw [if_neg (by simp), hT]; rfl, hW.none_⟩
  · replace hW := hN; refine .inr ⟨_, rfl, ?_⟩; refine t_p <| endp hF ?_
    exact .inr ⟨rfl, if_pos (by omega), hW.none_⟩
theorem chn_in {w : World} {X : Nat → Prop} {bg bp bx : Nat} {l : List UInt8} (hW : Wd w X [glassS bg l, glassP bp bg, .blk bx 52 [.int .i64 0, .int .i64 0, .int .i64 0]] w) :
    Calls Try.prog 29 #[.pointer (some ⟨bx, 0, none⟩), .pointer (some ⟨bp, 0, none⟩)] w fun e w' => (∃ y r, e = .returned (.tuple #[]) ∧ chnP l = some (y, r) ∧ Wd w X [glassS bg r, glassP bp bg, .blk bx 52 y.cells] w') ∨ (e = .panicked brkI ∧ chnP l = none ∧ Wd w X [] w') := by
  refine enter Try.func29 rfl Try.ntmps29 rfl fun a hF => c_d mixed_ok hW (((hW.del 0 rfl).del 1 rfl)) ?_
  clear hW; intro wc hW hS
  refine dv 0 rfl hF hS (y_loadOwn hF rfl 0 rfl rfl Try.underlying59 rfl) fun a hF => dv 1 rfl hF hS (y_move hF rfl) fun a hF => dv 2 rfl hF hS (y_nilCheck hF rfl) fun a hF => dv 3 rfl hF hS (y_fieldOwn hF rfl fa_52_0) fun a hF => dv 4 rfl hF hS (y_move hF rfl) fun a hF => dv 5 rfl hF hS (y_nilCheck hF rfl) fun a hF => dv 6 rfl hF hS (y_fieldOwn hF rfl fa_52_1) fun a hF => dv 7 rfl hF hS (y_move hF rfl) fun a hF => dv 8 rfl hF hS (y_nilCheck hF rfl) fun a hF => dv 9 rfl hF hS (y_fieldOwn hF rfl fa_52_2) fun a hF => d_1 10 (by kernel_rfl) ?_; refine d_op rfl rfl (e_buildSlice hF hW rfl (fun w => bs_ImgL_99_3_0_1_2 _ _ _ w) rfl rfl rfl ?_); intro b1 a wc hF hW; replace hS := (((hW.del 0 rfl).del 0 rfl).del 1 rfl); refine ⟨hS, ?_⟩; refine d_1 11 (by kernel_rfl) ?_; refine d_op rfl rfl (e_callp hF rfl rfl en_24 (by rfl) rfl rfl (into_call (m := 3) (((hW.front 0 rfl rfl).front 3 rfl rfl).front 2 rfl rfl) (by decide) (by decide)) ?_); rintro e w1 (⟨rfl, hm, hN⟩ | ⟨rfl, hm, hN⟩)
  · obtain ⟨x0, x1, x2, t, rfl⟩ := len3 (show ¬ l.length < 3 by omega)
    replace hW := hN; refine .inl ⟨_, rfl, fun a hF => ?_⟩; replace hS := ((hW.del 0 rfl).del 0 rfl); refine ⟨hS, ?_⟩; clear hS; refine d_nil (by kernel_rfl) ?_; replace hF := hF.ks [0, 1] rfl; refine end0 Try.results29 hF ?_; replace hW := hW.front 1 rfl rfl; replace hW := hW.front 2 rfl rfl; replace hW := hW.front 2 rfl rfl
    exact .inl ⟨⟨x0.toNat, x1.toNat, x2.toNat⟩, t, rfl, by unfold chnP; rw [if_neg (by simp)]; rfl, hW⟩
  · replace hW := hN; refine .inr ⟨_, rfl, ?_⟩; refine endp hF ?_
    exact .inr ⟨rfl, if_pos (by omega), hW.none_⟩
theorem slt_in {w : World} {X : Nat → Prop} {bg bp bx : Nat} {l : List UInt8} (hW : Wd w X [glassS bg l, glassP bp bg, .blk bx 54 [.int .i64 0, .int .i64 0]] w) :
    Calls Try.prog 31 #[.pointer (some ⟨bx, 0, none⟩), .pointer (some ⟨bp, 0, none⟩)] w fun e w' => (∃ y r, e = .returned (.tuple #[]) ∧ sltP l = some (y, r) ∧ Wd w X [glassS bg r, glassP bp bg, .blk bx 54 y.cells] w') ∨ (e = .panicked brkI ∧ sltP l = none ∧ Wd w X [] w') := by
  refine enter Try.func31 rfl Try.ntmps31 rfl fun a hF => c_d mixed_ok hW (((hW.del 0 rfl).del 1 rfl)) ?_
  clear hW; intro wc hW hS
  refine dv 0 rfl hF hS (y_loadOwn hF rfl 0 rfl rfl Try.underlying59 rfl) fun a hF => dv 1 rfl hF hS (y_move hF rfl) fun a hF => dv 2 rfl hF hS (y_nilCheck hF rfl) fun a hF => dv 3 rfl hF hS (y_fieldOwn hF rfl fa_54_0) fun a hF => dv 4 rfl hF hS (y_move hF rfl) fun a hF => dv 5 rfl hF hS (y_nilCheck hF rfl) fun a hF => dv 6 rfl hF hS (y_fieldOwn hF rfl fa_54_1) fun a hF => d_1 7 (by kernel_rfl) ?_; refine d_op rfl rfl (e_buildSlice hF hW rfl (fun w => bs_ImgL_99_2_0_1 _ _ w) rfl rfl rfl ?_); intro b1 a wc hF hW; replace hS := (((hW.del 0 rfl).del 0 rfl).del 1 rfl); refine ⟨hS, ?_⟩; refine d_1 8 (by kernel_rfl) ?_; refine d_op rfl rfl (e_callp hF rfl rfl en_24 (by rfl) rfl rfl (into_call (m := 2) (((hW.front 0 rfl rfl).front 3 rfl rfl).front 2 rfl rfl) (by decide) (by decide)) ?_); rintro e w1 (⟨rfl, hm, hN⟩ | ⟨rfl, hm, hN⟩)
  · obtain ⟨x0, x1, t, rfl⟩ := len2 (show ¬ l.length < 2 by omega)
    replace hW := hN; refine .inl ⟨_, rfl, fun a hF => ?_⟩; replace hS := ((hW.del 0 rfl).del 0 rfl); refine ⟨hS, ?_⟩; clear hS; refine d_nil (by kernel_rfl) ?_; replace hF := hF.ks [0, 1] rfl; refine end0 Try.results31 hF ?_; replace hW := hW.front 1 rfl rfl; replace hW := hW.front 2 rfl rfl; replace hW := hW.front 2 rfl rfl
    exact .inl ⟨⟨x0.toNat, x1.toNat⟩, t, rfl, by unfold sltP; rw [if_neg (by simp)]; rfl, hW⟩
  · replace hW := hN; refine .inr ⟨_, rfl, ?_⟩; refine endp hF ?_
    exact .inr ⟨rfl, if_pos (by omega), hW.none_⟩
theorem int_in {w : World} {X : Nat → Prop} {bg bp bx : Nat} {l : List UInt8} (hW : Wd w X [glassS bg l, glassP bp bg, .blk bx 3 [.int .i64 0]] w) :
    Calls Try.prog 27 #[.pointer (some ⟨bx, 0, none⟩), .pointer (some ⟨bp, 0, none⟩)] w fun e w' => (∃ y r, e = .returned (.tuple #[]) ∧ numOf 8 l = some (y, r) ∧ Wd w X [glassS bg r, glassP bp bg, .blk bx 3 (encI y)] w') ∨ (e = .panicked brkI ∧ numOf 8 l = none ∧ Wd w X [] w') := by
  refine enter Try.func27 rfl Try.ntmps27 rfl fun a hF => c_r <| pv hF hW (y_move hF rfl) fun a hF => pv hF hW (y_loadOwn hF rfl 1 rfl rfl Try.underlying59 rfl) fun a hF => ?_; refine pe (e_callp hF rfl rfl en_25 (by rfl) rfl rfl (number_call (size := 8) (hW.front 0 rfl rfl) (by decide)) ?_); rintro e w1 (⟨n, r, rfl, hT, hN⟩ | ⟨rfl, hT, hN⟩)
  · replace hW := hN; refine .inl ⟨_, rfl, fun a hF => ?_⟩; refine pv hF hW (y_nilCheck hF rfl) fun a hF => ?_; refine pe (e_store rfl hF hW rfl rfl 2 rfl rfl rfl sz_3 ?_); intro wc hW; refine l_nil ?_; replace hF := hF.ks [0, 1] rfl; refine end0 Try.results27 hF ?_
    exact .inl ⟨n, r, rfl, hT, hW⟩
  · replace hW := hN; refine .inr ⟨_, rfl, ?_⟩; refine endp hF ?_
    exact .inr ⟨rfl, hT, hW.none_⟩
theorem onei_ins (bp : Nat) : OneI 23 bp 49 [.int .i64 0, .int .i64 0, .int .i64 0, .int .i64 0] id Ins.cells (fun _ _ => True) insP := fun w0 w X es bg bx l hW => by
  obtain ⟨X', hL, hback⟩ := Own.lendI [_, _, _] hW
  refine (ins_in hL).mono ?_
  rintro e w' (⟨y, r, rfl, h1, hN⟩ | ⟨rfl, h1, hN⟩)
  · refine .inl ⟨y, r, rfl, h1, ?_⟩
    have h2 := ((hback _ _ hN).free (R := fun _ => True) (fun _ => trivial))
    exact ((h2.front 3 rfl rfl).front 3 rfl rfl).front 3 rfl rfl
  · exact .inr ⟨rfl, h1, hback _ _ hN⟩
theorem onei_chn (bp : Nat) : OneI 29 bp 52 [.int .i64 0, .int .i64 0, .int .i64 0] id Chn.cells (fun _ _ => True) chnP := fun w0 w X es bg bx l hW => by
  obtain ⟨X', hL, hback⟩ := Own.lendI [_, _, _] hW
  refine (chn_in hL).mono ?_
  rintro e w' (⟨y, r, rfl, h1, hN⟩ | ⟨rfl, h1, hN⟩)
  · refine .inl ⟨y, r, rfl, h1, ?_⟩
    have h2 := ((hback _ _ hN).free (R := fun _ => True) (fun _ => trivial))
    exact ((h2.front 3 rfl rfl).front 3 rfl rfl).front 3 rfl rfl
  · exact .inr ⟨rfl, h1, hback _ _ hN⟩
theorem onei_slt (bp : Nat) : OneI 31 bp 54 [.int .i64 0, .int .i64 0] id Slt.cells (fun _ _ => True) sltP := fun w0 w X es bg bx l hW => by
  obtain ⟨X', hL, hback⟩ := Own.lendI [_, _, _] hW
  refine (slt_in hL).mono ?_
  rintro e w' (⟨y, r, rfl, h1, hN⟩ | ⟨rfl, h1, hN⟩)
  · refine .inl ⟨y, r, rfl, h1, ?_⟩
    have h2 := ((hback _ _ hN).free (R := fun _ => True) (fun _ => trivial))
    exact ((h2.front 3 rfl rfl).front 3 rfl rfl).front 3 rfl rfl
  · exact .inr ⟨rfl, h1, hback _ _ hN⟩
theorem onei_int (bp : Nat) : OneI 27 bp 3 [.int .i64 0] id encI (fun _ _ => True) (numOf 8) := fun w0 w X es bg bx l hW => by
  obtain ⟨X', hL, hback⟩ := Own.lendI [_, _, _] hW
  refine (int_in hL).mono ?_
  rintro e w' (⟨y, r, rfl, h1, hN⟩ | ⟨rfl, h1, hN⟩)
  · refine .inl ⟨y, r, rfl, h1, ?_⟩
    have h2 := ((hback _ _ hN).free (R := fun _ => True) (fun _ => trivial))
    exact ((h2.front 3 rfl rfl).front 3 rfl rfl).front 3 rfl rfl
  · exact .inr ⟨rfl, h1, hback _ _ hN⟩
set_option maxHeartbeats 4000000 in
theorem prt_in {w : World} {X : Nat → Prop} {bg bp bx : Nat} {l : List UInt8} (hW : Wd w X [glassS bg l, glassP bp bg, .blk bx 47 [.slice none 0 0, .slice none 0 0]] w) :
    Calls Try.prog 21 #[.pointer (some ⟨bx, 0, none⟩), .pointer (some ⟨bp, 0, none⟩)] w fun e w' => (∃ (y : PP) (r : List UInt8), e = .returned (.tuple #[]) ∧ prtP l = some (y.1, r) ∧ Wd w X [glassS bg r, glassP bp bg, .blk bx 47 (encP y), .res y.At] w') ∨ (e = .panicked brkI ∧ prtP l = none ∧ Wd w X [] w') := by
  refine enter Try.func21 rfl Try.ntmps21 rfl fun a hF => c_sr <| pv hF hW (y_move hF rfl) fun a hF => pv hF hW (y_loadOwn hF rfl 1 rfl rfl Try.underlying59 rfl) fun a hF => pv hF hW (y_makeFunc hF rfl) fun a hF => ?_; refine pe (e_callp hF rfl rfl en_22 (by rfl) rfl rfl (list_ins_call en_23 (onei_ins bp) ((hW.front 1 rfl rfl).front 1 rfl rfl)) ?_); rintro e w1 (⟨xs, r, A1, c1, rfl, hT, hN⟩ | ⟨rfl, hT, hN⟩)
  · replace hW := hN; refine .inl ⟨_, rfl, fun a hF => ?_⟩; refine pv hF hW (y_nilCheck hF rfl) fun a hF => pv hF hW (y_fieldOwn hF rfl fa_47_0) fun a hF => ?_; refine pe (e_store rfl hF hW rfl rfl 4 rfl rfl rfl sz_44 ?_); intro wc hW; refine l_nil ?_; replace hF := hF.ks [0, 1] rfl; refine t_n <| c_r <| pv hF hW (y_move hF rfl) fun a hF => pv hF hW (y_loadOwn hF rfl 3 rfl rfl Try.underlying59 rfl) fun a hF => pv hF hW (y_makeFunc hF rfl) fun a hF => ?_; refine pe (e_callp hF rfl rfl en_26 (by rfl) rfl rfl (list_int_call en_27 (onei_int bp) ((hW.front 3 rfl rfl).front 3 rfl rfl)) ?_); rintro e w1 (⟨ys, r2, A2, c2, rfl, hT2, hN⟩ | ⟨rfl, hT2, hN⟩)
    · replace hW := hN; refine .inl ⟨_, rfl, fun a hF => ?_⟩; refine pv hF hW (y_nilCheck hF rfl) fun a hF => pv hF hW (y_fieldOwn hF rfl fa_47_1) fun a hF => ?_; refine pe (e_store rfl hF hW rfl rfl 6 rfl rfl rfl sz_45 ?_); intro wc hW; refine l_nil ?_; replace hF := hF.ks [0, 1] rfl; refine end0 Try.results21 hF ?_; replace hW := hW.del 1 rfl; replace hW := hW.del 4 rfl; replace hW := hW.front 4 rfl rfl; replace hW := hW.front 3 rfl rfl; replace hW := hW.front 3 rfl rfl; replace hW := hW.front 3 rfl rfl; replace hW := hW.front 4 rfl rfl
      have hW2 := ((hW.row_res 0 rfl).row_res 1 rfl).res2 (R := PP.At (⟨xs, ys⟩, ⟨A1, c1, A2, c2⟩)) fun u h1 h2 => ⟨Flat.of_own h1 rfl, Ints.of_own (l := ys) (by rw [← encI_map]; exact h2)⟩
      rw [List.map_id] at hT hT2
      exact .inl ⟨(⟨xs, ys⟩, ⟨A1, c1, A2, c2⟩), r2, rfl, by unfold prtP; rw [hT, Option.bind_some, hT2]; rfl, ((hW2.front 3 rfl rfl).front 3 rfl rfl).front 3 rfl rfl⟩
    · replace hW := hN; refine .inr ⟨_, rfl, ?_⟩; refine endp hF ?_
      rw [List.map_id] at hT
      exact .inr ⟨rfl, by unfold prtP; rw [hT, Option.bind_some, hT2]; rfl, hW.none_⟩
  · replace hW := hN; refine .inr ⟨_, rfl, ?_⟩; refine t_p <| endp hF ?_
    exact .inr ⟨rfl, by unfold prtP; rw [hT]; rfl, hW.none_⟩
theorem onei_prt (bp : Nat) : OneI 21 bp 47 [.slice none 0 0, .slice none 0 0] Prod.fst encP PP.At prtP := fun w0 w X es bg bx l hW => by
  obtain ⟨X', hL, hback⟩ := Own.lendI [_, _, _] hW
  refine (prt_in hL).mono ?_
  rintro e w' (⟨y, r, rfl, h1, hN⟩ | ⟨rfl, h1, hN⟩)
  · exact .inl ⟨y, r, rfl, h1, hback _ _ hN⟩
  · exact .inr ⟨rfl, h1, hback _ _ hN⟩
end Go.Proofs.Ytnpflhaggfabnaa
