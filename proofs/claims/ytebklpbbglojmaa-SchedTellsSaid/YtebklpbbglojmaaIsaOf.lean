/- isa.of answers an operation's word and fields. -/
import Derived.Test.YtebklpbbglojmaaIsaShapes
namespace Go.Proofs.Ytebklpbbglojmaa
set_option linter.unusedVariables false
set_option linter.unusedSimpArgs false
open Go.RowKit

def wordB (op : Int) : ByteArray := match op.toNat with
  | 1 => ⟨#[115, 101, 116]⟩
  | 2 => ⟨#[99, 111, 112, 121]⟩
  | 3 => ⟨#[97, 100, 100]⟩
  | 4 => ⟨#[115, 117, 98]⟩
  | 5 => ⟨#[108, 101, 115, 115]⟩
  | 6 => ⟨#[108, 111, 97, 100]⟩
  | 7 => ⟨#[115, 97, 118, 101]⟩
  | 8 => ⟨#[106, 117, 109, 112]⟩
  | 9 => ⟨#[122, 101, 114, 111]⟩
  | 10 => ⟨#[105, 110]⟩
  | 11 => ⟨#[111, 117, 116]⟩
  | 12 => ⟨#[112, 117, 116]⟩
  | 13 => ⟨#[103, 101, 116]⟩
  | 14 => ⟨#[114, 101, 115, 116]⟩
  | 15 => ⟨#[115, 116, 111, 112]⟩
  | _ => ⟨#[]⟩
def fieldB (op : Int) : ByteArray := match op.toNat with
  | 1 => ⟨#[65, 78]⟩
  | 2 => ⟨#[65, 66]⟩
  | 3 => ⟨#[65, 66]⟩
  | 4 => ⟨#[65, 66]⟩
  | 5 => ⟨#[65, 66]⟩
  | 6 => ⟨#[65, 66]⟩
  | 7 => ⟨#[65, 66]⟩
  | 8 => ⟨#[78]⟩
  | 9 => ⟨#[65, 78]⟩
  | 10 => ⟨#[65]⟩
  | 11 => ⟨#[65]⟩
  | 12 => ⟨#[65, 78]⟩
  | 13 => ⟨#[65, 66, 78]⟩
  | 14 => ⟨#[]⟩
  | 15 => ⟨#[]⟩
  | _ => ⟨#[]⟩
theorem op_cases {op : Int} (h : 1 ≤ op ∧ op ≤ 15) : op = 1 ∨ op = 2 ∨ op = 3 ∨ op = 4 ∨ op = 5 ∨ op = 6 ∨ op = 7 ∨ op = 8 ∨ op = 9 ∨ op = 10 ∨ op = 11 ∨ op = 12 ∨ op = 13 ∨ op = 14 ∨ op = 15 := by omega

theorem of_1 (w : World) : Calls Try.prog 94 #[.int .i64 1] w fun e w' => e = .returned (.tuple #[.agg #[.string (wordB 1), .string (fieldB 1)], .bool true]) ∧ Below w.heap.size w w' := by
  have hi : ∀ w, (Instr.index 147 shapesV (.int .i64 1)).run Try.prog w = .ok (.agg #[.string (wordB 1), .string (fieldB 1)]) w := fun _ => by kernel_rfl
  go_enter Try.func94, Try.ntmps94
  go_wp2_with (go_at_call 106; refine (shapes_any _).mono ?_; rintro e w1 ⟨rfl, hb⟩; obtain ⟨hc1, hf1⟩ := bcell hb; (try simp only [World.heap_drewN, World.cell?_drewN, World.frozen?_drewN] at hc1 hf1); have hs1 := hb.size; (try simp at hs1); have z0w1 : w.heap.size < w1.heap.size := (by omega))
  refine bodyPost_ret (v := .tuple #[.agg #[.string (wordB 1), .string (fieldB 1)], .bool true]) ?_ rfl ?_
  · simp [results, Try.results94, go_sem, *]
  exact ⟨rfl, (by repeat' (first | exact Below.refl _ _ | assumption | refine Below.alloc1 ?_ _ | refine Below.drewN1 ?_ _ | refine Below.drew ?_ | refine Below.setCell1 ?_ ?_ _ | refine Below.via ?_ (by assumption) | refine Below.viaD ?_ (by assumption) | omega | (simp; done) | (simp; omega)))⟩
theorem of_2 (w : World) : Calls Try.prog 94 #[.int .i64 2] w fun e w' => e = .returned (.tuple #[.agg #[.string (wordB 2), .string (fieldB 2)], .bool true]) ∧ Below w.heap.size w w' := by
  have hi : ∀ w, (Instr.index 147 shapesV (.int .i64 2)).run Try.prog w = .ok (.agg #[.string (wordB 2), .string (fieldB 2)]) w := fun _ => by kernel_rfl
  go_enter Try.func94, Try.ntmps94
  go_wp2_with (go_at_call 106; refine (shapes_any _).mono ?_; rintro e w1 ⟨rfl, hb⟩; obtain ⟨hc1, hf1⟩ := bcell hb; (try simp only [World.heap_drewN, World.cell?_drewN, World.frozen?_drewN] at hc1 hf1); have hs1 := hb.size; (try simp at hs1); have z0w1 : w.heap.size < w1.heap.size := (by omega))
  refine bodyPost_ret (v := .tuple #[.agg #[.string (wordB 2), .string (fieldB 2)], .bool true]) ?_ rfl ?_
  · simp [results, Try.results94, go_sem, *]
  exact ⟨rfl, (by repeat' (first | exact Below.refl _ _ | assumption | refine Below.alloc1 ?_ _ | refine Below.drewN1 ?_ _ | refine Below.drew ?_ | refine Below.setCell1 ?_ ?_ _ | refine Below.via ?_ (by assumption) | refine Below.viaD ?_ (by assumption) | omega | (simp; done) | (simp; omega)))⟩
theorem of_3 (w : World) : Calls Try.prog 94 #[.int .i64 3] w fun e w' => e = .returned (.tuple #[.agg #[.string (wordB 3), .string (fieldB 3)], .bool true]) ∧ Below w.heap.size w w' := by
  have hi : ∀ w, (Instr.index 147 shapesV (.int .i64 3)).run Try.prog w = .ok (.agg #[.string (wordB 3), .string (fieldB 3)]) w := fun _ => by kernel_rfl
  go_enter Try.func94, Try.ntmps94
  go_wp2_with (go_at_call 106; refine (shapes_any _).mono ?_; rintro e w1 ⟨rfl, hb⟩; obtain ⟨hc1, hf1⟩ := bcell hb; (try simp only [World.heap_drewN, World.cell?_drewN, World.frozen?_drewN] at hc1 hf1); have hs1 := hb.size; (try simp at hs1); have z0w1 : w.heap.size < w1.heap.size := (by omega))
  refine bodyPost_ret (v := .tuple #[.agg #[.string (wordB 3), .string (fieldB 3)], .bool true]) ?_ rfl ?_
  · simp [results, Try.results94, go_sem, *]
  exact ⟨rfl, (by repeat' (first | exact Below.refl _ _ | assumption | refine Below.alloc1 ?_ _ | refine Below.drewN1 ?_ _ | refine Below.drew ?_ | refine Below.setCell1 ?_ ?_ _ | refine Below.via ?_ (by assumption) | refine Below.viaD ?_ (by assumption) | omega | (simp; done) | (simp; omega)))⟩
theorem of_4 (w : World) : Calls Try.prog 94 #[.int .i64 4] w fun e w' => e = .returned (.tuple #[.agg #[.string (wordB 4), .string (fieldB 4)], .bool true]) ∧ Below w.heap.size w w' := by
  have hi : ∀ w, (Instr.index 147 shapesV (.int .i64 4)).run Try.prog w = .ok (.agg #[.string (wordB 4), .string (fieldB 4)]) w := fun _ => by kernel_rfl
  go_enter Try.func94, Try.ntmps94
  go_wp2_with (go_at_call 106; refine (shapes_any _).mono ?_; rintro e w1 ⟨rfl, hb⟩; obtain ⟨hc1, hf1⟩ := bcell hb; (try simp only [World.heap_drewN, World.cell?_drewN, World.frozen?_drewN] at hc1 hf1); have hs1 := hb.size; (try simp at hs1); have z0w1 : w.heap.size < w1.heap.size := (by omega))
  refine bodyPost_ret (v := .tuple #[.agg #[.string (wordB 4), .string (fieldB 4)], .bool true]) ?_ rfl ?_
  · simp [results, Try.results94, go_sem, *]
  exact ⟨rfl, (by repeat' (first | exact Below.refl _ _ | assumption | refine Below.alloc1 ?_ _ | refine Below.drewN1 ?_ _ | refine Below.drew ?_ | refine Below.setCell1 ?_ ?_ _ | refine Below.via ?_ (by assumption) | refine Below.viaD ?_ (by assumption) | omega | (simp; done) | (simp; omega)))⟩
theorem of_5 (w : World) : Calls Try.prog 94 #[.int .i64 5] w fun e w' => e = .returned (.tuple #[.agg #[.string (wordB 5), .string (fieldB 5)], .bool true]) ∧ Below w.heap.size w w' := by
  have hi : ∀ w, (Instr.index 147 shapesV (.int .i64 5)).run Try.prog w = .ok (.agg #[.string (wordB 5), .string (fieldB 5)]) w := fun _ => by kernel_rfl
  go_enter Try.func94, Try.ntmps94
  go_wp2_with (go_at_call 106; refine (shapes_any _).mono ?_; rintro e w1 ⟨rfl, hb⟩; obtain ⟨hc1, hf1⟩ := bcell hb; (try simp only [World.heap_drewN, World.cell?_drewN, World.frozen?_drewN] at hc1 hf1); have hs1 := hb.size; (try simp at hs1); have z0w1 : w.heap.size < w1.heap.size := (by omega))
  refine bodyPost_ret (v := .tuple #[.agg #[.string (wordB 5), .string (fieldB 5)], .bool true]) ?_ rfl ?_
  · simp [results, Try.results94, go_sem, *]
  exact ⟨rfl, (by repeat' (first | exact Below.refl _ _ | assumption | refine Below.alloc1 ?_ _ | refine Below.drewN1 ?_ _ | refine Below.drew ?_ | refine Below.setCell1 ?_ ?_ _ | refine Below.via ?_ (by assumption) | refine Below.viaD ?_ (by assumption) | omega | (simp; done) | (simp; omega)))⟩
theorem of_6 (w : World) : Calls Try.prog 94 #[.int .i64 6] w fun e w' => e = .returned (.tuple #[.agg #[.string (wordB 6), .string (fieldB 6)], .bool true]) ∧ Below w.heap.size w w' := by
  have hi : ∀ w, (Instr.index 147 shapesV (.int .i64 6)).run Try.prog w = .ok (.agg #[.string (wordB 6), .string (fieldB 6)]) w := fun _ => by kernel_rfl
  go_enter Try.func94, Try.ntmps94
  go_wp2_with (go_at_call 106; refine (shapes_any _).mono ?_; rintro e w1 ⟨rfl, hb⟩; obtain ⟨hc1, hf1⟩ := bcell hb; (try simp only [World.heap_drewN, World.cell?_drewN, World.frozen?_drewN] at hc1 hf1); have hs1 := hb.size; (try simp at hs1); have z0w1 : w.heap.size < w1.heap.size := (by omega))
  refine bodyPost_ret (v := .tuple #[.agg #[.string (wordB 6), .string (fieldB 6)], .bool true]) ?_ rfl ?_
  · simp [results, Try.results94, go_sem, *]
  exact ⟨rfl, (by repeat' (first | exact Below.refl _ _ | assumption | refine Below.alloc1 ?_ _ | refine Below.drewN1 ?_ _ | refine Below.drew ?_ | refine Below.setCell1 ?_ ?_ _ | refine Below.via ?_ (by assumption) | refine Below.viaD ?_ (by assumption) | omega | (simp; done) | (simp; omega)))⟩
theorem of_7 (w : World) : Calls Try.prog 94 #[.int .i64 7] w fun e w' => e = .returned (.tuple #[.agg #[.string (wordB 7), .string (fieldB 7)], .bool true]) ∧ Below w.heap.size w w' := by
  have hi : ∀ w, (Instr.index 147 shapesV (.int .i64 7)).run Try.prog w = .ok (.agg #[.string (wordB 7), .string (fieldB 7)]) w := fun _ => by kernel_rfl
  go_enter Try.func94, Try.ntmps94
  go_wp2_with (go_at_call 106; refine (shapes_any _).mono ?_; rintro e w1 ⟨rfl, hb⟩; obtain ⟨hc1, hf1⟩ := bcell hb; (try simp only [World.heap_drewN, World.cell?_drewN, World.frozen?_drewN] at hc1 hf1); have hs1 := hb.size; (try simp at hs1); have z0w1 : w.heap.size < w1.heap.size := (by omega))
  refine bodyPost_ret (v := .tuple #[.agg #[.string (wordB 7), .string (fieldB 7)], .bool true]) ?_ rfl ?_
  · simp [results, Try.results94, go_sem, *]
  exact ⟨rfl, (by repeat' (first | exact Below.refl _ _ | assumption | refine Below.alloc1 ?_ _ | refine Below.drewN1 ?_ _ | refine Below.drew ?_ | refine Below.setCell1 ?_ ?_ _ | refine Below.via ?_ (by assumption) | refine Below.viaD ?_ (by assumption) | omega | (simp; done) | (simp; omega)))⟩
theorem of_8 (w : World) : Calls Try.prog 94 #[.int .i64 8] w fun e w' => e = .returned (.tuple #[.agg #[.string (wordB 8), .string (fieldB 8)], .bool true]) ∧ Below w.heap.size w w' := by
  have hi : ∀ w, (Instr.index 147 shapesV (.int .i64 8)).run Try.prog w = .ok (.agg #[.string (wordB 8), .string (fieldB 8)]) w := fun _ => by kernel_rfl
  go_enter Try.func94, Try.ntmps94
  go_wp2_with (go_at_call 106; refine (shapes_any _).mono ?_; rintro e w1 ⟨rfl, hb⟩; obtain ⟨hc1, hf1⟩ := bcell hb; (try simp only [World.heap_drewN, World.cell?_drewN, World.frozen?_drewN] at hc1 hf1); have hs1 := hb.size; (try simp at hs1); have z0w1 : w.heap.size < w1.heap.size := (by omega))
  refine bodyPost_ret (v := .tuple #[.agg #[.string (wordB 8), .string (fieldB 8)], .bool true]) ?_ rfl ?_
  · simp [results, Try.results94, go_sem, *]
  exact ⟨rfl, (by repeat' (first | exact Below.refl _ _ | assumption | refine Below.alloc1 ?_ _ | refine Below.drewN1 ?_ _ | refine Below.drew ?_ | refine Below.setCell1 ?_ ?_ _ | refine Below.via ?_ (by assumption) | refine Below.viaD ?_ (by assumption) | omega | (simp; done) | (simp; omega)))⟩
theorem of_9 (w : World) : Calls Try.prog 94 #[.int .i64 9] w fun e w' => e = .returned (.tuple #[.agg #[.string (wordB 9), .string (fieldB 9)], .bool true]) ∧ Below w.heap.size w w' := by
  have hi : ∀ w, (Instr.index 147 shapesV (.int .i64 9)).run Try.prog w = .ok (.agg #[.string (wordB 9), .string (fieldB 9)]) w := fun _ => by kernel_rfl
  go_enter Try.func94, Try.ntmps94
  go_wp2_with (go_at_call 106; refine (shapes_any _).mono ?_; rintro e w1 ⟨rfl, hb⟩; obtain ⟨hc1, hf1⟩ := bcell hb; (try simp only [World.heap_drewN, World.cell?_drewN, World.frozen?_drewN] at hc1 hf1); have hs1 := hb.size; (try simp at hs1); have z0w1 : w.heap.size < w1.heap.size := (by omega))
  refine bodyPost_ret (v := .tuple #[.agg #[.string (wordB 9), .string (fieldB 9)], .bool true]) ?_ rfl ?_
  · simp [results, Try.results94, go_sem, *]
  exact ⟨rfl, (by repeat' (first | exact Below.refl _ _ | assumption | refine Below.alloc1 ?_ _ | refine Below.drewN1 ?_ _ | refine Below.drew ?_ | refine Below.setCell1 ?_ ?_ _ | refine Below.via ?_ (by assumption) | refine Below.viaD ?_ (by assumption) | omega | (simp; done) | (simp; omega)))⟩
theorem of_10 (w : World) : Calls Try.prog 94 #[.int .i64 10] w fun e w' => e = .returned (.tuple #[.agg #[.string (wordB 10), .string (fieldB 10)], .bool true]) ∧ Below w.heap.size w w' := by
  have hi : ∀ w, (Instr.index 147 shapesV (.int .i64 10)).run Try.prog w = .ok (.agg #[.string (wordB 10), .string (fieldB 10)]) w := fun _ => by kernel_rfl
  go_enter Try.func94, Try.ntmps94
  go_wp2_with (go_at_call 106; refine (shapes_any _).mono ?_; rintro e w1 ⟨rfl, hb⟩; obtain ⟨hc1, hf1⟩ := bcell hb; (try simp only [World.heap_drewN, World.cell?_drewN, World.frozen?_drewN] at hc1 hf1); have hs1 := hb.size; (try simp at hs1); have z0w1 : w.heap.size < w1.heap.size := (by omega))
  refine bodyPost_ret (v := .tuple #[.agg #[.string (wordB 10), .string (fieldB 10)], .bool true]) ?_ rfl ?_
  · simp [results, Try.results94, go_sem, *]
  exact ⟨rfl, (by repeat' (first | exact Below.refl _ _ | assumption | refine Below.alloc1 ?_ _ | refine Below.drewN1 ?_ _ | refine Below.drew ?_ | refine Below.setCell1 ?_ ?_ _ | refine Below.via ?_ (by assumption) | refine Below.viaD ?_ (by assumption) | omega | (simp; done) | (simp; omega)))⟩
theorem of_11 (w : World) : Calls Try.prog 94 #[.int .i64 11] w fun e w' => e = .returned (.tuple #[.agg #[.string (wordB 11), .string (fieldB 11)], .bool true]) ∧ Below w.heap.size w w' := by
  have hi : ∀ w, (Instr.index 147 shapesV (.int .i64 11)).run Try.prog w = .ok (.agg #[.string (wordB 11), .string (fieldB 11)]) w := fun _ => by kernel_rfl
  go_enter Try.func94, Try.ntmps94
  go_wp2_with (go_at_call 106; refine (shapes_any _).mono ?_; rintro e w1 ⟨rfl, hb⟩; obtain ⟨hc1, hf1⟩ := bcell hb; (try simp only [World.heap_drewN, World.cell?_drewN, World.frozen?_drewN] at hc1 hf1); have hs1 := hb.size; (try simp at hs1); have z0w1 : w.heap.size < w1.heap.size := (by omega))
  refine bodyPost_ret (v := .tuple #[.agg #[.string (wordB 11), .string (fieldB 11)], .bool true]) ?_ rfl ?_
  · simp [results, Try.results94, go_sem, *]
  exact ⟨rfl, (by repeat' (first | exact Below.refl _ _ | assumption | refine Below.alloc1 ?_ _ | refine Below.drewN1 ?_ _ | refine Below.drew ?_ | refine Below.setCell1 ?_ ?_ _ | refine Below.via ?_ (by assumption) | refine Below.viaD ?_ (by assumption) | omega | (simp; done) | (simp; omega)))⟩
theorem of_12 (w : World) : Calls Try.prog 94 #[.int .i64 12] w fun e w' => e = .returned (.tuple #[.agg #[.string (wordB 12), .string (fieldB 12)], .bool true]) ∧ Below w.heap.size w w' := by
  have hi : ∀ w, (Instr.index 147 shapesV (.int .i64 12)).run Try.prog w = .ok (.agg #[.string (wordB 12), .string (fieldB 12)]) w := fun _ => by kernel_rfl
  go_enter Try.func94, Try.ntmps94
  go_wp2_with (go_at_call 106; refine (shapes_any _).mono ?_; rintro e w1 ⟨rfl, hb⟩; obtain ⟨hc1, hf1⟩ := bcell hb; (try simp only [World.heap_drewN, World.cell?_drewN, World.frozen?_drewN] at hc1 hf1); have hs1 := hb.size; (try simp at hs1); have z0w1 : w.heap.size < w1.heap.size := (by omega))
  refine bodyPost_ret (v := .tuple #[.agg #[.string (wordB 12), .string (fieldB 12)], .bool true]) ?_ rfl ?_
  · simp [results, Try.results94, go_sem, *]
  exact ⟨rfl, (by repeat' (first | exact Below.refl _ _ | assumption | refine Below.alloc1 ?_ _ | refine Below.drewN1 ?_ _ | refine Below.drew ?_ | refine Below.setCell1 ?_ ?_ _ | refine Below.via ?_ (by assumption) | refine Below.viaD ?_ (by assumption) | omega | (simp; done) | (simp; omega)))⟩
theorem of_13 (w : World) : Calls Try.prog 94 #[.int .i64 13] w fun e w' => e = .returned (.tuple #[.agg #[.string (wordB 13), .string (fieldB 13)], .bool true]) ∧ Below w.heap.size w w' := by
  have hi : ∀ w, (Instr.index 147 shapesV (.int .i64 13)).run Try.prog w = .ok (.agg #[.string (wordB 13), .string (fieldB 13)]) w := fun _ => by kernel_rfl
  go_enter Try.func94, Try.ntmps94
  go_wp2_with (go_at_call 106; refine (shapes_any _).mono ?_; rintro e w1 ⟨rfl, hb⟩; obtain ⟨hc1, hf1⟩ := bcell hb; (try simp only [World.heap_drewN, World.cell?_drewN, World.frozen?_drewN] at hc1 hf1); have hs1 := hb.size; (try simp at hs1); have z0w1 : w.heap.size < w1.heap.size := (by omega))
  refine bodyPost_ret (v := .tuple #[.agg #[.string (wordB 13), .string (fieldB 13)], .bool true]) ?_ rfl ?_
  · simp [results, Try.results94, go_sem, *]
  exact ⟨rfl, (by repeat' (first | exact Below.refl _ _ | assumption | refine Below.alloc1 ?_ _ | refine Below.drewN1 ?_ _ | refine Below.drew ?_ | refine Below.setCell1 ?_ ?_ _ | refine Below.via ?_ (by assumption) | refine Below.viaD ?_ (by assumption) | omega | (simp; done) | (simp; omega)))⟩
theorem of_14 (w : World) : Calls Try.prog 94 #[.int .i64 14] w fun e w' => e = .returned (.tuple #[.agg #[.string (wordB 14), .string (fieldB 14)], .bool true]) ∧ Below w.heap.size w w' := by
  have hi : ∀ w, (Instr.index 147 shapesV (.int .i64 14)).run Try.prog w = .ok (.agg #[.string (wordB 14), .string (fieldB 14)]) w := fun _ => by kernel_rfl
  go_enter Try.func94, Try.ntmps94
  go_wp2_with (go_at_call 106; refine (shapes_any _).mono ?_; rintro e w1 ⟨rfl, hb⟩; obtain ⟨hc1, hf1⟩ := bcell hb; (try simp only [World.heap_drewN, World.cell?_drewN, World.frozen?_drewN] at hc1 hf1); have hs1 := hb.size; (try simp at hs1); have z0w1 : w.heap.size < w1.heap.size := (by omega))
  refine bodyPost_ret (v := .tuple #[.agg #[.string (wordB 14), .string (fieldB 14)], .bool true]) ?_ rfl ?_
  · simp [results, Try.results94, go_sem, *]
  exact ⟨rfl, (by repeat' (first | exact Below.refl _ _ | assumption | refine Below.alloc1 ?_ _ | refine Below.drewN1 ?_ _ | refine Below.drew ?_ | refine Below.setCell1 ?_ ?_ _ | refine Below.via ?_ (by assumption) | refine Below.viaD ?_ (by assumption) | omega | (simp; done) | (simp; omega)))⟩
theorem of_15 (w : World) : Calls Try.prog 94 #[.int .i64 15] w fun e w' => e = .returned (.tuple #[.agg #[.string (wordB 15), .string (fieldB 15)], .bool true]) ∧ Below w.heap.size w w' := by
  have hi : ∀ w, (Instr.index 147 shapesV (.int .i64 15)).run Try.prog w = .ok (.agg #[.string (wordB 15), .string (fieldB 15)]) w := fun _ => by kernel_rfl
  go_enter Try.func94, Try.ntmps94
  go_wp2_with (go_at_call 106; refine (shapes_any _).mono ?_; rintro e w1 ⟨rfl, hb⟩; obtain ⟨hc1, hf1⟩ := bcell hb; (try simp only [World.heap_drewN, World.cell?_drewN, World.frozen?_drewN] at hc1 hf1); have hs1 := hb.size; (try simp at hs1); have z0w1 : w.heap.size < w1.heap.size := (by omega))
  refine bodyPost_ret (v := .tuple #[.agg #[.string (wordB 15), .string (fieldB 15)], .bool true]) ?_ rfl ?_
  · simp [results, Try.results94, go_sem, *]
  exact ⟨rfl, (by repeat' (first | exact Below.refl _ _ | assumption | refine Below.alloc1 ?_ _ | refine Below.drewN1 ?_ _ | refine Below.drew ?_ | refine Below.setCell1 ?_ ?_ _ | refine Below.via ?_ (by assumption) | refine Below.viaD ?_ (by assumption) | omega | (simp; done) | (simp; omega)))⟩

theorem of_any (op : Int) (h : 1 ≤ op ∧ op ≤ 15) (w : World) : Calls Try.prog 94 #[.int .i64 op] w fun e w' => e = .returned (.tuple #[.agg #[.string (wordB op), .string (fieldB op)], .bool true]) ∧ Below w.heap.size w w' := by
  rcases op_cases h with rfl | rfl | rfl | rfl | rfl | rfl | rfl | rfl | rfl | rfl | rfl | rfl | rfl | rfl | rfl
  · exact of_1 w
  · exact of_2 w
  · exact of_3 w
  · exact of_4 w
  · exact of_5 w
  · exact of_6 w
  · exact of_7 w
  · exact of_8 w
  · exact of_9 w
  · exact of_10 w
  · exact of_11 w
  · exact of_12 w
  · exact of_13 w
  · exact of_14 w
  · exact of_15 w

theorem of_none (op : Int) (h : ¬ (1 ≤ op ∧ op ≤ 15)) (w : World) : Calls Try.prog 94 #[.int .i64 op] w fun e w' => e = .returned (.tuple #[.agg #[.string ⟨#[]⟩, .string ⟨#[]⟩], .bool false]) ∧ Below w.heap.size w w' := by
  by_cases h1 : op < 1
  · clear h
    have d1 : decide (op < 1) = true := by simpa using h1
    go_enter Try.func94, Try.ntmps94
    go_wp2
    refine bodyPost_ret (v := .tuple #[.agg #[.string ⟨#[]⟩, .string ⟨#[]⟩], .bool false]) ?_ rfl ?_
    · simp [results, Try.results94, go_sem]
    exact ⟨rfl, (by repeat' (first | exact Below.refl _ _ | assumption | refine Below.alloc1 ?_ _ | refine Below.drewN1 ?_ _ | refine Below.drew ?_ | refine Below.setCell1 ?_ ?_ _ | refine Below.via ?_ (by assumption) | refine Below.viaD ?_ (by assumption) | omega | (simp; done) | (simp; omega)))⟩
  · have h2 : 15 < op := by omega
    have d1 : decide (op < 1) = false := by simpa using h1
    have d2 : decide (15 < op) = true := by simpa using h2
    clear h h1
    go_enter Try.func94, Try.ntmps94
    go_wp2
    refine bodyPost_ret (v := .tuple #[.agg #[.string ⟨#[]⟩, .string ⟨#[]⟩], .bool false]) ?_ rfl ?_
    · simp [results, Try.results94, go_sem]
    exact ⟨rfl, (by repeat' (first | exact Below.refl _ _ | assumption | refine Below.alloc1 ?_ _ | refine Below.drewN1 ?_ _ | refine Below.drew ?_ | refine Below.setCell1 ?_ ?_ _ | refine Below.via ?_ (by assumption) | refine Below.viaD ?_ (by assumption) | omega | (simp; done) | (simp; omega)))⟩
end Go.Proofs.Ytebklpbbglojmaa
