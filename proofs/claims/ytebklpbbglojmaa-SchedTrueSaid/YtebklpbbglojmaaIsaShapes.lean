/- isa.shapes answers its table. -/
import Derived.Test.YtebklpbbglojmaaIsa
namespace Go.Proofs.Ytebklpbbglojmaa
set_option linter.unusedVariables false
set_option linter.unusedSimpArgs false
open Go.RowKit

/-- the table of shapes, as a value -/
def shapesC : Array Value := #[.string ⟨#[]⟩, .string ⟨#[]⟩, .string ⟨#[115, 101, 116]⟩, .string ⟨#[65, 78]⟩, .string ⟨#[99, 111, 112, 121]⟩, .string ⟨#[65, 66]⟩, .string ⟨#[97, 100, 100]⟩, .string ⟨#[65, 66]⟩, .string ⟨#[115, 117, 98]⟩, .string ⟨#[65, 66]⟩, .string ⟨#[108, 101, 115, 115]⟩, .string ⟨#[65, 66]⟩, .string ⟨#[108, 111, 97, 100]⟩, .string ⟨#[65, 66]⟩, .string ⟨#[115, 97, 118, 101]⟩, .string ⟨#[65, 66]⟩, .string ⟨#[106, 117, 109, 112]⟩, .string ⟨#[78]⟩, .string ⟨#[122, 101, 114, 111]⟩, .string ⟨#[65, 78]⟩, .string ⟨#[105, 110]⟩, .string ⟨#[65]⟩, .string ⟨#[111, 117, 116]⟩, .string ⟨#[65]⟩, .string ⟨#[112, 117, 116]⟩, .string ⟨#[65, 78]⟩, .string ⟨#[103, 101, 116]⟩, .string ⟨#[65, 66, 78]⟩, .string ⟨#[114, 101, 115, 116]⟩, .string ⟨#[]⟩, .string ⟨#[115, 116, 111, 112]⟩, .string ⟨#[]⟩]
abbrev shapesV : Value := .agg shapesC
theorem shapes_size : shapesC.size = 32 := by kernel_rfl
theorem shapes_one : shapesC.all (·.oneCell') = true := by kernel_rfl
theorem shapes_info : (Try.prog.info? 147).map (·.size) = some 32 := by kernel_rfl
theorem shapes_zero (w : World) : ∃ Z : Array Value, Z.size = 32 ∧ ∀ w, (zeroValue 147).run Try.prog w = .ok (.agg Z) w := ⟨Array.replicate 32 (.string ⟨#[]⟩), by simp, fun _ => by kernel_rfl⟩
set_option maxRecDepth 100000 in
set_option maxHeartbeats 1000000 in
theorem shapes_any (w : World) : Calls Try.prog 106 #[] w fun e w' => e = .returned shapesV ∧ Below w.heap.size w w' := by
  obtain ⟨Z, hz, hzr⟩ := shapes_zero w
  have HZ := hide hz
  clear hz
  go_enter Try.func106, Try.ntmps106
  go_upto_region 1 with fail
  refine wp_region_list ?_
  refine wpList_value rfl (.agg #[.string ⟨#[115, 101, 116]⟩, .string ⟨#[65, 78]⟩]) (by as_aux_lemma => kernel_rfl) ?_
  refine wpList_value rfl (.agg #[.string ⟨#[99, 111, 112, 121]⟩, .string ⟨#[65, 66]⟩]) (by as_aux_lemma => kernel_rfl) ?_
  refine wpList_value rfl (.agg #[.string ⟨#[97, 100, 100]⟩, .string ⟨#[65, 66]⟩]) (by as_aux_lemma => kernel_rfl) ?_
  refine wpList_value rfl (.agg #[.string ⟨#[115, 117, 98]⟩, .string ⟨#[65, 66]⟩]) (by as_aux_lemma => kernel_rfl) ?_
  refine wpList_value rfl (.agg #[.string ⟨#[108, 101, 115, 115]⟩, .string ⟨#[65, 66]⟩]) (by as_aux_lemma => kernel_rfl) ?_
  refine wpList_value rfl (.agg #[.string ⟨#[108, 111, 97, 100]⟩, .string ⟨#[65, 66]⟩]) (by as_aux_lemma => kernel_rfl) ?_
  refine wpList_value rfl (.agg #[.string ⟨#[115, 97, 118, 101]⟩, .string ⟨#[65, 66]⟩]) (by as_aux_lemma => kernel_rfl) ?_
  refine wpList_value rfl (.agg #[.string ⟨#[106, 117, 109, 112]⟩, .string ⟨#[78]⟩]) (by as_aux_lemma => kernel_rfl) ?_
  refine wpList_value rfl (.agg #[.string ⟨#[122, 101, 114, 111]⟩, .string ⟨#[65, 78]⟩]) (by as_aux_lemma => kernel_rfl) ?_
  refine wpList_value rfl (.agg #[.string ⟨#[105, 110]⟩, .string ⟨#[65]⟩]) (by as_aux_lemma => kernel_rfl) ?_
  refine wpList_value rfl (.agg #[.string ⟨#[111, 117, 116]⟩, .string ⟨#[65]⟩]) (by as_aux_lemma => kernel_rfl) ?_
  refine wpList_value rfl (.agg #[.string ⟨#[112, 117, 116]⟩, .string ⟨#[65, 78]⟩]) (by as_aux_lemma => kernel_rfl) ?_
  refine wpList_value rfl (.agg #[.string ⟨#[103, 101, 116]⟩, .string ⟨#[65, 66, 78]⟩]) (by as_aux_lemma => kernel_rfl) ?_
  refine wpList_value rfl (.agg #[.string ⟨#[114, 101, 115, 116]⟩, .string ⟨#[]⟩]) (by as_aux_lemma => kernel_rfl) ?_
  refine wpList_value rfl (.agg #[.string ⟨#[115, 116, 111, 112]⟩, .string ⟨#[]⟩]) (by as_aux_lemma => kernel_rfl) ?_
  refine wpList_value rfl (.agg shapesC) (by as_aux_lemma => kernel_rfl) ?_
  refine wpList_store_new rfl 147 (.tmp 0) (.tmp 16) rfl w 147 Z shapesC w.heap.size rfl (by as_aux_lemma => kernel_rfl) (by as_aux_lemma => kernel_rfl) (by rw [shapes_size]; exact shapes_info) (by rw [shapes_size]; exact HZ.out) shapes_one ?_
  refine wpList_nil ?_
  generalize hA : Act.put _ _ _ = A
  have h1 : A.tmps.getD 0 undef = .pointer (some ⟨w.heap.size, 0, none⟩) := by rw [← hA]; as_aux_lemma => kernel_rfl
  have h2 : A.defers = [] := by rw [← hA]; as_aux_lemma => kernel_rfl
  clear hA
  have H1 := hide h1
  have H2 := hide h2
  clear h1 h2
  go_wp2
  exact bodyPost_ret (v := shapesV) (results_cell_row rfl A.tmps _ w.heap.size 147 shapesC (0, 0) _ H1.out (heap_alloc_new w _) Try.underlying147 rfl (by rw [shapes_size]; exact shapes_info)) H2.out ⟨rfl, (by repeat' (first | exact Below.refl _ _ | assumption | refine Below.alloc1 ?_ _ | refine Below.drewN1 ?_ _ | refine Below.drew ?_ | refine Below.setCell1 ?_ ?_ _ | refine Below.via ?_ (by assumption) | refine Below.viaD ?_ (by assumption) | omega | (simp; done) | (simp; omega)))⟩
end Go.Proofs.Ytebklpbbglojmaa
