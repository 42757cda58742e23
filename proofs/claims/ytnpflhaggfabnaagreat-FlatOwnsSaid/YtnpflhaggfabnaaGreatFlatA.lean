/- flat.Lay: a world laid down as one row. -/
import Derived.Test.YtnpflhaggfabnaaGreatFlatPl
import Derived.Test.YtnpflhaggfabnaaGreatKernC
import Derived.Test.YtnpflhaggfabnaaGreatEngP
import Derived.Test.YtnpflhaggfabnaaGreatEngY
namespace Go.Proofs.YtnpflhaggfabnaaGreat
set_option linter.unusedVariables false
set_option linter.unusedSimpArgs false
open Go.ChangeShapes Go.WideShapes Go.ChangeAt Go.RowKit
theorem bs_FlatA_31_1_0 (x0 : Int) (w : World) : (Instr.buildSlice 31 1 #[(0, (.int .i64 x0))]).run Tryz.prog w = .ok (.slice (some ⟨w.heap.size, 0, none⟩) 1 1) (w.alloc (.cells #[(.int .i64 x0)] 3)) := by kernel_rfl
set_option maxRecDepth 100000

abbrev rowI (A : Option Addr) (c : Nat) (L : List Int) : Asn := .row 3 1 (.slice A L.length c) L.length (L.map (.int .i64))
/-- the row that is laid: where it is told, and itself -/
abbrev rowB (br : Nat) (A : Option Addr) (c : Nat) (L : List Int) : Asn := .blk br 78 [.slice A L.length c]
theorem put_in {w : World} {X : Nat → Prop} {br : Nat} {A A2 : Option Addr} {c c2 : Nat} {L M : List Int} (hW : Wd w X [rowB br A c L, rowI A c L] w) (hM : RowAt w 1 A2 M.length (M.map (.int .i64))) (hb : (L ++ M).length ≤ 1000) :
    Calls Tryz.prog 28 #[.pointer (some ⟨br, 0, none⟩), .slice A2 M.length c2] w fun e w' => ∃ A' c', e = .returned (.tuple #[]) ∧ Wd w X [rowB br A' c' (L ++ M), rowI A' c' (L ++ M)] w' := by
  rw [List.length_append] at hb
  refine enter Tryz.func28 rfl Tryz.ntmps28 rfl fun a hF => c_r <| pv hF hW (y_move hF rfl) fun a hF => pv hF hW (y_move hF rfl) fun a hF => pv hF hW (y_nilCheck hF rfl) fun a hF => pv hF hW (y_fieldOwn hF rfl fa_78_0) fun a hF => pv hF hW (y_loadOwn hF rfl 0 rfl rfl Tryz.underlying31 rfl) fun a hF => pv hF hW (y_move hF rfl) fun a hF => ?_; refine pe (e_append hF hW 1 rfl rfl rfl Tryz.underlying31 inf_3 rfl (by decide) (hM) (by exact oneCell_ints M) (show _ = (L ++ M).length by simp) (show _ = (L ++ M).map (.int .i64) by simp) (by first | omega | (simp; omega)) (by unfold maxLen; first | omega | (simp; omega)) rfl rfl ?_); intro A1 c2 a wc hF hW; refine pv hF hW (y_nilCheck hF rfl) fun a hF => pv hF hW (y_fieldOwn hF rfl fa_78_0) fun a hF => ?_; refine pe (e_store rfl hF hW rfl rfl 0 rfl rfl rfl sz_31 ?_); intro wc hW; refine l_nil ?_; replace hF := hF.ks [0, 1] rfl; refine end0 Tryz.results28 hF ?_
  exact ⟨_, _, rfl, hW⟩
theorem Own.lendX {w0 w : World} {X0 : Nat → Prop} {es : List Asn} (E : List Asn) (hW : Wd w0 X0 (E ++ es) w) : ∃ X : Nat → Prop, Wd w X E w ∧ ∀ w' E', Wd w X E' w' → Wd w0 X0 (E' ++ es) w' := by
  obtain ⟨Y, h1, h2, h3⟩ := Own.split E _ hW.own
  have hz := hW.size
  refine ⟨Y, ⟨Chg.refl _ _, h2⟩, fun w' E' hN => ?_⟩
  have hcX : Chg X0 w0 w' := by
    refine ⟨hN.chg.os.trans hW.chg.os, hN.chg.tape.trans hW.chg.tape, hN.chg.output.trans hW.chg.output, Nat.le_trans hz hN.chg.size, fun k hk hX => ?_⟩
    exact (hN.chg.block k (by omega) fun hy => (h1 k hy).1 ⟨hk, hX⟩).trans (hW.chg.block k hk hX)
  refine ⟨hcX, Own.combX hN.chg.size (fun k hk hy => hN.chg.block k hk hy) (fun k hy => .inr hy) E' _ _ hN.own (fun k hk => ⟨by omega, fun hy => (h1 k hy).1 hk⟩) (fun k _ hk => .inl hk) (fun k hk hn => ?_) h3⟩
  by_cases hy : Y k
  · exact .inr hy
  · exact absurd ⟨hk, hy⟩ hn
theorem put_call {w0 w : World} {X : Nat → Prop} {es : List Asn} {br : Nat} {A A2 : Option Addr} {c c2 m : Nat} {L M : List Int} (hW : Wd w0 X (rowB br A c L :: rowI A c L :: es) w) (hM : RowAt w 1 A2 m (M.map (.int .i64))) (hm : m = M.length) (hb : (L ++ M).length ≤ 1000) :
    Calls Tryz.prog 28 #[.pointer (some ⟨br, 0, none⟩), .slice A2 m c2] w fun e w' => ∃ A' c', e = .returned (.tuple #[]) ∧ Wd w0 X (rowB br A' c' (L ++ M) :: rowI A' c' (L ++ M) :: es) w' := by
  subst hm
  obtain ⟨X', hL, hback⟩ := Own.lendX [_, _] hW
  refine (put_in hL hM hb).mono ?_
  rintro e w' ⟨A', c', rfl, hN⟩
  exact ⟨A', c', rfl, hback _ _ hN⟩
theorem zeros_flat (n : Nat) : (List.replicate n [Value.int .i64 0]).flatten = (List.replicate n (0 : Int)).map (.int .i64) := by
  induction n with
  | zero => rfl
  | succ n ih => rw [List.replicate_succ, List.replicate_succ, List.flatten_cons, List.map_cons, ih]; rfl
theorem list_in {w : World} {X : Nat → Prop} {br : Nat} {A A2 : Option Addr} {c c2 size : Nat} {L M : List Int} (hW : Wd w X [rowB br A c L, rowI A c L] w) (hM : ∀ w', Wd w X [] w' → RowAt w' 1 A2 M.length (M.map (.int .i64))) (hs : M.length ≤ size) (hs2 : size ≤ 16) (hb : L.length ≤ 900) :
    Calls Tryz.prog 29 #[.pointer (some ⟨br, 0, none⟩), .slice A2 M.length c2, .int .i64 size] w fun e w' => ∃ A' c', e = .returned (.tuple #[]) ∧ Wd w X [rowB br A' c' (L ++ padL size M), rowI A' c' (L ++ padL size M)] w' := by
  refine enter Tryz.func29 rfl Tryz.ntmps29 rfl fun a hF => c_sr <| pv hF hW (y_move hF rfl) fun a hF => pv hF hW (y_move hF rfl) fun a hF => pv hF hW (y_len hF rfl Tryz.underlying31) fun a hF => ?_; refine pe (e_buildSlice hF hW rfl (fun w => bs_FlatA_31_1_0 _ w) rfl rfl rfl ?_); intro b1 a wc hF hW; refine pe (e_call hF rfl rfl en_28 (by rfl) rfl rfl (put_call (M := [(M.length : Int)]) ((hW.front 2 rfl rfl).front 2 rfl rfl) (rowAt_blk (hW.blk 0 rfl) 1 1 rfl) rfl (by simp; omega)) ?_); rintro e w1 ⟨A3, c3, rfl, hN⟩; replace hW := hN; refine ⟨_, rfl, fun a hF => ?_⟩; refine l_nil ?_; replace hF := hF.ks [0, 1, 2] rfl; refine t_n <| c_sr <| pv hF hW (y_move hF rfl) fun a hF => pv hF hW (y_move hF rfl) fun a hF => ?_; refine pe (e_call hF rfl rfl en_28 (by rfl) rfl rfl (put_call (M := M) ((hW.front 1 rfl rfl).front 1 rfl rfl) (hM _ hW.none_) rfl (by simp; omega)) ?_); rintro e w1 ⟨A4, c4, rfl, hN⟩; replace hW := hN; refine ⟨_, rfl, fun a hF => ?_⟩; refine l_nil ?_; replace hF := hF.ks [0, 1, 2] rfl; refine t_n <| c_r <| pv hF hW (y_move hF rfl) fun a hF => pv hF hW (y_move hF rfl) fun a hF => pv hF hW (y_move hF rfl) fun a hF => pv hF hW (y_len hF rfl Tryz.underlying31) fun a hF => pv hF hW (y_sub hF rfl rfl (IntWalk.i64_in _ (by omega))) fun a hF => ?_; replace hF := Fr.cast (v' := .int .i64 ((size - M.length : Nat) : Int)) (by congr 1; omega) hF; refine pe (e_makeSlice hF hW rfl rfl Tryz.underlying31 inf_3 rfl rfl (by omega) (by unfold maxLen; omega) rfl rfl ?_); intro b2 a wc hF hW; refine pe (e_call hF rfl rfl en_28 (by rfl) rfl rfl (put_call (M := List.replicate (size - M.length) 0) ((hW.front 2 rfl rfl).front 2 rfl rfl) (by rw [← zeros_flat]; exact rowAt_blk (hW.blk 0 rfl) 1 _ (by simp; exact Nat.mul_one _)) (by simp) (by simp; omega)) ?_); rintro e w1 ⟨A5, c5, rfl, hN⟩; replace hW := hN; refine ⟨_, rfl, fun a hF => ?_⟩; refine l_nil ?_; replace hF := hF.ks [0, 1, 2] rfl; refine end0 Tryz.results29 hF ?_; replace hW := hW.del 2 rfl; replace hW := hW.del 2 rfl
  have e : ((L ++ [(M.length : Int)]) ++ M) ++ List.replicate (size - M.length) 0 = L ++ padL size M := (by simp [padL])
  rw [e] at hW
  exact ⟨_, _, rfl, hW⟩
theorem list_call {w0 w : World} {X : Nat → Prop} {es : List Asn} {br : Nat} {A A2 : Option Addr} {c c2 m size : Nat} {L M : List Int} (hW : Wd w0 X (rowB br A c L :: rowI A c L :: es) w) (hM : ∀ w', Wd w0 X es w' → RowAt w' 1 A2 m (M.map (.int .i64))) (hm : m = M.length) (hs : M.length ≤ size) (hs2 : size ≤ 16) (hb : L.length ≤ 900) :
    Calls Tryz.prog 29 #[.pointer (some ⟨br, 0, none⟩), .slice A2 m c2, .int .i64 size] w fun e w' => ∃ A' c', e = .returned (.tuple #[]) ∧ Wd w0 X (rowB br A' c' (L ++ padL size M) :: rowI A' c' (L ++ padL size M) :: es) w' := by
  subst hm
  obtain ⟨X', hL, hback⟩ := Own.lendX [_, _] hW
  refine (list_in hL (fun w' h => hM w' (hback _ _ h)) hs hs2 hb).mono ?_
  rintro e w' ⟨A', c', rfl, hN⟩
  exact ⟨A', c', rfl, hback _ _ hN⟩
end Go.Proofs.YtnpflhaggfabnaaGreat
