/- The engine: strings cut, joined and compared; rows of bytes as strings; bytes of numbers. No program is named. -/
import Derived.Test.YtfkngjglnhfdcaaGreatDoorEngC
import Derived.Test.YtfkngjglnhfdcaaGreatDoorImgN
import Derived.Laws.IdiomStrings
import Derived.Laws.Strings
namespace Go.Proofs.YtfkngjglnhfdcaaGreatDoor
set_option linter.unusedVariables false
set_option linter.unusedSimpArgs false
open Go.ChangeShapes Go.WideShapes Go.ChangeAt Go.RowKit

def bcs (l : List UInt8) : List Value := l.map fun b => Value.int .u8 (b.toNat : Int)
theorem bcs_app (l m : List UInt8) : bcs (l ++ m) = bcs l ++ bcs m := List.map_append
theorem bcs_len (l : List UInt8) : (bcs l).length = l.length := List.length_map _
theorem oneCell_bcs (l : List UInt8) : ∀ u ∈ bcs l, u.oneCell' = true := by
  intro u hu
  obtain ⟨b, -, rfl⟩ := List.mem_map.1 hu
  rfl
theorem bstr_inj {l m : List UInt8} (h : bstr l = bstr m) : l = m := by
  have := congrArg (fun b : ByteArray => b.data.toList) h
  simpa [bstr] using this
theorem bstr_toList (l : List UInt8) : (bstr l).toList = l := by rw [ByteArray.toList_eq]; simp [bstr]
theorem bstr_app (l m : List UInt8) : bstr l ++ bstr m = bstr (l ++ m) := by
  apply ByteArray.ext
  simp [bstr, ByteArray.data_append]
theorem byt_wrap (n : Int) : IntKind.u8.wrap n = ((byt n).toNat : Int) := by
  rw [byt_val]
  unfold IntKind.wrap
  show (if (false && decide (n % 2 ^ 8 ≥ 2 ^ (8 - 1))) = true then n % 2 ^ 8 - 2 ^ 8 else n % 2 ^ 8) = _
  simp
section
variable {P : Program} {w0 w : World} {X : Nat → Prop} {es : List Asn} {a : Act} {ds : List Deferred} {N : Nat} {env : List (Nat × Value)} {dst : Option Tmp} {ty : TypeId} {ps : String} {af : Array Edge} {gd : Option (Nat × Bool)} {t t' : TypeId} {x y : Operand}
theorem y_eqB (hF : Fr ds N env a) {l m : List UInt8} (hx : ev env x = some (.string (bstr l))) (hy : ev env y = some (.string (bstr m))) : Yv P w0 X es a ⟨dst, .binOp .eql t x y t', ty, ps, af, gd⟩ (.bool (decide (l = m))) := by
  have h := y_eqs (P := P) (w0 := w0) (X := X) (es := es) (dst := dst) (ty := ty) (ps := ps) (af := af) (gd := gd) (t := t) (t' := t') hF hx hy
  rw [bstr_toList, bstr_toList] at h
  rwa [show (l == m) = decide (l = m) by by_cases e : l = m <;> simp [e]] at h
theorem y_neB (hF : Fr ds N env a) {l m : List UInt8} (hx : ev env x = some (.string (bstr l))) (hy : ev env y = some (.string (bstr m))) : Yv P w0 X es a ⟨dst, .binOp .neq t x y t', ty, ps, af, gd⟩ (.bool (decide (¬ l = m))) := by
  have h := y_nes (P := P) (w0 := w0) (X := X) (es := es) (dst := dst) (ty := ty) (ps := ps) (af := af) (gd := gd) (t := t) (t' := t') hF hx hy
  rw [bstr_toList, bstr_toList] at h
  rwa [show (!(l == m)) = decide (¬ l = m) by by_cases e : l = m <;> simp [e]] at h
theorem y_catB (hF : Fr ds N env a) {l m : List UInt8} (hx : ev env x = some (.string (bstr l))) (hy : ev env y = some (.string (bstr m))) (hb : l.length + m.length ≤ maxLen) : Yv P w0 X es a ⟨dst, .binOp .add t x y t', ty, ps, af, gd⟩ (.string (bstr (l ++ m))) :=
  y_bin hF hx hy fun w => by
    have h : ¬ (((bstr l).size + (bstr m).size : Nat) : Int) > IntKind.i64.max := by
      rw [bstr_size, bstr_size]
      unfold maxLen at hb
      simp only [IntKind.max, IntKind.signed, IntKind.bits]
      omega
    rw [← bstr_app]
    simp only [eqGuard, binOp, Op.stringOp, if_neg h]
    simp
theorem y_sliceStrLH (hF : Fr ds N env a) {l : List UInt8} {lo hi : Operand} {kk kh : IntKind} {i j : Nat} (hx : ev env x = some (.string (bstr l))) (hy : ev env lo = some (.int kk (i : Int))) (hh : ev env hi = some (.int kh (j : Int))) (hij : i ≤ j) (hj : j ≤ l.length) (hu : P.underlying t = some .string) :
    Yv P w0 X es a ⟨dst, .slice t x (some lo) (some hi) none, ty, ps, af, gd⟩ (.string (bstr ((l.drop i).take (j - i)))) := fun w _ => by
  have h1 : (bstr l).extract i j = bstr ((l.drop i).take (j - i)) := by
    apply ByteArray.ext
    rw [ByteArray.data_extract]
    apply Array.ext'
    simp [bstr]
  have h3 : j ≤ (bstr l).size := hj
  simp [execOp, hF.ev hx, hF.ev hy, hF.ev hh, Instr.sliceAt, Instr.slice, run_underlying hu, Instr.sliceBounds, Instr.sliceBound, asIntOf, hij, h3, h1]
theorem y_lenB (hF : Fr ds N env a) {l : List UInt8} (hx : ev env x = some (.string (bstr l))) (hu : P.underlying t = some .string) : Yv P w0 X es a ⟨dst, .call ⟨.builtin .len, #[x], #[t]⟩, ty, ps, af, gd⟩ (.int .i64 (l.length : Int)) := y_lenS (s := bstr l) hF hx hu
/-- a row of bytes as a string -/
theorem y_bytesStr (hF : Fr ds N env a) {src d e : TypeId} {A : Option Addr} {n c : Nat} {l : List UInt8} (hx : ev env x = some (.slice A n c)) (hR : ∀ w, Wd w0 X es w → RowAt w 1 A n (bcs l)) (h0 : 0 < n)
    (hs : P.underlying src = some (.slice e)) (he : P.underlying e = some (.int .u8)) (hd : P.underlying d = some .string) : Yv P w0 X es a ⟨dst, .convert src d x, ty, ps, af, gd⟩ (.string (bstr l)) := fun w hw => by
  obtain ⟨h1, h2⟩ := hR w hw
  obtain ⟨ad, rfl, hc⟩ := h2 h0
  rw [bcs_len, Nat.mul_one] at h1
  subst h1
  have hr := run_convert_bytes_back (P := P) w src d e ad c l hs he hd fun j hj => hc j _ (by rw [bcs, List.getElem?_map, List.getElem?_eq_getElem hj]; rfl)
  simp [execOp, hF.ev hx, hr, bstr]
end
/-- what is known of a row whatever the call has turned of its own -/
def RFs (w0 : World) (X : Nat → Prop) (A : Option Addr) (n size : Nat) (f : Nat → List Value) : Prop := ∀ u, Wd w0 X [] u → RF u A n size f
theorem RFs.wd {w0 u : World} {X : Nat → Prop} {A : Option Addr} {n size : Nat} {f : Nat → List Value} {es : List Asn} (h : RFs w0 X A n size f) (hW : Wd w0 X es u) : RF u A n size f := h u hW.none_
theorem rfs_ints {w0 : World} {X : Nat → Prop} {A : Option Addr} {n : Nat} {M : List Int} (h : ∀ u, Wd w0 X [] u → RowAt u 1 A n (M.map (.int .i64))) : RFs w0 X A n 1 (fun k => [.int .i64 (M.getD k 0)]) := fun u hu => RF.of_row (h u hu) fun i hi o v hv => by
  obtain rfl : o = 0 := by
    have := (List.getElem?_eq_some_iff.1 hv).1
    simp at this
    omega
  have hl := (h u hu).1
  simp only [List.length_map, Nat.mul_one] at hl
  simp only [List.getElem?_cons_zero, Option.some.injEq] at hv
  rw [← hv, Nat.mul_one, Nat.add_zero, List.getElem?_map, List.getElem?_eq_getElem (by omega)]
  simp [List.getD, show i < M.length by omega]
theorem Own.lendI {w0 w : World} {X0 : Nat → Prop} {es : List Asn} (E : List Asn) (hW : Wd w0 X0 (E ++ es) w) : ∃ X : Nat → Prop, Wd w X E w ∧ ∀ w' E', Wd w X E' w' → Wd w0 X0 (E' ++ es) w' := by
  obtain ⟨Y, h1, h2, h3⟩ := Own.split E _ hW.own
  have hz := hW.size
  refine ⟨Y, ⟨Chg.refl _ _, h2⟩, fun w' E' hN => ?_⟩
  have hcX : Chg X0 w0 w' := by
    refine ⟨hN.chg.os.trans hW.chg.os, hN.chg.tape.trans hW.chg.tape, hN.chg.output.trans hW.chg.output, Nat.le_trans hz hN.chg.size, fun k hk hX => ?_⟩
    exact (hN.chg.block k (by omega) fun hy => (h1 k hy).1 ⟨hk, hX⟩).trans (hW.chg.block k hk hX)
  refine ⟨hcX, Own.combX hN.chg.size (fun k hk hy => hN.chg.block k hk hy) (fun k hy => .inr hy) E' _ _ hN.own (fun k hk => ⟨by omega, fun hy => (h1 k hy).1 hk⟩) (fun k _ hk => .inl hk) (fun k hk hn => ?_) h3⟩
  by_cases hy : Y k
  · exact .inr hy
  · exact absurd ⟨hk, hy⟩ hn
end Go.Proofs.YtfkngjglnhfdcaaGreatDoor
