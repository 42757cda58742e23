/- The engine, part two: operations that give a value and leave the world alone. No program is named. -/
import Derived.Test.YtebklpbbglojmaaEngW
import Derived.Laws.StructEq
import Derived.DeepKeys
import Derived.ChangeKeysEq
namespace Go.Proofs.Ytebklpbbglojmaa
set_option linter.unusedVariables false
set_option linter.unusedSimpArgs false
open Go.RowKit

/-- in every world of this call the operation gives this value -/
def Yv (P : Program) (w0 : World) (X : Nat → Prop) (es : List Asn) (a : Act) (o : Oper) (v : Value) : Prop :=
  ∀ w, Wd w0 X es w → (execOp a.eval o).run P w = .ok (.value v) w

/-- the address in a slice's header -/
def adr (A : Option Addr) : Addr := A.getD ⟨0, 0, none⟩
/-- a slice's elements, of so many cells each, are read off a function -/
def RF (w : World) (A : Option Addr) (n size : Nat) (f : Nat → List Value) : Prop :=
  0 < n → A = some (adr A) ∧ ∀ i, i < n → ∀ o v, (f i)[o]? = some v → w.cell? ((adr A).add (i * size + o)) = some v
theorem add_own (b o n : Nat) : (⟨b, o, none⟩ : Addr).add n = ⟨b, o + n, none⟩ := by
  unfold Addr.add
  split
  · rename_i h; rw [h]; rfl
  · rfl
section
variable {w w' : World} {A : Option Addr} {n size : Nat} {f : Nat → List Value}
theorem RF.zero : RF w A 0 size f := fun h => absurd h (by omega)
theorem RF.keep (h : RF w A n size f) (hk : ∀ (p : Addr) u, w.cell? p = some u → w'.cell? p = some u) : RF w' A n size f := fun hn => ⟨(h hn).1, fun i hi o v hv => hk _ _ ((h hn).2 i hi o v hv)⟩
theorem RF.below (h : RF w A n size f) (hb : Below w.heap.size w w') : RF w' A n size f := h.keep fun _ _ hc => cell_below hb hc
theorem RF.wd {w0 : World} {es : List Asn} (h : RF w0 A n size f) (hW : Wd w0 NoB es w') : RF w' A n size f := h.below hW.below
theorem RF.of_ints {v : Value} {l : List Int} (h : Ints w v l) : ∃ A c, v = .slice A l.length c ∧ l.length ≤ c ∧ c ≤ maxLen ∧ RF w A l.length 1 (fun i => [.int .i64 (l.getD i 0)]) := by
  obtain ⟨A, c, rfl, h1, h2, h3⟩ := h
  refine ⟨A, c, rfl, h1, h2, fun hn => ?_⟩
  obtain ⟨ad, rfl, hc⟩ := h3.2 hn
  refine ⟨rfl, fun i hi o v hv => ?_⟩
  obtain rfl : o = 0 := by
    have := (List.getElem?_eq_some_iff.1 hv).1
    simp at this
    omega
  simp only [List.getElem?_cons_zero, Option.some.injEq] at hv
  refine hc _ v ?_
  rw [← hv]
  simp [List.getD, List.getElem?_eq_getElem hi]
end

section
variable {P : Program} {w0 : World} {X : Nat → Prop} {es : List Asn} {a : Act} {N : Nat} {env : List (Nat × Value)} {dst : Option Tmp} {ty : TypeId} {ps : String} {af : Array Edge} {gd : Option (Nat × Bool)}

theorem y_move (hF : Fr N env a) {x : Operand} {v : Value} (hx : ev env x = some v) : Yv P w0 X es a ⟨dst, .move x, ty, ps, af, gd⟩ v := fun w _ => by
  simp [execOp, hF.ev hx]
theorem y_assign (hF : Fr N env a) {x : Operand} {v : Value} (hx : ev env x = some v) : Yv P w0 X es a ⟨dst, .assign x, ty, ps, af, gd⟩ v := fun w _ => by
  simp [execOp, hF.ev hx]
theorem y_pick (hF : Fr N env a) {c x y : Operand} {b : Bool} {v : Value} (hc : ev env c = some (.bool b)) (hv : ev env (bif b then x else y) = some v) : Yv P w0 X es a ⟨dst, .pick c x y, ty, ps, af, gd⟩ v := fun w _ => by
  have hv' := hF.ev hv
  cases b
  · simp only [cond_false] at hv'
    simp [execOp, hF.ev hc, asBool, hv']
  · simp only [cond_true] at hv'
    simp [execOp, hF.ev hc, asBool, hv']
theorem y_extract (hF : Fr N env a) {x : Operand} {i : Nat} {vs : Array Value} {v : Value} (hx : ev env x = some (.tuple vs)) (hv : vs[i]? = some v) : Yv P w0 X es a ⟨dst, .extract x i, ty, ps, af, gd⟩ v := fun w _ => by
  simp [execOp, hF.ev hx, Instr.extract, hv]
theorem y_nilCheck (hF : Fr N env a) {x : Operand} {p : Addr} (hx : ev env x = some (.pointer (some p))) : Yv P w0 X es a ⟨dst, .nilCheck x, ty, ps, af, gd⟩ (.pointer (some p)) := fun w _ => by
  simp [execOp, hF.ev hx]
theorem y_nilCheckF (hF : Fr N env a) {x : Operand} {f : FuncId} {c : Array Value} (hx : ev env x = some (.func (.func f) #[] c)) : Yv P w0 X es a ⟨dst, .nilCheck x, ty, ps, af, gd⟩ (.func (.func f) #[] c) := fun w _ => by
  simp [execOp, hF.ev hx]
theorem y_not (hF : Fr N env a) {t : TypeId} {x : Operand} {b : Bool} (hx : ev env x = some (.bool b)) : Yv P w0 X es a ⟨dst, .unOp .not t x, ty, ps, af, gd⟩ (.bool !b) := fun w _ => by
  simp [execOp, hF.ev hx, Op.unary]
theorem y_neg (hF : Fr N env a) {t : TypeId} {x : Operand} {k : IntKind} {n s : Int} (hx : ev env x = some (.int k n)) (hs : k.wrap (0 - n) = s) : Yv P w0 X es a ⟨dst, .unOp .neg t x, ty, ps, af, gd⟩ (.int k s) := fun w _ => by
  simp [execOp, hF.ev hx, Op.unary, Op.intArith, ← hs]
theorem y_makeFunc (hF : Fr N env a) {fn : Fn} {cs : List Operand} {vs : List Value} (hc : evs env cs = some vs) : Yv P w0 X es a ⟨dst, .makeFunc fn #[] cs.toArray, ty, ps, af, gd⟩ (.func fn #[] vs.toArray) := fun w _ => by
  have := hF.evs cs vs hc
  simp [execOp, Instr.makeFunc, this]
theorem y_len (hF : Fr N env a) {x : Operand} {t e : TypeId} {A : Option Addr} {n c : Nat} (hx : ev env x = some (.slice A n c)) (hu : P.underlying t = some (.slice e)) : Yv P w0 X es a ⟨dst, .call ⟨.builtin .len, #[x], #[t]⟩, ty, ps, af, gd⟩ (.int .i64 n) := fun w _ => by
  simp [execOp, resolve, invoke, builtin, Builtin.len_, run_underlying hu, hF.ev hx, goInt]
theorem y_lenS (hF : Fr N env a) {x : Operand} {t : TypeId} {s : ByteArray} (hx : ev env x = some (.string s)) (hu : P.underlying t = some .string) : Yv P w0 X es a ⟨dst, .call ⟨.builtin .len, #[x], #[t]⟩, ty, ps, af, gd⟩ (.int .i64 s.size) := fun w _ => by
  simp [execOp, resolve, invoke, builtin, Builtin.len_, run_underlying hu, hF.ev hx, goInt]

/-! ### numbers -/
theorem y_bin (hF : Fr N env a) {op : BinOp} {t t' : TypeId} {x y : Operand} {vx vy v : Value} (hx : ev env x = some vx) (hy : ev env y = some vy)
    (hr : ∀ w : World, (do eqGuard op t x y vx vy; binOp op t vx vy : Sem Value).run P w = .ok v w) : Yv P w0 X es a ⟨dst, .binOp op t x y t', ty, ps, af, gd⟩ v := fun w _ => by
  have := hr w
  simp only [execOp, hF.ev hx, hF.ev hy] at *
  simp only [Sem.run_bind] at this ⊢
  cases hg : (eqGuard op t x y vx vy).run P w with
  | halt h w' => rw [hg] at this; simp [Result.andThen] at this
  | ok u w' =>
    rw [hg] at this
    simp only [Result.andThen] at this ⊢
    rw [this]
    simp
variable {t t' : TypeId} {x y : Operand} {k : IntKind} {m n s : Int}
theorem y_add (hF : Fr N env a) (hx : ev env x = some (.int k m)) (hy : ev env y = some (.int k n)) (hs : k.wrap (m + n) = s) : Yv P w0 X es a ⟨dst, .binOp .add t x y t', ty, ps, af, gd⟩ (.int k s) :=
  y_bin hF hx hy fun w => by simp [eqGuard, binOp, Op.intArith, ← hs]
theorem y_sub (hF : Fr N env a) (hx : ev env x = some (.int k m)) (hy : ev env y = some (.int k n)) (hs : k.wrap (m - n) = s) : Yv P w0 X es a ⟨dst, .binOp .sub t x y t', ty, ps, af, gd⟩ (.int k s) :=
  y_bin hF hx hy fun w => by simp [eqGuard, binOp, Op.intArith, ← hs]
theorem y_mul (hF : Fr N env a) (hx : ev env x = some (.int k m)) (hy : ev env y = some (.int k n)) (hs : k.wrap (m * n) = s) : Yv P w0 X es a ⟨dst, .binOp .mul t x y t', ty, ps, af, gd⟩ (.int k s) :=
  y_bin hF hx hy fun w => by simp [eqGuard, binOp, Op.intArith, ← hs]
theorem y_rem (hF : Fr N env a) (hx : ev env x = some (.int k m)) (hy : ev env y = some (.int k n)) (hn : n ≠ 0) (hs : m.tmod n = s) : Yv P w0 X es a ⟨dst, .binOp .rem t x y t', ty, ps, af, gd⟩ (.int k s) :=
  y_bin hF hx hy fun w => by simp [eqGuard, binOp, Op.intDiv, hn, ← hs]
theorem y_quo (hF : Fr N env a) (hx : ev env x = some (.int k m)) (hy : ev env y = some (.int k n)) (hn : n ≠ 0) (hs : k.wrap (m.tdiv n) = s) : Yv P w0 X es a ⟨dst, .binOp .quo t x y t', ty, ps, af, gd⟩ (.int k s) :=
  y_bin hF hx hy fun w => by simp [eqGuard, binOp, Op.intDiv, hn, ← hs]
theorem y_lss (hF : Fr N env a) (hx : ev env x = some (.int k m)) (hy : ev env y = some (.int k n)) : Yv P w0 X es a ⟨dst, .binOp .lss t x y t', ty, ps, af, gd⟩ (.bool (decide (m < n))) :=
  y_bin hF hx hy fun w => by simp [eqGuard, binOp, Op.intCmp]
theorem y_leq (hF : Fr N env a) (hx : ev env x = some (.int k m)) (hy : ev env y = some (.int k n)) : Yv P w0 X es a ⟨dst, .binOp .leq t x y t', ty, ps, af, gd⟩ (.bool (decide (m ≤ n))) :=
  y_bin hF hx hy fun w => by simp [eqGuard, binOp, Op.intCmp]
theorem y_gtr (hF : Fr N env a) (hx : ev env x = some (.int k m)) (hy : ev env y = some (.int k n)) : Yv P w0 X es a ⟨dst, .binOp .gtr t x y t', ty, ps, af, gd⟩ (.bool (decide (n < m))) :=
  y_bin hF hx hy fun w => by simp [eqGuard, binOp, Op.intCmp]
theorem y_geq (hF : Fr N env a) (hx : ev env x = some (.int k m)) (hy : ev env y = some (.int k n)) : Yv P w0 X es a ⟨dst, .binOp .geq t x y t', ty, ps, af, gd⟩ (.bool (decide (n ≤ m))) :=
  y_bin hF hx hy fun w => by simp [eqGuard, binOp, Op.intCmp]
theorem y_eql (hF : Fr N env a) (hx : ev env x = some (.int k m)) (hy : ev env y = some (.int k n)) : Yv P w0 X es a ⟨dst, .binOp .eql t x y t', ty, ps, af, gd⟩ (.bool (decide (m = n))) :=
  y_bin hF hx hy fun w => by
    have : (m == n) = decide (m = n) := rfl
    simp [eqGuard, binOp, Op.intCmp, this]
theorem y_neq (hF : Fr N env a) (hx : ev env x = some (.int k m)) (hy : ev env y = some (.int k n)) : Yv P w0 X es a ⟨dst, .binOp .neq t x y t', ty, ps, af, gd⟩ (.bool (decide (m ≠ n))) :=
  y_bin hF hx hy fun w => by
    have : (m != n) = decide (m ≠ n) := by simp [bne, decide_not]; rfl
    simp [eqGuard, binOp, Op.intCmp, this]
theorem y_eqb (hF : Fr N env a) {b c : Bool} (hx : ev env x = some (.bool b)) (hy : ev env y = some (.bool c)) (hu : P.underlying t = some .bool) : Yv P w0 X es a ⟨dst, .binOp .eql t x y t', ty, ps, af, gd⟩ (.bool (b == c)) :=
  y_bin hF hx hy fun w => by
    have h : ∀ d : Nat, (Op.equalIn (d + 1) t (.bool b) (.bool c)).run P w = .ok (b == c) w := fun d => by simp [Op.equalIn, run_underlying hu]
    have h2 : (binOp .eql t (.bool b) (.bool c)).run P w = .ok (.bool (b == c)) w := by
      simp only [binOp]
      simp [Op.equal, Op.maxDepth, h 9999]
    simp [eqGuard, h2]
theorem y_eqs (hF : Fr N env a) {b c : ByteArray} (hx : ev env x = some (.string b)) (hy : ev env y = some (.string c)) : Yv P w0 X es a ⟨dst, .binOp .eql t x y t', ty, ps, af, gd⟩ (.bool (b.toList == c.toList)) :=
  y_bin hF hx hy fun w => by simp [eqGuard, binOp, Op.stringOp]
theorem y_nes (hF : Fr N env a) {b c : ByteArray} (hx : ev env x = some (.string b)) (hy : ev env y = some (.string c)) : Yv P w0 X es a ⟨dst, .binOp .neq t x y t', ty, ps, af, gd⟩ (.bool !(b.toList == c.toList)) :=
  y_bin hF hx hy fun w => by simp [eqGuard, binOp, Op.stringOp]

/-- fields that are ints, one behind the other -/
def flatInts (P : Program) : Nat → List Field → Bool
  | _, [] => true
  | k, f :: r => f.name != "_" && ((match P.underlying f.type with | some (.int .i64) => true | _ => false) && (Nat.beq f.offset k && flatInts P (k + 1) r))
theorem run_part_int {e : TypeId} (he : (match P.underlying e with | some (.int .i64) => true | _ => false) = true) {xs : Array Value} {o : Nat} {m : Int} (hx : xs[o]? = some (.int .i64 m)) (w : World) : (part e xs o).run P w = .ok (.int .i64 m) w := by
  split at he
  · rename_i hu
    simp [part, isAgg, run_underlying hu, hx]
  · cases he
theorem run_eqInt {e : TypeId} (he : (match P.underlying e with | some (.int .i64) => true | _ => false) = true) (d : Nat) (m n : Int) (w : World) : (Op.equalIn (d + 1) e (.int .i64 m) (.int .i64 n)).run P w = .ok (decide (m = n)) w := by
  split at he
  · rename_i hu
    rw [run_equalIn_int w d e .i64 .i64 m n hu]
    rfl
  · cases he
theorem run_eqFields_ints (d : Nat) (xs ys : Array Value) (w : World) : ∀ (fs : List Field) (k : Nat) (as bs : List Int), flatInts P k fs = true → as.length = fs.length → bs.length = fs.length → (∀ i m, as[i]? = some m → xs[k + i]? = some (.int .i64 m)) → (∀ i m, bs[i]? = some m → ys[k + i]? = some (.int .i64 m)) →
    (Op.eqFields (d + 1) xs ys fs).run P w = .ok (decide (as = bs)) w
  | [], _, as, bs, _, ha, hb, _, _ => by
    rw [List.eq_nil_of_length_eq_zero ha, List.eq_nil_of_length_eq_zero hb]
    simp [Op.eqFields]
  | f :: fs, k, [], _, _, ha, _, _, _ => by simp at ha
  | f :: fs, k, _ :: _, [], _, _, hb, _, _ => by simp at hb
  | f :: fs, k, a :: as, b :: bs, hf, ha, hb, hx, hy => by
    simp only [flatInts, Bool.and_eq_true] at hf
    obtain ⟨h1, h2, h3, h4⟩ := hf
    have ho : f.offset = k := Nat.eq_of_beq_eq_true h3
    have hn : f.name ≠ "_" := by simpa using h1
    have p1 := run_part_int (P := P) h2 (xs := xs) (o := f.offset) (m := a) (by rw [ho]; exact hx 0 a rfl) w
    have p2 := run_part_int (P := P) h2 (xs := ys) (o := f.offset) (m := b) (by rw [ho]; exact hy 0 b rfl) w
    have p3 := run_eqInt (P := P) h2 d a b w
    have ih := run_eqFields_ints d xs ys w fs (k + 1) as bs h4 (by simpa using ha) (by simpa using hb) (fun i m hi => by have := hx (i + 1) m (by simpa using hi); rwa [show k + 1 + i = k + (i + 1) by omega]) (fun i m hi => by have := hy (i + 1) m (by simpa using hi); rwa [show k + 1 + i = k + (i + 1) by omega])
    simp only [Op.eqFields, hn, ne_eq, not_false_eq_true, if_true, Sem.run_bind, p1, p2, p3, Result.andThen_ok]
    by_cases hab : a = b
    · simp [hab, ih]
    · simp [hab]
theorem run_eqItems_ints (d : Nat) {e : TypeId} (he : (match P.underlying e with | some (.int .i64) => true | _ => false) = true) (xs ys : Array Value) (w : World) : ∀ (n k : Nat) (as bs : List Int), as.length = n → bs.length = n → (∀ i m, as[i]? = some m → xs[k + i]? = some (.int .i64 m)) → (∀ i m, bs[i]? = some m → ys[k + i]? = some (.int .i64 m)) →
    (Op.eqItems (d + 1) e 1 xs ys (List.range' k n)).run P w = .ok (decide (as = bs)) w
  | 0, _, as, bs, ha, hb, _, _ => by
    rw [List.eq_nil_of_length_eq_zero ha, List.eq_nil_of_length_eq_zero hb]
    simp [Op.eqItems]
  | n + 1, k, [], _, ha, _, _, _ => by simp at ha
  | n + 1, k, _ :: _, [], _, hb, _, _ => by simp at hb
  | n + 1, k, a :: as, b :: bs, ha, hb, hx, hy => by
    have p1 := run_part_int (P := P) he (xs := xs) (o := k * 1) (m := a) (by rw [Nat.mul_one]; exact hx 0 a rfl) w
    have p2 := run_part_int (P := P) he (xs := ys) (o := k * 1) (m := b) (by rw [Nat.mul_one]; exact hy 0 b rfl) w
    have p3 := run_eqInt (P := P) he d a b w
    have ih := run_eqItems_ints d he xs ys w n (k + 1) as bs (by simpa using ha) (by simpa using hb) (fun i m hi => by have := hx (i + 1) m (by simpa using hi); rwa [show k + 1 + i = k + (i + 1) by omega]) (fun i m hi => by have := hy (i + 1) m (by simpa using hi); rwa [show k + 1 + i = k + (i + 1) by omega])
    simp only [List.range'_succ, Op.eqItems, Sem.run_bind, p1, p2, p3, Result.andThen_ok]
    by_cases hab : a = b
    · simp [hab, ih]
    · simp [hab]
theorem run_eqlne {T : TypeId} {xs ys : Array Value} (hg : P.eqGuardType P.depth T = false) {r : Bool} (w : World) (hr : (Op.equalIn 10000 T (.agg xs) (.agg ys)).run P w = .ok r w) (x y : Operand) :
    (do eqGuard .eql T x y (.agg xs) (.agg ys); binOp .eql T (.agg xs) (.agg ys) : Sem Value).run P w = .ok (.bool r) w ∧ (do eqGuard .neq T x y (.agg xs) (.agg ys); binOp .neq T (.agg xs) (.agg ys) : Sem Value).run P w = .ok (.bool !r) w := by
  constructor
  · rw [Sem.run_bind, run_eqGuard_agg w .eql T x y xs ys hg]
    simp only [Result.andThen_ok]
    rw [run_eql_struct, hr]
    rfl
  · rw [Sem.run_bind, run_eqGuard_agg w .neq T x y xs ys hg]
    simp only [Result.andThen_ok]
    rw [run_neq_struct, hr]
    rfl
theorem ints_cells (as : List Int) : ∀ i m, as[i]? = some m → ((as.map (Value.int .i64)).toArray)[0 + i]? = some (.int .i64 m) := fun i m h => by simp [h]
theorem eqS {T : TypeId} (hS : P.underlying T = some (.struct (P.fieldsOf T))) (hp : P.stoodInHeld T = false) (hg : P.eqGuardType P.depth T = false) (hf : flatInts P 0 (P.fieldsOf T).toList = true) (as bs : List Int) (ha : as.length = (P.fieldsOf T).toList.length) (hb : bs.length = (P.fieldsOf T).toList.length) (x y : Operand) (w : World) :
    (do eqGuard .eql T x y (.agg (as.map (.int .i64)).toArray) (.agg (bs.map (.int .i64)).toArray); binOp .eql T (.agg (as.map (.int .i64)).toArray) (.agg (bs.map (.int .i64)).toArray) : Sem Value).run P w = .ok (.bool (decide (as = bs))) w ∧
    (do eqGuard .neq T x y (.agg (as.map (.int .i64)).toArray) (.agg (bs.map (.int .i64)).toArray); binOp .neq T (.agg (as.map (.int .i64)).toArray) (.agg (bs.map (.int .i64)).toArray) : Sem Value).run P w = .ok (.bool !(decide (as = bs))) w := by
  refine run_eqlne hg w ?_ x y
  rw [show (10000 : Nat) = 9999 + 1 from rfl, run_equalIn_agg w 9999 T _ _ hS hp]
  exact run_eqFields_ints 9998 _ _ w _ 0 as bs hf ha hb (ints_cells as) (ints_cells bs)
theorem eqA {T e : TypeId} {n : Nat} (hS : P.underlying T = some (.array n e)) (he : (match P.underlying e with | some (.int .i64) => true | _ => false) = true) (hz : (P.info? e).map (·.size) = some 1) (hg : P.eqGuardType P.depth T = false) (as bs : List Int) (ha : as.length = n) (hb : bs.length = n) (x y : Operand) (w : World) :
    (do eqGuard .eql T x y (.agg (as.map (.int .i64)).toArray) (.agg (bs.map (.int .i64)).toArray); binOp .eql T (.agg (as.map (.int .i64)).toArray) (.agg (bs.map (.int .i64)).toArray) : Sem Value).run P w = .ok (.bool (decide (as = bs))) w ∧
    (do eqGuard .neq T x y (.agg (as.map (.int .i64)).toArray) (.agg (bs.map (.int .i64)).toArray); binOp .neq T (.agg (as.map (.int .i64)).toArray) (.agg (bs.map (.int .i64)).toArray) : Sem Value).run P w = .ok (.bool !(decide (as = bs))) w := by
  refine run_eqlne hg w ?_ x y
  cases hi : P.info? e with
  | none => rw [hi] at hz; cases hz
  | some j =>
  have hc : P.cellsOf e = 1 := by unfold Program.cellsOf; rw [hz]; rfl
  rw [show (10000 : Nat) = 9999 + 1 from rfl, run_equalIn_array w 9999 _ _ hS hi, hc, List.range_eq_range']
  exact run_eqItems_ints 9998 he _ _ w n 0 as bs ha hb (ints_cells as) (ints_cells bs)

/-! ### memory -/
theorem y_fieldAddr (hF : Fr N env a) {fld : Nat} {p q : Addr} (hx : ev env x = some (.pointer (some p))) (hf : ∀ w, (Instr.fieldAt t (.pointer (some p)) fld).run P w = .ok (.pointer (some q)) w) :
    Yv P w0 X es a ⟨dst, .fieldAddr t x fld, ty, ps, af, gd⟩ (.pointer (some q)) := fun w _ => by
  simp [execOp, hF.ev hx, hf]
/-- a field's place, once for a type and a field: 'a.add off' -/
def FieldAt (P : Program) (t fld off : Nat) : Prop := ∀ (p : Addr) (w : World), (Instr.fieldAt t (.pointer (some p)) fld).run P w = .ok (.pointer (some (p.add off))) w
theorem fieldAt_of {fs : Array Field} {fd : Field} {fld off z : Nat} (hu : P.underlying t = some (.struct fs)) (hf : fs[fld]? = some fd) (ho : fd.offset = off) (hz : (P.info? fd.type).map (·.size) = some z) (h0 : z ≠ 0) : FieldAt P t fld off := fun p w => by
  subst ho
  cases hi : P.info? fd.type with
  | none => rw [hi] at hz; cases hz
  | some i =>
    rw [hi] at hz
    have hz' : i.size = z := by simpa using hz
    simp [Instr.fieldAt, run_underlying hu, hf, Instr.sureAddr, fieldPlace, sizeOf, typeInfo, hi, hz', h0]
theorem y_fieldOwn (hF : Fr N env a) {fld off b o : Nat} (hx : ev env x = some (.pointer (some ⟨b, o, none⟩))) (hf : FieldAt P t fld off) :
    Yv P w0 X es a ⟨dst, .fieldAddr t x fld, ty, ps, af, gd⟩ (.pointer (some ⟨b, o + off, none⟩)) := y_fieldAddr hF hx fun w => by rw [hf, add_own]
theorem y_fieldRow (hF : Fr N env a) {fld off i o sz : Nat} {A : Option Addr} (hx : ev env x = some (.pointer (some ((adr A).add (i * sz + o))))) (hf : FieldAt P t fld off) :
    Yv P w0 X es a ⟨dst, .fieldAddr t x fld, ty, ps, af, gd⟩ (.pointer (some ((adr A).add (i * sz + (o + off))))) := y_fieldAddr hF hx fun w => by rw [hf, add_of_add, Nat.add_assoc]
theorem run_load1 {d : TypeDesc} (hu : P.underlying t = some d) (hd : d.isRow = false) {w : World} {p : Addr} {v : Value} (hc : w.cell? p = some v) : (loadVar t p).run P w = .ok v w := by
  cases d <;> first | (simp [TypeDesc.isRow] at hd; done) | (simp [loadVar, isAgg, run_underlying hu, load, Sem.run, hc])
theorem y_load (hF : Fr N env a) {p : Addr} {v : Value} {d : TypeDesc} (hx : ev env x = some (.pointer (some p))) (hu : P.underlying t = some d) (hd : d.isRow = false) (hc : ∀ w, Wd w0 X es w → w.cell? p = some v) :
    Yv P w0 X es a ⟨dst, .load t x, ty, ps, af, gd⟩ v := fun w hw => by
  simp [execOp, hF.ev hx, Instr.loadAt, Instr.sureAddr, run_load1 hu hd (hc w hw)]
theorem y_loadOwn (hF : Fr N env a) {b o : Nat} {T : TypeId} {l : List Value} {v : Value} {d : TypeDesc} (hx : ev env x = some (.pointer (some ⟨b, o, none⟩))) (i : Nat) (hi : es[i]? = some (.blk b T l)) (hv : l[o]? = some v)
    (hu : P.underlying t = some d) (hd : d.isRow = false) : Yv P w0 X es a ⟨dst, .load t x, ty, ps, af, gd⟩ v :=
  y_load hF hx hu hd fun w hw => ((hw.blk i hi).cell o).trans hv
theorem y_loadRow (hF : Fr N env a) {A : Option Addr} {i sz o n : Nat} {f : Nat → List Value} {v : Value} {d : TypeDesc} (hx : ev env x = some (.pointer (some ((adr A).add (i * sz + o))))) (hR : ∀ w, Wd w0 X es w → RF w A n sz f) (hi : i < n) (hv : (f i)[o]? = some v)
    (hu : P.underlying t = some d) (hd : d.isRow = false) : Yv P w0 X es a ⟨dst, .load t x, ty, ps, af, gd⟩ v :=
  y_load hF hx hu hd fun w hw => (hR w hw (by omega)).2 i hi o v hv
/-- a struct or an array loaded whole: cells cs from a place on -/
theorem y_loadCells (hF : Fr N env a) {p : Addr} {cs : List Value} {d : TypeDesc} (hx : ev env x = some (.pointer (some p))) (hu : P.underlying t = some d) (hd : d.isRow = true) (hz : (P.info? t).map (·.size) = some cs.length)
    (hc : ∀ w, Wd w0 X es w → ∀ o v, cs[o]? = some v → w.cell? (p.add o) = some v) : Yv P w0 X es a ⟨dst, .load t x, ty, ps, af, gd⟩ (.agg cs.toArray) := fun w hw => by
  have key : ∀ (r : List Value) (o : Nat) (acc : Array Value), (∀ j v, r[j]? = some v → w.cell? (p.add (o + j)) = some v) → (loadCellsFrom p o r.length acc).run P w = .ok (acc ++ r.toArray) w := by
    intro r
    induction r with
    | nil => intro o acc _; simp [loadCellsFrom]
    | cons v r ih =>
      intro o acc h
      have h0 := h 0 v rfl
      simp only [Nat.add_zero] at h0
      have := ih (o + 1) (acc.push v) (fun j u hj => by have := h (j + 1) u (by simpa using hj); rwa [show o + 1 + j = o + (j + 1) by omega])
      simp only [List.length_cons, loadCellsFrom, Sem.run_bind, load, Sem.run, h0, Result.andThen]
      rw [this]
      simp
  have h1 := key cs 0 #[] (fun j v hj => by rw [Nat.zero_add]; exact hc w hw j v hj)
  cases hi : P.info? t with
  | none => rw [hi] at hz; cases hz
  | some i =>
    rw [hi] at hz
    have hz' : i.size = cs.length := by simpa using hz
    have hagg : (isAgg t).run P w = .ok true w := by cases d <;> first | (simp [TypeDesc.isRow] at hd; done) | simp [isAgg, run_underlying hu]
    simp [execOp, hF.ev hx, Instr.loadAt, Instr.sureAddr, loadVar, hagg, loadCells, sizeOf, typeInfo, hi, hz', h1]
theorem y_loadOwnW (hF : Fr N env a) {b o : Nat} {T : TypeId} {l cs : List Value} {d : TypeDesc} (hx : ev env x = some (.pointer (some ⟨b, o, none⟩))) (i : Nat) (hi : es[i]? = some (.blk b T l)) (hcs : ∀ j v, cs[j]? = some v → l[o + j]? = some v)
    (hu : P.underlying t = some d) (hd : d.isRow = true) (hz : (P.info? t).map (·.size) = some cs.length) : Yv P w0 X es a ⟨dst, .load t x, ty, ps, af, gd⟩ (.agg cs.toArray) :=
  y_loadCells hF hx hu hd hz fun w hw j v hj => by rw [add_own]; exact ((hw.blk i hi).cell _).trans (hcs j v hj)
/-- all of an own block -/
theorem y_loadAll (hF : Fr N env a) {b : Nat} {T : TypeId} {l : List Value} {d : TypeDesc} (hx : ev env x = some (.pointer (some ⟨b, 0, none⟩))) (i : Nat) (hi : es[i]? = some (.blk b T l))
    (hu : P.underlying t = some d) (hd : d.isRow = true) (hz : (P.info? t).map (·.size) = some l.length) : Yv P w0 X es a ⟨dst, .load t x, ty, ps, af, gd⟩ (.agg l.toArray) :=
  y_loadOwnW hF hx i hi (fun j v hj => by rw [Nat.zero_add]; exact hj) hu hd hz
/-- a part of an own block: z cells from o on -/
theorem y_loadPart (hF : Fr N env a) {b o : Nat} {T : TypeId} {l : List Value} {d : TypeDesc} (hx : ev env x = some (.pointer (some ⟨b, o, none⟩))) (i : Nat) (hi : es[i]? = some (.blk b T l))
    (hu : P.underlying t = some d) (hd : d.isRow = true) (cs : List Value) (hcs : ∃ r, cs ++ r = l.drop o) (hz : (P.info? t).map (·.size) = some cs.length) : Yv P w0 X es a ⟨dst, .load t x, ty, ps, af, gd⟩ (.agg cs.toArray) :=
  y_loadOwnW hF hx i hi (fun j v hj => by
    obtain ⟨r, hr⟩ := hcs
    have : (l.drop o)[j]? = some v := by rw [← hr, List.getElem?_append_left (List.getElem?_eq_some_iff.1 hj).1]; exact hj
    rwa [List.getElem?_drop] at this) hu hd hz
/-- so many cells of an own block, from a place on -/
theorem y_loadN (hF : Fr N env a) {b o z : Nat} {T : TypeId} {l : List Value} {d : TypeDesc} (hx : ev env x = some (.pointer (some ⟨b, o, none⟩))) (i : Nat) (hi : es[i]? = some (.blk b T l))
    (hu : P.underlying t = some d) (hd : d.isRow = true) (hz : (P.info? t).map (·.size) = some z) (hl : Nat.ble (o + z) l.length = true) : Yv P w0 X es a ⟨dst, .load t x, ty, ps, af, gd⟩ (.agg ((l.drop o).take z).toArray) :=
  y_loadOwnW hF hx i hi (fun j v hj => by
    have h1 := List.getElem?_take (l := l.drop o) (i := z) (j := j)
    rw [h1] at hj
    split at hj
    · rwa [List.getElem?_drop] at hj
    · cases hj) hu hd (by
    have : o + z ≤ l.length := by simpa using hl
    rw [hz, List.length_take, List.length_drop, Nat.min_eq_left (by omega)])
theorem y_loadRowW (hF : Fr N env a) {A : Option Addr} {i sz n : Nat} {f : Nat → List Value} {d : TypeDesc} (hx : ev env x = some (.pointer (some ((adr A).add (i * sz + 0))))) (hR : ∀ w, Wd w0 X es w → RF w A n sz f) (hi : i < n)
    (hu : P.underlying t = some d) (hd : d.isRow = true) (hz : (P.info? t).map (·.size) = some (f i).length) : Yv P w0 X es a ⟨dst, .load t x, ty, ps, af, gd⟩ (.agg (f i).toArray) :=
  y_loadCells hF hx hu hd hz fun w hw o v hv => by
    rw [add_of_add]
    exact (hR w hw (by omega)).2 i hi o v hv
theorem y_indexS (hF : Fr N env a) {e z : TypeId} {A : Option Addr} {i n c : Nat} {kk : IntKind} {f : Nat → List Value} (hx : ev env x = some (.slice A n c)) (hy : ev env y = some (.int kk (i : Int))) (hi : i < n) (hu : P.underlying t = some (.slice e)) (hz : (P.info? e).map (·.size) = some z)
    (hR : ∀ w, Wd w0 X es w → RF w A n z f) : Yv P w0 X es a ⟨dst, .indexAddr t x y, ty, ps, af, gd⟩ (.pointer (some ((adr A).add (i * z + 0)))) := fun w hw => by
  have hA := (hR w hw (by omega)).1
  cases hie : P.info? e with
  | none => rw [hie] at hz; cases hz
  | some j =>
    rw [hie] at hz
    have hz' : j.size = z := by simpa using hz
    have hx' := hF.ev hx
    rw [hA] at hx'
    have h1 : (0 : Int) ≤ (i : Int) ∧ (i : Int) < (n : Int) := by omega
    simp [execOp, hx', hF.ev hy, Instr.indexAt, asIntOf, run_underlying hu, sizeOf, typeInfo, hie, hz', hi]
theorem y_indexOwnS (hF : Fr N env a) {e z : TypeId} {b i n c : Nat} {kk : IntKind} (hx : ev env x = some (.slice (some ⟨b, 0, none⟩) n c)) (hy : ev env y = some (.int kk (i : Int))) (hi : i < n) (hu : P.underlying t = some (.slice e)) (hz : (P.info? e).map (·.size) = some z) :
    Yv P w0 X es a ⟨dst, .indexAddr t x y, ty, ps, af, gd⟩ (.pointer (some ⟨b, i * z, none⟩)) := fun w hw => by
  cases hie : P.info? e with
  | none => rw [hie] at hz; cases hz
  | some j =>
    rw [hie] at hz
    have hz' : j.size = z := by simpa using hz
    have ha := add_own b 0 (i * z)
    rw [Nat.zero_add] at ha
    simp [execOp, hF.ev hx, hF.ev hy, Instr.indexAt, asIntOf, run_underlying hu, sizeOf, typeInfo, hie, hz', hi, ha]
theorem y_indexA (hF : Fr N env a) {e z : TypeId} {b o i n : Nat} {kk : IntKind} (hx : ev env x = some (.pointer (some ⟨b, o, none⟩))) (hy : ev env y = some (.int kk (i : Int))) (hi : i < n) (hu : P.underlying t = some (.array n e)) (hz : (P.info? e).map (·.size) = some z) :
    Yv P w0 X es a ⟨dst, .indexAddr t x y, ty, ps, af, gd⟩ (.pointer (some ⟨b, o + i * z, none⟩)) := fun w hw => by
  cases hie : P.info? e with
  | none => rw [hie] at hz; cases hz
  | some j =>
    rw [hie] at hz
    have hz' : j.size = z := by simpa using hz
    simp [execOp, hF.ev hx, hF.ev hy, Instr.indexAt, Instr.sureAddr, asIntOf, run_underlying hu, sizeOf, typeInfo, hie, hz', hi, add_own]
def evp (env : List (Nat × Value)) : List (Nat × Operand) → Option (List (Nat × Value))
  | [] => some []
  | (i, x) :: r => match ev env x, evp env r with
    | some v, some vs => some ((i, v) :: vs)
    | _, _ => none
theorem Fr.evp (h : Fr N env a) : ∀ (l : List (Nat × Operand)) (vs : List (Nat × Value)), Proofs.Ytebklpbbglojmaa.evp env l = some vs → l.map (fun x => (x.1, a.eval x.2)) = vs
  | [], vs, e => by simpa [Proofs.Ytebklpbbglojmaa.evp] using e
  | (i, x) :: r, vs, e => by
    unfold Proofs.Ytebklpbbglojmaa.evp at e
    cases h1 : Proofs.Ytebklpbbglojmaa.ev env x with
    | none => simp [h1] at e
    | some v =>
      cases h2 : Proofs.Ytebklpbbglojmaa.evp env r with
      | none => simp [h1, h2] at e
      | some ws =>
        simp only [h1, h2, Option.some.injEq] at e
        rw [← e, List.map_cons, h.evp r ws h2, h.ev h1]
theorem y_build (hF : Fr N env a) {parts : List (Nat × Operand)} {vs : List (Nat × Value)} {v : Value} (hp : evp env parts = some vs) (hb : ∀ w : World, (Instr.build t vs.toArray).run P w = .ok v w) :
    Yv P w0 X es a ⟨dst, .build t parts.toArray, ty, ps, af, gd⟩ v := fun w _ => by
  have := hF.evp parts vs hp
  simp only [execOp, List.map_toArray, this]
  simp [hb]
theorem y_convert (hF : Fr N env a) {src d : TypeId} {v v' : Value} (hx : ev env x = some v) (hc : ∀ w : World, (convert src d v).run P w = .ok v' w) : Yv P w0 X es a ⟨dst, .convert src d x, ty, ps, af, gd⟩ v' := fun w _ => by
  simp [execOp, hF.ev hx, hc]
theorem y_field (hF : Fr N env a) {v v' : Value} {fld : Nat} (hx : ev env x = some v) (hc : ∀ w : World, (Instr.field t v fld).run P w = .ok v' w) : Yv P w0 X es a ⟨dst, .field t x fld, ty, ps, af, gd⟩ v' := fun w _ => by
  simp [execOp, hF.ev hx, hc]
theorem y_index (hF : Fr N env a) {v u v' : Value} (hx : ev env x = some v) (hy : ev env y = some u) (hc : ∀ w : World, (Instr.index t v u).run P w = .ok v' w) : Yv P w0 X es a ⟨dst, .index t x y, ty, ps, af, gd⟩ v' := fun w _ => by
  simp [execOp, hF.ev hx, hF.ev hy, hc]
/-- any operation of one, of whose run an equation is known -/
theorem y_run {o : Oper} {v : Value} (h : ∀ w, Wd w0 X es w → (execOp a.eval o).run P w = .ok (.value v) w) : Yv P w0 X es a o v := h
end
end Go.Proofs.Ytebklpbbglojmaa
