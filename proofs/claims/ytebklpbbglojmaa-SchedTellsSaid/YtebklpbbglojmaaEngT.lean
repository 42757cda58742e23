/- The engine, part six: slices held against nil; what a call gave that owns several things; elements of own rows. No program is named. -/
import Derived.Test.YtebklpbbglojmaaEngS
namespace Go.Proofs.Ytebklpbbglojmaa
set_option linter.unusedVariables false
set_option linter.unusedSimpArgs false
open Go.ChangeShapes Go.WideShapes Go.ChangeAt Go.RowKit

section
variable {P : Program} {w0 w w' : World} {X : Nat → Prop} {es es' : List Asn} {a : Act} {N : Nat} {env : List (Nat × Value)} {dst : Option Tmp} {ty : TypeId} {ps : String} {af : Array Edge} {gd : Option (Nat × Bool)} {t t' e : TypeId} {x y : Operand} {A : Option Addr} {n c : Nat}
theorem y_eqNilS (hF : Fr N env a) (hx : ev env x = some (.slice A n c)) (hy : ev env y = some (.slice none 0 0)) (hu : P.underlying t = some (.slice e)) :
    Yv P w0 X es a ⟨dst, .binOp .eql t x y t', ty, ps, af, gd⟩ (.bool A.isNone) :=
  y_bin hF hx hy fun w => by
    have h := Lib.run_eql_slice_nil (P := P) w t e A n c 0 0 hu
    simp [eqGuard, h]

theorem Own.comb {H0 : Nat → Prop} (hb : Chg NoB w w') : ∀ (es' : List Asn) (H G' : Nat → Prop) {es : List Asn}, Own w' H es' → (∀ k, G' k → H k) → (∀ k, k < w.heap.size → G' k → H0 k) → (∀ k, k < w.heap.size → H k) → Own w H0 es → Own w' G' (es' ++ es)
  | [], _, _, es, _, _, h2, _, ho => Own.mono hb.size es _ _ (fun k hk hn => ⟨fun hg => hn (h2 k hk hg), hb.block k hk id⟩) ho
  | B :: r, H, G', es, ⟨F, hB, hF, hr⟩, h1, h2, h3, ho =>
    ⟨F, hB, fun k hk => ⟨fun hg => (hF k hk).1 (h1 k hg), (hF k hk).2⟩,
      Own.comb hb r _ _ hr (fun k hk => hk.elim (fun h => .inl (h1 k h)) .inr) (fun k hk hor => hor.elim (h2 k hk) fun hf => absurd (h3 k hk) (hF k hf).1) (fun k hk => .inl (h3 k hk)) ho⟩
/-- what a call gave, with all that it owns -/
theorem Wd.comb (hW : Wd w0 X es w) (hN : Wd w NoB es' w') : Wd w0 X (es' ++ es) w' := by
  have hz := hW.size
  exact ⟨hW.chg.trans (Chg.of_below hN.below), Own.comb hN.chg es' _ _ hN.own (fun k hk => ⟨by omega, id⟩) (fun k _ hk => hk) (fun k hk => ⟨hk, id⟩) hW.own⟩
theorem Wd.comb1 {E1 : Asn} (hW : Wd w0 X es w) (hN : Wd w NoB [E1] w') : Wd w0 X (E1 :: es) w' := hW.comb hN
theorem Wd.comb2 {E1 E2 : Asn} (hW : Wd w0 X es w) (hN : Wd w NoB [E1, E2] w') : Wd w0 X (E1 :: E2 :: es) w' := hW.comb hN
theorem Wd.comb3 {E1 E2 E3 : Asn} (hW : Wd w0 X es w) (hN : Wd w NoB [E1, E2, E3] w') : Wd w0 X (E1 :: E2 :: E3 :: es) w' := hW.comb hN

/-- an own row, as the block that it lies in -/
theorem Wd.row_whole (hW : Wd w0 X es w) (i : Nat) {T : TypeId} {size n : Nat} {v : Value} {cs : List Value} (hi : es[i]? = some (.row T size v n cs)) (hn : 0 < n) :
    ∃ b c l, v = .slice (some ⟨b, 0, none⟩) n c ∧ n ≤ c ∧ c ≤ maxLen ∧ l.length = c * size ∧ l.take (n * size) = cs ∧ Wd w0 X (es.set i (.blk b T l)) w := by
  rcases (hW.row i hi).2 with ⟨_, h0⟩ | ⟨g, cap, cur, rfl, _, hg, h1, h2, h3, h4⟩
  · omega
  · refine ⟨g, cap, cur.toList, rfl, h1, h2, by simpa using h3, h4, hW.upd i hi fun F hF => ⟨Chg.refl _ _, (· = g), ⟨rfl, fun _ h => h, by simpa [Blk] using hg⟩, fun k hk => ?_⟩⟩
    subst hk
    exact ⟨(Array.getElem?_eq_some_iff.1 hg).1, .inl (hF.2 _ rfl)⟩
/-- an own row that is only read from now on -/
theorem Wd.row_res (hW : Wd w0 X es w) (i : Nat) {T : TypeId} {size n : Nat} {v : Value} {cs : List Value} (hi : es[i]? = some (.row T size v n cs)) : Wd w0 X (es.set i (.res fun u => u.ownsRow 0 T size v n cs)) w :=
  hW.upd i hi fun F hF => ⟨Chg.refl _ _, fun k => v.ownBlock = some k, fun w'' hk => (((Asn.row T size v n cs).loc w w'' (fun k => v.ownBlock = some k) ⟨hF.1, fun _ h => h⟩ hk).1), fun k hk => ⟨(hF.1.lt k hk).2, .inl (hF.2 k hk)⟩⟩
theorem Wd.blk_res (hW : Wd w0 X es w) (i : Nat) {b : Nat} {T : TypeId} {l : List Value} (hi : es[i]? = some (.blk b T l)) : Wd w0 X (es.set i (.res fun u => Blk u b T l)) w :=
  hW.upd i hi fun F hF => ⟨Chg.refl _ _, (· = b), fun w'' hk => (hk b rfl).trans hF.2.2, fun k hk => by subst hk; exact ⟨hF.2.2.lt, .inl hF.1⟩⟩
/-- several things that were got, as one -/
theorem Wd.res2 {R1 R2 R : World → Prop} (hW : Wd w0 X (.res R1 :: .res R2 :: es) w) (h : ∀ u, R1 u → R2 u → R u) : Wd w0 X (.res R :: es) w := (hW.join rfl).weak 0 rfl fun u hu => h u hu.1 hu.2
theorem Wd.res3 {R1 R2 R3 R : World → Prop} (hW : Wd w0 X (.res R1 :: .res R2 :: .res R3 :: es) w) (h : ∀ u, R1 u → R2 u → R3 u → R u) : Wd w0 X (.res R :: es) w :=
  ((hW.join rfl).join rfl).weak 0 rfl fun u hu => h u hu.1.1 hu.1.2 hu.2
theorem Wd.rows2 {T1 T2 s1 s2 n1 n2 : Nat} {v1 v2 : Value} {cs1 cs2 : List Value} {R3 R : World → Prop} (hW : Wd w0 X (.row T1 s1 v1 n1 cs1 :: .row T2 s2 v2 n2 cs2 :: .res R3 :: es) w)
    (h : ∀ u, u.ownsRow 0 T1 s1 v1 n1 cs1 → u.ownsRow 0 T2 s2 v2 n2 cs2 → R3 u → R u) : Wd w0 X (.res R :: es) w := Wd.res3 ((hW.row_res 0 rfl).row_res 1 rfl) h
theorem Wd.blk2 {b : Nat} {T : TypeId} {l : List Value} {R1 R2 R : World → Prop} (hW : Wd w0 X (.blk b T l :: .res R1 :: .res R2 :: es) w) (h : ∀ u, Blk u b T l → R1 u → R2 u → R u) : Wd w0 X (.res R :: es) w := Wd.res3 (hW.blk_res 0 rfl) h
theorem Wd.row1 {T1 s1 n1 : Nat} {v1 : Value} {cs1 : List Value} {R3 R : World → Prop} (hW : Wd w0 X (.row T1 s1 v1 n1 cs1 :: .res R3 :: es) w) (h : ∀ u, u.ownsRow 0 T1 s1 v1 n1 cs1 → R3 u → R u) : Wd w0 X (.res R :: es) w := Wd.res2 (hW.row_res 0 rfl) h
theorem one_flat {α : Type} {enc : α → List Value} (h : ∀ q, ∀ u ∈ enc q, u.oneCell' = true) (l : List α) : ∀ u ∈ l.flatMap enc, u.oneCell' = true := fun u hu => by
  obtain ⟨q, _, hq⟩ := List.mem_flatMap.1 hu
  exact h q u hq
theorem flat_take {α : Type} {enc : α → List Value} {size b n : Nat} {T : TypeId} {l : List Value} {xs : List α} (h : Blk w b T l) (hn : n = xs.length) (hl : l.take (n * size) = xs.flatMap enc) (hs : ∀ q, (enc q).length = size) (hc : n ≤ c) (hm : c ≤ maxLen) : Flat enc size w (.slice (some ⟨b, 0, none⟩) n c) xs := by
  subst hn
  refine ⟨some ⟨b, 0, none⟩, c, rfl, hc, hm, ?_, fun _ => ⟨_, rfl, fun j u hu => ?_⟩⟩
  · clear hl h hc
    induction xs with
    | nil => simp
    | cons q r ih => rw [List.flatMap_cons, List.length_append, hs, ih, List.length_cons, Nat.succ_mul, Nat.add_comm]
  · rw [add_own, Nat.zero_add]
    refine (h.cell j).trans ?_
    rw [← hl, List.getElem?_take] at hu
    split at hu
    · exact hu
    · cases hu
end
theorem getD_app_l {α : Type} {l : List α} {x d : α} {i : Nat} (h : i < l.length) : (l ++ [x]).getD i d = l.getD i d := by
  simp only [List.getD, List.getElem?_append_left h]
theorem getD_app_r {α : Type} {l : List α} {x d : α} : (l ++ [x]).getD l.length d = x := by simp [List.getD]
theorem flatMap_set {α : Type} {enc : α → List Value} {size : Nat} (hs : ∀ q, (enc q).length = size) : ∀ (xs : List α) (p : Nat) (q : α), p < xs.length → (xs.set p q).flatMap enc = (xs.flatMap enc).take (p * size) ++ enc q ++ (xs.flatMap enc).drop (p * size + size)
  | [], _, _, h => by simp at h
  | y :: r, 0, q, _ => by simp [hs, List.drop_append, List.drop_of_length_le]
  | y :: r, p + 1, q, h => by
    have ih := flatMap_set hs r p q (by simpa using h)
    have e1 : (p + 1) * size = (enc y).length + p * size := by rw [hs, Nat.succ_mul]; omega
    simp only [List.set_cons_succ, List.flatMap_cons]
    rw [ih, e1, List.take_length_add_append, Nat.add_assoc, List.drop_length_add_append]
    simp
theorem splice_eq : ∀ (vs l : List Value) (o : Nat), o + vs.length ≤ l.length → splice l o vs = l.take o ++ (vs ++ l.drop (o + vs.length))
  | [], l, o, _ => by simp [splice]
  | v :: vs, l, o, h => by
    rw [List.length_cons] at h
    have ho : o < l.length := by omega
    rw [splice, splice_eq vs (l.set o v) (o + 1) (by simp; omega), List.set_eq_take_append_cons_drop, if_pos ho]
    have hl : (l.take o).length = o := by simp; omega
    rw [List.take_append, List.drop_append, hl]
    simp [show o + 1 - o = 1 by omega, show o + 1 + vs.length - o = vs.length + 1 by omega, List.take_take, List.drop_take, show min (o + 1) o = o by omega, show o - (o + 1 + vs.length) = 0 by omega, show o + 1 + vs.length = o + (vs.length + 1) by omega]
theorem flat_splice {α : Type} {enc : α → List Value} {size n p : Nat} (hs : ∀ q, (enc q).length = size) {xs : List α} {l : List Value} (hl : l.take (n * size) = xs.flatMap enc) (hn : n = xs.length) (hp : p < n) (hll : n * size ≤ l.length) (q : α) :
    (splice l (p * size) (enc q)).take (n * size) = (xs.set p q).flatMap enc := by
  have h1 : (p + 1) * size ≤ n * size := Nat.mul_le_mul_right _ hp
  rw [Nat.succ_mul] at h1
  rw [splice_eq _ _ _ (by rw [hs]; omega), flatMap_set hs _ _ _ (by omega), hs, ← hl]
  have e1 : (l.take (p * size)).length = p * size := by rw [List.length_take]; omega
  rw [List.take_append, List.take_append, e1, hs, List.take_take, List.take_take, List.drop_take, Nat.min_eq_right (by omega), Nat.min_eq_left (by omega), List.take_of_length_le (l := enc q) (by rw [hs]; omega), Nat.sub_sub, List.append_assoc]
end Go.Proofs.Ytebklpbbglojmaa
