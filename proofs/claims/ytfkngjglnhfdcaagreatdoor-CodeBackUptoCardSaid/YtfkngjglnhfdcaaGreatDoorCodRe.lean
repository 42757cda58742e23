/- code.Read: the walk. -/
import Derived.Test.YtfkngjglnhfdcaaGreatDoorCodRd
import Derived.Test.YtfkngjglnhfdcaaGreatDoorEngR
namespace Go.Proofs.YtfkngjglnhfdcaaGreatDoor
set_option linter.unusedVariables false
set_option linter.unusedSimpArgs false
open Go.ChangeShapes Go.WideShapes Go.ChangeAt Go.RowKit Go.Shelf

attribute [local go_sem] Oper.semAt_some
set_option maxRecDepth 100000

theorem Own.ne {w : World} : ∀ (es : List Asn) (G : Nat → Prop) (i j : Nat) (A A' : Asn), Own w G es → i < j → es[i]? = some A → es[j]? = some A' → ∃ F F', A.holds w F ∧ A'.holds w F' ∧ ∀ k, F k → ¬ F' k
  | [], _, i, _, _, _, _, _, h, _ => by simp at h
  | B :: r, G, 0, j + 1, A, A', ⟨F, hA, hF, hr⟩, _, h, h' => by
    obtain rfl : B = A := by simpa using h
    obtain ⟨F', hA', hF'⟩ := Own.get r _ j A' hr (by simpa using h')
    exact ⟨F, F', hA, hA', fun k hk hk' => (hF' k hk').1 (.inr hk)⟩
  | B :: r, G, i + 1, j + 1, A, A', ⟨F, hA, hF, hr⟩, hij, h, h' => Own.ne r _ i j A A' hr (by omega) (by simpa using h) (by simpa using h')
theorem Wd.blk_ne {w0 w : World} {X : Nat → Prop} {es : List Asn} (hW : Wd w0 X es w) (i j : Nat) (hij : i < j) {b b' : Nat} {T T' : TypeId} {l l' : List Value} (hi : es[i]? = some (.blk b T l)) (hj : es[j]? = some (.blk b' T' l')) : b ≠ b' := by
  rintro rfl
  obtain ⟨F, F', h1, h2, h3⟩ := Own.ne es _ i j _ _ hW.own hij hi hj
  exact h3 _ h1.1 h2.1
/-- what lies between two rounds -/
structure St (w0 : World) (n0 b2 b3 b4 : Nat) (L : List Ins) (A : Option Addr) (c : Nat) (W : World) : Prop where
  b2 : Blk W b2 22 [.slice none 0 0]
  b3 : Blk W b3 24 [.int .i64 0]
  b4 : Blk W b4 22 [.slice A L.length c]
  row : W.ownsRow n0 46 4 (.slice A L.length c) L.length (L.flatMap Ins.cells)
  below : Below w0.heap.size w0 W
  size : n0 ≤ W.heap.size
theorem ne_row {W : World} {b : Nat} {T : TypeId} {l : List Value} (h : Blk W b T l) {row : Option Nat} (hr : ∀ r, row = some r → ∃ o : Obj, W.heap[r]? = some o ∧ o.isCells = false) : some b ≠ row := by
  rintro rfl
  obtain ⟨o, ho, hc⟩ := hr b rfl
  rw [h] at ho
  cases ho
  cases hc
section
variable {w0 W W' : World} {n0 b2 b3 b4 : Nat} {L : List Ins} {A : Option Addr} {c : Nat}
theorem St.grown (h : St w0 n0 b2 b3 b4 L A c W) {row : Option Nat} (hg : W.grownBy W' row) (hr : ∀ r, row = some r → w0.heap.size ≤ r ∧ ∃ o : Obj, W.heap[r]? = some o ∧ o.isCells = false) : St w0 n0 b2 b3 b4 L A c W' := by
  have hr2 : ∀ r, row = some r → ∃ o : Obj, W.heap[r]? = some o ∧ o.isCells = false := fun r e => (hr r e).2
  refine ⟨h.b2.grown hg (ne_row h.b2 hr2), h.b3.grown hg (ne_row h.b3 hr2), h.b4.grown hg (ne_row h.b4 hr2), ⟨h.row.1, ?_⟩, h.below.grown hg h.below.size fun r e => (hr r e).1, Nat.le_trans h.size hg.size⟩
  rcases h.row.2 with h2 | ⟨g, cap, cur, e, hb, hgh, r⟩
  · exact .inl h2
  · refine .inr ⟨g, cap, cur, e, hb, (hg.block g (Array.getElem?_eq_some_iff.1 hgh).1 fun e2 => ?_).trans hgh, r⟩
    obtain ⟨o, ho, hc⟩ := hr2 g e2.symm
    rw [hgh] at ho
    cases ho
    cases hc
theorem St.box (h : St w0 n0 b2 b3 b4 L A c W) {B : Nat} (h2 : B ≠ b2) (h3 : B ≠ b3) (h4 : B ≠ b4) (hn : B < n0) (hw : w0.heap.size ≤ B) (v : Value) : St w0 n0 b2 b3 b4 L A c (W.setCell ⟨B, 0, none⟩ v) :=
  ⟨h.b2.setOther h2 v, h.b3.setOther h3 v, h.b4.setOther h4 v, ownsRow_setCell_below h.row hn v, h.below.setCell hw v, by simpa using h.size⟩
end
theorem St.kept {w0 W W' : World} {n0 b2 b3 b4 : Nat} {L : List Ins} {A : Option Addr} {c : Nat} (h : St w0 n0 b2 b3 b4 L A c W) (hb : Below W.heap.size W W') : St w0 n0 b2 b3 b4 L A c W' :=
  ⟨h.b2.kept hb, h.b3.kept hb, h.b4.kept hb, ownsRow_kept_below h.row hb, h.below.trans (hb.mono h.below.size), Nat.le_trans h.size hb.size⟩
/-- what lies when a round has said no more -/
structure Sx (w0 : World) (b2 b3 : Nat) (W : World) : Prop where
  b2 : Blk W b2 22 [.slice none 0 0]
  b3 : Blk W b3 24 [.int .i64 1]
  below : Below w0.heap.size w0 W
theorem keeps_below {W W' : World} (hb : Below W.heap.size W W') : KeepsOthers W W' := ⟨hb.size, fun k _ hk _ => (hb.block k (Array.getElem?_eq_some_iff.1 hk).1).trans hk⟩
/-- a program with one instruction more -/
structure Apd (w0 : World) (n0 b2 b3 b4 : Nat) (L : List Ins) (A : Option Addr) (c : Nat) (i : Ins) (A' : Option Addr) (c' : Nat) (W W' : World) : Prop where
  b2 : Blk W' b2 22 [.slice none 0 0]
  b3 : Blk W' b3 24 [.int .i64 0]
  b4 : Blk W' b4 22 [.slice A L.length c]
  row : W'.ownsRow n0 46 4 (.slice A' (L.length + 1) c') (L.length + 1) (L.flatMap Ins.cells ++ i.cells)
  below : Below w0.heap.size w0 W'
  size : n0 ≤ W'.heap.size
  keep : KeepsOthers W W'
  same : ∀ k, k < n0 → W'.heap[k]? = W.heap[k]?
theorem Apd.cells {w0 W W' : World} {n0 b2 b3 b4 : Nat} {L : List Ins} {A A' : Option Addr} {c c' : Nat} {i : Ins} (h : Apd w0 n0 b2 b3 b4 L A c i A' c' W W') : W'.cell? ⟨b4, 0, none⟩ = some (.slice A L.length c) ∧ W'.frozen? ⟨b4, 0, none⟩ = false := ⟨h.b4.cell 0, h.b4.frozen 0⟩
theorem append_ins {F : Fence} {n : Nat} {w0 w1 w6 : World} {n0 b2 b3 b4 : Nat} {L : List Ins} {A : Option Addr} {c : Nat} {i : Ins} {ops : Array Oper} {rest : List Oper} {o : Oper} {a : Act} {Q : Exit → Act → World → Prop} {s x : Operand}
    (hg : o.guard = none) (hop : o.op = Op.call { callee := Callee.builtin Builtin.append, args := #[s, x], argTypes := #[22, 22] }) (hs : a.eval s = .slice A L.length c) (hx : a.eval x = .slice (some ⟨w1.heap.size + 1, 0, none⟩) 1 1)
    (hSt : St w0 n0 b2 b3 b4 L A c w6) (hw6 : w6 = w1.alloc (.cells #[.int .i64 i.op, .int .i64 i.a, .int .i64 i.b, .int .i64 i.n] 46)) (l2 : b2 < n0) (l3 : b3 < n0) (l4 : b4 < n0) (l0 : w0.heap.size ≤ n0) (hL : L.length ≤ 20)
    (hK : ∀ A' c' w10, Apd w0 n0 b2 b3 b4 L A c i A' c' w6 w10 → wpListIn F n Tryz.prog ops Q rest (a.put o.dst (.slice A' (L.length + 1) c')) w10) :
    wpListIn F n Tryz.prog ops Q (o :: rest) a ((w1.alloc (.cells #[.int .i64 i.op, .int .i64 i.a, .int .i64 i.b, .int .i64 i.n] 46)).alloc (.cells #[.int .i64 i.op, .int .i64 i.a, .int .i64 i.b, .int .i64 i.n] 46)) := by
  obtain ⟨i0, hi0, hz0, hz1, hz2⟩ := info_parts inf_46
  have hB9 := Blk.new1 w1 (.cells #[.int .i64 i.op, .int .i64 i.a, .int .i64 i.b, .int .i64 i.n] 46) #[.int .i64 i.op, .int .i64 i.a, .int .i64 i.b, .int .i64 i.n] 46
  have hSt9 : St w0 n0 b2 b3 b4 L A c ((w1.alloc (.cells #[.int .i64 i.op, .int .i64 i.a, .int .i64 i.b, .int .i64 i.n] 46)).alloc (.cells #[.int .i64 i.op, .int .i64 i.a, .int .i64 i.b, .int .i64 i.n] 46)) := by
    rw [← hw6]
    exact hSt.kept ((Below.refl _ _).alloc1 _)
  have hb69 : Below w6.heap.size w6 ((w1.alloc (.cells #[.int .i64 i.op, .int .i64 i.a, .int .i64 i.b, .int .i64 i.n] 46)).alloc (.cells #[.int .i64 i.op, .int .i64 i.a, .int .i64 i.b, .int .i64 i.n] 46)) := by
    rw [← hw6]
    exact (Below.refl _ _).alloc1 _
  generalize ((w1.alloc (.cells #[.int .i64 i.op, .int .i64 i.a, .int .i64 i.b, .int .i64 i.n] 46)).alloc (.cells #[.int .i64 i.op, .int .i64 i.a, .int .i64 i.b, .int .i64 i.n] 46)) = w9 at *
  refine wpListIn_append_own w9 hg s x 22 hop n0 46 i0 _ 4 32 Tryz.underlying22 hi0 hz0 hz1 hz2 rfl (by decide) _ L.length _ hs hSt9.row ⟨w1.heap.size + 1, 0, none⟩ 1 1 i.cells hx rfl (fun j u hu => ?_) (by intro u hu; simp [Ins.cells] at hu; rcases hu with rfl | rfl | rfl | rfl <;> rfl) (by unfold maxLen; omega) (by omega) hSt9.size ?_
  · rw [add_own, Nat.zero_add]
    exact (hB9.cell j).trans hu
  · intro v' w10 hown hgr _
    obtain ⟨g, cap, rfl⟩ := ownsRow_succ hown
    have hlt := hSt9.row.lt
    have hne : ∀ b, b < n0 → some b ≠ (Value.slice A L.length c).ownBlock := fun b hb e => by
      have := (hlt b e.symm).1
      omega
    refine hK _ _ _ ⟨hSt9.b2.grown hgr (hne _ l2), hSt9.b3.grown hgr (hne _ l3), hSt9.b4.grown hgr (hne _ l4), hown, hSt9.below.grown hgr hSt9.below.size (fun r e => Nat.le_trans l0 (hlt r e).1), Nat.le_trans hSt9.size hgr.size, (keeps_below hb69).trans (KeepsOthers.of_grownBy hgr fun j o e ho => ?_), fun k hk => (hgr.block k (by have := hSt9.size; omega) (hne k hk)).trans (hb69.block k (by have := hSt.size; omega))⟩
    rcases hSt9.row.2 with ⟨e2, _⟩ | ⟨g2, cap2, cur, e2, _, hg2, _⟩
    · rw [e2] at e
      cases e
    · rw [e2] at e
      cases e
      rw [hg2] at ho
      cases ho
      rfl
theorem Sx.end_ {w0 W : World} {n0 b2 b3 b4 : Nat} {L : List Ins} {A : Option Addr} {c : Nat} (h : St w0 n0 b2 b3 b4 L A c W) (n23 : b3 ≠ b2) (g2 : w0.heap.size ≤ b2) (g3 : w0.heap.size ≤ b3) : Sx w0 b2 b3 ((W.setCell ⟨b2, 0, none⟩ (.slice none 0 0)).setCell ⟨b3, 0, none⟩ (.int .i64 1)) :=
  ⟨(h.b2.set 0 (.slice none 0 0)).setOther (p := ⟨b3, 0, none⟩) n23 _, (h.b3.setOther (p := ⟨b2, 0, none⟩) n23.symm _).set 0 (.int .i64 1), (h.below.setCell (p := ⟨b2, 0, none⟩) g2 _).setCell (p := ⟨b3, 0, none⟩) g3 _⟩
theorem read_yes {l : List UInt8} {i : Ins} (hs : Says l i) (hl : l.length < 4294967281) {w : World} (hL : Lay w) : Calls Tryz.prog 29 #[.string (bstr l)] w fun e w' => e = .returned (.tuple #[.agg #[.int .i64 i.op, .int .i64 i.a, .int .i64 i.b, .int .i64 i.n], .int .i64 0]) ∧ Below w.heap.size w w' := by
  refine (isaRead_any l hl hL).mono ?_
  rintro e w' ⟨j, c, rfl, hb, h⟩
  rcases h with ⟨rfl, h⟩ | ⟨-, -, h⟩
  · obtain rfl := h.unique hs
    exact ⟨rfl, hb⟩
  · exact absurd hs (h _)
theorem read_none {l : List UInt8} (hs : ∀ j, ¬ Says l j) (hl : l.length < 4294967281) {w : World} (hL : Lay w) : Calls Tryz.prog 29 #[.string (bstr l)] w fun e w' => e = .returned (.tuple #[.agg #[.int .i64 0, .int .i64 0, .int .i64 0, .int .i64 0], .int .i64 1]) ∧ Below w.heap.size w w' := by
  refine (isaRead_any l hl hL).mono ?_
  rintro e w' ⟨j, c, rfl, hb, h⟩
  rcases h with ⟨-, h⟩ | ⟨rfl, rfl, -⟩
  · exact absurd h (hs _)
  · exact ⟨rfl, hb⟩

theorem Sx.grown {w0 W W' : World} {b2 b3 : Nat} (h : Sx w0 b2 b3 W) {row : Option Nat} (hg : W.grownBy W' row) (hr : ∀ r, row = some r → w0.heap.size ≤ r ∧ ∃ o : Obj, W.heap[r]? = some o ∧ o.isCells = false) : Sx w0 b2 b3 W' := by
  have hr2 : ∀ r, row = some r → ∃ o : Obj, W.heap[r]? = some o ∧ o.isCells = false := fun r e => (hr r e).2
  exact ⟨h.b2.grown hg (ne_row h.b2 hr2), h.b3.grown hg (ne_row h.b3 hr2), h.below.grown hg h.below.size fun r e => (hr r e).1⟩
set_option maxHeartbeats 8000000 in
theorem codeRead_any (l : List UInt8) (hl : l.length ≤ 1048576) {w : World} (hL : Lay w) : Calls Tryz.prog 15 #[.string (bstr l)] w fun e w' =>
    ∃ (L : List Ins) (A : Option Addr) (c : Nat) (x : Bool), e = .returned (.tuple #[.slice A L.length c, .int .i64 (if x then 0 else 1)]) ∧ Below w.heap.size w w' ∧ OwnRes w w' (fun u => Code_ u (.slice A L.length c) L) ∧ RdC l L x := by
  refine enterM Tryz.func15 rfl Tryz.ntmps15 rfl fun a hF => ?_
  have hW := Wd.start w NoB
  refine c_sr ?_; refine pe (e_alloc hF hW ze_22 rfl rfl rfl ?_); intro b1 a wc hF hW; refine pe (e_alloc hF hW ze_24 rfl rfl rfl ?_); intro b2 a wc hF hW; refine l_nil <| t_n <| c_s <| c_sr <| pv hF hW (y_move hF rfl) fun a hF => ?_; refine pe (e_call hF rfl rfl en_27 (by rfl) rfl rfl (has_own l (by omega) _) ?_); rintro e w1 ⟨rfl, rfl⟩; refine ⟨_, rfl, fun a hF => ?_⟩; refine Fr.splitB hF ?_ ?_
  · intro h3 hF; refine pv hF hW (y_not hF rfl) fun a hF => ?_; replace hF := hF.ff; refine l_nil ?_; replace hF := hF.ks [0, 2, 3, 10] rfl; refine t_n <| c_f hF rfl <| wp_skip <| t_n <| c_sr ?_; refine pe (e_alloc hF hW ze_22 rfl rfl rfl ?_); intro b4 a wc hF hW; refine l_nil <| t_n <| c_s <| c_sr <| pv hF hW (y_move hF rfl) fun a hF => ?_; refine pe (e_call hF rfl rfl en_28 (by rfl) rfl rfl (lines_own _ _) ?_); rintro e w1 ⟨B, rfl, hN⟩; replace hW := hW.comb1 hN; refine ⟨_, rfl, fun a hF => ?_⟩; refine l_nil ?_; replace hF := hF.ks [0, 2, 3, 4, 10, 12] rfl; refine t_n <| wp_block ?_; replace hF := (hF.k 0 rfl (hF.k 2 rfl (hF.k 3 rfl (hF.k 4 rfl (hF.k 12 rfl hF.nil)))))
    obtain ⟨u1, hu1⟩ : ∃ u, a.tmps.getD 1 undef = u := ⟨_, rfl⟩
    obtain ⟨u5, hu5⟩ : ∃ u, a.tmps.getD 5 undef = u := ⟨_, rfl⟩
    obtain ⟨u6, hu6⟩ : ∃ u, a.tmps.getD 6 undef = u := ⟨_, rfl⟩
    obtain ⟨u7, hu7⟩ : ∃ u, a.tmps.getD 7 undef = u := ⟨_, rfl⟩
    obtain ⟨u8, hu8⟩ : ∃ u, a.tmps.getD 8 undef = u := ⟨_, rfl⟩
    obtain ⟨u9, hu9⟩ : ∃ u, a.tmps.getD 9 undef = u := ⟨_, rfl⟩
    obtain ⟨u10, hu10⟩ : ∃ u, a.tmps.getD 10 undef = u := ⟨_, rfl⟩
    obtain ⟨u11, hu11⟩ : ∃ u, a.tmps.getD 11 undef = u := ⟨_, rfl⟩
    obtain ⟨u13, hu13⟩ : ∃ u, a.tmps.getD 13 undef = u := ⟨_, rfl⟩
    obtain ⟨u14, hu14⟩ : ∃ u, a.tmps.getD 14 undef = u := ⟨_, rfl⟩
    obtain ⟨u15, hu15⟩ : ∃ u, a.tmps.getD 15 undef = u := ⟨_, rfl⟩
    obtain ⟨u16, hu16⟩ : ∃ u, a.tmps.getD 16 undef = u := ⟨_, rfl⟩
    obtain ⟨u17, hu17⟩ : ∃ u, a.tmps.getD 17 undef = u := ⟨_, rfl⟩
    obtain ⟨u18, hu18⟩ : ∃ u, a.tmps.getD 18 undef = u := ⟨_, rfl⟩
    obtain ⟨u19, hu19⟩ : ∃ u, a.tmps.getD 19 undef = u := ⟨_, rfl⟩
    obtain ⟨u20, hu20⟩ : ∃ u, a.tmps.getD 20 undef = u := ⟨_, rfl⟩
    obtain ⟨u21, hu21⟩ : ∃ u, a.tmps.getD 21 undef = u := ⟨_, rfl⟩
    obtain ⟨u22, hu22⟩ : ∃ u, a.tmps.getD 22 undef = u := ⟨_, rfl⟩
    obtain ⟨u23, hu23⟩ : ∃ u, a.tmps.getD 23 undef = u := ⟨_, rfl⟩
    obtain ⟨u24, hu24⟩ : ∃ u, a.tmps.getD 24 undef = u := ⟨_, rfl⟩
    obtain ⟨u25, hu25⟩ : ∃ u, a.tmps.getD 25 undef = u := ⟨_, rfl⟩
    obtain ⟨u26, hu26⟩ : ∃ u, a.tmps.getD 26 undef = u := ⟨_, rfl⟩
    obtain ⟨u27, hu27⟩ : ∃ u, a.tmps.getD 27 undef = u := ⟨_, rfl⟩
    obtain ⟨u28, hu28⟩ : ∃ u, a.tmps.getD 28 undef = u := ⟨_, rfl⟩
    obtain ⟨u29, hu29⟩ : ∃ u, a.tmps.getD 29 undef = u := ⟨_, rfl⟩
    obtain ⟨u30, hu30⟩ : ∃ u, a.tmps.getD 30 undef = u := ⟨_, rfl⟩
    obtain ⟨u31, hu31⟩ : ∃ u, a.tmps.getD 31 undef = u := ⟨_, rfl⟩
    have hA : a = { tmps := #[.string (bstr l), u1, .pointer (some ⟨b1, 0, none⟩), .pointer (some ⟨b2, 0, none⟩), .pointer (some ⟨b4, 0, none⟩), u5, u6, u7, u8, u9, u10, u11, .func (.func 46) #[] #[.pointer (some ⟨B, 0, none⟩)], u13, u14, u15, u16, u17, u18, u19, u20, u21, u22, u23, u24, u25, u26, u27, u28, u29, u30, u31], defers := [] } := by rw [← hu1, ← hu5, ← hu6, ← hu7, ← hu8, ← hu9, ← hu10, ← hu11, ← hu13, ← hu14, ← hu15, ← hu16, ← hu17, ← hu18, ← hu19, ← hu20, ← hu21, ← hu22, ← hu23, ← hu24, ← hu25, ← hu26, ← hu27, ← hu28, ← hu29, ← hu30, ← hu31]; exact hF.tab
    clear hF hu1 hu5 hu6 hu7 hu8 hu9 hu10 hu11 hu13 hu14 hu15 hu16 hu17 hu18 hu19 hu20 hu21 hu22 hu23 hu24 hu25 hu26 hu27 hu28 hu29 hu30 hu31; subst hA
    have hend : ∃ t, l = t ++ [10] := (has10 l).1 (by simp_all)
    have B2 := hW.blk 3 rfl
    have B3 := hW.blk 2 rfl
    have B4 := hW.blk 1 rfl
    have BB := hW.blk 0 rfl
    have hBw := hW.below
    have g2 : w.heap.size ≤ b1 := Nat.le_of_not_lt fun h => (hW.blk_ge 3 rfl).1 ⟨h, id⟩
    have g3 : w.heap.size ≤ b2 := Nat.le_of_not_lt fun h => (hW.blk_ge 2 rfl).1 ⟨h, id⟩
    have g4 : w.heap.size ≤ b4 := Nat.le_of_not_lt fun h => (hW.blk_ge 1 rfl).1 ⟨h, id⟩
    have gB : w.heap.size ≤ B := Nat.le_of_not_lt fun h => (hW.blk_ge 0 rfl).1 ⟨h, id⟩
    have n2B : B ≠ b1 := fun e => by rw [e] at BB; exact absurd (BB.symm.trans B2) (by simp)
    have n3B : B ≠ b2 := fun e => by rw [e] at BB; exact absurd (BB.symm.trans B3) (by simp)
    have n4B : B ≠ b4 := fun e => by rw [e] at BB; exact absurd (BB.symm.trans B4) (by simp)
    have n24 : b4 ≠ b1 := hW.blk_ne 1 3 (by decide) rfl rfl
    have n34 : b4 ≠ b2 := hW.blk_ne 1 2 (by decide) rfl rfl
    have n23 : b2 ≠ b1 := hW.blk_ne 2 3 (by decide) rfl rfl
    clear hW
    obtain ⟨v0, hv0⟩ : ∃ z, z = w1 := ⟨_, rfl⟩
    subst hv0; refine (wpIn_wide (n := 5)).1 ?_; refine wp_rangeBox (gf := 46) (B := B) rfl en_46 (lines1 (bstr l) (by rw [bstr_size]; omega) B) (fun W h => (h B BB.lt).trans BB) BB.lt (fun _ => rfl)
      (fun pre W => ∃ L A c, Rdn pre L ∧ L.length ≤ 20 ∧ St w v0.heap.size b1 b2 b4 L A c W)
      (fun pre W => ∃ pre' x L, pre = pre' ++ [x] ∧ Rdn pre' L ∧ ((∀ j, ¬ Says (trimL x.data.toList) j) ∨ L.length = 20) ∧ Sx w b1 b2 W)
      (fun s X Y row hs hg hr => by obtain ⟨L, A, c, h1, h2, h3⟩ := hs; exact ⟨L, A, c, h1, h2, h3.grown hg fun r e => ⟨Nat.le_trans hBw.size (hr r e).1, (hr r e).2⟩⟩)
      (fun s X Y row hs hg hr => by obtain ⟨p, x, L, h1, h2, h3, h4⟩ := hs; exact ⟨p, x, L, h1, h2, h3, h4.grown hg fun r e => ⟨Nat.le_trans hBw.size (hr r e).1, (hr r e).2⟩⟩)
      (fun pre U v hs => by obtain ⟨L, A, c, h1, h2, h3⟩ := hs; exact ⟨L, A, c, h1, h2, h3.box n2B n3B n4B BB.lt gB v⟩)
      ⟨[], none, 0, .nil, by decide, B2, B3, B4, World.ownsRow_nil _ _ _ _, hBw, Nat.le_refl _⟩
      (fun x => { tmps := #[.string (bstr l), u1, .pointer (some ⟨b1, 0, none⟩), .pointer (some ⟨b2, 0, none⟩), .pointer (some ⟨b4, 0, none⟩), .string x, u6, u7, u8, u9, u10, u11, .func (.func 46) #[] #[.pointer (some ⟨B, 0, none⟩)], .string x, u14, u15, u16, u17, u18, u19, u20, u21, u22, u23, u24, u25, u26, u27, u28, u29, u30, u31], defers := [] }) ?assign ?body ?done ?stop
    case assign =>
      intro l1 x W K hK
      gi_wp2
      exact hK
    case body =>
      rintro l1 pre x W hxs ⟨L, A, c, hr, h20, hSt⟩
      rw [bstr_size] at hxs
      have hLW := hL.mono hSt.below
      have hsz := hSt.size
      have hxl : (trimL x.data.toList).length < 4294967281 := by
        have := trim_len x.data.toList
        have h2 : x.data.toList.length = x.size := rfl
        omega
      by_cases hsay : ∃ j, Says (trimL x.data.toList) j
      · obtain ⟨i, hs⟩ := hsay
        have n32 := n23.symm
        have n42 := n24
        have n43 := n34
        by_cases h2 : L.length = 20
        · have h20i : (L.length : Int) = 20 := by omega
          gi_wp2_with (first
            | (refine ⟨trivial, ?_⟩; gi_at_call 30; refine (CallsIn.inRound l1 (callsIn_wide.2 (trim_own x (by omega) _))).mono ?_; rintro e w' ⟨rfl, rfl⟩)
            | (refine ⟨trivial, ?_⟩; gi_at_call 29; refine (CallsIn.inRound l1 (callsIn_wide.2 (read_yes hs hxl hLW))).mono ?_; rintro e w1 ⟨rfl, hb⟩; obtain ⟨w6, hw6⟩ : ∃ z, z = w1.alloc (.cells #[.int .i64 i.op, .int .i64 i.a, .int .i64 i.b, .int .i64 i.n] 46) := ⟨_, rfl⟩; replace hSt := (hSt.kept hb).kept (hw6 ▸ (Below.refl _ _).alloc1 _); have c4 : w6.cell? ⟨b4, 0, none⟩ = some (.slice A L.length c) := hSt.b4.cell 0; have c2 : w6.cell? ⟨b1, 0, none⟩ = some (.slice none 0 0) := hSt.b2.cell 0; have c3 : (w6.setCell ⟨b1, 0, none⟩ (.slice none 0 0)).cell? ⟨b2, 0, none⟩ = some (.int .i64 0) := (hSt.b3.setOther (p := ⟨b1, 0, none⟩) n32 _).cell 0; have f2 := hSt.b2.frozen 0; have f3 := (hSt.b3.setOther (p := ⟨b1, 0, none⟩) n32 (.slice none 0 0)).frozen 0; have hk6 : KeepsOthers w' w6 := (keeps_below hb).trans (keeps_below (hw6 ▸ (Below.refl _ _).alloc1 _)); rw [hw6] at c2 c3 c4 f2 f3))
          subst hw6
          exact ⟨((hk6.trans (KeepsOthers.setCell _ _ _)).trans (KeepsOthers.setCell _ _ _)).from _, pre, x, L, rfl, hr, .inr h2, Sx.end_ hSt n23 g2 g3⟩
        · have h20i : ¬ (L.length : Int) = 20 := by omega
          obtain ⟨i0, hi0, hz0, hz1, hz2⟩ := info_parts inf_46
          gi_wp2_with (first
            | (refine ⟨trivial, ?_⟩; gi_at_call 30; refine (CallsIn.inRound l1 (callsIn_wide.2 (trim_own x (by omega) _))).mono ?_; rintro e w' ⟨rfl, rfl⟩)
            | (refine ⟨trivial, ?_⟩; gi_at_call 29; refine (CallsIn.inRound l1 (callsIn_wide.2 (read_yes hs hxl hLW))).mono ?_; rintro e w1 ⟨rfl, hb⟩; obtain ⟨w6, hw6⟩ : ∃ z, z = w1.alloc (.cells #[.int .i64 i.op, .int .i64 i.a, .int .i64 i.b, .int .i64 i.n] 46) := ⟨_, rfl⟩; replace hSt := (hSt.kept hb).kept (hw6 ▸ (Below.refl _ _).alloc1 _); have c4 : w6.cell? ⟨b4, 0, none⟩ = some (.slice A L.length c) := hSt.b4.cell 0; have hk6 : KeepsOthers w' w6 := (keeps_below hb).trans (keeps_below (hw6 ▸ (Below.refl _ _).alloc1 _)); have hb6 : Below w'.heap.size w' w6 := hw6 ▸ hb.alloc hb.size _; rw [hw6] at c4)
            | (gi_at_builtin; refine append_ins rfl rfl rfl rfl hSt hw6 B2.lt B3.lt B4.lt hBw.size h20 ?_; intro A' c' w10 hap; obtain ⟨hc10, hf10⟩ := hap.cells))
          have hlen : (L ++ [i]).length = L.length + 1 := by simp
          have hfm : (L ++ [i]).flatMap Ins.cells = L.flatMap Ins.cells ++ i.cells := by simp
          refine ⟨((hk6.trans hap.keep).trans (KeepsOthers.setCell _ _ _)).from _, ?_, L ++ [i], A', c', .snoc hr hs, by omega, ?_⟩
          · exact (Below.heap_setCell _ _ _ _ n4B).trans ((hap.same B BB.lt).trans (hb6.block B (Nat.lt_of_lt_of_le BB.lt hsz)))
          · exact ⟨hap.b2.setOther (p := ⟨b4, 0, none⟩) n24 _, hap.b3.setOther (p := ⟨b4, 0, none⟩) n34 _, by rw [hlen]; exact hap.b4.set 0 _, by rw [hlen, hfm]; exact ownsRow_setCell_below hap.row (a := ⟨b4, 0, none⟩) B4.lt _, hap.below.setCell (p := ⟨b4, 0, none⟩) g4 _, by simpa using hap.size⟩
      · have hno : ∀ j, ¬ Says (trimL x.data.toList) j := fun j h => hsay ⟨j, h⟩
        clear hsay
        have n32 := n23.symm
        gi_wp2_with (first
          | (refine ⟨trivial, ?_⟩; gi_at_call 30; refine (CallsIn.inRound l1 (callsIn_wide.2 (trim_own x (by omega) _))).mono ?_; rintro e w' ⟨rfl, rfl⟩)
          | (refine ⟨trivial, ?_⟩; gi_at_call 29; refine (CallsIn.inRound l1 (callsIn_wide.2 (read_none hno hxl hLW))).mono ?_; rintro e w1 ⟨rfl, hb⟩; obtain ⟨w6, hw6⟩ : ∃ z, z = w1.alloc (.cells #[.int .i64 0, .int .i64 0, .int .i64 0, .int .i64 0] 46) := ⟨_, rfl⟩; replace hSt := (hSt.kept hb).kept (hw6 ▸ (Below.refl _ _).alloc1 _); have c2 : w6.cell? ⟨b1, 0, none⟩ = some (.slice none 0 0) := hSt.b2.cell 0; have c3 : (w6.setCell ⟨b1, 0, none⟩ (.slice none 0 0)).cell? ⟨b2, 0, none⟩ = some (.int .i64 0) := (hSt.b3.setOther (p := ⟨b1, 0, none⟩) n32 _).cell 0; have f2 := hSt.b2.frozen 0; have f3 := (hSt.b3.setOther (p := ⟨b1, 0, none⟩) n32 (.slice none 0 0)).frozen 0; have hk6 : KeepsOthers w' w6 := (keeps_below hb).trans (keeps_below (hw6 ▸ (Below.refl _ _).alloc1 _)); rw [hw6] at c2 c3 f2 f3))
        subst hw6
        exact ⟨((hk6.trans (KeepsOthers.setCell _ _ _)).trans (KeepsOthers.setCell _ _ _)).from _, pre, x, L, rfl, hr, .inl hno, Sx.end_ hSt n23 g2 g3⟩
    case done =>
      rintro D xs W hD hxs ⟨L, A, c, hr, h20, hSt⟩ hK; refine b_n <| t_n ?_
      have c4 : W.cell? ⟨b4, 0, none⟩ = some (.slice A L.length c) := hSt.b4.cell 0
      have c2 : W.cell? ⟨b1, 0, none⟩ = some (.slice none 0 0) := hSt.b2.cell 0
      have c3 : W.cell? ⟨b2, 0, none⟩ = some (.int .i64 0) := hSt.b3.cell 0
      have f2 := hSt.b2.frozen 0
      have f3 := hSt.b3.frozen 0
      go_wp2
      have hs3 := World.cell?_setCell_same' (W.setCell ⟨b1, 0, none⟩ (.slice A L.length c)) ⟨b2, 0, none⟩ (.int .i64 0) (by rw [World.cell?_setCell_other W ⟨b1, 0, none⟩ ⟨b2, 0, none⟩ _ (fun e => n23 (congrArg Addr.block e).symm), c3]; rfl)
      have hs2 : ((W.setCell ⟨b1, 0, none⟩ (.slice A L.length c)).setCell ⟨b2, 0, none⟩ (.int .i64 0)).cell? ⟨b1, 0, none⟩ = some (.slice A L.length c) := (World.cell?_setCell_other _ ⟨b2, 0, none⟩ ⟨b1, 0, none⟩ (.int .i64 0) (fun e => n23 (congrArg Addr.block e))).trans (World.cell?_setCell_same' _ _ _ (by rw [c2]; rfl))
      have hK2 := ((KeepsOthers.setCell W ⟨b1, 0, none⟩ (.slice A L.length c)).trans (KeepsOthers.setCell _ ⟨b2, 0, none⟩ (.int .i64 0))).same D _ hK rfl
      have hrow := ownsRow_setCell_below (ownsRow_setCell_below hSt.row (a := ⟨b1, 0, none⟩) B2.lt (.slice A L.length c)) (a := ⟨b2, 0, none⟩) B3.lt (.int .i64 0)
      have hbel := (hSt.below.setCell (p := ⟨b1, 0, none⟩) g2 (.slice A L.length c)).setCell (p := ⟨b2, 0, none⟩) g3 (.int .i64 0)
      generalize ((W.setCell ⟨b1, 0, none⟩ (.slice A L.length c)).setCell ⟨b2, 0, none⟩ (.int .i64 0)) = W9 at *
      have k2 := cell_kept hs2 (grownBy_putObj' _ D (.deferred none)) (fun r e => by cases e; exact ⟨_, hK2, rfl⟩)
      have k3 := cell_kept hs3 (grownBy_putObj' _ D (.deferred none)) (fun r e => by cases e; exact ⟨_, hK2, rfl⟩)
      refine mk_end (v := .tuple #[.slice A L.length c, .int .i64 0]) hK2 ?_ ⟨L, A, c, true, rfl, hbel.trans (belowK_b (w := w) (Nat.le_refl _) W9 D _ _ (Nat.le_trans hBw.size hD) hK2 rfl rfl), OwnRes.flat (ownsRow_less (ownsRow_putObj hrow _ hK2 rfl) hBw.size), ⟨fun _ => hr.done h20 hxs hend, fun h => (by cases h)⟩⟩
      simp [results, Tryz.f15, go_sem, k2, k3]
    case stop =>
      rintro D pre W hD ⟨r, hpre⟩ ⟨p, x, L, rfl, hr, hno, hSx⟩ hK; refine (wpIn_wide (n := 5)).2 <| wp_ret <| b_r <| t_r ?_
      have c2 : W.cell? ⟨b1, 0, none⟩ = some (.slice none 0 0) := hSx.b2.cell 0
      have c3 : W.cell? ⟨b2, 0, none⟩ = some (.int .i64 1) := hSx.b3.cell 0
      have k2 := cell_kept c2 (grownBy_putObj' _ D (.deferred none)) (fun r e => by cases e; exact ⟨_, hK, rfl⟩)
      have k3 := cell_kept c3 (grownBy_putObj' _ D (.deferred none)) (fun r e => by cases e; exact ⟨_, hK, rfl⟩)
      refine mk_end (v := .tuple #[.slice none 0 0, .int .i64 1]) hK ?_ ⟨[], none, 0, false, rfl, hSx.below.trans (belowK_b (w := w) (Nat.le_refl _) W D _ _ (Nat.le_trans hBw.size hD) hK rfl rfl), fun _ _ => Flat.nil_, ⟨fun h => (by cases h), fun _ => ⟨rfl, fun k => hr.stop hpre hno k⟩⟩⟩
      simp [results, Tryz.f15, go_sem, k2, k3]
  · intro h3 hF; refine pv hF hW (y_not hF rfl) fun a hF => ?_; replace hF := hF.tt; refine l_nil ?_; replace hF := hF.ks [0, 2, 3, 10] rfl; refine t_n <| c_t hF rfl <| c_sr ?_; refine pe (e_store rfl hF hW rfl rfl 1 rfl rfl rfl sz_22 ?_); intro wc hW; refine pe (e_store rfl hF hW rfl rfl 0 rfl rfl rfl sz_24 ?_); intro wc hW; refine l_nil <| t_n <| wp_ret <| t_r <| mk_ret <| ret2 Tryz.results15 hF (rv_c1 hF rfl hW 1 rfl rfl Tryz.underlying22 rfl) (rv_c1 hF rfl hW 0 rfl rfl Tryz.underlying24 rfl) ?_; refine ⟨[], none, 0, false, rfl, hW.below, fun _ _ => Flat.nil_, ⟨fun h => (by cases h), fun _ => ⟨rfl, fun k hk => ?_⟩⟩⟩
    have := (has10 l).2 (saysC_end hk)
    simp_all
end Go.Proofs.YtfkngjglnhfdcaaGreatDoor
