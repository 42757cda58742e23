/- sched.slots: a loop over the slots of a system. -/
import Derived.RangeFuncNested
import Derived.RangeFuncBound
import Derived.RangeFuncCalls
import Derived.RangeFuncLeaves
import Derived.Shelf.Abstract
import Derived.Shelf.RegionOpen
import Derived.WalkKit
import Derived.OwnWalkIn
import Derived.TacticsInMore
import Derived.LoopNIn
import Derived.LoopIn
import Derived.Test.YtebklpbbglojmaaConfC
namespace Go.Proofs.Ytebklpbbglojmaa
set_option linter.unusedVariables false
set_option linter.unusedSimpArgs false
open Go.RowKit Go.Shelf
attribute [local go_sem] Oper.semAt_some
set_option maxRecDepth 100000

/-- the tick at which a slot begins -/
def tick0 (ss : List Slt) (k : Nat) : Int := ((ss.take k).map Slt.ticks).sum
theorem tick0_zero (ss : List Slt) : tick0 ss 0 = 0 := rfl
theorem tick0_succ {ss : List Slt} {k : Nat} (hk : k < ss.length) : tick0 ss (k + 1) = tick0 ss k + (ss.getD k S0).ticks := by
  unfold tick0
  rw [List.take_add_one, List.getElem?_eq_getElem hk, List.getD, List.getElem?_eq_getElem hk, List.map_append, List.sum_append]
  simp
def slotAt (ss : List Slt) (k : Nat) : Int × Slt := (tick0 ss k, ss.getD k S0)
def slotsTo (ss : List Slt) (k : Nat) : List (Int × Slt) := (List.range k).map (slotAt ss)
theorem slotsTo_succ (ss : List Slt) (k : Nat) : slotsTo ss (k + 1) = slotsTo ss k ++ [slotAt ss k] := by simp [slotsTo, List.range_succ]
theorem slotsTo_len (ss : List Slt) (k : Nat) : (slotsTo ss k).length = k := by simp [slotsTo]
def encS (x : Int × Slt) : Array Value := #[.int .i64 x.1, .agg #[.int .i64 x.2.part, .int .i64 x.2.ticks]]

/-- cells are as they were, but for these blocks -/
structure KpX (X : Nat → Prop) (A B : World) : Prop where
  os : B.os = A.os
  tape : B.tape = A.tape
  output : B.output = A.output
  size : A.heap.size ≤ B.heap.size
  block : ∀ k o, ¬ X k → A.heap[k]? = some o → o.isCells = true → B.heap[k]? = some o
section
variable {X : Nat → Prop} {A B C : World}
theorem KpX.refl (X : Nat → Prop) (A : World) : KpX X A A := ⟨rfl, rfl, rfl, Nat.le_refl _, fun _ _ _ h _ => h⟩
theorem KpX.trans (h : KpX X A B) (k : KpX X B C) : KpX X A C := ⟨k.os.trans h.os, k.tape.trans h.tape, k.output.trans h.output, Nat.le_trans h.size k.size, fun i o hX hi ho => k.block i o hX (h.block i o hX hi ho) ho⟩
theorem KpX.of_below (h : Below A.heap.size A B) : KpX X A B := ⟨h.os, h.tape, h.output, h.size, fun k o _ hk _ => (h.block k (Array.getElem?_eq_some_iff.1 hk).1).trans hk⟩
theorem KpX.alloc (h : KpX X A B) (o : Obj) : KpX X A (B.alloc o) := h.trans (KpX.of_below ((Below.refl _ _).alloc (Nat.le_refl _) o))
theorem KpX.put (W : World) (l : Nat) (o o' : Obj) (h : W.heap[l]? = some o) (hc : o.isCells = false) : KpX X W (W.putObj l o') :=
  ⟨rfl, rfl, rfl, by simp, fun k u _ hk hu => by
    rw [World.putObj_heap_other (by rintro rfl; rw [h] at hk; cases hk; rw [hc] at hu; cases hu)]
    exact hk⟩
theorem KpX.set (h : KpX X A B) {p : Addr} (hp : X p.block) (v : Value) : KpX X A (B.setCell p v) :=
  h.trans ⟨rfl, rfl, rfl, by simp, fun k o hX hk _ => by
    have hne : k ≠ p.block := fun e => hX (by rw [e]; exact hp)
    rw [Below.heap_setCell _ _ _ _ (by first | exact hne | exact hne.symm)]
    exact hk⟩
theorem cells_of_cell {p : Addr} {u : Value} (h : A.cell? p = some u) : ∃ o, A.heap[p.block]? = some o ∧ o.isCells = true := by
  have hl := World.block_lt_of_cell? A p h
  refine ⟨A.heap[p.block], Array.getElem?_eq_getElem hl, ?_⟩
  cases ho : A.heap[p.block] with
  | cells c e f => rfl
  | _ =>
    have h2 : A.heap[p.block]? = some _ := (Array.getElem?_eq_getElem hl).trans (congrArg some ho)
    unfold World.cell? at h
    rw [h2] at h
    revert h
    cases p.spot <;> simp
theorem KpX.cell (h : KpX X A B) {p : Addr} {u : Value} (hX : ¬ X p.block) (hc : A.cell? p = some u) : B.cell? p = some u := by
  obtain ⟨o, ho, hco⟩ := cells_of_cell hc
  exact (World.cell?_of_block (w := A) ((h.block _ _ hX ho hco).trans ho.symm)).trans hc
end

set_option maxHeartbeats 4000000 in
theorem slots1_in (n : Nat) (hn : 1 ≤ n) (l Bs b off cap len : Nat) (X : Nat → Prop) (ss : List Slt) (hlen : len = ss.length) (hsum : ∀ k, k ≤ len → 0 ≤ tick0 ss k ∧ tick0 ss k ≤ 1000) (hl6 : len ≤ 1000) (J Jx : List (Int × Slt) → World → Prop)
    (hJ : ∀ pre W o, J pre W → J pre (W.alloc o))
    (hY : ∀ pre x W, J pre W → pre.length < len → YieldAt Fence.wide (n - 1) Try.prog l (encS x) W fun e W' =>
      (e = .returned (.bool true) ∧ J (pre ++ [x]) W' ∧ KpX X W W') ∨ (e = .returned (.bool false) ∧ Jx (pre ++ [x]) W'))
    (W : World) (hXb : ¬ X b) (hXs : ¬ X Bs) (hXn : ∀ k, X k → k < W.heap.size) (hBs : W.cell? ⟨Bs, 2, none⟩ = some (.slice (some ⟨b, off, none⟩) len cap)) (hc : ∀ j, j < len → W.cell? ⟨b, off + j * 2, none⟩ = some (.int .i64 (ss.getD j S0).part) ∧ W.cell? ⟨b, off + j * 2 + 1, none⟩ = some (.int .i64 (ss.getD j S0).ticks)) (h0 : J [] W) :
    CallsIn Fence.wide n Try.prog 93 #[.func (.yield l) #[] #[], .pointer (some ⟨Bs, 0, none⟩)] W fun e W' => (∃ v, e = .returned v) ∧
      ((∃ ys, ys = slotsTo ss len ∧ J ys W') ∨ (∃ pre, (∃ k, k ≤ len ∧ pre = slotsTo ss k) ∧ Jx pre W')) := by
  refine callsIn_of_wp Try.func93 rfl trivial ?_ rfl
  simp only [Try.ntmps93, List.size_toArray, List.length_cons, List.length_nil, Nat.reduceAdd, Nat.reduceSub, Array.replicate_succ, Array.replicate_zero, List.push_toArray, List.append_toArray, List.nil_append, List.cons_append]
  gi_wp2
  gi_loopw [3, 9] (fun t i wr => ∃ k : Nat, k ≤ len ∧ t = .int .i64 (tick0 ss k) ∧ i = .int .i64 k ∧ J (slotsTo ss k) wr ∧ KpX X W wr)
    (fun _ i _ => len - (intOf i).toNat)
  case atStart => exact ⟨0, Nat.zero_le _, rfl, rfl, h0, KpX.refl _ _⟩
  case round =>
    obtain ⟨k, hk, rfl, rfl, hJs', hnx⟩ := hrel
    by_cases hlt : k < len
    · have hcx := hc k hlt
      have hc0 := hnx.cell (p := ⟨b, off + k * 2, none⟩) hXb hcx.1
      have hc1 := hnx.cell (p := ⟨b, off + k * 2 + 1, none⟩) hXb hcx.2
      have hx : slotAt ss k = (tick0 ss k, ss.getD k S0) := rfl
      have hsucc := tick0_succ (ss := ss) (k := k) (by omega)
      have hs1 := hsum (k + 1) (by omega)
      have hrd := hY (slotsTo ss k) (slotAt ss k)
      rw [hx] at hrd
      have hsl := slotsTo_succ ss k
      rw [hx] at hsl
      generalize ss.getD k S0 = y at *
      obtain ⟨pp, tk⟩ := y
      generalize tick0 ss k = t at *
      generalize ht' : tick0 ss (k + 1) = t' at *
      dsimp only at *
      have hw : IntKind.i64.wrap (t + tk) = t' := by rw [IntWalk.i64_in _ (by omega), hsucc]
      have hsz := hnx.size
      obtain ⟨fn, tmps, assign, body, hy, hR⟩ := hrd (wr.alloc (.cells #[.int .i64 pp, .int .i64 tk] 83)) (hJ _ _ _ hJs') (by rw [slotsTo_len]; exact hlt)
      simp only [encS] at hy
      gi_wp2
      refine hR.mono ?_
      rintro e W3 (⟨rfl, hJ3, hk3⟩ | ⟨rfl, hJx3⟩)
      · have hc5 : W3.cell? ⟨wr.heap.size, 1, none⟩ = some (.int .i64 tk) := hk3.cell (p := ⟨wr.heap.size, 1, none⟩) (fun h => by have := hXn _ h; dsimp only at this; omega) ((Blk.new wr #[.int .i64 pp, .int .i64 tk] 83).cell 1)
        gi_wp2
        go_roundw
        case rel => exact ⟨k + 1, by omega, by rw [ht']; simp; exact hsucc.symm, by simp, by rw [hsl]; exact hJ3, (hnx.alloc _).trans hk3⟩
        case measure => simp [intOf]; omega
      · gi_wp2
        refine bodyPost_ret (results_none rfl _ _ _) rfl ?_
        exact ⟨⟨_, rfl⟩, .inr ⟨_, ⟨k + 1, by omega, hsl.symm⟩, hJx3⟩⟩
    · obtain rfl : k = len := by omega
      gi_wp2
      go_end0
      exact ⟨⟨_, rfl⟩, .inl ⟨_, rfl, hJs'⟩⟩

theorem slots1_stops (n : Nat) (hn : 1 ≤ n) {Bs b off cap len : Nat} {T : TypeId} {v1 v2 : Value} {X : Nat → Prop} {ss : List Slt} {w : World} (hlen : len = ss.length) (hsum : ∀ k, k ≤ len → 0 ≤ tick0 ss k ∧ tick0 ss k ≤ 1000) (hl6 : len ≤ 1000) (hXb : ¬ X b) (hXs : ¬ X Bs) (hXn : ∀ k, X k → k < w.heap.size)
    (hB : Blk w Bs T [v1, v2, .slice (some ⟨b, off, none⟩) len cap]) (hR : RF w (some ⟨b, off, none⟩) len 2 (fun k => Slt.cells (ss.getD k S0))) :
    SeqStopsK Fence.wide n Try.prog 93 #[.pointer (some ⟨Bs, 0, none⟩)] encS (KpX X) (fun ys => ys = slotsTo ss len) (fun pre => ∃ k, k ≤ len ∧ pre = slotsTo ss k) len w := fun l J Jx W hW hJ hJx hY h0 => by
  have hBs := (hB.kept hW).cell 2
  refine slots1_in n hn l Bs b off cap len X ss hlen hsum hl6 J Jx (fun pre W o h => hJ pre W _ none h (World.grownBy_alloc W o none) (fun r e => by cases e)) hY W hXb hXs (fun k hk => Nat.lt_of_lt_of_le (hXn k hk) hW.size) hBs (fun j hj => ?_) h0
  have := (hR.below hW (by omega)).2 j hj
  have h1 := this 0 _ rfl
  have h2 := this 1 _ rfl
  simp only [adr, Option.getD_some, add_own, Nat.add_assoc] at h1 h2
  exact ⟨h1, by rw [Nat.add_assoc]; exact h2⟩

theorem slots_in (n : Nat) (v1 v2 v3 : Value) (w : World) : CallsIn Fence.wide n Try.prog 79 #[.agg #[v1, v2, v3]] w fun e w' => e = .returned (.func (.func 93) #[] #[.pointer (some ⟨w.heap.size, 0, none⟩)]) ∧ w' = w.alloc (.cells #[v1, v2, v3] 68) := by
  refine callsIn_of_wp Try.func79 rfl trivial ?_ rfl
  simp only [Try.ntmps79, List.size_toArray, List.length_cons, List.length_nil, Nat.reduceAdd, Nat.reduceSub, Array.replicate_succ, Array.replicate_zero, List.push_toArray, List.append_toArray, List.nil_append, List.cons_append]
  gi_wp2
  go_ret
  exact ⟨rfl, rfl⟩
theorem cell_alloc_l {W : World} (o : Obj) {p : Addr} {v : Value} (h : W.cell? p = some v) : (W.alloc o).cell? p = some v := cell_below ((Below.refl _ _).alloc1 _) h
theorem frozen_alloc_l {W : World} (o : Obj) {p : Addr} {v : Value} (h : W.cell? p = some v) (hf : W.frozen? p = false) : (W.alloc o).frozen? p = false := by
  have hb := ((Below.refl W.heap.size W).alloc1 o).block p.block (World.block_lt_of_cell? W p h)
  unfold World.frozen? at hf ⊢
  rw [hb]
  exact hf
def lastEnd (pre : List (Int × Slt)) : Int := match pre.getLast? with
  | none => 0
  | some x => wrap64 (x.1 + x.2.ticks)
theorem lastEnd_snoc (pre : List (Int × Slt)) (x : Int × Slt) : lastEnd (pre ++ [x]) = wrap64 (x.1 + x.2.ticks) := by simp [lastEnd]
theorem lastEnd_all {ss : List Slt} {k : Nat} (hpos : 0 < k) (hk : k ≤ ss.length) (hsum : ∀ k, k ≤ ss.length → 0 ≤ tick0 ss k ∧ tick0 ss k ≤ 1000) : lastEnd (slotsTo ss k) = tick0 ss k := by
  obtain ⟨m, rfl⟩ : ∃ m, k = m + 1 := ⟨k - 1, by omega⟩
  have h1 := hsum (m + 1) hk
  rw [slotsTo_succ, lastEnd_snoc]
  rw [tick0_succ (by omega)] at h1 ⊢
  show wrap64 (tick0 ss m + (ss.getD m S0).ticks) = _
  unfold wrap64
  omega
set_option maxHeartbeats 4000000 in
theorem frame_in (n : Nat) (hn : 3 ≤ n) {v1 v2 : Value} {b off cap len : Nat} {ss : List Slt} {w : World} (hlen : len = ss.length) (hpos : 0 < len) (hsum : ∀ k, k ≤ len → 0 ≤ tick0 ss k ∧ tick0 ss k ≤ 1000) (hl6 : len ≤ 1000) (hR : RF w (some ⟨b, off, none⟩) len 2 (fun k => Slt.cells (ss.getD k S0))) (hb : b < w.heap.size) :
    CallsIn Fence.wide n Try.prog 78 #[.agg #[v1, v2, .slice (some ⟨b, off, none⟩) len cap]] w fun e W' => e = .returned (.int .i64 (tick0 ss len)) ∧ Below w.heap.size w W' := by
  have h1 : 1 ≤ n := by omega
  subst hlen
  refine callsIn_of_wp_marks Try.func78 rfl trivial ?_ rfl
  simp only [Try.ntmps78, List.size_toArray, List.length_cons, List.length_nil, Nat.reduceAdd, Nat.reduceSub, Array.replicate_succ, Array.replicate_zero, List.push_toArray, List.append_toArray, List.nil_append, List.cons_append]
  gi_wp2_with (refine ⟨trivial, ?_⟩; gi_at_call 79; refine (slots_in (n - 1) _ _ _ _).mono ?_; rintro e w' ⟨rfl, rfl⟩)
  have hE := (Blk.new1 w (.cells #[v1, v2, .slice (some ⟨b, off, none⟩) ss.length cap] 68) #[.int .i64 0] 3).alloc (.cells #[v1, v2, .slice (some ⟨b, off, none⟩) ss.length cap] 68)
  have hS := Blk.new2 w (.cells #[v1, v2, .slice (some ⟨b, off, none⟩) ss.length cap] 68) (.cells #[.int .i64 0] 3) #[v1, v2, .slice (some ⟨b, off, none⟩) ss.length cap] 68
  have hB0 : Below w.heap.size w (((w.alloc (.cells #[v1, v2, .slice (some ⟨b, off, none⟩) ss.length cap] 68)).alloc (.cells #[.int .i64 0] 3)).alloc (.cells #[v1, v2, .slice (some ⟨b, off, none⟩) ss.length cap] 68)) := (((Below.refl _ _).alloc1 _).alloc1 _).alloc1 _
  have hsz : (((w.alloc (.cells #[v1, v2, .slice (some ⟨b, off, none⟩) ss.length cap] 68)).alloc (.cells #[.int .i64 0] 3)).alloc (.cells #[v1, v2, .slice (some ⟨b, off, none⟩) ss.length cap] 68)).heap.size = w.heap.size + 3 := by simp
  generalize (((w.alloc (.cells #[v1, v2, .slice (some ⟨b, off, none⟩) ss.length cap] 68)).alloc (.cells #[.int .i64 0] 3)).alloc (.cells #[v1, v2, .slice (some ⟨b, off, none⟩) ss.length cap] 68)) = W0 at *
  refine wpIn_rangeFunc_ownH rfl h1 (gf := 93) (lb := #[.pointer (some ⟨w.heap.size + 1 + 1, 0, none⟩)]) rfl trivial en_93
    (slots1_stops (X := (· = w.heap.size + 1)) (n - 1) (by omega) rfl hsum hl6 (by omega) (by omega) (fun k hk => by omega) hS (hR.below hB0)) KpX.trans (fun W l o o' _ h hc _ => KpX.put W l o o' h hc) (Below.refl _ _) (fun _ => rfl)
    (fun pre W => (W.cell? ⟨w.heap.size + 1, 0, none⟩ = some (.int .i64 (lastEnd pre)) ∧ W.frozen? ⟨w.heap.size + 1, 0, none⟩ = false) ∧ Below w.heap.size w W)
    (fun _ _ _ => False)
    (OwnFrom.and (Own.from (fun s A B row hs hg hr => ⟨cell_kept hs.1 hg hr, (frozen_kept hs.1 hg hr).trans hs.2⟩) _) (ownFrom_below (Nat.le_refl _) (by omega)))
    (fun _ _ _ _ _ hs _ _ => hs)
    ⟨⟨hE.cell 0, hE.frozen 0⟩, hB0⟩
    (fun x a' W => ∃ Bx, Bx ≠ w.heap.size + 1 ∧ W.cell? ⟨Bx, 0, none⟩ = some (.int .i64 x.2.part) ∧ W.cell? ⟨Bx, 1, none⟩ = some (.int .i64 x.2.ticks) ∧ a' = { tmps := #[.agg #[v1, v2, .slice (some ⟨b, off, none⟩) ss.length cap], .pointer (some ⟨w.heap.size, 0, none⟩), .int .i64 0, .pointer (some ⟨w.heap.size + 1, 0, none⟩), .int .i64 x.1, .pointer (some ⟨Bx, 0, none⟩), .agg #[v1, v2, .slice (some ⟨b, off, none⟩) ss.length cap], .func (.func 93) #[] #[.pointer (some ⟨w.heap.size + 1 + 1, 0, none⟩)], .int .i64 x.1, .agg #[.int .i64 x.2.part, .int .i64 x.2.ticks], undef, undef, undef, undef, undef], defers := [] })
    (fun x a' => Own.from (fun s A B row hs hg hr => by obtain ⟨Bx, h0, h1, h2, rfl⟩ := hs; exact ⟨Bx, h0, cell_kept h1 hg hr, cell_kept h2 hg hr, rfl⟩) _) ?assign ?body ?done ?stop
  case assign =>
    intro l pre x W K ⟨hc, hBW⟩ hK
    have hBn := Blk.new W #[.int .i64 x.2.part, .int .i64 x.2.ticks] 83
    have hsW := hBW.size
    have hlt := World.block_lt_of_cell? W _ hc.1
    simp only [encS]
    gi_wp2
    refine hK _ _ ((KeepsOthers.alloc _ _).from _) ((KpX.refl _ _).alloc _) ⟨⟨cell_alloc_l _ hc.1, frozen_alloc_l _ hc.1 hc.2⟩, hBW.alloc1 _⟩ ⟨W.heap.size, ?_, hBn.cell 0, hBn.cell 1, rfl⟩
    omega
  case body =>
    rintro l pre x a' W hl hr ⟨hc, hBW⟩ ⟨Bx, hBx, c0, c1, rfl⟩ hlt
    have hc0 := hc.1
    have hc1 := hc.2
    gi_wp2
    exact ⟨(KeepsOthers.setCell _ _ _).from _, (KpX.refl (fun k => k = w.heap.size + 1) W).set (p := ⟨w.heap.size + 1, 0, none⟩) rfl _, ⟨by rw [lastEnd_snoc]; exact World.cell?_setCell_same' _ _ _ (by rw [hc0]; rfl), by rw [World.frozen?_setCell]; exact hc1⟩, hBW.setCell (p := ⟨w.heap.size + 1, 0, none⟩) (by simp) _⟩
  case done =>
    rintro D ys W hD rfl ⟨⟨hc, _⟩, hB⟩ hK
    gi_wp2
    refine ⟨by simp, .inl ⟨_, _, rfl, run_takeDeferred hK, ?_⟩⟩
    exact ⟨_, results_tmp rfl _ _ _, by rw [lastEnd_all hpos (Nat.le_refl _) hsum]; rfl, hB.trans (belowK_b (w := w) (Nat.le_refl _) W D _ _ (by omega) hK rfl rfl)⟩
  case stop =>
    rintro D c pre W _ _ h _
    exact h.elim
end Go.Proofs.Ytebklpbbglojmaa
