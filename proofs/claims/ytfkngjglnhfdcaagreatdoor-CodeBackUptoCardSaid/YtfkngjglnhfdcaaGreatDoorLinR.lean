/- A range over a function whose closure keeps its place in a box of its own: the law, and strings.Lines under it. -/
import Derived.RangeFuncNested
import Derived.RangeFuncBound
import Derived.RangeFuncCalls
import Derived.RangeFuncLeaves
import Derived.Shelf.Abstract
import Derived.Shelf.RegionOpen
import Derived.WalkKit
import Derived.OwnWalkIn
import Derived.TacticsInMore
import Derived.LoopNIn
import Derived.LoopIn
import Derived.BigRegionIn
import Derived.Shelf.Small.Strs
import Derived.Test.YtfkngjglnhfdcaaGreatDoorEngJ
import Derived.Test.YtfkngjglnhfdcaaGreatDoorLayS
import Derived.Test.YtfkngjglnhfdcaaGreatDoorTys
namespace Go.Proofs.YtfkngjglnhfdcaaGreatDoor
set_option linter.unusedVariables false
set_option linter.unusedSimpArgs false
open Go.RowKit Go.Shelf
attribute [local go_sem] Oper.semAt_some
set_option maxRecDepth 100000

/-- an iterator that turns no cells but those of its box B -/
def SeqBox {α : Type} (P : Program) (gf B : Nat) (encs : α → Array Value) (S Sp : List α → Prop) (Ok : α → Prop) (Init : World → Prop) : Prop :=
  ∀ (l : Nat) (J Jx : List α → World → Prop) (W : World), Init W → (∀ pre U v, J pre U → J pre (U.setCell ⟨B, 0, none⟩ v)) → (∀ pre U, J pre U → J pre U.drew) →
    (∀ pre x U, Ok x → J pre U → YieldAt Fence.wide 3 P l (encs x) U fun e U' => (e = .returned (.bool true) ∧ J (pre ++ [x]) U' ∧ U'.heap[B]? = U.heap[B]?) ∨ (e = .returned (.bool false) ∧ Jx (pre ++ [x]) U')) →
    J [] W → CallsIn Fence.wide 4 P gf #[.func (.yield l) #[] #[], .pointer (some ⟨B, 0, none⟩)] W fun e W' => (∃ v, e = .returned v) ∧ ((∃ xs, S xs ∧ J xs W') ∨ (∃ pre, Sp pre ∧ Jx pre W'))
/-- how a round's body may be left -/
def boxPost {α : Type} (B B0 : Nat) (I : List α → World → Prop) (Ix : List α → World → Prop) (xs : List α) (W : World) : Exit → Act → World → Prop
  | .normal, _, W' => KeepsFrom B0 W W' ∧ W'.heap[B]? = W.heap[B]? ∧ I xs W'
  | .ret, _, W' => KeepsFrom B0 W W' ∧ Ix xs W'
  | _, _, _ => False
theorem wp_rangeBox {α : Type} {P : Program} {g : Operand} {ps : Array Tmp} {assign body : Code} {Q : Exit → Act → World → Prop} {a : Act} {w : World} {gf B : Nat}
    (hg : a.eval g = .func (.func gf) #[] #[.pointer (some ⟨B, 0, none⟩)]) (eg : ∀ args w, (callFunc gf args).run P w = .ok (.enter gf args) w)
    {encs : α → Array Value} {S Sp : List α → Prop} {Ok : α → Prop} {Init : World → Prop} (hseq : SeqBox P gf B encs S Sp Ok Init) (hInit : ∀ W, (∀ k, k < w.heap.size → W.heap[k]? = w.heap[k]?) → Init W) (hB : B < w.heap.size) (hps : ∀ x, (encs x).size = ps.size)
    (I Ix : List α → World → Prop) (hI : OwnFrom w.heap.size I) (hIx : OwnFrom w.heap.size Ix) (hIB : ∀ pre U v, I pre U → I pre (U.setCell ⟨B, 0, none⟩ v)) (h0 : I [] w) (a1 : α → Act)
    (hassign : ∀ (l : Nat) (x : α) (W : World) (K : Act → World → Prop), K (a1 x) W → assign.wpIn (Fence.wide.inRound l) 3 P (Exit.then K (fun _ _ _ => False)) { tmps := (ps.zip (encs x)).foldl (fun t (p, v) => t.setIfInBounds p v) a.tmps, defers := [] } W)
    (hbody : ∀ (l : Nat) (pre : List α) (x : α) (W : World), Ok x → I pre W → body.wpIn (Fence.wide.inRound l) 3 P (boxPost B w.heap.size I Ix (pre ++ [x]) W) (a1 x) W)
    (hdone : ∀ (D : Nat) (xs : List α) (W : World), w.heap.size ≤ D → S xs → I xs W → W.heap[D]? = some (.deferred (some [])) → Q .normal { a with defers := { target := .collected D, args := #[] } :: a.defers } W)
    (hstop : ∀ (D : Nat) (pre : List α) (W : World), w.heap.size ≤ D → Sp pre → Ix pre W → W.heap[D]? = some (.deferred (some [])) → Code.ret.wpIn Fence.wide 5 P Q { a with defers := { target := .collected D, args := #[] } :: a.defers } W) :
    (Code.rangeFunc g ps assign body).wpIn Fence.wide 5 P Q a w := by
  refine wpIn_rangeFunc fun fn _ => ?_
  let rec_ : LoopState → Option Code → Loop := fun st pe => { state := st, pending := pe, fn, tmps := a.tmps, params := ps, assign, body, defers := w.heap.size }
  have hL : ∀ U : World, w.heap.size + 2 ≤ U.heap.size → (∀ k, k < w.heap.size + 2 → U.heap[k]? = ((w.alloc (.deferred (some []))).alloc (.loop (rec_ .ready none))).heap[k]?) → U.heap[w.heap.size + 1]? = some (.loop (rec_ .ready none)) ∧ U.heap[w.heap.size]? = some (.deferred (some [])) := by
    intro U _ hU
    refine ⟨(hU _ (by omega)).trans ?_, (hU _ (by omega)).trans ?_⟩
    · have := World.alloc_heap_new (w.alloc (.deferred (some []))) (.loop (rec_ .ready none))
      rwa [World.size_alloc] at this
    · exact (Below.heap_alloc _ _ _ (by simp)).trans (World.alloc_heap_new w _)
  obtain ⟨hL1, hK1⟩ := hL ((w.alloc (.deferred (some []))).alloc (.loop (rec_ .ready none))) (by simp) fun _ _ => rfl
  have hI1 : I [] ((w.alloc (.deferred (some []))).alloc (.loop (rec_ .ready none))) := hI.alloc _ (hI.alloc _ h0)
  have hold : ∀ k, k < w.heap.size → ((w.alloc (.deferred (some []))).alloc (.loop (rec_ .ready none))).heap[k]? = w.heap[k]? := fun k hk => (Below.heap_alloc _ _ k (by simp; omega)).trans (Below.heap_alloc w _ k hk)
  clear hL
  generalize hW1 : (w.alloc (.deferred (some []))).alloc (.loop (rec_ .ready none)) = W1 at *
  refine ⟨w.heap.size + 1, [{ target := .collected w.heap.size, args := #[] }], W1, { target := .fn (.func gf) #[.pointer (some ⟨B, 0, none⟩)], args := #[.func (.yield (w.heap.size + 1)) #[] #[]] }, W1, gf,
    #[.func (.yield (w.heap.size + 1)) #[] #[], .pointer (some ⟨B, 0, none⟩)], W1, ?_, ?_, fun _ _ => trivial, ?_, fun _ => by omega, ?_⟩
  · rw [← hW1]
    exact run_enterLoop_outer _ _ _ _ _
  · simp only [resolve, hg]
    simp [go_sem]
  · simp [invoke, go_sem, eg]
  refine (hseq (w.heap.size + 1)
    (fun pre U => I pre U ∧ U.heap[w.heap.size + 1]? = some (.loop (rec_ .ready none)) ∧ U.heap[w.heap.size]? = some (.deferred (some [])))
    (fun pre U => Ix pre U ∧ U.heap[w.heap.size + 1]? = some (.loop (rec_ .done (some .ret))) ∧ U.heap[w.heap.size]? = some (.deferred (some [])))
    W1 (hInit W1 hold) ?_ (fun pre U h => ⟨hI pre U _ none h.1 ⟨rfl, rfl, rfl, Nat.le_refl _, fun _ _ _ => rfl⟩ (fun r e => by cases e), h.2⟩) ?_ ⟨hI1, hL1, hK1⟩).mono ?_
  · rintro pre U v ⟨h1, h2, h3⟩
    exact ⟨hIB _ _ _ h1, (Below.heap_setCell _ _ _ _ (by show w.heap.size + 1 ≠ B; omega)).trans h2, (Below.heap_setCell _ _ _ _ (by show w.heap.size ≠ B; omega)).trans h3⟩
  · rintro pre x W hok ⟨hi, hl, hk⟩
    refine ⟨fn, _, assign, body, run_yield (P := P) (args := encs x) hl (hps x), roundIn_of_wpIn trivial (hassign _ x W _ ?_)⟩
    refine ⟨_, run_beginRound hl rfl, ?_⟩
    have hlt : w.heap.size + 1 < W.heap.size := (Array.getElem?_eq_some_iff.1 hl).1
    have hl2 : (W.putObj (w.heap.size + 1) (.loop { rec_ .ready none with state := .busy })).heap[w.heap.size + 1]? = some (.loop { rec_ .ready none with state := .busy }) := World.putObj_heap_same hlt
    have hk2 : (W.putObj (w.heap.size + 1) (.loop { rec_ .ready none with state := .busy })).heap[w.heap.size]? = some (.deferred (some [])) := (World.putObj_heap_other (by omega)).trans hk
    have hB2 : (W.putObj (w.heap.size + 1) (.loop { rec_ .ready none with state := .busy })).heap[B]? = W.heap[B]? := World.putObj_heap_other (by omega)
    refine wpIn_mono (hbody _ pre x _ hok (hI.putObj _ hi (by omega) hl rfl)) ?_
    generalize (W.putObj (w.heap.size + 1) (.loop { rec_ .ready none with state := .busy })) = W2 at *
    rintro e a3 W3 hp
    cases e with
    | normal =>
      obtain ⟨hk3, hb3, hi3⟩ := hp
      have hl3 := hk3.same _ _ (by omega) hl2 rfl
      have hd3 := hk3.same _ _ (Nat.le_refl _) hk2 rfl
      refine ⟨_, _, run_endRound none hl3, .inl ⟨rfl, ⟨hI.putObj _ hi3 (by omega) hl3 rfl, World.putObj_heap_same (Array.getElem?_eq_some_iff.1 hl3).1, (World.putObj_heap_other (by omega)).trans hd3⟩, ?_⟩⟩
      exact (World.putObj_heap_other (by omega)).trans (hb3.trans hB2)
    | ret =>
      obtain ⟨hk3, hi3⟩ := hp
      have hl3 := hk3.same _ _ (by omega) hl2 rfl
      have hd3 := hk3.same _ _ (Nat.le_refl _) hk2 rfl
      exact ⟨_, _, run_endRound (some .ret) hl3, .inr ⟨rfl, hIx.putObj _ hi3 (by omega) hl3 rfl, World.putObj_heap_same (Array.getElem?_eq_some_iff.1 hl3).1, (World.putObj_heap_other (by omega)).trans hd3⟩⟩
    | exit id => exact hp.elim
    | goto t => exact hp.elim
    | panic c => exact hp.elim
    | outgrown => exact hp.elim
  · rintro e W2 ⟨⟨v, rfl⟩, (⟨xs, hS, hi, hl, hk⟩ | ⟨pre, hSp, hi, hl, hk⟩)⟩
    · exact ⟨none, _, run_endLoop (P := P) hl (by simp [rec_]), hdone _ xs _ (Nat.le_refl _) hS (hI.putObj _ hi (by omega) hl rfl) ((World.putObj_heap_other (by omega)).trans hk)⟩
    · exact ⟨some .ret, _, run_endLoop (P := P) hl (by simp [rec_]), hstop _ pre _ (Nat.le_refl _) hSp (hIx.putObj _ hi (by omega) hl rfl) ((World.putObj_heap_other (by omega)).trans hk)⟩
/- strings.Lines -/
def linesL : List UInt8 → List (List UInt8)
  | [] => []
  | b :: l => if b = 10 then [10] :: linesL l else match linesL l with
    | [] => [[b]]
    | p :: r => (b :: p) :: r
theorem lines_cat : ∀ {p : List UInt8} (r : List UInt8), (10 : UInt8) ∉ p → linesL (p ++ 10 :: r) = (p ++ [10]) :: linesL r
  | [], r, _ => by rw [List.nil_append, linesL, if_pos rfl]; rfl
  | b :: l, r, h => by
    have h1 : b ≠ 10 := fun e => h (e ▸ List.mem_cons_self)
    have h2 : (10 : UInt8) ∉ l := fun e => h (List.mem_cons_of_mem _ e)
    rw [List.cons_append, linesL, if_neg h1, lines_cat r h2]
    rfl
theorem lines_no : ∀ {p : List UInt8}, (10 : UInt8) ∉ p → p ≠ [] → linesL p = [p]
  | [], _, h => absurd rfl h
  | [b], h, _ => by
    have h1 : b ≠ 10 := fun e => h (e ▸ List.mem_cons_self)
    rw [linesL, if_neg h1]
    rfl
  | b :: c :: l, h, _ => by
    have h1 : b ≠ 10 := fun e => h (e ▸ List.mem_cons_self)
    have h2 : (10 : UInt8) ∉ c :: l := fun e => h (List.mem_cons_of_mem _ e)
    rw [linesL, if_neg h1, lines_no h2 (by simp)]
theorem lines_flat : ∀ s : List UInt8, (linesL s).flatten = s
  | [] => rfl
  | b :: l => by
    have ih := lines_flat l
    unfold linesL
    split
    · rename_i h
      rw [List.flatten_cons, ih, h]
      rfl
    · cases h : linesL l with
      | nil =>
        rw [h] at ih
        simp only [List.flatten_nil] at ih
        subst ih
        rfl
      | cons p r => rw [h] at ih; simp at ih ⊢; exact ih
theorem lines_ne {b : UInt8} {l : List UInt8} : linesL (b :: l) ≠ [] := by
  unfold linesL
  split
  · simp
  · split <;> simp
theorem lines_end : ∀ (t : List UInt8), ∀ x ∈ linesL (t ++ [10]), ∃ y, x = y ++ [10]
  | [], x, hx => by
    rw [List.nil_append, linesL, if_pos rfl] at hx
    rw [List.mem_singleton.1 hx]
    exact ⟨[], rfl⟩
  | b :: l, x, hx => by
    have ih := lines_end l
    rw [List.cons_append, linesL] at hx
    split at hx
    · rcases List.mem_cons.1 hx with h | h
      · exact ⟨[], h⟩
      · exact ih x h
    · cases h : linesL (l ++ [10]) with
      | nil =>
        cases l with
        | nil => exact absurd h lines_ne
        | cons c r => exact absurd h lines_ne
      | cons p r =>
        rw [h] at hx ih
        rcases List.mem_cons.1 hx with e | e
        · obtain ⟨y, hy⟩ := ih p List.mem_cons_self
          exact ⟨b :: y, by rw [e, hy]; rfl⟩
        · exact ih x (List.mem_cons_of_mem _ e)
theorem index_hit : ∀ (l : List UInt8) (k : Nat), Lib.indexByte l 10 = (k : Int) → k < l.length ∧ l = l.take k ++ 10 :: l.drop (k + 1) ∧ (10 : UInt8) ∉ l.take k
  | [], k, h => by
    unfold Lib.indexByte at h
    omega
  | b :: l, k, h => by
    unfold Lib.indexByte at h
    by_cases hb : b = 10
    · subst hb
      simp only [beq_self_eq_true, if_true] at h
      obtain rfl : k = 0 := by omega
      simp
    · rw [if_neg (by simpa using hb)] at h
      split at h
      · omega
      · rename_i hne
        have hne2 : Lib.indexByte l 10 ≠ -1 := by simpa using hne
        have hge := Lib.indexByte_ge l 10
        obtain ⟨j, hj⟩ : ∃ j : Nat, Lib.indexByte l 10 = j := ⟨(Lib.indexByte l 10).toNat, by omega⟩
        obtain rfl : k = j + 1 := by omega
        obtain ⟨h1, h2, h3⟩ := index_hit l j hj
        refine ⟨by simpa using h1, ?_, ?_⟩
        · conv => lhs; rw [h2]
          simp
        · rw [List.take_succ_cons, List.mem_cons, not_or]
          exact ⟨fun e => hb e.symm, h3⟩
theorem index_miss : ∀ (l : List UInt8), Lib.indexByte l 10 < 0 → (10 : UInt8) ∉ l
  | [], _ => by simp
  | b :: l, h => by
    unfold Lib.indexByte at h
    by_cases hb : b = 10
    · subst hb
      simp at h
    · rw [if_neg (by simpa using hb)] at h
      have hge := Lib.indexByte_ge l 10
      split at h
      · rename_i h2
        rw [List.mem_cons, not_or]
        exact ⟨fun e => hb e.symm, index_miss l (by simp at h2; omega)⟩
      · omega
def boxLen (B : Nat) (W : World) : Nat := match W.cell? ⟨B, 0, none⟩ with
  | some (.string s) => s.size
  | _ => 0
theorem ext_take (s : ByteArray) (k : Nat) : (s.extract 0 k).data.toList = s.data.toList.take k := by
  rw [ByteArray.data_extract]
  simp
theorem ext_drop (s : ByteArray) (k : Nat) : (s.extract k s.size).data.toList = s.data.toList.drop k := by
  rw [ByteArray.data_extract]
  simp
  rw [List.take_of_length_le (by simp)]
theorem lines1 (s : ByteArray) (hsz : s.size ≤ 4294967296) (B : Nat) : SeqBox Tryz.prog 46 B (fun x : ByteArray => #[.string x]) (fun xs => xs.map (·.data.toList) = linesL s.data.toList) (fun pre => ∃ r, pre.map (·.data.toList) ++ r = linesL s.data.toList) (fun x => x.size ≤ s.size) (fun W => Blk W B 9 [.string s]) := fun l J Jx W hB hJB hJD hY h0 => by
  refine callsIn_of_wp Tryz.func46 rfl trivial ?_ rfl
  simp only [Tryz.ntmps46, List.size_toArray, List.length_cons, List.length_nil, Nat.reduceAdd, Nat.reduceSub, Array.replicate_succ, Array.replicate_zero, List.push_toArray, List.append_toArray, List.nil_append, List.cons_append]
  gi_wp2
  gi_loopw [3] (fun _ wr => ∃ (don : List ByteArray) (rest : ByteArray), don.map (·.data.toList) ++ linesL rest.data.toList = linesL s.data.toList ∧ J don wr ∧ Blk wr B 9 [.string rest] ∧ rest.size ≤ s.size)
    (fun _ wr => boxLen B wr)
  case atStart => exact ⟨[], s, rfl, h0, hB, Nat.le_refl _⟩
  case round =>
    obtain ⟨don, rest, hl, hJ, hb, hrs⟩ := hrel
    have hc : wr.cell? ⟨B, 0, none⟩ = some (.string rest) := hb.cell 0
    have hf := hb.frozen 0
    by_cases hz : rest.size = 0
    · obtain rfl : rest = ⟨#[]⟩ := by
        obtain ⟨⟨r⟩⟩ := rest
        cases r with
        | nil => rfl
        | cons x y => simp [ByteArray.size] at hz
      gi_wp2
      go_end0
      exact ⟨⟨_, rfl⟩, .inl ⟨don, by simpa [linesL] using hl, hJ⟩⟩
    · have hpos : (0 : Int) < rest.size := by omega
      have hne : rest.data.toList ≠ [] := fun e => hz (by
        have := congrArg List.length e
        exact this)
      rcases Int.lt_or_le (Lib.indexByte rest.data.toList ((10 : Int).toNat.toUInt8)) 0 with hi | hi
      · have hi2 : Lib.indexByte rest.data.toList 10 < 0 := hi
        have hno := index_miss _ hi
        obtain ⟨fn, tmps, assign, body, hy, hR⟩ := hY don rest (wr.setCell ⟨B, 0, none⟩ (.string ⟨#[]⟩)) hrs (hJB _ _ _ hJ)
        gi_wp2_with (refine ⟨trivial, ?_⟩; gi_at_call 47; refine (callsIn_wide.2 (Any.strings_IndexByte lay_137 rest 10 _)).mono ?_; rintro e w' ⟨rfl, rfl⟩)
        have hb2 := hb.set 0 (.string ⟨#[]⟩)
        refine hR.mono ?_
        rintro e W3 (⟨rfl, hJ3, hk3⟩ | ⟨rfl, hJx3⟩)
        · have hb3 : Blk W3 B 9 [.string ⟨#[]⟩] := hk3.trans hb2
          have hc3 := hb3.cell 0
          gi_wp2
          go_roundw
          case rel => exact ⟨don ++ [rest], ⟨#[]⟩, by rw [List.map_append, ← hl, lines_no hno hne]; simp [linesL], hJ3, hb3, Nat.zero_le _⟩
          case measure =>
            unfold boxLen
            rw [hc3, hc]
            show (0 : Nat) < rest.size
            omega
        · gi_wp2
          refine bodyPost_ret (results_none rfl _ _ _) rfl ?_
          exact ⟨⟨_, rfl⟩, .inr ⟨don ++ [rest], ⟨[], by rw [List.map_append, ← hl, lines_no hno hne]; simp⟩, hJx3⟩⟩
      · obtain ⟨k, hk⟩ : ∃ k : Nat, Lib.indexByte rest.data.toList ((10 : Int).toNat.toUInt8) = k := ⟨_, (Int.toNat_of_nonneg hi).symm⟩
        obtain ⟨h1, h2, h3⟩ := index_hit _ k hk
        have hcut : linesL rest.data.toList = rest.data.toList.take (k + 1) :: linesL (rest.data.toList.drop (k + 1)) := by
          conv => lhs; rw [h2]
          rw [lines_cat _ h3, List.take_succ_eq_append_getElem h1]
          have h5 : rest.data.toList[k] = 10 := by
            have h6 : rest.data.toList.drop k = 10 :: rest.data.toList.drop (k + 1) := by
              have h7 := congrArg (List.drop k) h2
              rw [List.drop_left' (by rw [List.length_take]; omega)] at h7
              exact h7
            rw [List.drop_eq_getElem_cons h1] at h6
            injection h6
          rw [h5]
        have hks : k < rest.size := h1
        have hw : RowKit.wrap64 ((k : Int) + 1) = ((k + 1 : Nat) : Int) := by
          unfold RowKit.wrap64
          omega
        obtain ⟨fn, tmps, assign, body, hy, hR⟩ := hY don (rest.extract 0 (k + 1)) (wr.setCell ⟨B, 0, none⟩ (.string (rest.extract (k + 1) rest.size))).drew (by rw [ByteArray.size_extract]; omega) (hJD _ _ (hJB _ _ _ hJ))
        gi_wp2_with (refine ⟨trivial, ?_⟩; gi_at_call 47; refine (callsIn_wide.2 (Any.strings_IndexByte lay_137 rest 10 _)).mono ?_; rintro e w' ⟨rfl, rfl⟩; rw [hk])
        gi_region
        all_goals gi_wp2
        all_goals
          have hb2 := hb.set 0 (.string (rest.extract (k + 1) rest.size))
          refine hR.mono ?_
          rintro e W3 (⟨rfl, hJ3, hk3⟩ | ⟨rfl, hJx3⟩)
          · have hb3 : Blk W3 B 9 [.string (rest.extract (k + 1) rest.size)] := hk3.trans hb2
            have hc3 := hb3.cell 0
            gi_wp2
            go_roundw
            case rel => exact ⟨don ++ [rest.extract 0 (k + 1)], rest.extract (k + 1) rest.size, by rw [List.map_append, ← hl, hcut]; simp only [List.map_cons, List.map_nil, ext_take, ext_drop, List.append_assoc, List.cons_append, List.nil_append], hJ3, hb3, by rw [ByteArray.size_extract]; omega⟩
            case measure =>
              unfold boxLen
              rw [hc3, hc]
              show (rest.extract (k + 1) rest.size).size < rest.size
              rw [ByteArray.size_extract]
              omega
          · gi_wp2
            refine bodyPost_ret (results_none rfl _ _ _) rfl ?_
            exact ⟨⟨_, rfl⟩, .inr ⟨don ++ [rest.extract 0 (k + 1)], ⟨linesL (rest.data.toList.drop (k + 1)), by rw [List.map_append, ← hl, hcut]; simp only [List.map_cons, List.map_nil, ext_take, List.append_assoc, List.cons_append, List.nil_append]⟩, hJx3⟩⟩
end Go.Proofs.YtfkngjglnhfdcaaGreatDoor
