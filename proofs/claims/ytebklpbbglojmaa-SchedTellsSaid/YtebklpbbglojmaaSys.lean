/- Systems: parts, channels, slots; how they lie in memory; what is right of them. -/
import Derived.Test.YtebklpbbglojmaaEngS
import Derived.Test.YtebklpbbglojmaaCodeChk
import Derived.Test.YtebklpbbglojmaaCellSpec
import Derived.Test.YtebklpbbglojmaaTys
namespace Go.Proofs.Ytebklpbbglojmaa
set_option linter.unusedVariables false
set_option linter.unusedSimpArgs false
open Go.ChangeShapes Go.WideShapes Go.ChangeAt Go.RowKit
set_option maxRecDepth 100000

/-- a channel -/
structure Chn where
  kind : Int
  from_ : Int
  to_ : Int
def Chn.cells (c : Chn) : List Value := [.int .i64 c.kind, .int .i64 c.from_, .int .i64 c.to_]
theorem Chn.cells_len (c : Chn) : c.cells.length = 3 := rfl
instance : DecidableEq Chn := fun x y => decidable_of_iff (x.kind = y.kind ∧ x.from_ = y.from_ ∧ x.to_ = y.to_)
  ⟨fun h => by cases x; cases y; simp_all, fun h => by subst h; exact ⟨rfl, rfl, rfl⟩⟩
/-- a slot of a frame -/
structure Slt where
  part : Int
  ticks : Int
def Slt.cells (c : Slt) : List Value := [.int .i64 c.part, .int .i64 c.ticks]
theorem Slt.cells_len (c : Slt) : c.cells.length = 2 := rfl
instance : DecidableEq Slt := fun x y => decidable_of_iff (x.part = y.part ∧ x.ticks = y.ticks)
  ⟨fun h => by cases x; cases y; simp_all, fun h => by subst h; exact ⟨rfl, rfl⟩⟩
instance : DecidableEq Prt := fun x y => decidable_of_iff (x.code = y.code ∧ x.inp = y.inp)
  ⟨fun h => by cases x; cases y; simp_all, fun h => by subst h; exact ⟨rfl, rfl⟩⟩
structure Sys where
  parts : List Prt
  chans : List Chn
  slots : List Slt
instance : DecidableEq Sys := fun x y => decidable_of_iff (x.parts = y.parts ∧ x.chans = y.chans ∧ x.slots = y.slots)
  ⟨fun h => by cases x; cases y; simp_all, fun h => by subst h; exact ⟨rfl, rfl, rfl⟩⟩
def Sys.zero : Sys := ⟨[], [], []⟩

/-- where a part's slices lie -/
structure PX where
  ca : Option Addr
  cc : Nat
  ia : Option Addr
  ic : Nat
abbrev PP := Prt × PX
def encP (q : PP) : List Value := [.slice q.2.ca q.1.code.length q.2.cc, .slice q.2.ia q.1.inp.length q.2.ic]
theorem encP_len (q : PP) : (encP q).length = 2 := rfl
structure PP.At (q : PP) (w : World) : Prop where
  code : Code_ w (.slice q.2.ca q.1.code.length q.2.cc) q.1.code
  inp : Ints w (.slice q.2.ia q.1.inp.length q.2.ic) q.1.inp
def P0 : PP := (⟨[], []⟩, ⟨none, 0, none, 0⟩)
def I0 : Ins := ⟨0, 0, 0, 0⟩
def C0 : Chn := ⟨0, 0, 0⟩
def S0 : Slt := ⟨0, 0⟩
theorem PP.At.below {q : PP} {w w' : World} (h : q.At w) (hb : Below w.heap.size w w') : q.At w' := ⟨h.code.below hb, h.inp.below hb⟩
/-- a system, and where it lies -/
structure SysD where
  parts : List PP
  pa : Option Addr
  pc : Nat
  chans : List Chn
  ha : Option Addr
  hc : Nat
  slots : List Slt
  sa : Option Addr
  sc : Nat
def SysD.sys (x : SysD) : Sys := ⟨x.parts.map Prod.fst, x.chans, x.slots⟩
def SysD.val (x : SysD) : Value := .agg #[.slice x.pa x.parts.length x.pc, .slice x.ha x.chans.length x.hc, .slice x.sa x.slots.length x.sc]
def SysD.zero : SysD := ⟨[], none, 0, [], none, 0, [], none, 0⟩
theorem SysD.val_eq (x : SysD) : x.val = .agg #[.slice x.pa x.parts.length x.pc, .slice x.ha x.chans.length x.hc, .slice x.sa x.slots.length x.sc] := rfl
structure SysD.At (x : SysD) (w : World) : Prop where
  parts : Flat encP 2 w (.slice x.pa x.parts.length x.pc) x.parts
  each : ∀ q, q ∈ x.parts → q.At w
  chans : Flat Chn.cells 3 w (.slice x.ha x.chans.length x.hc) x.chans
  slots : Flat Slt.cells 2 w (.slice x.sa x.slots.length x.sc) x.slots
theorem SysD.At.below {x : SysD} {w w' : World} (h : x.At w) (hb : Below w.heap.size w w') : x.At w' :=
  ⟨h.parts.below hb, fun q hq => (h.each q hq).below hb, h.chans.below hb, h.slots.below hb⟩
theorem SysD.zero_at (w : World) : SysD.zero.At w := ⟨Flat.nil_, fun _ h => (by cases h), Flat.nil_, Flat.nil_⟩
theorem SysD.zero_sys : SysD.zero.sys = Sys.zero := rfl

section
variable {α : Type} {enc : α → List Value} {size : Nat} {w : World} {A : Option Addr} {n c : Nat} {l : List α}
theorem Flat.len (h : Flat enc size w (.slice A n c) l) : n = l.length ∧ n ≤ c ∧ c ≤ maxLen := by
  obtain ⟨A', c', e, h1, h2, h3⟩ := h
  simp only [Value.slice.injEq] at e
  obtain ⟨rfl, rfl, rfl⟩ := e
  exact ⟨rfl, h1, h2⟩
theorem Flat.rowAt (h : Flat enc size w (.slice A n c) l) : RowAt w size A n (l.flatMap enc) := by
  obtain ⟨A', c', e, h1, h2, h3⟩ := h
  simp only [Value.slice.injEq] at e
  obtain ⟨rfl, rfl, rfl⟩ := e
  exact h3
theorem Flat.rf (hs : ∀ a, (enc a).length = size) (d : α) (h : Flat enc size w (.slice A n c) l) : RF w A n size (fun k => enc (l.getD k d)) := by
  obtain ⟨A', c', e, h1, h2, h3⟩ := RF.of_flat hs d h
  simp only [Value.slice.injEq] at e
  obtain ⟨rfl, rfl, rfl⟩ := e
  exact h3
theorem Ints.rf {xs : List Int} (h : Ints w (.slice A n c) xs) : RF w A n 1 (fun k => [.int .i64 (xs.getD k 0)]) := by
  obtain ⟨A', c', e, h1, h2, h3⟩ := RF.of_ints h
  simp only [Value.slice.injEq] at e
  obtain ⟨rfl, rfl, rfl⟩ := e
  exact h3
theorem Flat.of_own {T : TypeId} {base n : Nat} {v : Value} (h : w.ownsRow base T size v n (l.flatMap enc)) (hn : n = l.length) : Flat enc size w v l := by
  subst hn
  obtain ⟨A, c, rfl, hc, hm⟩ := own_slice h
  exact ⟨A, c, rfl, hc, hm, RowAt.of_own h⟩
theorem mem_getD {k : Nat} (d : α) (hk : k < l.length) : l.getD k d ∈ l := by
  rw [List.getD, List.getElem?_eq_getElem hk]
  exact List.getElem_mem hk
theorem getD_map {β : Type} (f : α → β) (k : Nat) (d : α) : (l.map f).getD k (f d) = f (l.getD k d) := by
  simp only [List.getD, List.getElem?_map]
  cases l[k]? <;> rfl
end
section
variable {x : SysD} {w : World} {k : Nat}
theorem SysD.At.partsR (h : x.At w) : RF w x.pa x.parts.length 2 (fun k => encP (x.parts.getD k P0)) := h.parts.rf encP_len P0
theorem SysD.At.chansR (h : x.At w) : RF w x.ha x.chans.length 3 (fun k => Chn.cells (x.chans.getD k C0)) := h.chans.rf Chn.cells_len C0
theorem SysD.At.slotsR (h : x.At w) : RF w x.sa x.slots.length 2 (fun k => Slt.cells (x.slots.getD k S0)) := h.slots.rf Slt.cells_len S0
theorem SysD.At.part (h : x.At w) (hk : k < x.parts.length) : (x.parts.getD k P0).At w := h.each _ (mem_getD P0 hk)
theorem SysD.At.codeR (h : x.At w) (hk : k < x.parts.length) : RF w (x.parts.getD k P0).2.ca (x.parts.getD k P0).1.code.length 4 (fun i => Ins.cells ((x.parts.getD k P0).1.code.getD i I0)) := (h.part hk).code.rf Ins.cells_len I0
theorem SysD.At.inpR (h : x.At w) (hk : k < x.parts.length) : RF w (x.parts.getD k P0).2.ia (x.parts.getD k P0).1.inp.length 1 (fun i => [.int .i64 ((x.parts.getD k P0).1.inp.getD i 0)]) := (h.part hk).inp.rf
end

/-! ### what is right of a system -/
def kindOk (k : Int) : Bool := k == 1 || k == 2
def partOk (n : Nat) (p : Int) : Bool := decide (0 ≤ p ∧ p < n)
def chnOk (n : Nat) (c : Chn) : Bool := partOk n c.from_ && (partOk n c.to_ && c.from_ != c.to_)
def sltOk (n : Nat) (s : Slt) : Bool := partOk n s.part && decide (1 ≤ s.ticks ∧ s.ticks ≤ 8)
/-- an instruction of a partition names no channel but one of its own -/
def insOk (cs : List Chn) (p : Nat) (i : Ins) : Bool :=
  (i.op != 12 || (decide (i.n < cs.length) && (cs.getD i.n.toNat C0).from_ == p)) && (i.op != 13 || (decide (i.n < cs.length) && (cs.getD i.n.toNat C0).to_ == p))
def sizesOk (s : Sys) : Bool := decide (1 ≤ s.parts.length ∧ s.parts.length ≤ 4 ∧ s.chans.length ≤ 6 ∧ 1 ≤ s.slots.length ∧ s.slots.length ≤ 6) && s.parts.all fun p => decide (p.inp.length ≤ 12)
def firstCode : List Prt → Int
  | [] => 0
  | p :: r => if chkCode p.code = 0 then firstCode r else chkCode p.code
def namesFrom (cs : List Chn) : Nat → List Prt → Bool
  | _, [] => true
  | k, p :: r => p.code.all (insOk cs k) && namesFrom cs (k + 1) r
def chkSys (s : Sys) : Int :=
  if sizesOk s = false then 2
  else if firstCode s.parts ≠ 0 then firstCode s.parts
  else if (s.chans.all fun c => kindOk c.kind) = false then 4
  else if s.chans.all (chnOk s.parts.length) = false then 3
  else if s.slots.all (sltOk s.parts.length) = false then 3
  else if namesFrom s.chans 0 s.parts = false then 1 else 0
/-- all of a list, by its places -/
theorem all_getD {α : Type} {l : List α} {f : α → Bool} (d : α) : l.all f = true ↔ ∀ k, k < l.length → f (l.getD k d) = true := by
  constructor
  · intro h k hk
    exact List.all_eq_true.1 h _ (mem_getD d hk)
  · intro h
    refine List.all_eq_true.2 fun y hy => ?_
    obtain ⟨k, hk, rfl⟩ := List.mem_iff_getElem.1 hy
    have := h k hk
    rwa [List.getD, List.getElem?_eq_getElem hk] at this
theorem all_false {α : Type} {l : List α} {f : α → Bool} (d : α) {k : Nat} (hk : k < l.length) (h : f (l.getD k d) = false) : l.all f = false := by
  cases ha : l.all f
  · rfl
  · rw [(all_getD d).1 ha k hk] at h; cases h
theorem firstCode_drop {l : List Prt} {k : Nat} (hk : k < l.length) : firstCode (l.drop k) = if chkCode l[k].code = 0 then firstCode (l.drop (k + 1)) else chkCode l[k].code := by
  rw [List.drop_eq_getElem_cons hk]; rfl
theorem namesFrom_iff (cs : List Chn) : ∀ (l : List Prt) (b : Nat), namesFrom cs b l = true ↔ ∀ k, k < l.length → (l.getD k ⟨[], []⟩).code.all (insOk cs (b + k)) = true
  | [], b => by simp [namesFrom]
  | p :: r, b => by
    simp only [namesFrom, Bool.and_eq_true, namesFrom_iff cs r (b + 1)]
    constructor
    · rintro ⟨h1, h2⟩ k hk
      cases k with
      | zero => simpa using h1
      | succ k =>
        have := h2 k (by simpa using hk)
        rw [show b + (k + 1) = b + 1 + k by omega]
        simpa using this
    · intro h
      refine ⟨by simpa using h 0 (by simp), fun k hk => ?_⟩
      have := h (k + 1) (by simpa using hk)
      rw [show b + (k + 1) = b + 1 + k by omega] at this
      simpa using this
end Go.Proofs.Ytebklpbbglojmaa
