/- Systems: parts, channels, slots; how they lie in memory; what is right of them. Small functions of the reference: within, SameInts; what is so of a right program. teller: a program that comes in memory of its own. Parts among a law's arguments. The library's Sort at []int over this program: the shelf's contract, laid; and over a row of the call's own. slices.Clone at []api.Chan, []api.Slot, []api.Instr and []int: what comes back lies in memory of its own. code.Puts and code.Gets: the channels that a program names, sorted. -/
import Derived.Test.YtnpflhaggfabnaaEng
import Derived.Test.YtnpflhaggfabnaaIsaB
import Derived.Test.YtnpflhaggfabnaaCellSpec
import Derived.Test.YtnpflhaggfabnaaTys
import Derived.Test.YtnpflhaggfabnaaBase
import Derived.Shelf.Sort.Plain
import Derived.Sort.OwnSortedInts
namespace Go.Proofs.Ytnpflhaggfabnaa
section
set_option linter.unusedVariables false
set_option linter.unusedSimpArgs false
open Go.ChangeShapes Go.WideShapes Go.ChangeAt Go.RowKit
set_option maxRecDepth 100000

/-- a channel -/
structure Chn where
  kind : Int
  from_ : Int
  to_ : Int
def Chn.cells (c : Chn) : List Value := [.int .i64 c.kind, .int .i64 c.from_, .int .i64 c.to_]
theorem Chn.cells_len (c : Chn) : c.cells.length = 3 := rfl
instance : DecidableEq Chn := fun x y => decidable_of_iff (x.kind = y.kind ∧ x.from_ = y.from_ ∧ x.to_ = y.to_)
  ⟨fun h => by cases x; cases y; simp_all, fun h => by subst h; exact ⟨rfl, rfl, rfl⟩⟩
/-- a slot of a frame -/
structure Slt where
  part : Int
  ticks : Int
def Slt.cells (c : Slt) : List Value := [.int .i64 c.part, .int .i64 c.ticks]
theorem Slt.cells_len (c : Slt) : c.cells.length = 2 := rfl
instance : DecidableEq Slt := fun x y => decidable_of_iff (x.part = y.part ∧ x.ticks = y.ticks)
  ⟨fun h => by cases x; cases y; simp_all, fun h => by subst h; exact ⟨rfl, rfl⟩⟩
instance : DecidableEq Prt := fun x y => decidable_of_iff (x.code = y.code ∧ x.inp = y.inp)
  ⟨fun h => by cases x; cases y; simp_all, fun h => by subst h; exact ⟨rfl, rfl⟩⟩
structure Sys where
  parts : List Prt
  chans : List Chn
  slots : List Slt
instance : DecidableEq Sys := fun x y => decidable_of_iff (x.parts = y.parts ∧ x.chans = y.chans ∧ x.slots = y.slots)
  ⟨fun h => by cases x; cases y; simp_all, fun h => by subst h; exact ⟨rfl, rfl, rfl⟩⟩
def Sys.zero : Sys := ⟨[], [], []⟩

/-- where a part's slices lie -/
structure PX where
  ca : Option Addr
  cc : Nat
  ia : Option Addr
  ic : Nat
abbrev PP := Prt × PX
def encP (q : PP) : List Value := [.slice q.2.ca q.1.code.length q.2.cc, .slice q.2.ia q.1.inp.length q.2.ic]
theorem encP_len (q : PP) : (encP q).length = 2 := rfl
structure PP.At (q : PP) (w : World) : Prop where
  code : Code_ w (.slice q.2.ca q.1.code.length q.2.cc) q.1.code
  inp : Ints w (.slice q.2.ia q.1.inp.length q.2.ic) q.1.inp
def P0 : PP := (⟨[], []⟩, ⟨none, 0, none, 0⟩)
def I0 : Ins := ⟨0, 0, 0, 0⟩
def C0 : Chn := ⟨0, 0, 0⟩
def S0 : Slt := ⟨0, 0⟩
theorem PP.At.below {q : PP} {w w' : World} (h : q.At w) (hb : Below w.heap.size w w') : q.At w' := ⟨h.code.below hb, h.inp.below hb⟩
/-- a system, and where it lies -/
structure SysD where
  parts : List PP
  pa : Option Addr
  pc : Nat
  chans : List Chn
  ha : Option Addr
  hc : Nat
  slots : List Slt
  sa : Option Addr
  sc : Nat
def SysD.sys (x : SysD) : Sys := ⟨x.parts.map Prod.fst, x.chans, x.slots⟩
def SysD.val (x : SysD) : Value := .agg #[.slice x.pa x.parts.length x.pc, .slice x.ha x.chans.length x.hc, .slice x.sa x.slots.length x.sc]
def SysD.zero : SysD := ⟨[], none, 0, [], none, 0, [], none, 0⟩
theorem SysD.val_eq (x : SysD) : x.val = .agg #[.slice x.pa x.parts.length x.pc, .slice x.ha x.chans.length x.hc, .slice x.sa x.slots.length x.sc] := rfl
structure SysD.At (x : SysD) (w : World) : Prop where
  parts : Flat encP 2 w (.slice x.pa x.parts.length x.pc) x.parts
  each : ∀ q, q ∈ x.parts → q.At w
  chans : Flat Chn.cells 3 w (.slice x.ha x.chans.length x.hc) x.chans
  slots : Flat Slt.cells 2 w (.slice x.sa x.slots.length x.sc) x.slots
theorem SysD.At.below {x : SysD} {w w' : World} (h : x.At w) (hb : Below w.heap.size w w') : x.At w' :=
  ⟨h.parts.below hb, fun q hq => (h.each q hq).below hb, h.chans.below hb, h.slots.below hb⟩
theorem SysD.zero_at (w : World) : SysD.zero.At w := ⟨Flat.nil_, fun _ h => (by cases h), Flat.nil_, Flat.nil_⟩
theorem SysD.zero_sys : SysD.zero.sys = Sys.zero := rfl

section
variable {α : Type} {enc : α → List Value} {size : Nat} {w : World} {A : Option Addr} {n c : Nat} {l : List α}
theorem Flat.len (h : Flat enc size w (.slice A n c) l) : n = l.length ∧ n ≤ c ∧ c ≤ maxLen := by
  obtain ⟨A', c', e, h1, h2, h3⟩ := h
  simp only [Value.slice.injEq] at e
  obtain ⟨rfl, rfl, rfl⟩ := e
  exact ⟨rfl, h1, h2⟩
theorem Flat.rowAt (h : Flat enc size w (.slice A n c) l) : RowAt w size A n (l.flatMap enc) := by
  obtain ⟨A', c', e, h1, h2, h3⟩ := h
  simp only [Value.slice.injEq] at e
  obtain ⟨rfl, rfl, rfl⟩ := e
  exact h3
theorem Flat.rf (hs : ∀ a, (enc a).length = size) (d : α) (h : Flat enc size w (.slice A n c) l) : RF w A n size (fun k => enc (l.getD k d)) := by
  obtain ⟨A', c', e, h1, h2, h3⟩ := RF.of_flat hs d h
  simp only [Value.slice.injEq] at e
  obtain ⟨rfl, rfl, rfl⟩ := e
  exact h3
theorem Ints.rf {xs : List Int} (h : Ints w (.slice A n c) xs) : RF w A n 1 (fun k => [.int .i64 (xs.getD k 0)]) := by
  obtain ⟨A', c', e, h1, h2, h3⟩ := RF.of_ints h
  simp only [Value.slice.injEq] at e
  obtain ⟨rfl, rfl, rfl⟩ := e
  exact h3
theorem Flat.of_own {T : TypeId} {base n : Nat} {v : Value} (h : w.ownsRow base T size v n (l.flatMap enc)) (hn : n = l.length) : Flat enc size w v l := by
  subst hn
  obtain ⟨A, c, rfl, hc, hm⟩ := own_slice h
  exact ⟨A, c, rfl, hc, hm, RowAt.of_own h⟩
theorem mem_getD {k : Nat} (d : α) (hk : k < l.length) : l.getD k d ∈ l := by
  rw [List.getD, List.getElem?_eq_getElem hk]
  exact List.getElem_mem hk
theorem getD_map {β : Type} (f : α → β) (k : Nat) (d : α) : (l.map f).getD k (f d) = f (l.getD k d) := by
  simp only [List.getD, List.getElem?_map]
  cases l[k]? <;> rfl
end
section
variable {x : SysD} {w : World} {k : Nat}
theorem SysD.At.partsR (h : x.At w) : RF w x.pa x.parts.length 2 (fun k => encP (x.parts.getD k P0)) := h.parts.rf encP_len P0
theorem SysD.At.chansR (h : x.At w) : RF w x.ha x.chans.length 3 (fun k => Chn.cells (x.chans.getD k C0)) := h.chans.rf Chn.cells_len C0
theorem SysD.At.slotsR (h : x.At w) : RF w x.sa x.slots.length 2 (fun k => Slt.cells (x.slots.getD k S0)) := h.slots.rf Slt.cells_len S0
theorem SysD.At.part (h : x.At w) (hk : k < x.parts.length) : (x.parts.getD k P0).At w := h.each _ (mem_getD P0 hk)
theorem SysD.At.codeR (h : x.At w) (hk : k < x.parts.length) : RF w (x.parts.getD k P0).2.ca (x.parts.getD k P0).1.code.length 4 (fun i => Ins.cells ((x.parts.getD k P0).1.code.getD i I0)) := (h.part hk).code.rf Ins.cells_len I0
theorem SysD.At.inpR (h : x.At w) (hk : k < x.parts.length) : RF w (x.parts.getD k P0).2.ia (x.parts.getD k P0).1.inp.length 1 (fun i => [.int .i64 ((x.parts.getD k P0).1.inp.getD i 0)]) := (h.part hk).inp.rf
end

/-! ### what is right of a system -/
def kindOk (k : Int) : Bool := k == 1 || k == 2
def partOk (n : Nat) (p : Int) : Bool := decide (0 ≤ p ∧ p < n)
def chnOk (n : Nat) (c : Chn) : Bool := partOk n c.from_ && (partOk n c.to_ && c.from_ != c.to_)
def sltOk (n : Nat) (s : Slt) : Bool := partOk n s.part && decide (1 ≤ s.ticks ∧ s.ticks ≤ 8)
/-- an instruction of a partition names no channel but one of its own -/
def insOk (cs : List Chn) (p : Nat) (i : Ins) : Bool :=
  (i.op != 12 || (decide (i.n < cs.length) && (cs.getD i.n.toNat C0).from_ == p)) && (i.op != 13 || (decide (i.n < cs.length) && (cs.getD i.n.toNat C0).to_ == p))
def sizesOk (s : Sys) : Bool := decide (1 ≤ s.parts.length ∧ s.parts.length ≤ 4 ∧ s.chans.length ≤ 6 ∧ 1 ≤ s.slots.length ∧ s.slots.length ≤ 6) && s.parts.all fun p => decide (p.inp.length ≤ 12)
def firstCode : List Prt → Int
  | [] => 0
  | p :: r => if chkCode p.code = 0 then firstCode r else chkCode p.code
def namesFrom (cs : List Chn) : Nat → List Prt → Bool
  | _, [] => true
  | k, p :: r => p.code.all (insOk cs k) && namesFrom cs (k + 1) r
def chkSys (s : Sys) : Int :=
  if sizesOk s = false then 2
  else if firstCode s.parts ≠ 0 then firstCode s.parts
  else if (s.chans.all fun c => kindOk c.kind) = false then 4
  else if s.chans.all (chnOk s.parts.length) = false then 3
  else if s.slots.all (sltOk s.parts.length) = false then 3
  else if namesFrom s.chans 0 s.parts = false then 1 else 0
/-- all of a list, by its places -/
theorem all_getD {α : Type} {l : List α} {f : α → Bool} (d : α) : l.all f = true ↔ ∀ k, k < l.length → f (l.getD k d) = true := by
  constructor
  · intro h k hk
    exact List.all_eq_true.1 h _ (mem_getD d hk)
  · intro h
    refine List.all_eq_true.2 fun y hy => ?_
    obtain ⟨k, hk, rfl⟩ := List.mem_iff_getElem.1 hy
    have := h k hk
    rwa [List.getD, List.getElem?_eq_getElem hk] at this
theorem all_false {α : Type} {l : List α} {f : α → Bool} (d : α) {k : Nat} (hk : k < l.length) (h : f (l.getD k d) = false) : l.all f = false := by
  cases ha : l.all f
  · rfl
  · rw [(all_getD d).1 ha k hk] at h; cases h
theorem firstCode_drop {l : List Prt} {k : Nat} (hk : k < l.length) : firstCode (l.drop k) = if chkCode l[k].code = 0 then firstCode (l.drop (k + 1)) else chkCode l[k].code := by
  rw [List.drop_eq_getElem_cons hk]; rfl
theorem namesFrom_iff (cs : List Chn) : ∀ (l : List Prt) (b : Nat), namesFrom cs b l = true ↔ ∀ k, k < l.length → (l.getD k ⟨[], []⟩).code.all (insOk cs (b + k)) = true
  | [], b => by simp [namesFrom]
  | p :: r, b => by
    simp only [namesFrom, Bool.and_eq_true, namesFrom_iff cs r (b + 1)]
    constructor
    · rintro ⟨h1, h2⟩ k hk
      cases k with
      | zero => simpa using h1
      | succ k =>
        have := h2 k (by simpa using hk)
        rw [show b + (k + 1) = b + 1 + k by omega]
        simpa using this
    · intro h
      refine ⟨by simpa using h 0 (by simp), fun k hk => ?_⟩
      have := h (k + 1) (by simpa using hk)
      rw [show b + (k + 1) = b + 1 + k by omega] at this
      simpa using this
end

section
set_option linter.unusedVariables false
set_option linter.unusedSimpArgs false
open Go.RowKit

set_option maxRecDepth 100000

theorem withinD_any (n lo hi : Int) (w : World) : Calls Try.prog 15 #[.int .i64 n, .int .i64 lo, .int .i64 hi] w fun e w' => e = .returned (.bool (decide (lo ≤ n ∧ n ≤ hi))) ∧ Below w.heap.size w w' := by
  refine enter Try.func15 rfl Try.ntmps15 rfl fun a hF => ?_
  have hW := Wd.start w NoB
  refine c_sr <| pv hF hW (y_assign hF rfl) fun a hF => l_nil <| t_n <| c_sr <| pv hF hW (y_move hF rfl) fun a hF => pv hF hW (y_move hF rfl) fun a hF => pv hF hW (y_geq hF rfl rfl) fun a hF => ?_; refine Fr.splitD hF ?_ ?_
  · intro h1 hF; refine pv hF hW (y_move hF rfl) fun a hF => pvg hF hW (y_move hF rfl) (ws hF rfl rfl) fun a hF => pvg hF hW (y_move hF rfl) (ws hF rfl rfl) fun a hF => pvg hF hW (y_leq hF rfl rfl) (ws hF rfl rfl) fun a hF => ?_; refine Fr.splitD hF ?_ ?_
    · intro h2 hF; refine pv hF hW (y_pick hF rfl rfl) fun a hF => ?_; replace hF := hF.drop 6; refine pv hF hW (y_assign hF rfl) fun a hF => l_nil ?_; replace hF := hF.ks [0, 1, 2, 6] rfl; refine t_n <| wp_ret <| ret1 Try.results15 hF (rv_t hF rfl) ?_
      exact ⟨by simp [*], hW.below⟩
    · intro h2 hF; refine pv hF hW (y_pick hF rfl rfl) fun a hF => ?_; replace hF := hF.drop 6; refine pv hF hW (y_assign hF rfl) fun a hF => l_nil ?_; replace hF := hF.ks [0, 1, 2, 6] rfl; refine t_n <| wp_ret <| ret1 Try.results15 hF (rv_t hF rfl) ?_
      exact ⟨by simp [*], hW.below⟩
  · intro h1 hF; refine pv hF hW (y_move hF rfl) fun a hF => pk hF (wn hF rfl rfl rfl) fun a hF => pk hF (wn hF rfl rfl rfl) fun a hF => pk hF (wn hF rfl rfl rfl) fun a hF => pv hF hW (y_pick hF rfl rfl) fun a hF => ?_; replace hF := hF.drop 6; refine pv hF hW (y_assign hF rfl) fun a hF => l_nil ?_; replace hF := hF.ks [0, 1, 2, 6] rfl; refine t_n <| wp_ret <| ret1 Try.results15 hF (rv_t hF rfl) ?_
    exact ⟨by simp [*], hW.below⟩
theorem firstErr_all : ∀ (l : List Ins), firstErr l = 0 → ∀ i ∈ l, chkIns i = 0
  | [], _, _, h => by cases h
  | x :: r, h0, i, h => by
    unfold firstErr at h0
    by_cases hx : chkIns x = 0
    · rw [if_pos hx] at h0
      rcases List.mem_cons.1 h with rfl | h
      · exact hx
      · exact firstErr_all r h0 i h
    · rw [if_neg hx] at h0
      exact absurd h0 hx
theorem chkCode_all {l : List Ins} (h : chkCode l = 0) : (1 ≤ l.length ∧ l.length ≤ 20) ∧ ∀ i ∈ l, chkIns i = 0 := by
  unfold chkCode at h
  split at h
  · cases h
  · exact ⟨by omega, firstErr_all l h⟩
theorem sameIntsB {w : World} {u v : Value} {l m : List Int} (hu : Ints w u l) (hv : Ints w v m) :
    Calls Try.prog 34 #[u, v] w fun e w' => e = .returned (.bool (decide (l = m))) ∧ Below w.heap.size w w' :=
  (sameInts_any hu hv).mono fun e w' ⟨he, hd⟩ => ⟨he, hd.below _⟩
end

section
set_option linter.unusedVariables false
set_option linter.unusedSimpArgs false
open Go.RowKit
theorem bs_Teller_44_5_0_1_2_3_4 (x0 : Int) (x1 : Int) (x2 : Int) (x3 : Int) (x4 : Int) (x5 : Int) (x6 : Int) (x7 : Int) (x8 : Int) (x9 : Int) (x10 : Int) (x11 : Int) (x12 : Int) (x13 : Int) (x14 : Int) (x15 : Int) (x16 : Int) (x17 : Int) (x18 : Int) (x19 : Int) (w : World) : (Instr.buildSlice 44 5 #[(0, (.agg #[(.int .i64 x0), (.int .i64 x1), (.int .i64 x2), (.int .i64 x3)])), (1, (.agg #[(.int .i64 x4), (.int .i64 x5), (.int .i64 x6), (.int .i64 x7)])), (2, (.agg #[(.int .i64 x8), (.int .i64 x9), (.int .i64 x10), (.int .i64 x11)])), (3, (.agg #[(.int .i64 x12), (.int .i64 x13), (.int .i64 x14), (.int .i64 x15)])), (4, (.agg #[(.int .i64 x16), (.int .i64 x17), (.int .i64 x18), (.int .i64 x19)]))]).run Try.prog w = .ok (.slice (some ⟨w.heap.size, 0, none⟩) 5 5) (w.alloc (.cells #[(.int .i64 x0), (.int .i64 x1), (.int .i64 x2), (.int .i64 x3), (.int .i64 x4), (.int .i64 x5), (.int .i64 x6), (.int .i64 x7), (.int .i64 x8), (.int .i64 x9), (.int .i64 x10), (.int .i64 x11), (.int .i64 x12), (.int .i64 x13), (.int .i64 x14), (.int .i64 x15), (.int .i64 x16), (.int .i64 x17), (.int .i64 x18), (.int .i64 x19)] 49)) := by kernel_rfl
theorem bu_Teller_49_0 (x0 : Int) (w : World) : (Instr.build 49 #[(0, (.int .i64 x0))]).run Try.prog w = .ok (.agg #[(.int .i64 x0), (.int .i64 0), (.int .i64 0), (.int .i64 0)]) w := by kernel_rfl
theorem bu_Teller_49_0_1_2 (x0 : Int) (x1 : Int) (x2 : Int) (w : World) : (Instr.build 49 #[(0, (.int .i64 x0)), (1, (.int .i64 x1)), (2, (.int .i64 x2))]).run Try.prog w = .ok (.agg #[(.int .i64 x0), (.int .i64 x1), (.int .i64 x2), (.int .i64 0)]) w := by kernel_rfl
theorem bu_Teller_49_0_1_3 (x0 : Int) (x1 : Int) (x2 : Int) (w : World) : (Instr.build 49 #[(0, (.int .i64 x0)), (1, (.int .i64 x1)), (3, (.int .i64 x2))]).run Try.prog w = .ok (.agg #[(.int .i64 x0), (.int .i64 x1), (.int .i64 0), (.int .i64 x2)]) w := by kernel_rfl
theorem bu_Teller_49_0_3 (x0 : Int) (x1 : Int) (w : World) : (Instr.build 49 #[(0, (.int .i64 x0)), (3, (.int .i64 x1))]).run Try.prog w = .ok (.agg #[(.int .i64 x0), (.int .i64 0), (.int .i64 0), (.int .i64 x1)]) w := by kernel_rfl
set_option maxRecDepth 100000

def tellerL : List Ins := [⟨13, 0, 1, 0⟩, ⟨9, 1, 0, 0⟩, ⟨11, 0, 0, 0⟩, ⟨12, 0, 0, 1⟩, ⟨8, 0, 0, 0⟩]
theorem teller_any (w : World) : Calls Try.prog 52 #[] w fun e w' => ∃ A, e = .returned (.slice A 5 5) ∧ OwnRes w w' (fun u => Code_ u (.slice A 5 5) tellerL) ∧ Below w.heap.size w w' := by
  refine enter Try.func52 rfl Try.ntmps52 rfl fun a hF => ?_
  have hW := Wd.start w NoB
  refine c_sr <| pv hF hW (y_assign hF rfl) fun a hF => l_nil <| t_n <| c_sr <| pv hF hW (y_build hF rfl (fun w => bu_Teller_49_0_1_2 _ _ _ w)) fun a hF => pv hF hW (y_build hF rfl (fun w => bu_Teller_49_0_1_3 _ _ _ w)) fun a hF => pv hF hW (y_build hF rfl (fun w => bu_Teller_49_0 _ w)) fun a hF => pv hF hW (y_build hF rfl (fun w => bu_Teller_49_0_3 _ _ w)) fun a hF => pv hF hW (y_build hF rfl (fun w => bu_Teller_49_0 _ w)) fun a hF => ?_; refine pe (e_buildSlice hF hW rfl (fun w => bs_Teller_44_5_0_1_2_3_4 _ _ _ _ _ _ _ _ _ _ _ _ _ _ _ _ _ _ _ _ w) rfl rfl rfl ?_); intro b1 a wc hF hW; replace hF := hF.drop 0; refine pv hF hW (y_assign hF rfl) fun a hF => l_nil ?_; replace hF := hF.ks [0] rfl; refine t_n <| wp_ret <| ret1 Try.results52 hF (rv_t hF rfl) ?_
  exact ⟨_, rfl, (hW.res_blk 0 rfl).mono fun u h => flat_blk h rfl rfl rfl (by unfold maxLen; omega), hW.below⟩
end

section
set_option linter.unusedVariables false
set_option linter.unusedSimpArgs false
open Go.ChangeShapes Go.WideShapes Go.ChangeAt Go.RowKit
set_option maxRecDepth 100000

section
variable {H : Type} {enc : TypeId × Value → H} {w : World} {base base' : Nat} {r : Reach} {spare : Nat → Bool} {held : Bool} {v : Value} {d : DataW H} {p : List MemPlace}
theorem ins_rd {u : World} {n : Nat} {cs : List Value} (h : Rd Try.prog u (n + 2) 49 cs) : ∃ i : Ins, cs = i.cells := by
  obtain ⟨l, rfl, hl⟩ := h.ints_of_fields Try.underlying49 (by kernel_rfl) (by kernel_rfl) (by kernel_rfl)
  match l, hl with
  | [a, b, c, e], _ => exact ⟨⟨a, b, c, e⟩, rfl⟩
theorem code_rd {u : World} {n : Nat} {cs : List Value} (h : Rd Try.prog u (n + 3) 44 cs) : ∃ (v : Value) (l : List Ins), cs = [v] ∧ Code_ u v l :=
  Rd.flatS Try.underlying44 (by kernel_rfl) Ins.cells_len (fun _ h => ins_rd h) h
theorem part_rd {u : World} {n : Nat} {cs : List Value} (h : Rd Try.prog u (n + 4) 47 cs) : ∃ (cv iv : Value) (p : Prt), cs = [cv, iv] ∧ Code_ u cv p.code ∧ Ints u iv p.inp := by
  obtain ⟨hl, -⟩ := h.struct Try.underlying47
  have h2 : Try.prog.cellsOf 47 = 2 := by kernel_rfl
  have h1 : Try.prog.cellsOf 45 = 1 := by kernel_rfl
  have h1' : Try.prog.cellsOf 44 = 1 := by kernel_rfl
  rw [h2] at hl
  match cs, hl with
  | [a, b], _ =>
    have g0 := h.fld Try.underlying47 0 rfl rfl rfl h1' rfl
    have g1 := h.fld Try.underlying47 1 rfl rfl rfl h1 rfl
    obtain ⟨v0, l0, e0, k0⟩ := code_rd g0
    obtain ⟨v1, l1, e1, k1⟩ := Rd.intsS Try.underlying45 Try.underlying3 (by kernel_rfl) g1
    obtain rfl : a = v0 := by simpa using e0
    obtain rfl : b = v1 := by simpa using e1
    exact ⟨a, b, ⟨l0, l1⟩, rfl, k0, k1⟩
theorem one_int {x : Value} {u : World} {n : Nat} (h : Rd Try.prog u (n + 1) 3 [x]) : ∃ m, x = .int .i64 m := by
  obtain ⟨m, e, _⟩ := h.int Try.underlying3
  exact ⟨m, by simpa using e⟩
theorem agg_toList {cs : Array Value} {l : List Value} (h : cs.toList = l) : Value.agg cs = .agg l.toArray := by rw [← h]
theorem part_open (hv : Value.okWide Try.prog w r base' 47 v) (h : DataW.Trod enc Try.prog w base spare held 47 v d p) : ∃ (cv iv : Value) (p : Prt), v = .agg #[cv, iv] ∧ Code_ w cv p.code ∧ Ints w iv p.inp := by
  obtain ⟨cs, rfl, _⟩ := okWide_struct Try.underlying47 hv
  obtain ⟨cv, iv, p, e, h1, h2⟩ := part_rd (n := 0) (rd_of 4 h)
  exact ⟨cv, iv, p, agg_toList e, h1, h2⟩
end
end

section
set_option linter.unusedVariables false
set_option linter.unusedSimpArgs false
open Go.ChangeShapes Go.WideShapes Go.ChangeAt Go.RowKit Go.Sort
theorem ck_3_98 (n : Int) (h : 0 ≤ n ∧ n ≤ 18446744073709551615) (w : World) : (convert 3 98 (.int .i64 n)).run Try.prog w = .ok (.int .u64 n) w := by
  have := IntWalk.u64_in n h
  simp [convert, run_underlying Try.underlying3, run_underlying Try.underlying98, Conv.intToInt, this]
set_option maxRecDepth 100000
def lays189_ren : Go.Shelf.Ren := ⟨fun | 125 => 73 | 128 => 83 | 129 => 84 | 189 => 68 | 215 => 90 | 216 => 80 | 257 => 72 | 294 => 74 | 295 => 75 | 296 => 76 | 297 => 77 | 298 => 78 | 299 => 79 | 300 => 81 | 301 => 82 | 328 => 85 | 329 => 86 | 330 => 87 | 331 => 88 | 332 => 89 | 343 => 91 | n => n, fun | 0 => 0 | 3 => 3 | 4 => 4 | 5 => 5 | 9 => 9 | 28 => 45 | 46 => 98 | 51 => 131 | 53 => 133 | 131 => 128 | 182 => 122 | 183 => 123 | 218 => 134 | 222 => 67 | 228 => 139 | 229 => 140 | n => n, fun n => n⟩
theorem lays189 : Go.Proofs.Lays.n189 Try.prog lays189_ren := {
  mixed := by kernel_rfl,
  f125 := Try.func73.trans (congrArg some (by kernel_rfl)),
  f128 := Try.func83.trans (congrArg some (by kernel_rfl)),
  f129 := Try.func84.trans (congrArg some (by kernel_rfl)),
  f189 := Try.func68.trans (congrArg some (by kernel_rfl)),
  f215 := Try.func90.trans (congrArg some (by kernel_rfl)),
  f216 := Try.func80.trans (congrArg some (by kernel_rfl)),
  f257 := Try.func72.trans (congrArg some (by kernel_rfl)),
  f294 := Try.func74.trans (congrArg some (by kernel_rfl)),
  f295 := Try.func75.trans (congrArg some (by kernel_rfl)),
  f296 := Try.func76.trans (congrArg some (by kernel_rfl)),
  f297 := Try.func77.trans (congrArg some (by kernel_rfl)),
  f298 := Try.func78.trans (congrArg some (by kernel_rfl)),
  f299 := Try.func79.trans (congrArg some (by kernel_rfl)),
  f300 := Try.func81.trans (congrArg some (by kernel_rfl)),
  f301 := Try.func82.trans (congrArg some (by kernel_rfl)),
  f328 := Try.func85.trans (congrArg some (by kernel_rfl)),
  f329 := Try.func86.trans (congrArg some (by kernel_rfl)),
  f330 := Try.func87.trans (congrArg some (by kernel_rfl)),
  f331 := Try.func88.trans (congrArg some (by kernel_rfl)),
  f332 := Try.func89.trans (congrArg some (by kernel_rfl)),
  f343 := Try.func91.trans (congrArg some (by kernel_rfl)),
  t0 := Try.underlying0,
  a0 := Try.isAgg0,
  z0 := Try.sizeOf0,
  v0 := Try.zeroValue0,
  t3 := Try.underlying3,
  a3 := Try.isAgg3,
  z3 := Try.sizeOf3,
  v3 := Try.zeroValue3,
  t4 := Try.underlying4,
  a4 := Try.isAgg4,
  z4 := Try.sizeOf4,
  v4 := Try.zeroValue4,
  t5 := Try.underlying5,
  a5 := Try.isAgg5,
  z5 := Try.sizeOf5,
  v5 := Try.zeroValue5,
  t9 := Try.underlying9,
  a9 := Try.isAgg9,
  z9 := Try.sizeOf9,
  v9 := Try.zeroValue9,
  t28 := Try.underlying45,
  a28 := Try.isAgg45,
  z28 := Try.sizeOf45,
  v28 := Try.zeroValue45,
  t46 := Try.underlying98,
  a46 := Try.isAgg98,
  z46 := Try.sizeOf98,
  v46 := Try.zeroValue98,
  t51 := Try.underlying131,
  a51 := Try.isAgg131,
  z51 := Try.sizeOf131,
  v51 := Try.zeroValue131,
  t53 := Try.underlying133,
  a53 := Try.isAgg133,
  z53 := Try.sizeOf133,
  v53 := Try.zeroValue133,
  t131 := Try.underlying128,
  a131 := Try.isAgg128,
  z131 := Try.sizeOf128,
  v131 := Try.zeroValue128,
  t182 := Try.underlying122,
  a182 := Try.isAgg122,
  z182 := Try.sizeOf122,
  v182 := Try.zeroValue122,
  t183 := Try.underlying123,
  a183 := Try.isAgg123,
  z183 := Try.sizeOf123,
  v183 := Try.zeroValue123,
  t218 := Try.underlying134,
  a218 := Try.isAgg134,
  z218 := Try.sizeOf134,
  v218 := Try.zeroValue134,
  t222 := Try.underlying67,
  a222 := Try.isAgg67,
  z222 := Try.sizeOf67,
  v222 := Try.zeroValue67,
  t228 := Try.underlying139,
  a228 := Try.isAgg139,
  z228 := Try.sizeOf139,
  v228 := Try.zeroValue139,
  t229 := Try.underlying140,
  a229 := Try.isAgg140,
  z229 := Try.sizeOf140,
  v229 := Try.zeroValue140 }
theorem bitsLen_any (x : Int) (w : World) (h0 : 0 ≤ x) (h1 : x ≤ 18446744073709551615) : Calls Try.prog 73 #[.int .u64 x] w fun e w' => (∃ m : Nat, e = .returned (.int .i64 (m : Int))) ∧ Below w.heap.size w w' :=
  (calls_of_every_depth fun D => AnyS.bits_LenIn { lays189 with } D x w h0 h1).mono fun e w' ⟨h, hw⟩ => ⟨⟨_, h⟩, hw ▸ Below.refl _ _⟩
theorem insort_nil {A : Option Addr} {n c : Nat} {w : World} :
    Calls Try.prog 74 #[.slice A n c, .int .i64 0, .int .i64 0] w fun e w' => e = .returned (.tuple #[]) ∧ Below w.heap.size w w' := by
  refine enter Try.func74 rfl Try.ntmps74 rfl fun a hF => ?_
  have hW := Wd.start w NoB
  refine c_sr <| pv hF hW (y_move hF rfl) fun a hF => pv hF hW (y_add hF rfl rfl (IntWalk.i64_in _ (by omega))) fun a hF => pv hF hW (y_assign hF rfl) fun a hF => l_nil ?_; replace hF := hF.ks [0, 1, 2, 6] rfl; refine t_n <| wp_block ?_; refine c_loop (G := Nat) (fun k : Nat => [(6, .int .i64 1)]) (fun k : Nat => []) (fun k : Nat => True) (fun k : Nat => 0) 0 (hF.ks [0, 1, 2] rfl) (Fr.cons hF (t := 6) rfl (by first | rfl | (simp; done)) (Fr.nil hF)) (hW) ?_ ?_
  · simp
  clear hF hW
  try clear a
  intro k a wc hC hF hW; refine c_s <| c_sr <| pv hF hW (y_move hF rfl) fun a hF => pv hF hW (y_move hF rfl) fun a hF => pv hF hW (y_lss hF rfl rfl) fun a hF => ?_; replace hF := hF.ff; refine l_nil ?_; replace hF := hF.ks [0, 1, 2, 6, 12] rfl; refine t_n <| c_f hF rfl <| wp_exit <| t_x <| t_x <| b_h <| end0 Try.results74 hF ?_
  exact ⟨rfl, hW.below⟩
theorem pdq_nil {A : Option Addr} {n c : Nat} {m : Int} {w : World} :
    Calls Try.prog 72 #[.slice A n c, .int .i64 0, .int .i64 0, .int .i64 m] w fun e w' => e = .returned (.tuple #[]) ∧ Below w.heap.size w w' := by
  refine enter Try.func72 rfl Try.ntmps72 rfl fun a hF => ?_
  have hW := Wd.start w NoB
  refine c_sr <| pv hF hW (y_assign hF rfl) fun a hF => l_nil <| t_n <| c_sr <| pv hF hW (y_assign hF rfl) fun a hF => l_nil <| t_n <| wp_block ?_; refine c_loop (G := Nat) (fun k : Nat => [(1, .int .i64 0), (2, .int .i64 0), (3, .int .i64 m)]) (fun k : Nat => []) (fun k : Nat => True) (fun k : Nat => 0) 0 (hF.ks [0] rfl) (Fr.cons hF (t := 1) rfl (by first | rfl | (simp; done)) (Fr.cons hF (t := 2) rfl (by first | rfl | (simp; done)) (Fr.cons hF (t := 3) rfl (by first | rfl | (simp; done)) (Fr.nil hF)))) (hW) ?_ ?_
  · simp
  clear hF hW
  try clear a
  intro k a wc hC hF hW; refine wp_block <| c_sr <| pv hF hW (y_move hF rfl) fun a hF => pv hF hW (y_move hF rfl) fun a hF => pv hF hW (y_sub hF rfl rfl (IntWalk.i64_in _ (by omega))) fun a hF => pv hF hW (y_assign hF rfl) fun a hF => l_nil ?_; replace hF := hF.ks [0, 1, 2, 3, 10] rfl; refine t_n <| c_s <| c_sr <| pv hF hW (y_move hF rfl) fun a hF => pv hF hW (y_leq hF rfl rfl) fun a hF => ?_; refine Fr.splitD hF ?_ ?_
  · intro h1 hF; refine l_nil ?_; replace hF := hF.ks [0, 1, 2, 3, 10, 23] rfl; refine t_n <| c_t hF rfl <| c_sr <| pv hF hW (y_move hF rfl) fun a hF => pv hF hW (y_move hF rfl) fun a hF => pv hF hW (y_move hF rfl) fun a hF => ?_; refine pe (e_call hF rfl rfl en_74 (by rfl) rfl rfl (insort_nil) ?_); rintro e w1 ⟨rfl, hb⟩; replace hW := hW.kept hb; clear hb; refine ⟨_, rfl, fun a hF => ?_⟩; refine l_nil ?_; replace hF := hF.ks [0, 1, 2, 3, 10, 23] rfl; refine t_n <| wp_ret <| t_r <| b_r <| t_r <| b_r <| ret0 Try.results72 hF  ?_
    exact ⟨rfl, hW.below⟩
  · intro h1 hF; exfalso
    exact absurd (by decide : (0 : Int) - 0 ≤ 12) h1
theorem sort_nil {A : Option Addr} {c : Nat} {w : World} :
    Calls Try.prog 68 #[.slice A 0 c] w fun e w' => e = .returned (.tuple #[]) ∧ Below w.heap.size w w' := by
  refine enter Try.func68 rfl Try.ntmps68 rfl fun a hF => ?_
  have hW := Wd.start w NoB
  refine c_sr <| pv hF hW (y_move hF rfl) fun a hF => pv hF hW (y_len hF rfl Try.underlying45) fun a hF => pv hF hW (y_assign hF rfl) fun a hF => l_nil ?_; replace hF := hF.ks [0, 2] rfl; refine t_n <| c_r <| pv hF hW (y_move hF rfl) fun a hF => pv hF hW (y_move hF rfl) fun a hF => pv hF hW (y_move hF rfl) fun a hF => pv hF hW (y_convert hF rfl (ck_3_98 _ (by omega))) fun a hF => ?_; refine pe (e_call hF rfl rfl en_73 (by rfl) rfl rfl (bitsLen_any _ _ (by omega) (by omega)) ?_); rintro e w1 ⟨⟨m, rfl⟩, hb⟩; replace hW := hW.kept hb; clear hb; refine ⟨_, rfl, fun a hF => ?_⟩; refine pe (e_call hF rfl rfl en_72 (by rfl) rfl rfl (pdq_nil) ?_); rintro e w1 ⟨rfl, hb⟩; replace hW := hW.kept hb; clear hb; refine ⟨_, rfl, fun a hF => ?_⟩; refine l_nil ?_; replace hF := hF.ks [0, 2] rfl; refine end0 Try.results68 hF ?_
  exact ⟨rfl, hW.below⟩
def sorted (xs : List Int) : List Int := xs.mergeSort fun x y => decide (x ≤ y)
theorem sorted_len (xs : List Int) : (sorted xs).length = xs.length := List.length_mergeSort xs
theorem mem_sorted {xs : List Int} {m : Int} : m ∈ sorted xs ↔ m ∈ xs := (List.mergeSort_perm xs _).mem_iff
theorem sort_own {w0 w : World} {X : Nat → Prop} {es : List Asn} (hW : Wd w0 X es w) (i : Nat) {T : TypeId} {n : Nat} {v : Value} {xs : List Int} (hn : n < 4611686018427387904) (hi : es[i]? = some (.row T 1 v n (xs.map (.int .i64)))) :
    Calls Try.prog 68 #[v] w fun e w' => e = .returned (.tuple #[]) ∧ Wd w0 X (es.set i (.row T 1 v n ((sorted xs).map (.int .i64)))) w' := by
  have hrow := hW.row i hi
  have hl : n = xs.length := by simpa using hrow.1.symm
  rcases hrow.2 with ⟨rfl, h0⟩ | ⟨g, cap, cur, rfl, _, hg, h1, h2, h3, h4⟩
  · refine sort_nil.mono fun e w' ⟨he, hb⟩ => ⟨he, ?_⟩
    have hx : xs = [] := List.eq_nil_of_length_eq_zero (by omega)
    subst hx
    have hself : es.set i (.row T 1 (.slice none 0 0) n (([] : List Int).map (.int .i64))) = es := by
      apply List.ext_getElem?
      intro j
      rw [List.getElem?_set]
      split
      · rename_i h
        subst h
        rw [if_pos (List.getElem?_eq_some_iff.1 hi).1, hi]
      · rfl
    rw [show sorted [] = [] by simp [sorted], hself]
    exact hW.kept hb
  · subst hl
    have hlt := (Array.getElem?_eq_some_iff.1 hg).1
    have ht : cur.toList.take xs.length = xs.map (Value.int .i64) := by rw [← h4, Nat.mul_one]
    refine (Any.slices_Sort_int lays189 g 0 cap xs w (holds_of_blockI hg ht) hlt hn).mono fun e w' ⟨he, m, os, hw'⟩ => ⟨he, ?_⟩
    subst hw'
    refine hW.grown i hi (ownsRow_sortedI (sorted_len xs) (Nat.zero_le _) hg h1 h2 h3) (grownBy_sortedI _) (.inl rfl)
end

section
set_option linter.unusedVariables false
set_option linter.unusedSimpArgs false
open Go.ChangeShapes Go.WideShapes Go.ChangeAt Go.RowKit

set_option maxRecDepth 100000

theorem Ins.one (q : Ins) : ∀ u ∈ q.cells, u.oneCell' = true := by simp [Ins.cells, Value.oneCell']
theorem Chn.one (q : Chn) : ∀ u ∈ q.cells, u.oneCell' = true := by simp [Chn.cells, Value.oneCell']
theorem Slt.one (q : Slt) : ∀ u ∈ q.cells, u.oneCell' = true := by simp [Slt.cells, Value.oneCell']
theorem encP_one (q : PP) : ∀ u ∈ encP q, u.oneCell' = true := by simp [encP, Value.oneCell']
theorem Flat.nil_of {α : Type} {enc : α → List Value} {size : Nat} {w : World} {A : Option Addr} {n c : Nat} {l : List α} (h : Flat enc size w (.slice A n c) l) (hA : A.isNone = true) : l = [] := by
  obtain rfl : n = l.length := h.len.1
  have hr := h.rowAt
  rcases Nat.eq_zero_or_pos l.length with h0 | h0
  · exact List.eq_nil_of_length_eq_zero h0
  · obtain ⟨ad, e, _⟩ := hr.2 h0
    subst e; cases hA
theorem Ints.nil_of {w : World} {A : Option Addr} {n c : Nat} {l : List Int} (h : Ints w (.slice A n c) l) (hA : A.isNone = true) : l = [] := by
  obtain rfl : n = l.length := h.len.1
  have hr := h.rowAt
  rcases Nat.eq_zero_or_pos l.length with h0 | h0
  · exact List.eq_nil_of_length_eq_zero h0
  · obtain ⟨ad, e, _⟩ := hr.2 h0
    subst e; cases hA
theorem OwnRes.flat {α : Type} {enc : α → List Value} {size : Nat} {T : TypeId} {w w' : World} {v : Value} {l : List α} (h : w'.ownsRow w.heap.size T size v l.length (l.flatMap enc)) : OwnRes w w' (fun u => Flat enc size u v l) :=
  (OwnRes.of_own h).mono fun _ h => Flat.of_own h rfl
end

section
set_option linter.unusedVariables false
set_option linter.unusedSimpArgs false
open Go.ChangeShapes Go.WideShapes Go.ChangeAt Go.RowKit
theorem bs_CodeNm_45_1_0 (x0 : Int) (w : World) : (Instr.buildSlice 45 1 #[(0, (.int .i64 x0))]).run Try.prog w = .ok (.slice (some ⟨w.heap.size, 0, none⟩) 1 1) (w.alloc (.cells #[(.int .i64 x0)] 3)) := by kernel_rfl
set_option maxRecDepth 100000

theorem index_any {A : Option Addr} {n c : Nat} {l : List Int} {w : World} (h : Ints w (.slice A n c) l) (x : Int) :
    Calls Try.prog 71 #[.slice A n c, .int .i64 x] w fun e w' => (∃ r : Int, e = .returned (.int .i64 r) ∧ decide (0 ≤ r) = decide (x ∈ l)) ∧ Below w.heap.size w w' := by
  have hl := h.len
  unfold maxLen at hl
  have hR := h.rf
  refine enter Try.func71 rfl Try.ntmps71 rfl fun a hF => ?_
  have hW := Wd.start w NoB
  refine c_sr <| pv hF hW (y_assign hF rfl) fun a hF => l_nil <| t_n <| c_s <| c_sr <| pv hF hW (y_move hF rfl) fun a hF => pv hF hW (y_len hF rfl Try.underlying45) fun a hF => pv hF hW (y_move hF rfl) fun a hF => l_nil ?_; replace hF := hF.ks [0, 1, 4, 7, 8] rfl; refine t_n <| wp_block ?_; refine c_loop (G := Nat) (fun k : Nat => [(8, .int .i64 (k : Int))]) (fun k : Nat => []) (fun k : Nat => k ≤ n ∧ ∀ i, i < k → l.getD i 0 ≠ x) (fun k : Nat => n - k) 0 (hF.ks [0, 1, 7] rfl) (Fr.cons hF (t := 8) rfl (by first | rfl | (simp; done)) (Fr.nil hF)) (hW) ?_ ?_
  · exact ⟨by omega, fun i hi => by omega⟩
  clear hF hW
  try clear a
  intro k a wc hC hF hW
  obtain ⟨hk, hno⟩ := hC
  refine c_sr <| pv hF hW (y_lss hF rfl rfl) fun a hF => ?_; refine Fr.splitD hF ?_ ?_
  · intro h1 hF; refine l_nil <| t_n <| c_s <| c_t hF rfl <| wp_skip <| t_n <| c_s <| wp_block <| c_sr <| pv hF hW (y_move hF rfl) fun a hF => pv hF hW (y_assign hF rfl) fun a hF => l_nil ?_; replace hF := hF.ks [0, 1, 5, 7, 8, 9] rfl; refine t_n <| c_sr <| pv hF hW (y_move hF rfl) fun a hF => pv hF hW (y_move hF rfl) fun a hF => pv hF hW (y_move hF rfl) fun a hF => pv hF hW (y_indexS hF rfl rfl (by first | omega | decide) Try.underlying45 sz_3 (fun w h => (hR).wd h)) fun a hF => pv hF hW (y_loadRow hF rfl (fun w h => (hR).wd h) (by first | omega | decide) rfl Try.underlying3 rfl) fun a hF => pv hF hW (y_eql hF rfl rfl) fun a hF => ?_; refine Fr.splitD hF ?_ ?_
    · intro h2 hF; refine l_nil ?_; replace hF := hF.ks [0, 1, 5, 7, 8, 9, 16] rfl; refine t_n <| c_t hF rfl <| c_sr <| pv hF hW (y_move hF rfl) fun a hF => pv hF hW (y_assign hF rfl) fun a hF => l_nil ?_; replace hF := hF.ks [0, 1, 4, 5, 7, 8, 9, 16] rfl; refine t_n <| wp_ret <| b_r <| t_r <| t_r <| b_r <| t_r <| ret1 Try.results71 hF (rv_t hF rfl) ?_
      exact ⟨⟨_, rfl, by rw [decide_eq_true (show (0 : Int) ≤ (k : Int) by omega), decide_eq_true]; have hm := mem_getD (l := l) (k := k) 0 (by omega); rwa [show l.getD k 0 = x by omega] at hm⟩, hW.below⟩
    · intro h2 hF; refine l_nil ?_; replace hF := hF.ks [0, 1, 5, 7, 8, 9, 16] rfl; refine t_n <| c_f hF rfl <| wp_skip <| b_n <| t_n <| c_r <| pv hF hW (y_add hF rfl rfl (IntWalk.i64_in _ (by omega))) fun a hF => ?_; replace hF := hF.drop 8; refine pv hF hW (y_move hF rfl) fun a hF => l_nil ?_; replace hF := hF.ks [0, 1, 5, 7, 8, 9, 16] rfl; refine t_n ?_; refine ⟨(k + 1), ?_, ?_, ?_, ?_⟩
      · exact ⟨by omega, fun i hi => by rcases Nat.lt_or_ge i k with h | h; exact hno i h; (have hik : i = k := by omega); rw [hik]; omega⟩
      · first | omega | (dsimp only; omega)
      · exact Fr.app (Fr.cons hF (t := 8) rfl (by first | rfl | (simp; done) | omega) (Fr.nil hF)) (hF.ks [0, 1, 7] rfl)
      · exact hW
  · intro h1 hF; refine l_nil <| t_n <| c_s <| c_f hF rfl <| wp_exit <| t_x <| t_x <| b_h <| t_n <| c_sr <| pv hF hW (y_assign hF rfl) fun a hF => l_nil <| t_n <| wp_ret <| ret1 Try.results71 hF (rv_t hF rfl) ?_
    exact ⟨⟨_, rfl, by rw [decide_eq_false (show ¬ (0 : Int) ≤ -1 by omega), decide_eq_false]; intro hm; obtain ⟨i, hi, he⟩ := List.mem_iff_getElem.1 hm; exact hno i (by omega) (by rw [List.getD, List.getElem?_eq_getElem hi]; exact he)⟩, hW.below⟩
theorem contains_any {A : Option Addr} {n c : Nat} {l : List Int} {w : World} (h : Ints w (.slice A n c) l) (x : Int) :
    Calls Try.prog 67 #[.slice A n c, .int .i64 x] w fun e w' => e = .returned (.bool (decide (x ∈ l))) ∧ Below w.heap.size w w' := by
  refine enter Try.func67 rfl Try.ntmps67 rfl fun a hF => ?_
  have hW := Wd.start w NoB
  refine c_sr <| pv hF hW (y_assign hF rfl) fun a hF => l_nil <| t_n <| c_sr <| pv hF hW (y_move hF rfl) fun a hF => pv hF hW (y_move hF rfl) fun a hF => ?_; refine pe (e_call hF rfl rfl en_71 (by rfl) rfl rfl (index_any (h.below hW.below) x) ?_); rintro e w1 ⟨⟨r, rfl, hr⟩, hb⟩; replace hW := hW.kept hb; clear hb; refine ⟨_, rfl, fun a hF => ?_⟩; refine pv hF hW (y_geq hF rfl rfl) fun a hF => ?_; replace hF := hF.drop 4; refine pv hF hW (y_assign hF rfl) fun a hF => l_nil ?_; replace hF := hF.ks [0, 1, 4] rfl; refine t_n <| wp_ret <| ret1 Try.results67 hF (rv_t hF rfl) ?_
  exact ⟨by rw [← hr], hW.below⟩

def pickOp (op : Int) (out : List Int) (i : Ins) : List Int := if i.op = op ∧ i.n ∉ out then out ++ [i.n] else out
def namedOf (op : Int) (l : List Ins) : List Int := sorted (l.foldl (pickOp op) [])
theorem foldl_take {α β : Type} (f : β → α → β) (b : β) (d : α) {l : List α} {k : Nat} (hk : k < l.length) : (l.take (k + 1)).foldl f b = f ((l.take k).foldl f b) (l.getD k d) := by
  rw [List.take_add_one, List.foldl_append, List.getD, List.getElem?_eq_getElem hk]
  rfl
theorem pick_yes {op : Int} {out : List Int} {i : Ins} (h1 : i.op = op) (h2 : i.n ∉ out) : pickOp op out i = out ++ [i.n] := if_pos ⟨h1, h2⟩
theorem pick_no {op : Int} {out : List Int} {i : Ins} (h : i.op = op → i.n ∈ out) : pickOp op out i = out := if_neg fun h2 => h2.2 (h h2.1)
theorem mem_picks {op m : Int} : ∀ (l : List Ins) (acc : List Int), m ∈ l.foldl (pickOp op) acc ↔ m ∈ acc ∨ ∃ i, i ∈ l ∧ i.op = op ∧ i.n = m
  | [], acc => by simp
  | i :: r, acc => by
    rw [List.foldl_cons, mem_picks r]
    have key : m ∈ pickOp op acc i ↔ m ∈ acc ∨ (i.op = op ∧ i.n = m) := by
      unfold pickOp
      split
      · rename_i h
        rw [List.mem_append, List.mem_singleton]
        exact ⟨fun h2 => h2.elim .inl fun e => .inr ⟨h.1, e.symm⟩, fun h2 => h2.elim .inl fun e => .inr e.2.symm⟩
      · rename_i h
        refine ⟨.inl, fun h2 => h2.elim id fun e => ?_⟩
        by_cases hm : i.n ∈ acc
        · rw [e.2] at hm; exact hm
        · exact absurd ⟨e.1, hm⟩ h
    rw [key]
    constructor
    · rintro ((h | h) | ⟨j, hj, h⟩)
      · exact .inl h
      · exact .inr ⟨i, List.mem_cons_self, h⟩
      · exact .inr ⟨j, List.mem_cons_of_mem _ hj, h⟩
    · rintro (h | ⟨j, hj, h⟩)
      · exact .inl (.inl h)
      · rcases List.mem_cons.1 hj with rfl | hj
        · exact .inl (.inr h)
        · exact .inr ⟨j, hj, h⟩
theorem mem_namedOf {op m : Int} {l : List Ins} : m ∈ namedOf op l ↔ ∃ i, i ∈ l ∧ i.op = op ∧ i.n = m := by
  unfold namedOf
  rw [mem_sorted, mem_picks]
  simp
def namesOr (op : Int) (l : List Ins) : List Int := if chkCode l = 0 then namedOf op l else []
theorem namesOr_ok {op : Int} {l : List Ins} (h : chkCode l = 0) : namesOr op l = namedOf op l := if_pos h
theorem namesOr_no {op : Int} {l : List Ins} (h : chkCode l ≠ 0) : namesOr op l = [] := if_neg h
/-- a list of numbers comes back in memory of its own, and an error -/
def IntsErr (w : World) (r : List Int) (x : Int) (e : Ending) (w' : World) : Prop :=
  ∃ A c, e = .returned (.tuple #[.slice A r.length c, .int .i64 x]) ∧ Below w.heap.size w w' ∧ OwnRes w w' (fun u => Ints u (.slice A r.length c) r)

theorem ints_row {w : World} {base : Nat} {T : TypeId} {v : Value} {m : Nat} {l : List Int} (h : w.ownsRow base T 1 v m (l.map (.int .i64))) (hm : l.length = m) : Ints w v l := by
  subst hm
  exact Ints.of_own h
theorem named_any {A : Option Addr} {n c : Nat} {l : List Ins} {w : World} (h : Code_ w (.slice A n c) l) (op : Int) :
    Calls Try.prog 57 #[.slice A n c, .int .i64 op] w (IntsErr w (namesOr op l) (chkCode l)) := by
  have hl := h.len
  unfold maxLen at hl
  have hR := h.rf Ins.cells_len I0
  refine enter Try.func57 rfl Try.ntmps57 rfl fun a hF => ?_
  have hW := Wd.start w NoB
  refine c_sr <| pv hF hW (y_assign hF rfl) fun a hF => pv hF hW (y_assign hF rfl) fun a hF => l_nil <| t_n <| c_s <| c_sr <| pv hF hW (y_move hF rfl) fun a hF => ?_; refine pe (e_call hF rfl rfl en_39 (by rfl) rfl rfl (codeCheck_any _ _ _ (h.below hW.below)) ?_); rintro e w1 ⟨rfl, hb⟩; replace hW := hW.kept hb; clear hb; refine ⟨_, rfl, fun a hF => ?_⟩; refine pv hF hW (y_assign hF rfl) fun a hF => l_nil ?_; replace hF := hF.ks [0, 1, 4, 5, 6] rfl; refine t_n <| c_sr <| pv hF hW (y_move hF rfl) fun a hF => pv hF hW (y_neq hF rfl rfl) fun a hF => ?_; refine Fr.splitD hF ?_ ?_
  · intro h1 hF; refine l_nil ?_; replace hF := hF.ks [0, 1, 4, 5, 6, 13] rfl; refine t_n <| c_t hF rfl <| c_sr <| pv hF hW (y_move hF rfl) fun a hF => ?_; replace hF := hF.drop 4; refine pv hF hW (y_assign hF rfl) fun a hF => ?_; replace hF := hF.drop 5; refine pv hF hW (y_assign hF rfl) fun a hF => l_nil ?_; replace hF := hF.ks [0, 1, 4, 5, 6, 13] rfl; refine t_n <| wp_ret <| t_r <| ret2 Try.results57 hF (rv_t hF rfl) (rv_t hF rfl) ?_
    exact ⟨none, 0, by rw [namesOr_no (by assumption)]; rfl, hW.below, fun _ _ => by rw [namesOr_no (by assumption)]; exact Ints.nil_⟩
  · intro h1 hF; refine l_nil ?_; replace hF := hF.ks [0, 1, 4, 5, 6, 13] rfl; refine t_n <| c_f hF rfl <| wp_skip <| t_n ?_
    have h20 := (chkCode_all (show chkCode l = 0 by omega)).1.2
    refine c_sr <| pv hF hW (y_assign hF rfl) fun a hF => l_nil <| t_n <| c_s <| c_sr <| pv hF hW (y_move hF rfl) fun a hF => pv hF hW (y_len hF rfl Try.underlying44) fun a hF => pv hF hW (y_move hF rfl) fun a hF => l_nil <| t_n <| wp_block ?_; replace hW := hW.nil_row 3 1; refine c_loop (G := Nat × Nat × List Int × Option Addr × Nat) (fun (gq : Nat × Nat × List Int × Option Addr × Nat) => match gq with | ⟨k, m, out, A', c'⟩ => [(17, .int .i64 (k : Int)), (7, .slice A' m c')]) (fun (gq : Nat × Nat × List Int × Option Addr × Nat) => match gq with | ⟨k, m, out, A', c'⟩ => [.row 3 1 (.slice A' m c') m (out.map (.int .i64))]) (fun (gq : Nat × Nat × List Int × Option Addr × Nat) => match gq with | ⟨k, m, out, A', c'⟩ => k ≤ n ∧ out = (l.take k).foldl (pickOp op) [] ∧ out.length = m ∧ m ≤ k) (fun (gq : Nat × Nat × List Int × Option Addr × Nat) => match gq with | ⟨k, m, out, A', c'⟩ => n - k) (0, 0, [], none, 0) (hF.ks [0, 1, 4, 5, 6, 13, 15, 16] rfl) (Fr.cons hF (t := 17) rfl (by first | rfl | (simp; done)) (Fr.cons hF (t := 7) rfl (by first | rfl | (simp; done)) (Fr.nil hF))) (hW) ?_ ?_
    · exact ⟨by omega, by simp, by simp, by omega⟩
    clear hF hW
    try clear a
    intro gq a wc hC hF hW
    obtain ⟨k, m, out, A', c'⟩ := gq
    dsimp only at hC
    obtain ⟨hk, hout, hm, hol⟩ := hC
    refine c_sr <| pv hF hW (y_lss hF rfl rfl) fun a hF => ?_; refine Fr.splitD hF ?_ ?_
    · intro h2 hF; refine l_nil <| t_n <| c_s <| c_t hF rfl <| wp_skip <| t_n <| c_s <| wp_block <| c_sr <| pv hF hW (y_indexS hF rfl rfl (by first | omega | decide) Try.underlying44 sz_49 (fun w h => (hR).wd h)) fun a hF => pv hF hW (y_loadRowW hF rfl (fun w h => (hR).wd h) (by first | omega | decide) Try.underlying49 rfl sz_49) fun a hF => ?_; refine pe (e_alloc hF hW ze_49 rfl rfl rfl ?_); intro b3 a wc hF hW; refine pe (e_storeAll rfl hF hW rfl rfl 0 rfl rfl rfl (by kernel_rfl) sz_49 ?_); intro wc hW; refine l_nil ?_; replace hF := hF.ks [0, 1, 4, 5, 6, 7, 9, 13, 15, 16, 17, 18] rfl; refine t_n <| c_sr <| pv hF hW (y_fieldOwn hF rfl fa_49_0) fun a hF => pv hF hW (y_loadOwn hF rfl 0 rfl rfl Try.underlying3 rfl) fun a hF => pv hF hW (y_move hF rfl) fun a hF => pv hF hW (y_eql hF rfl rfl) fun a hF => ?_; refine Fr.splitD hF ?_ ?_
      · intro h4 hF; refine pv hF hW (y_move hF rfl) fun a hF => pvg hF hW (y_move hF rfl) (ws hF rfl rfl) fun a hF => pvg hF hW (y_fieldOwn hF rfl fa_49_3) (ws hF rfl rfl) fun a hF => pvg hF hW (y_loadOwn hF rfl 0 rfl rfl Try.underlying3 rfl) (ws hF rfl rfl) fun a hF => ?_; refine pe (e_call hF rfl rfl en_67 (by rfl) rfl rfl (contains_any (ints_row (hW.row 1 rfl) hm) _) ?_) (ws hF rfl rfl); rintro e w1 ⟨rfl, hb⟩; replace hW := hW.kept hb; clear hb; refine ⟨_, rfl, fun a hF => ?_⟩; refine Fr.splitB hF ?_ ?_
        · intro h5 hF; refine pvg hF hW (y_not hF rfl) (ws hF rfl rfl) fun a hF => ?_; replace hF := hF.ff; refine pv hF hW (y_pick hF rfl rfl) fun a hF => ?_; replace hF := hF.ff; refine l_nil ?_; replace hF := hF.ks [0, 1, 4, 5, 6, 7, 9, 13, 15, 16, 17, 18, 31] rfl; refine t_n <| c_f hF rfl <| wp_skip <| b_n <| t_n <| c_r <| pv hF hW (y_add hF rfl rfl (IntWalk.i64_in _ (by omega))) fun a hF => ?_; replace hF := hF.drop 17; refine pv hF hW (y_move hF rfl) fun a hF => l_nil ?_; replace hF := hF.ks [0, 1, 4, 5, 6, 7, 9, 13, 15, 16, 17, 18, 31] rfl; replace hW := hW.del 0 rfl; refine t_n ?_; refine ⟨(k + 1, m, out, A', c'), ?_, ?_, ?_, ?_⟩
          · exact ⟨by omega, by rw [foldl_take _ _ I0 (by omega), ← hout, pick_no fun _ => of_decide_eq_true (by assumption)], hm, by omega⟩
          · first | omega | (dsimp only; omega)
          · exact Fr.app (Fr.cons hF (t := 17) rfl (by first | rfl | (simp; done) | omega) (Fr.cons hF (t := 7) rfl (by first | rfl | (simp; done) | omega) (Fr.nil hF))) (hF.ks [0, 1, 4, 5, 6, 13, 15, 16] rfl)
          · exact hW
        · intro h5 hF; refine pvg hF hW (y_not hF rfl) (ws hF rfl rfl) fun a hF => ?_; replace hF := hF.tt; refine pv hF hW (y_pick hF rfl rfl) fun a hF => ?_; replace hF := hF.tt; refine l_nil ?_; replace hF := hF.ks [0, 1, 4, 5, 6, 7, 9, 13, 15, 16, 17, 18, 31] rfl; refine t_n <| c_t hF rfl <| c_r <| pv hF hW (y_move hF rfl) fun a hF => pv hF hW (y_fieldOwn hF rfl fa_49_3) fun a hF => pv hF hW (y_loadOwn hF rfl 0 rfl rfl Try.underlying3 rfl) fun a hF => ?_; refine pe (e_buildSlice hF hW rfl (fun w => bs_CodeNm_45_1_0 _ w) rfl rfl rfl ?_); intro b6 a wc hF hW; refine pe (e_append hF hW 2 rfl rfl rfl Try.underlying45 inf_3 rfl (by decide) (rowAt_blk (hW.blk 0 rfl) 1 1 rfl) (by simp [Value.oneCell']) (show _ = m + 1 by omega) (show _ = (out ++ [(l.getD k I0).n]).map (.int .i64) by simp) (by first | omega | (simp; omega)) (by unfold maxLen; first | omega | (simp; omega)) rfl rfl ?_); intro A7 c8 a wc hF hW; replace hF := hF.drop 7; refine pv hF hW (y_assign hF rfl) fun a hF => l_nil ?_; replace hF := hF.ks [0, 1, 4, 5, 6, 7, 9, 13, 15, 16, 17, 18, 31] rfl; refine b_n <| t_n <| c_r <| pv hF hW (y_add hF rfl rfl (IntWalk.i64_in _ (by omega))) fun a hF => ?_; replace hF := hF.drop 17; refine pv hF hW (y_move hF rfl) fun a hF => l_nil ?_; replace hF := hF.ks [0, 1, 4, 5, 6, 7, 9, 13, 15, 16, 17, 18, 31] rfl; replace hW := hW.del 0 rfl; replace hW := hW.del 0 rfl; refine t_n ?_; refine ⟨(k + 1, m + 1, out ++ [(l.getD k I0).n], A7, c8), ?_, ?_, ?_, ?_⟩
          · exact ⟨by omega, by rw [foldl_take _ _ I0 (by omega), ← hout, pick_yes (by assumption) (of_decide_eq_false (by assumption))], by simp [hm], by omega⟩
          · first | omega | (dsimp only; omega)
          · exact Fr.app (Fr.cons hF (t := 17) rfl (by first | rfl | (simp; done) | omega) (Fr.cons hF (t := 7) rfl (by first | rfl | (simp; done) | omega) (Fr.nil hF))) (hF.ks [0, 1, 4, 5, 6, 13, 15, 16] rfl)
          · exact hW
      · intro h4 hF; refine pv hF hW (y_move hF rfl) fun a hF => pk hF (wn hF rfl rfl rfl) fun a hF => pk hF (wn hF rfl rfl rfl) fun a hF => pk hF (wn hF rfl rfl rfl) fun a hF => pk hF (wn hF rfl rfl rfl) fun a hF => pk hF (wn hF rfl rfl rfl) fun a hF => pv hF hW (y_pick hF rfl rfl) fun a hF => l_nil ?_; replace hF := hF.ks [0, 1, 4, 5, 6, 7, 9, 13, 15, 16, 17, 18, 31] rfl; refine t_n <| c_f hF rfl <| wp_skip <| b_n <| t_n <| c_r <| pv hF hW (y_add hF rfl rfl (IntWalk.i64_in _ (by omega))) fun a hF => ?_; replace hF := hF.drop 17; refine pv hF hW (y_move hF rfl) fun a hF => l_nil ?_; replace hF := hF.ks [0, 1, 4, 5, 6, 7, 9, 13, 15, 16, 17, 18, 31] rfl; replace hW := hW.del 0 rfl; refine t_n ?_; refine ⟨(k + 1, m, out, A', c'), ?_, ?_, ?_, ?_⟩
        · exact ⟨by omega, by rw [foldl_take _ _ I0 (by omega), ← hout, pick_no fun h => absurd h (by assumption)], hm, by omega⟩
        · first | omega | (dsimp only; omega)
        · exact Fr.app (Fr.cons hF (t := 17) rfl (by first | rfl | (simp; done) | omega) (Fr.cons hF (t := 7) rfl (by first | rfl | (simp; done) | omega) (Fr.nil hF))) (hF.ks [0, 1, 4, 5, 6, 13, 15, 16] rfl)
        · exact hW
    · intro h2 hF; refine l_nil <| t_n <| c_s <| c_f hF rfl <| wp_exit <| t_x <| t_x <| b_h <| t_n <| c_sr <| pv hF hW (y_move hF rfl) fun a hF => ?_; refine pe (e_call hF rfl rfl en_68 (by rfl) rfl rfl (sort_own hW 0 (by omega) rfl) ?_); rintro e w1 ⟨rfl, hW⟩; refine ⟨_, rfl, fun a hF => ?_⟩; refine l_nil ?_; replace hF := hF.ks [0, 1, 4, 5, 6, 7, 13, 15, 16, 17, 18] rfl; refine t_n <| c_sr <| pv hF hW (y_move hF rfl) fun a hF => ?_; replace hF := hF.drop 4; refine pv hF hW (y_assign hF rfl) fun a hF => ?_; replace hF := hF.drop 5; refine pv hF hW (y_assign hF rfl) fun a hF => l_nil ?_; replace hF := hF.ks [0, 1, 4, 5, 6, 7, 13, 15, 16, 17, 18] rfl; refine t_n <| wp_ret <| ret2 Try.results57 hF (rv_t hF rfl) (rv_t hF rfl) ?_
      obtain rfl : k = n := (by omega)
      subst hm
      have e : namesOr op l = sorted out := (by rw [namesOr_ok (by omega), hout, List.take_of_length_le (by omega)]; rfl)
      unfold IntsErr
      rw [e, sorted_len]
      exact ⟨A', c', by rw [show chkCode l = 0 by omega], hW.below, (OwnRes.of_own (hW.row_own 0 rfl)).mono fun _ h => by have := Ints.of_own h; exact this⟩
theorem puts_any {A : Option Addr} {n c : Nat} {l : List Ins} {w : World} (h : Code_ w (.slice A n c) l) :
    Calls Try.prog 46 #[.slice A n c] w (IntsErr w (namesOr 12 l) (chkCode l)) := by
  refine enter Try.func46 rfl Try.ntmps46 rfl fun a hF => ?_
  have hW := Wd.start w NoB
  refine c_sr <| pv hF hW (y_assign hF rfl) fun a hF => pv hF hW (y_assign hF rfl) fun a hF => l_nil <| t_n <| c_sr <| pv hF hW (y_move hF rfl) fun a hF => ?_; refine pe (e_call hF rfl rfl en_57 (by rfl) rfl rfl (named_any (h.below hW.below) 12) ?_); rintro e w1 ⟨A', c', rfl, hb, hr⟩; replace hW := hW.gotR hb hr; refine ⟨_, rfl, fun a hF => ?_⟩; refine pv hF hW (y_extract hF rfl rfl) fun a hF => pv hF hW (y_extract hF rfl rfl) fun a hF => ?_; replace hF := hF.drop 2; refine pv hF hW (y_assign hF rfl) fun a hF => ?_; replace hF := hF.drop 3; refine pv hF hW (y_assign hF rfl) fun a hF => l_nil ?_; replace hF := hF.ks [0, 2, 3] rfl; refine t_n <| wp_ret <| ret2 Try.results46 hF (rv_t hF rfl) (rv_t hF rfl) ?_
  exact ⟨A', c', rfl, hW.below, hW.res_res 0 rfl⟩
theorem gets_any {A : Option Addr} {n c : Nat} {l : List Ins} {w : World} (h : Code_ w (.slice A n c) l) :
    Calls Try.prog 47 #[.slice A n c] w (IntsErr w (namesOr 13 l) (chkCode l)) := by
  refine enter Try.func47 rfl Try.ntmps47 rfl fun a hF => ?_
  have hW := Wd.start w NoB
  refine c_sr <| pv hF hW (y_assign hF rfl) fun a hF => pv hF hW (y_assign hF rfl) fun a hF => l_nil <| t_n <| c_sr <| pv hF hW (y_move hF rfl) fun a hF => ?_; refine pe (e_call hF rfl rfl en_57 (by rfl) rfl rfl (named_any (h.below hW.below) 13) ?_); rintro e w1 ⟨A', c', rfl, hb, hr⟩; replace hW := hW.gotR hb hr; refine ⟨_, rfl, fun a hF => ?_⟩; refine pv hF hW (y_extract hF rfl rfl) fun a hF => pv hF hW (y_extract hF rfl rfl) fun a hF => ?_; replace hF := hF.drop 2; refine pv hF hW (y_assign hF rfl) fun a hF => ?_; replace hF := hF.drop 3; refine pv hF hW (y_assign hF rfl) fun a hF => l_nil ?_; replace hF := hF.ks [0, 2, 3] rfl; refine t_n <| wp_ret <| ret2 Try.results47 hF (rv_t hF rfl) (rv_t hF rfl) ?_
  exact ⟨A', c', rfl, hW.below, hW.res_res 0 rfl⟩
end
end Go.Proofs.Ytnpflhaggfabnaa
