/- Programs among a law's arguments; readings of programs side by side. -/
import Derived.Test.YtfkngjglnhfdcaaGreatDoorCodBg
import Derived.Test.YtfkngjglnhfdcaaGreatDoorLaidW
namespace Go.Proofs.YtfkngjglnhfdcaaGreatDoor
set_option linter.unusedVariables false
set_option linter.unusedSimpArgs false
open Go.ChangeShapes Go.WideShapes Go.ChangeAt Go.RowKit
set_option maxRecDepth 100000

theorem Rd.flatW {P : Program} {w : World} {t e : TypeId} {cs : List Value} {d : Nat} {α : Type} {enc : α → List Value} {size : Nat} {Q : α → Prop} (hu : P.underlying t = some (.slice e)) (hce : P.cellsOf e = size) (hs : ∀ a, (enc a).length = size) (hd : ∀ r, Rd P w d e r → ∃ a, r = enc a ∧ Q a) (h : Rd P w (d + 1) t cs) : ∃ v l, cs = [v] ∧ Flat enc size w v l ∧ ∀ a, a ∈ l → Q a := by
  obtain ⟨v, l, h1, h2⟩ := Rd.flatS (α := {a // Q a}) (enc := fun a => enc a.1) hu hce (fun a => hs a.1) (fun r hr => by obtain ⟨a, ha, hq⟩ := hd r hr; exact ⟨⟨a, hq⟩, ha⟩) h
  refine ⟨v, l.map Subtype.val, h1, ?_, fun a ha => ?_⟩
  · obtain ⟨A, c, e, h3, h4, h5⟩ := h2
    exact ⟨A, c, by simpa using e, by simpa using h3, h4, by simpa [List.flatMap_map] using h5⟩
  · obtain ⟨⟨b, hb⟩, _, rfl⟩ := List.mem_map.1 ha
    exact hb
section
variable {H : Type} {enc : TypeId × Value → H} {w : World} {base base' : Nat} {r : Reach} {spare : Nat → Bool} {held : Bool} {v : Value} {d : DataW H} {p : List MemPlace}
theorem code_open (hv : Value.okWide Tryz.prog w r base' 22 v) (h : DataW.Trod enc Tryz.prog w base spare held 22 v d p) : ∃ (A : Option Addr) (n c : Nat) (l : List Ins), v = .slice A n c ∧ Code_ w (.slice A n c) l ∧ ∀ i ∈ l, i.In := by
  obtain ⟨A, n, c, rfl⟩ := okWide_slice Tryz.underlying22 hv
  obtain ⟨v0, l, e, h1, h2⟩ := Rd.flatW (enc := Ins.cells) (Q := Ins.In) Tryz.underlying22 (by kernel_rfl) Ins.cells_len (fun _ h => by obtain ⟨i, e, hi⟩ := insW_rd (n := 0) h; exact ⟨i, e, hi⟩) (rd_of 3 h)
  obtain rfl : Value.slice A n c = v0 := by simpa [Value.cells] using e
  exact ⟨A, n, c, l, rfl, h1, h2⟩
end
theorem RdC.same {s : List UInt8} {l k : List Ins} {x y : Bool} (h : RdC s l x) (h2 : RdC s k y) : l = k ∧ x = y := by
  cases x <;> cases y
  · exact ⟨(h.no rfl).1.trans (h2.no rfl).1.symm, rfl⟩
  · exact absurd (h2.yes rfl) ((h.no rfl).2 _)
  · exact absurd (h.yes rfl) ((h2.no rfl).2 _)
  · exact ⟨(h.yes rfl).unique (h2.yes rfl), rfl⟩
theorem RdC.ok {s : List UInt8} {l : List Ins} {x : Bool} (h : RdC s l x) (hx : ¬ (if x then 0 else 1 : Int) ≠ 0) : SaysC s l := h.yes (by cases x <;> simp_all)
theorem read_code {l : List Ins} (hc : chkCode l = 0) (hi : ∀ i ∈ l, i.In) {w : World} (hL : Lay w) : Calls Tryz.prog 15 #[.string (bstr (codeTxt l))] w fun e w' => ∃ A c, e = .returned (.tuple #[.slice A l.length c, .int .i64 0]) ∧ Below w.heap.size w w' ∧ OwnRes w w' (fun u => Code_ u (.slice A l.length c) l) := by
  have hs : SaysC (codeTxt l) l := ⟨hc, hi, rfl⟩
  have h1 := codeTxt_len hi
  have h2 := (chkCode_all hc).1.2
  refine (codeRead_any (codeTxt l) (by omega) hL).mono ?_
  rintro e w' ⟨L, A, c, x, rfl, hb, hr, h⟩
  cases x with
  | true =>
    obtain rfl := (h.yes rfl).unique hs
    exact ⟨A, c, rfl, hb, hr⟩
  | false => exact absurd hs ((h.no rfl).2 _)
theorem code_row {A : Option Addr} {n c : Nat} {l : List Ins} {w : World} (h : Code_ w (.slice A n c) l) : RowAt w 4 A n (l.flatMap Ins.cells) := by
  obtain ⟨A2, c2, e, h1, h2, h3⟩ := h
  injection e with e1 e2 e3
  subst e1 e2
  exact h3
theorem show_code {A : Option Addr} {n c : Nat} {l : List Ins} {w : World} (h : Code_ w (.slice A n c) l) (hi : ∀ i ∈ l, i.In) (hc : chkCode l = 0) (hL : Lay w) :
    Calls Tryz.prog 13 #[.slice A n c] w fun e w' => e = .returned (.tuple #[.string (bstr (codeTxt l)), .int .i64 0]) ∧ Below w.heap.size w w' := by
  have := codeShow_any h hi hL
  rwa [hc, if_pos rfl] at this
theorem chk_app {l m : List Ins} (hl : chkCode l = 0) (hm : chkCode m = 0) (h : l.length + m.length ≤ 20) : chkCode (l ++ m) = 0 := by
  have h1 := chkCode_all hl
  have h2 := chkCode_all hm
  unfold chkCode
  rw [if_neg (by rw [List.length_append]; omega)]
  have : ∀ (k : List Ins), (∀ i ∈ k, chkIns i = 0) → firstErr k = 0 := by
    intro k hk
    induction k with
    | nil => rfl
    | cons x k ih => rw [firstErr, if_pos (hk x List.mem_cons_self), ih fun i hi => hk i (List.mem_cons_of_mem _ hi)]
  exact this _ fun i hi => (List.mem_append.1 hi).elim (h1.2 i) (h2.2 i)
theorem codeTxt_app (l m : List Ins) : codeTxt (l ++ m) = codeTxt l ++ codeTxt m := by
  unfold codeTxt
  rw [List.flatMap_append]
end Go.Proofs.YtfkngjglnhfdcaaGreatDoor
