/- code.Read reads what a text says as a program. -/
import Derived.Test.YtfkngjglnhfdcaaGreatDoorCodSh
import Derived.Test.YtfkngjglnhfdcaaGreatDoorLinR
namespace Go.Proofs.YtfkngjglnhfdcaaGreatDoor
set_option linter.unusedVariables false
set_option linter.unusedSimpArgs false
open Go.ChangeShapes Go.WideShapes Go.ChangeAt Go.RowKit Go.Shelf

attribute [local go_sem] Oper.semAt_some
set_option maxRecDepth 100000

/-- s says the program l -/
def SaysC (s : List UInt8) (l : List Ins) : Prop := chkCode l = 0 ∧ (∀ i ∈ l, i.In) ∧ codeTxt l = s
def lineOf (i : Ins) : List UInt8 := txtI i ++ [10]
/-- a line without its end -/
def trimL (x : List UInt8) : List UInt8 := Lib.trimSuffix x [10]
theorem trim_line (y : List UInt8) : trimL (y ++ [10]) = y := by
  unfold trimL Lib.trimSuffix Lib.hasSuffix
  rw [if_pos (by rw [List.isSuffixOf_iff_suffix]; exact ⟨y, rfl⟩)]
  simp
theorem trim_len (x : List UInt8) : (trimL x).length ≤ x.length := by
  unfold trimL Lib.trimSuffix
  split
  · rw [List.length_take]; omega
  · exact Nat.le_refl _
theorem has10 (l : List UInt8) : Lib.hasSuffix l [10] = true ↔ ∃ t, l = t ++ [10] := by
  unfold Lib.hasSuffix
  rw [List.isSuffixOf_iff_suffix]
  exact ⟨fun ⟨t, h⟩ => ⟨t, h.symm⟩, fun ⟨t, h⟩ => ⟨t, h.symm⟩⟩
theorem word_no10 (op : Int) : (10 : UInt8) ∉ wordL op := by
  unfold wordL wordB
  split <;> decide
theorem txt_no10 (i : Ins) : (10 : UInt8) ∉ txtI i := by
  unfold txtI
  rw [Lib.join_cons, List.mem_append, not_or]
  refine ⟨word_no10 _, ?_⟩
  unfold Lib.joinTail
  intro h
  obtain ⟨x, hx, h2⟩ := List.mem_flatten.1 h
  obtain ⟨y, hy, rfl⟩ := List.mem_map.1 hx
  obtain ⟨f, -, rfl⟩ := List.mem_map.1 hy
  rcases List.mem_append.1 h2 with h3 | h3
  · exact absurd h3 (by decide)
  · rcases itoa_chars h3 with h4 | h4
    · cases h4
    · exact absurd h4.1 (by decide)
theorem lines_code : ∀ l : List Ins, linesL (codeTxt l) = l.map lineOf
  | [] => rfl
  | i :: l => by
    have : codeTxt (i :: l) = txtI i ++ 10 :: codeTxt l := by
      unfold codeTxt
      rw [List.flatMap_cons, List.append_assoc]
      rfl
    rw [this, lines_cat _ (txt_no10 i), lines_code l]
    rfl
theorem SaysC.unique {s : List UInt8} {l k : List Ins} (h : SaysC s l) (h2 : SaysC s k) : l = k := by
  have e : l.map lineOf = k.map lineOf := by rw [← lines_code, ← lines_code, h.2.2, h2.2.2]
  have hl := (chkCode_all h.1).2
  have hk := (chkCode_all h2.1).2
  have hli := h.2.1
  have hki := h2.2.1
  clear h h2
  induction l generalizing k with
  | nil =>
    cases k with
    | nil => rfl
    | cons y k => cases e
  | cons x l ih =>
    cases k with
    | nil => cases e
    | cons y k =>
      injection e with e1 e2
      have e3 : txtI x = txtI y := by
        have := congrArg trimL e1
        rwa [lineOf, lineOf, trim_line, trim_line] at this
      have hx : Says (txtI x) x := ⟨hl x List.mem_cons_self, hli x List.mem_cons_self, rfl⟩
      have hy : Says (txtI x) y := ⟨hk y List.mem_cons_self, hki y List.mem_cons_self, e3.symm⟩
      rw [hx.unique hy, ih (k := k) e2 (fun i hi => hl i (List.mem_cons_of_mem _ hi)) (fun i hi => hk i (List.mem_cons_of_mem _ hi)) (fun i hi => hli i (List.mem_cons_of_mem _ hi)) (fun i hi => hki i (List.mem_cons_of_mem _ hi))]
/-- what has been read of these lines -/
inductive Rdn : List ByteArray → List Ins → Prop
  | nil : Rdn [] []
  | snoc {xs l x i} : Rdn xs l → Says (trimL x.data.toList) i → Rdn (xs ++ [x]) (l ++ [i])
theorem Rdn.len {xs : List ByteArray} {l : List Ins} (h : Rdn xs l) : xs.length = l.length := by
  induction h with
  | nil => rfl
  | snoc _ _ ih => simp [ih]
theorem Rdn.all {xs : List ByteArray} {l : List Ins} (h : Rdn xs l) : ∀ i ∈ l, chkIns i = 0 ∧ i.In := by
  induction h with
  | nil => intro i hi; cases hi
  | snoc _ hs ih =>
    intro i hi
    rcases List.mem_append.1 hi with h | h
    · exact ih i h
    · rw [List.mem_singleton.1 h]
      exact ⟨hs.1, hs.2.1⟩
theorem Rdn.text {xs : List ByteArray} {l : List Ins} (h : Rdn xs l) (he : ∀ x ∈ xs.map (·.data.toList), ∃ y, x = y ++ [10]) : (xs.map (·.data.toList)).flatten = codeTxt l := by
  induction h with
  | nil => rfl
  | @snoc xs l x i h1 hs ih =>
    rw [List.map_append, List.flatten_append, ih fun x hx => he x (by rw [List.map_append]; exact List.mem_append_left _ hx)]
    obtain ⟨y, hy⟩ := he x.data.toList (by simp)
    have h2 := hs.2.2
    rw [hy, trim_line] at h2
    unfold codeTxt
    rw [List.flatMap_append]
    simp [hy, h2]
theorem Rdn.done {s : List UInt8} {xs : List ByteArray} {l : List Ins} (h : Rdn xs l) (h20 : l.length ≤ 20) (hx : xs.map (·.data.toList) = linesL s) (hs : ∃ t, s = t ++ [10]) : SaysC s l := by
  obtain ⟨t, rfl⟩ := hs
  have ht := h.text fun x hm => lines_end t x (by rw [← hx]; exact hm)
  rw [hx, lines_flat] at ht
  refine ⟨?_, fun i hi => (h.all i hi).2, ht.symm⟩
  unfold chkCode
  rw [if_neg ?_]
  · have : ∀ (k : List Ins), (∀ i ∈ k, chkIns i = 0) → firstErr k = 0 := by
      intro k hk
      induction k with
      | nil => rfl
      | cons x k ih => rw [firstErr, if_pos (hk x List.mem_cons_self), ih fun i hi => hk i (List.mem_cons_of_mem _ hi)]
    exact this l fun i hi => (h.all i hi).1
  · have : l ≠ [] := fun e => by
      rw [e] at ht
      simp [codeTxt] at ht
    have := List.length_pos_iff.2 this
    omega
/-- no program is said, where a line says no instruction, or a twenty-first comes -/
theorem Rdn.stop {s : List UInt8} {xs : List ByteArray} {x : ByteArray} {l : List Ins} {r : List (List UInt8)} (h : Rdn xs l) (hx : (xs ++ [x]).map (·.data.toList) ++ r = linesL s) (hb : (∀ j, ¬ Says (trimL x.data.toList) j) ∨ l.length = 20) (k : List Ins) : ¬ SaysC s k := by
  intro hk
  have e : (xs ++ [x]).map (·.data.toList) ++ r = k.map lineOf := by rw [hx, ← lines_code, hk.2.2]
  have hlen := congrArg List.length e
  simp only [List.map_append, List.length_append, List.length_map, List.length_cons, List.length_nil, h.len] at hlen
  rcases hb with hb | hb
  · have hlt : l.length < k.length := by omega
    have h1 := congrArg (fun z => z[l.length]?) e
    simp only [List.map_append, List.append_assoc] at h1
    rw [List.getElem?_append_right (by rw [List.length_map, h.len]; exact Nat.le_refl _), List.length_map, h.len, Nat.sub_self] at h1
    simp only [List.map_cons, List.map_nil, List.cons_append, List.getElem?_cons_zero, List.getElem?_map, List.getElem?_eq_getElem hlt, Option.map_some, Option.some.injEq] at h1
    refine hb k[l.length] ⟨(chkCode_all hk.1).2 _ (List.getElem_mem hlt), hk.2.1 _ (List.getElem_mem hlt), ?_⟩
    rw [h1, lineOf, trim_line]
  · have := (chkCode_all hk.1).1.2
    omega
theorem saysC_end {s : List UInt8} {k : List Ins} (hk : SaysC s k) : ∃ t, s = t ++ [10] := by
  obtain ⟨h1, -, rfl⟩ := hk
  have h2 := (chkCode_all h1).1.1
  rcases List.eq_nil_or_concat k with rfl | ⟨k', i, rfl⟩
  · simp at h2
  · exact ⟨codeTxt k' ++ txtI i, by unfold codeTxt; simp⟩
/- the library's -/
theorem has_own (l : List UInt8) (hl : l.length ≤ 4294967296) (w : World) : Calls Tryz.prog 27 #[.string (bstr l), .string (bstr [10])] w fun e w' => e = .returned (.bool (Lib.hasSuffix l [10])) ∧ w' = w :=
  Any.strings_HasSuffix (P := Tryz.prog) (ρ := lay_ren) lay_100 (bstr l) (bstr [10]) w (by rw [bstr_size]; omega)
theorem trim_own (x : ByteArray) (hl : x.size ≤ 9223372036854775807) (w : World) : Calls Tryz.prog 30 #[.string x, .string ⟨#[10]⟩] w fun e w' => e = .returned (.string (bstr (trimL x.data.toList))) ∧ w' = w :=
  Any.strings_TrimSuffix (P := Tryz.prog) (ρ := lay_ren) lay_102 x ⟨#[10]⟩ w hl
theorem lines_own (l : List UInt8) (w : World) : Calls Tryz.prog 28 #[.string (bstr l)] w fun e w' => ∃ B, e = .returned (.func (.func 46) #[] #[.pointer (some ⟨B, 0, none⟩)]) ∧ Wd w NoB [.blk B 9 [.string (bstr l)]] w' := by
  refine enter Tryz.func28 rfl Tryz.ntmps28 rfl fun a hF => ?_
  have hW := Wd.start w NoB
  refine c_sr ?_; refine pe (e_box hF hW rfl rfl rfl rfl ?_); intro b1 a wc hF hW; refine pv hF hW (y_assign hF rfl) fun a hF => l_nil <| t_n <| c_sr <| pv hF hW (y_makeFunc hF rfl) fun a hF => ?_; replace hF := hF.drop 2; refine pv hF hW (y_assign hF rfl) fun a hF => l_nil ?_; replace hF := hF.ks [0, 1, 2] rfl; refine t_n <| wp_ret <| ret1 Tryz.results28 hF (rv_t hF rfl) ?_
  exact ⟨_, rfl, hW⟩
structure RdC (s : List UInt8) (l : List Ins) (ok : Bool) : Prop where
  yes : ok = true → SaysC s l
  no : ok = false → l = [] ∧ ∀ k, ¬ SaysC s k
end Go.Proofs.YtfkngjglnhfdcaaGreatDoor
