/- code.Puts and code.Gets: the channels that a program names, sorted. -/
import Derived.Test.YtebklpbbglojmaaSortLay
import Derived.Test.YtebklpbbglojmaaCloneS
import Derived.Test.YtebklpbbglojmaaRefSm
namespace Go.Proofs.Ytebklpbbglojmaa
set_option linter.unusedVariables false
set_option linter.unusedSimpArgs false
open Go.ChangeShapes Go.WideShapes Go.ChangeAt Go.RowKit
theorem bs_CodeNm_22_1_0 (x0 : Int) (w : World) : (Instr.buildSlice 22 1 #[(0, (.int .i64 x0))]).run Try.prog w = .ok (.slice (some ⟨w.heap.size, 0, none⟩) 1 1) (w.alloc (.cells #[(.int .i64 x0)] 3)) := by kernel_rfl
set_option maxRecDepth 100000

theorem index_any {A : Option Addr} {n c : Nat} {l : List Int} {w : World} (h : Ints w (.slice A n c) l) (x : Int) :
    Calls Try.prog 107 #[.slice A n c, .int .i64 x] w fun e w' => (∃ r : Int, e = .returned (.int .i64 r) ∧ decide (0 ≤ r) = decide (x ∈ l)) ∧ Below w.heap.size w w' := by
  have hl := h.len
  unfold maxLen at hl
  have hR := h.rf
  refine enter Try.func107 rfl Try.ntmps107 rfl (fun a hF => ?_)
  have hW := Wd.start w NoB
  refine c_sr ?_
  refine pv hF hW (y_assign hF rfl) (fun a hF => ?_)
  refine l_nil ?_
  refine t_n ?_
  refine c_s ?_
  refine c_sr ?_
  refine pv hF hW (y_move hF rfl) (fun a hF => ?_)
  refine pv hF hW (y_len hF rfl Try.underlying22) (fun a hF => ?_)
  refine pv hF hW (y_move hF rfl) (fun a hF => ?_)
  refine l_nil ?_
  replace hF := (hF.k 0 rfl (hF.k 1 rfl (hF.k 4 rfl (hF.k 7 rfl (hF.k 8 rfl hF.nil)))))
  refine t_n ?_
  refine wp_block ?_
  refine c_loop (G := Nat) (fun k : Nat => [(8, .int .i64 (k : Int))]) (fun k : Nat => []) (fun k : Nat => k ≤ n ∧ ∀ i, i < k → l.getD i 0 ≠ x) (fun k : Nat => n - k) 0 (Fr.cons hF (t := 0) rfl rfl (Fr.cons hF (t := 1) rfl rfl (Fr.cons hF (t := 7) rfl rfl (Fr.nil hF)))) (Fr.cons hF (t := 8) rfl (by first | rfl | (simp; done)) (Fr.nil hF)) (hW) ?_ ?_
  · exact ⟨by omega, fun i hi => by omega⟩
  clear hF hW
  try clear a
  intro k a wc hC hF hW
  obtain ⟨hk, hno⟩ := hC
  refine c_sr ?_
  refine pv hF hW (y_lss hF rfl rfl) (fun a hF => ?_)
  refine Fr.splitD hF ?_ ?_
  · intro h1 hF
    refine l_nil ?_
    refine t_n ?_
    refine c_s ?_
    refine c_t hF rfl ?_
    refine wp_skip ?_
    refine t_n ?_
    refine c_s ?_
    refine wp_block ?_
    refine c_sr ?_
    refine pv hF hW (y_move hF rfl) (fun a hF => ?_)
    refine pv hF hW (y_assign hF rfl) (fun a hF => ?_)
    refine l_nil ?_
    replace hF := (hF.k 0 rfl (hF.k 1 rfl (hF.k 5 rfl (hF.k 7 rfl (hF.k 8 rfl (hF.k 9 rfl hF.nil))))))
    refine t_n ?_
    refine c_sr ?_
    refine pv hF hW (y_move hF rfl) (fun a hF => ?_)
    refine pv hF hW (y_move hF rfl) (fun a hF => ?_)
    refine pv hF hW (y_move hF rfl) (fun a hF => ?_)
    refine pv hF hW (y_indexS hF rfl rfl (by first | omega | decide) Try.underlying22 sz_3 (fun w h => (hR).wd h)) (fun a hF => ?_)
    refine pv hF hW (y_loadRow hF rfl (fun w h => (hR).wd h) (by first | omega | decide) rfl Try.underlying3 rfl) (fun a hF => ?_)
    refine pv hF hW (y_eql hF rfl rfl) (fun a hF => ?_)
    refine Fr.splitD hF ?_ ?_
    · intro h2 hF
      refine l_nil ?_
      replace hF := (hF.k 0 rfl (hF.k 1 rfl (hF.k 5 rfl (hF.k 7 rfl (hF.k 8 rfl (hF.k 9 rfl (hF.k 16 rfl hF.nil)))))))
      refine t_n ?_
      refine c_t hF rfl ?_
      refine c_sr ?_
      refine pv hF hW (y_move hF rfl) (fun a hF => ?_)
      refine pv hF hW (y_assign hF rfl) (fun a hF => ?_)
      refine l_nil ?_
      replace hF := (hF.k 0 rfl (hF.k 1 rfl (hF.k 4 rfl (hF.k 5 rfl (hF.k 7 rfl (hF.k 8 rfl (hF.k 9 rfl (hF.k 16 rfl hF.nil))))))))
      refine t_n ?_
      refine wp_ret ?_
      refine b_r ?_
      refine t_r ?_
      refine t_r ?_
      refine b_r ?_
      refine t_r ?_
      refine ret1 Try.results107 hF (rv_t hF rfl) ?_
      exact ⟨⟨_, rfl, by rw [decide_eq_true (show (0 : Int) ≤ (k : Int) by omega), decide_eq_true]; have hm := mem_getD (l := l) (k := k) 0 (by omega); rwa [show l.getD k 0 = x by omega] at hm⟩, hW.below⟩
    · intro h2 hF
      refine l_nil ?_
      replace hF := (hF.k 0 rfl (hF.k 1 rfl (hF.k 5 rfl (hF.k 7 rfl (hF.k 8 rfl (hF.k 9 rfl (hF.k 16 rfl hF.nil)))))))
      refine t_n ?_
      refine c_f hF rfl ?_
      refine wp_skip ?_
      refine b_n ?_
      refine t_n ?_
      refine c_r ?_
      refine pv hF hW (y_add hF rfl rfl (IntWalk.i64_in _ (by omega))) (fun a hF => ?_)
      replace hF := hF.drop 8
      refine pv hF hW (y_move hF rfl) (fun a hF => ?_)
      refine l_nil ?_
      replace hF := (hF.k 0 rfl (hF.k 1 rfl (hF.k 5 rfl (hF.k 7 rfl (hF.k 8 rfl (hF.k 9 rfl (hF.k 16 rfl hF.nil)))))))
      refine t_n ?_
      refine ⟨(k + 1), ?_, ?_, ?_, ?_⟩
      · exact ⟨by omega, fun i hi => by rcases Nat.lt_or_ge i k with h | h; exact hno i h; (have hik : i = k := by omega); rw [hik]; omega⟩
      · first | omega | (dsimp only; omega)
      · exact Fr.app (Fr.cons hF (t := 8) rfl (by first | rfl | (simp; done) | omega) (Fr.nil hF)) (Fr.cons hF (t := 0) rfl rfl (Fr.cons hF (t := 1) rfl rfl (Fr.cons hF (t := 7) rfl rfl (Fr.nil hF))))
      · exact hW
  · intro h1 hF
    refine l_nil ?_
    refine t_n ?_
    refine c_s ?_
    refine c_f hF rfl ?_
    refine wp_exit ?_
    refine t_x ?_
    refine t_x ?_
    refine b_h ?_
    refine t_n ?_
    refine c_sr ?_
    refine pv hF hW (y_assign hF rfl) (fun a hF => ?_)
    refine l_nil ?_
    refine t_n ?_
    refine wp_ret ?_
    refine ret1 Try.results107 hF (rv_t hF rfl) ?_
    exact ⟨⟨_, rfl, by rw [decide_eq_false (show ¬ (0 : Int) ≤ -1 by omega), decide_eq_false]; intro hm; obtain ⟨i, hi, he⟩ := List.mem_iff_getElem.1 hm; exact hno i (by omega) (by rw [List.getD, List.getElem?_eq_getElem hi]; exact he)⟩, hW.below⟩
theorem contains_any {A : Option Addr} {n c : Nat} {l : List Int} {w : World} (h : Ints w (.slice A n c) l) (x : Int) :
    Calls Try.prog 103 #[.slice A n c, .int .i64 x] w fun e w' => e = .returned (.bool (decide (x ∈ l))) ∧ Below w.heap.size w w' := by
  refine enter Try.func103 rfl Try.ntmps103 rfl (fun a hF => ?_)
  have hW := Wd.start w NoB
  refine c_sr ?_
  refine pv hF hW (y_assign hF rfl) (fun a hF => ?_)
  refine l_nil ?_
  refine t_n ?_
  refine c_sr ?_
  refine pv hF hW (y_move hF rfl) (fun a hF => ?_)
  refine pv hF hW (y_move hF rfl) (fun a hF => ?_)
  refine pe (e_call hF rfl rfl en_107 (by rfl) rfl rfl (index_any (h.below hW.below) x) ?_)
  rintro e w1 ⟨⟨r, rfl, hr⟩, hb⟩
  replace hW := hW.kept hb
  clear hb
  refine ⟨_, rfl, fun a hF => ?_⟩
  refine pv hF hW (y_geq hF rfl rfl) (fun a hF => ?_)
  replace hF := hF.drop 4
  refine pv hF hW (y_assign hF rfl) (fun a hF => ?_)
  refine l_nil ?_
  replace hF := (hF.k 0 rfl (hF.k 1 rfl (hF.k 4 rfl hF.nil)))
  refine t_n ?_
  refine wp_ret ?_
  refine ret1 Try.results103 hF (rv_t hF rfl) ?_
  exact ⟨by rw [← hr], hW.below⟩

def pickOp (op : Int) (out : List Int) (i : Ins) : List Int := if i.op = op ∧ i.n ∉ out then out ++ [i.n] else out
def namedOf (op : Int) (l : List Ins) : List Int := sorted (l.foldl (pickOp op) [])
theorem foldl_take {α β : Type} (f : β → α → β) (b : β) (d : α) {l : List α} {k : Nat} (hk : k < l.length) : (l.take (k + 1)).foldl f b = f ((l.take k).foldl f b) (l.getD k d) := by
  rw [List.take_add_one, List.foldl_append, List.getD, List.getElem?_eq_getElem hk]
  rfl
theorem pick_yes {op : Int} {out : List Int} {i : Ins} (h1 : i.op = op) (h2 : i.n ∉ out) : pickOp op out i = out ++ [i.n] := if_pos ⟨h1, h2⟩
theorem pick_no {op : Int} {out : List Int} {i : Ins} (h : i.op = op → i.n ∈ out) : pickOp op out i = out := if_neg fun h2 => h2.2 (h h2.1)
theorem mem_picks {op m : Int} : ∀ (l : List Ins) (acc : List Int), m ∈ l.foldl (pickOp op) acc ↔ m ∈ acc ∨ ∃ i, i ∈ l ∧ i.op = op ∧ i.n = m
  | [], acc => by simp
  | i :: r, acc => by
    rw [List.foldl_cons, mem_picks r]
    have key : m ∈ pickOp op acc i ↔ m ∈ acc ∨ (i.op = op ∧ i.n = m) := by
      unfold pickOp
      split
      · rename_i h
        rw [List.mem_append, List.mem_singleton]
        exact ⟨fun h2 => h2.elim .inl fun e => .inr ⟨h.1, e.symm⟩, fun h2 => h2.elim .inl fun e => .inr e.2.symm⟩
      · rename_i h
        refine ⟨.inl, fun h2 => h2.elim id fun e => ?_⟩
        by_cases hm : i.n ∈ acc
        · rw [e.2] at hm; exact hm
        · exact absurd ⟨e.1, hm⟩ h
    rw [key]
    constructor
    · rintro ((h | h) | ⟨j, hj, h⟩)
      · exact .inl h
      · exact .inr ⟨i, List.mem_cons_self, h⟩
      · exact .inr ⟨j, List.mem_cons_of_mem _ hj, h⟩
    · rintro (h | ⟨j, hj, h⟩)
      · exact .inl (.inl h)
      · rcases List.mem_cons.1 hj with rfl | hj
        · exact .inl (.inr h)
        · exact .inr ⟨j, hj, h⟩
theorem mem_namedOf {op m : Int} {l : List Ins} : m ∈ namedOf op l ↔ ∃ i, i ∈ l ∧ i.op = op ∧ i.n = m := by
  unfold namedOf
  rw [mem_sorted, mem_picks]
  simp
def namesOr (op : Int) (l : List Ins) : List Int := if chkCode l = 0 then namedOf op l else []
theorem namesOr_ok {op : Int} {l : List Ins} (h : chkCode l = 0) : namesOr op l = namedOf op l := if_pos h
theorem namesOr_no {op : Int} {l : List Ins} (h : chkCode l ≠ 0) : namesOr op l = [] := if_neg h
/-- a list of numbers comes back in memory of its own, and an error -/
def IntsErr (w : World) (r : List Int) (x : Int) (e : Ending) (w' : World) : Prop :=
  ∃ A c, e = .returned (.tuple #[.slice A r.length c, .int .i64 x]) ∧ Below w.heap.size w w' ∧ OwnRes w w' (fun u => Ints u (.slice A r.length c) r)

theorem ints_row {w : World} {base : Nat} {T : TypeId} {v : Value} {m : Nat} {l : List Int} (h : w.ownsRow base T 1 v m (l.map (.int .i64))) (hm : l.length = m) : Ints w v l := by
  subst hm
  exact Ints.of_own h
theorem named_any {A : Option Addr} {n c : Nat} {l : List Ins} {w : World} (h : Code_ w (.slice A n c) l) (op : Int) :
    Calls Try.prog 91 #[.slice A n c, .int .i64 op] w (IntsErr w (namesOr op l) (chkCode l)) := by
  have hl := h.len
  unfold maxLen at hl
  have hR := h.rf Ins.cells_len I0
  refine enter Try.func91 rfl Try.ntmps91 rfl (fun a hF => ?_)
  have hW := Wd.start w NoB
  refine c_sr ?_
  refine pv hF hW (y_assign hF rfl) (fun a hF => ?_)
  refine pv hF hW (y_assign hF rfl) (fun a hF => ?_)
  refine l_nil ?_
  refine t_n ?_
  refine c_s ?_
  refine c_sr ?_
  refine pv hF hW (y_move hF rfl) (fun a hF => ?_)
  refine pe (e_call hF rfl rfl en_46 (by rfl) rfl rfl (codeCheck_any _ _ _ (h.below hW.below)) ?_)
  rintro e w1 ⟨rfl, hb⟩
  replace hW := hW.kept hb
  clear hb
  refine ⟨_, rfl, fun a hF => ?_⟩
  refine pv hF hW (y_assign hF rfl) (fun a hF => ?_)
  refine l_nil ?_
  replace hF := (hF.k 0 rfl (hF.k 1 rfl (hF.k 4 rfl (hF.k 5 rfl (hF.k 6 rfl hF.nil)))))
  refine t_n ?_
  refine c_sr ?_
  refine pv hF hW (y_move hF rfl) (fun a hF => ?_)
  refine pv hF hW (y_neq hF rfl rfl) (fun a hF => ?_)
  refine Fr.splitD hF ?_ ?_
  · intro h1 hF
    refine l_nil ?_
    replace hF := (hF.k 0 rfl (hF.k 1 rfl (hF.k 4 rfl (hF.k 5 rfl (hF.k 6 rfl (hF.k 13 rfl hF.nil))))))
    refine t_n ?_
    refine c_t hF rfl ?_
    refine c_sr ?_
    refine pv hF hW (y_move hF rfl) (fun a hF => ?_)
    replace hF := hF.drop 4
    refine pv hF hW (y_assign hF rfl) (fun a hF => ?_)
    replace hF := hF.drop 5
    refine pv hF hW (y_assign hF rfl) (fun a hF => ?_)
    refine l_nil ?_
    replace hF := (hF.k 0 rfl (hF.k 1 rfl (hF.k 4 rfl (hF.k 5 rfl (hF.k 6 rfl (hF.k 13 rfl hF.nil))))))
    refine t_n ?_
    refine wp_ret ?_
    refine t_r ?_
    refine ret2 Try.results91 hF (rv_t hF rfl) (rv_t hF rfl) ?_
    exact ⟨none, 0, by rw [namesOr_no (by assumption)]; rfl, hW.below, fun _ _ => by rw [namesOr_no (by assumption)]; exact Ints.nil_⟩
  · intro h1 hF
    refine l_nil ?_
    replace hF := (hF.k 0 rfl (hF.k 1 rfl (hF.k 4 rfl (hF.k 5 rfl (hF.k 6 rfl (hF.k 13 rfl hF.nil))))))
    refine t_n ?_
    refine c_f hF rfl ?_
    refine wp_skip ?_
    refine t_n ?_
    have h20 := (chkCode_all (show chkCode l = 0 by omega)).1.2
    refine c_sr ?_
    refine pv hF hW (y_assign hF rfl) (fun a hF => ?_)
    refine l_nil ?_
    refine t_n ?_
    refine c_s ?_
    refine c_sr ?_
    refine pv hF hW (y_move hF rfl) (fun a hF => ?_)
    refine pv hF hW (y_len hF rfl Try.underlying40) (fun a hF => ?_)
    refine pv hF hW (y_move hF rfl) (fun a hF => ?_)
    refine l_nil ?_
    refine t_n ?_
    refine wp_block ?_
    replace hW := hW.nil_row 3 1
    refine c_loop (G := Nat × Nat × List Int × Option Addr × Nat) (fun (gq : Nat × Nat × List Int × Option Addr × Nat) => match gq with | ⟨k, m, out, A', c'⟩ => [(17, .int .i64 (k : Int)), (7, .slice A' m c')]) (fun (gq : Nat × Nat × List Int × Option Addr × Nat) => match gq with | ⟨k, m, out, A', c'⟩ => [.row 3 1 (.slice A' m c') m (out.map (.int .i64))]) (fun (gq : Nat × Nat × List Int × Option Addr × Nat) => match gq with | ⟨k, m, out, A', c'⟩ => k ≤ n ∧ out = (l.take k).foldl (pickOp op) [] ∧ out.length = m ∧ m ≤ k) (fun (gq : Nat × Nat × List Int × Option Addr × Nat) => match gq with | ⟨k, m, out, A', c'⟩ => n - k) (0, 0, [], none, 0) (Fr.cons hF (t := 0) rfl rfl (Fr.cons hF (t := 1) rfl rfl (Fr.cons hF (t := 4) rfl rfl (Fr.cons hF (t := 5) rfl rfl (Fr.cons hF (t := 6) rfl rfl (Fr.cons hF (t := 13) rfl rfl (Fr.cons hF (t := 15) rfl rfl (Fr.cons hF (t := 16) rfl rfl (Fr.nil hF))))))))) (Fr.cons hF (t := 17) rfl (by first | rfl | (simp; done)) (Fr.cons hF (t := 7) rfl (by first | rfl | (simp; done)) (Fr.nil hF))) (hW) ?_ ?_
    · exact ⟨by omega, by simp, by simp, by omega⟩
    clear hF hW
    try clear a
    intro gq a wc hC hF hW
    obtain ⟨k, m, out, A', c'⟩ := gq
    dsimp only at hC
    obtain ⟨hk, hout, hm, hol⟩ := hC
    refine c_sr ?_
    refine pv hF hW (y_lss hF rfl rfl) (fun a hF => ?_)
    refine Fr.splitD hF ?_ ?_
    · intro h2 hF
      refine l_nil ?_
      refine t_n ?_
      refine c_s ?_
      refine c_t hF rfl ?_
      refine wp_skip ?_
      refine t_n ?_
      refine c_s ?_
      refine wp_block ?_
      refine c_sr ?_
      refine pv hF hW (y_indexS hF rfl rfl (by first | omega | decide) Try.underlying40 sz_95 (fun w h => (hR).wd h)) (fun a hF => ?_)
      refine pv hF hW (y_loadRowW hF rfl (fun w h => (hR).wd h) (by first | omega | decide) Try.underlying95 rfl sz_95) (fun a hF => ?_)
      refine pe (e_alloc hF hW ze_95 rfl rfl rfl ?_)
      intro b3 a wc hF hW
      refine pe (e_storeAll rfl hF hW rfl rfl 0 rfl rfl rfl (by kernel_rfl) sz_95 ?_)
      intro wc hW
      refine l_nil ?_
      replace hF := (hF.k 0 rfl (hF.k 1 rfl (hF.k 4 rfl (hF.k 5 rfl (hF.k 6 rfl (hF.k 7 rfl (hF.k 9 rfl (hF.k 13 rfl (hF.k 15 rfl (hF.k 16 rfl (hF.k 17 rfl (hF.k 18 rfl hF.nil))))))))))))
      refine t_n ?_
      refine c_sr ?_
      refine pv hF hW (y_fieldOwn hF rfl fa_95_0) (fun a hF => ?_)
      refine pv hF hW (y_loadOwn hF rfl 0 rfl rfl Try.underlying3 rfl) (fun a hF => ?_)
      refine pv hF hW (y_move hF rfl) (fun a hF => ?_)
      refine pv hF hW (y_eql hF rfl rfl) (fun a hF => ?_)
      refine Fr.splitD hF ?_ ?_
      · intro h4 hF
        refine pv hF hW (y_move hF rfl) (fun a hF => ?_)
        refine pv hF hW (y_move hF rfl) (fun a hF => ?_) (ws hF rfl rfl)
        refine pv hF hW (y_fieldOwn hF rfl fa_95_3) (fun a hF => ?_) (ws hF rfl rfl)
        refine pv hF hW (y_loadOwn hF rfl 0 rfl rfl Try.underlying3 rfl) (fun a hF => ?_) (ws hF rfl rfl)
        refine pe (e_call hF rfl rfl en_103 (by rfl) rfl rfl (contains_any (ints_row (hW.row 1 rfl) hm) _) ?_) (ws hF rfl rfl)
        rintro e w1 ⟨rfl, hb⟩
        replace hW := hW.kept hb
        clear hb
        refine ⟨_, rfl, fun a hF => ?_⟩
        refine Fr.splitB hF ?_ ?_
        · intro h5 hF
          refine pv hF hW (y_not hF rfl) (fun a hF => ?_) (ws hF rfl rfl)
          replace hF := Fr.bool (t := false) (by first | decide | (simp; done) | rfl) hF
          refine pv hF hW (y_pick hF rfl rfl) (fun a hF => ?_)
          replace hF := Fr.bool (t := false) (by first | decide | (simp; done) | rfl) hF
          refine l_nil ?_
          replace hF := (hF.k 0 rfl (hF.k 1 rfl (hF.k 4 rfl (hF.k 5 rfl (hF.k 6 rfl (hF.k 7 rfl (hF.k 9 rfl (hF.k 13 rfl (hF.k 15 rfl (hF.k 16 rfl (hF.k 17 rfl (hF.k 18 rfl (hF.k 31 rfl hF.nil)))))))))))))
          refine t_n ?_
          refine c_f hF rfl ?_
          refine wp_skip ?_
          refine b_n ?_
          refine t_n ?_
          refine c_r ?_
          refine pv hF hW (y_add hF rfl rfl (IntWalk.i64_in _ (by omega))) (fun a hF => ?_)
          replace hF := hF.drop 17
          refine pv hF hW (y_move hF rfl) (fun a hF => ?_)
          refine l_nil ?_
          replace hF := (hF.k 0 rfl (hF.k 1 rfl (hF.k 4 rfl (hF.k 5 rfl (hF.k 6 rfl (hF.k 7 rfl (hF.k 9 rfl (hF.k 13 rfl (hF.k 15 rfl (hF.k 16 rfl (hF.k 17 rfl (hF.k 18 rfl (hF.k 31 rfl hF.nil)))))))))))))
          replace hW := hW.del 0 rfl
          refine t_n ?_
          refine ⟨(k + 1, m, out, A', c'), ?_, ?_, ?_, ?_⟩
          · exact ⟨by omega, by rw [foldl_take _ _ I0 (by omega), ← hout, pick_no fun _ => of_decide_eq_true (by assumption)], hm, by omega⟩
          · first | omega | (dsimp only; omega)
          · exact Fr.app (Fr.cons hF (t := 17) rfl (by first | rfl | (simp; done) | omega) (Fr.cons hF (t := 7) rfl (by first | rfl | (simp; done) | omega) (Fr.nil hF))) (Fr.cons hF (t := 0) rfl rfl (Fr.cons hF (t := 1) rfl rfl (Fr.cons hF (t := 4) rfl rfl (Fr.cons hF (t := 5) rfl rfl (Fr.cons hF (t := 6) rfl rfl (Fr.cons hF (t := 13) rfl rfl (Fr.cons hF (t := 15) rfl rfl (Fr.cons hF (t := 16) rfl rfl (Fr.nil hF)))))))))
          · exact hW
        · intro h5 hF
          refine pv hF hW (y_not hF rfl) (fun a hF => ?_) (ws hF rfl rfl)
          replace hF := Fr.bool (t := true) (by first | decide | (simp; done) | rfl) hF
          refine pv hF hW (y_pick hF rfl rfl) (fun a hF => ?_)
          replace hF := Fr.bool (t := true) (by first | decide | (simp; done) | rfl) hF
          refine l_nil ?_
          replace hF := (hF.k 0 rfl (hF.k 1 rfl (hF.k 4 rfl (hF.k 5 rfl (hF.k 6 rfl (hF.k 7 rfl (hF.k 9 rfl (hF.k 13 rfl (hF.k 15 rfl (hF.k 16 rfl (hF.k 17 rfl (hF.k 18 rfl (hF.k 31 rfl hF.nil)))))))))))))
          refine t_n ?_
          refine c_t hF rfl ?_
          refine c_r ?_
          refine pv hF hW (y_move hF rfl) (fun a hF => ?_)
          refine pv hF hW (y_fieldOwn hF rfl fa_95_3) (fun a hF => ?_)
          refine pv hF hW (y_loadOwn hF rfl 0 rfl rfl Try.underlying3 rfl) (fun a hF => ?_)
          refine pe (e_buildSlice hF hW rfl (fun w => bs_CodeNm_22_1_0 _ w) rfl rfl rfl ?_)
          intro b6 a wc hF hW
          refine pe (e_append hF hW 2 rfl rfl rfl Try.underlying22 inf_3 rfl (by decide) (rowAt_blk (hW.blk 0 rfl) 1 1 rfl) (by simp [Value.oneCell']) (show _ = m + 1 by omega) (show _ = (out ++ [(l.getD k I0).n]).map (.int .i64) by simp) (by first | omega | (simp; omega)) (by unfold maxLen; first | omega | (simp; omega)) rfl rfl ?_)
          intro A7 c8 a wc hF hW
          replace hF := hF.drop 7
          refine pv hF hW (y_assign hF rfl) (fun a hF => ?_)
          refine l_nil ?_
          replace hF := (hF.k 0 rfl (hF.k 1 rfl (hF.k 4 rfl (hF.k 5 rfl (hF.k 6 rfl (hF.k 7 rfl (hF.k 9 rfl (hF.k 13 rfl (hF.k 15 rfl (hF.k 16 rfl (hF.k 17 rfl (hF.k 18 rfl (hF.k 31 rfl hF.nil)))))))))))))
          refine b_n ?_
          refine t_n ?_
          refine c_r ?_
          refine pv hF hW (y_add hF rfl rfl (IntWalk.i64_in _ (by omega))) (fun a hF => ?_)
          replace hF := hF.drop 17
          refine pv hF hW (y_move hF rfl) (fun a hF => ?_)
          refine l_nil ?_
          replace hF := (hF.k 0 rfl (hF.k 1 rfl (hF.k 4 rfl (hF.k 5 rfl (hF.k 6 rfl (hF.k 7 rfl (hF.k 9 rfl (hF.k 13 rfl (hF.k 15 rfl (hF.k 16 rfl (hF.k 17 rfl (hF.k 18 rfl (hF.k 31 rfl hF.nil)))))))))))))
          replace hW := hW.del 0 rfl
          replace hW := hW.del 0 rfl
          refine t_n ?_
          refine ⟨(k + 1, m + 1, out ++ [(l.getD k I0).n], A7, c8), ?_, ?_, ?_, ?_⟩
          · exact ⟨by omega, by rw [foldl_take _ _ I0 (by omega), ← hout, pick_yes (by assumption) (of_decide_eq_false (by assumption))], by simp [hm], by omega⟩
          · first | omega | (dsimp only; omega)
          · exact Fr.app (Fr.cons hF (t := 17) rfl (by first | rfl | (simp; done) | omega) (Fr.cons hF (t := 7) rfl (by first | rfl | (simp; done) | omega) (Fr.nil hF))) (Fr.cons hF (t := 0) rfl rfl (Fr.cons hF (t := 1) rfl rfl (Fr.cons hF (t := 4) rfl rfl (Fr.cons hF (t := 5) rfl rfl (Fr.cons hF (t := 6) rfl rfl (Fr.cons hF (t := 13) rfl rfl (Fr.cons hF (t := 15) rfl rfl (Fr.cons hF (t := 16) rfl rfl (Fr.nil hF)))))))))
          · exact hW
      · intro h4 hF
        refine pv hF hW (y_move hF rfl) (fun a hF => ?_)
        refine p_skip hF (wn hF rfl rfl rfl) rfl rfl (fun a hF => ?_)
        refine p_skip hF (wn hF rfl rfl rfl) rfl rfl (fun a hF => ?_)
        refine p_skip hF (wn hF rfl rfl rfl) rfl rfl (fun a hF => ?_)
        refine p_skip hF (wn hF rfl rfl rfl) rfl rfl (fun a hF => ?_)
        refine p_skip hF (wn hF rfl rfl rfl) rfl rfl (fun a hF => ?_)
        refine pv hF hW (y_pick hF rfl rfl) (fun a hF => ?_)
        refine l_nil ?_
        replace hF := (hF.k 0 rfl (hF.k 1 rfl (hF.k 4 rfl (hF.k 5 rfl (hF.k 6 rfl (hF.k 7 rfl (hF.k 9 rfl (hF.k 13 rfl (hF.k 15 rfl (hF.k 16 rfl (hF.k 17 rfl (hF.k 18 rfl (hF.k 31 rfl hF.nil)))))))))))))
        refine t_n ?_
        refine c_f hF rfl ?_
        refine wp_skip ?_
        refine b_n ?_
        refine t_n ?_
        refine c_r ?_
        refine pv hF hW (y_add hF rfl rfl (IntWalk.i64_in _ (by omega))) (fun a hF => ?_)
        replace hF := hF.drop 17
        refine pv hF hW (y_move hF rfl) (fun a hF => ?_)
        refine l_nil ?_
        replace hF := (hF.k 0 rfl (hF.k 1 rfl (hF.k 4 rfl (hF.k 5 rfl (hF.k 6 rfl (hF.k 7 rfl (hF.k 9 rfl (hF.k 13 rfl (hF.k 15 rfl (hF.k 16 rfl (hF.k 17 rfl (hF.k 18 rfl (hF.k 31 rfl hF.nil)))))))))))))
        replace hW := hW.del 0 rfl
        refine t_n ?_
        refine ⟨(k + 1, m, out, A', c'), ?_, ?_, ?_, ?_⟩
        · exact ⟨by omega, by rw [foldl_take _ _ I0 (by omega), ← hout, pick_no fun h => absurd h (by assumption)], hm, by omega⟩
        · first | omega | (dsimp only; omega)
        · exact Fr.app (Fr.cons hF (t := 17) rfl (by first | rfl | (simp; done) | omega) (Fr.cons hF (t := 7) rfl (by first | rfl | (simp; done) | omega) (Fr.nil hF))) (Fr.cons hF (t := 0) rfl rfl (Fr.cons hF (t := 1) rfl rfl (Fr.cons hF (t := 4) rfl rfl (Fr.cons hF (t := 5) rfl rfl (Fr.cons hF (t := 6) rfl rfl (Fr.cons hF (t := 13) rfl rfl (Fr.cons hF (t := 15) rfl rfl (Fr.cons hF (t := 16) rfl rfl (Fr.nil hF)))))))))
        · exact hW
    · intro h2 hF
      refine l_nil ?_
      refine t_n ?_
      refine c_s ?_
      refine c_f hF rfl ?_
      refine wp_exit ?_
      refine t_x ?_
      refine t_x ?_
      refine b_h ?_
      refine t_n ?_
      refine c_sr ?_
      refine pv hF hW (y_move hF rfl) (fun a hF => ?_)
      refine pe (e_call hF rfl rfl en_104 (by rfl) rfl rfl (sort_own hW 0 (by omega) rfl) ?_)
      rintro e w1 ⟨rfl, hW⟩
      refine ⟨_, rfl, fun a hF => ?_⟩
      refine l_nil ?_
      replace hF := (hF.k 0 rfl (hF.k 1 rfl (hF.k 4 rfl (hF.k 5 rfl (hF.k 6 rfl (hF.k 7 rfl (hF.k 13 rfl (hF.k 15 rfl (hF.k 16 rfl (hF.k 17 rfl (hF.k 18 rfl hF.nil)))))))))))
      refine t_n ?_
      refine c_sr ?_
      refine pv hF hW (y_move hF rfl) (fun a hF => ?_)
      replace hF := hF.drop 4
      refine pv hF hW (y_assign hF rfl) (fun a hF => ?_)
      replace hF := hF.drop 5
      refine pv hF hW (y_assign hF rfl) (fun a hF => ?_)
      refine l_nil ?_
      replace hF := (hF.k 0 rfl (hF.k 1 rfl (hF.k 4 rfl (hF.k 5 rfl (hF.k 6 rfl (hF.k 7 rfl (hF.k 13 rfl (hF.k 15 rfl (hF.k 16 rfl (hF.k 17 rfl (hF.k 18 rfl hF.nil)))))))))))
      refine t_n ?_
      refine wp_ret ?_
      refine ret2 Try.results91 hF (rv_t hF rfl) (rv_t hF rfl) ?_
      obtain rfl : k = n := (by omega)
      subst hm
      have e : namesOr op l = sorted out := (by rw [namesOr_ok (by omega), hout, List.take_of_length_le (by omega)]; rfl)
      unfold IntsErr
      rw [e, sorted_len]
      exact ⟨A', c', by rw [show chkCode l = 0 by omega], hW.below, (OwnRes.of_own (hW.row_own 0 rfl)).mono fun _ h => by have := Ints.of_own h; exact this⟩
theorem puts_any {A : Option Addr} {n c : Nat} {l : List Ins} {w : World} (h : Code_ w (.slice A n c) l) :
    Calls Try.prog 72 #[.slice A n c] w (IntsErr w (namesOr 12 l) (chkCode l)) := by
  refine enter Try.func72 rfl Try.ntmps72 rfl (fun a hF => ?_)
  have hW := Wd.start w NoB
  refine c_sr ?_
  refine pv hF hW (y_assign hF rfl) (fun a hF => ?_)
  refine pv hF hW (y_assign hF rfl) (fun a hF => ?_)
  refine l_nil ?_
  refine t_n ?_
  refine c_sr ?_
  refine pv hF hW (y_move hF rfl) (fun a hF => ?_)
  refine pe (e_call hF rfl rfl en_91 (by rfl) rfl rfl (named_any (h.below hW.below) 12) ?_)
  rintro e w1 ⟨A', c', rfl, hb, hr⟩
  replace hW := hW.gotR hb hr
  refine ⟨_, rfl, fun a hF => ?_⟩
  refine pv hF hW (y_extract hF rfl rfl) (fun a hF => ?_)
  refine pv hF hW (y_extract hF rfl rfl) (fun a hF => ?_)
  replace hF := hF.drop 2
  refine pv hF hW (y_assign hF rfl) (fun a hF => ?_)
  replace hF := hF.drop 3
  refine pv hF hW (y_assign hF rfl) (fun a hF => ?_)
  refine l_nil ?_
  replace hF := (hF.k 0 rfl (hF.k 2 rfl (hF.k 3 rfl hF.nil)))
  refine t_n ?_
  refine wp_ret ?_
  refine ret2 Try.results72 hF (rv_t hF rfl) (rv_t hF rfl) ?_
  exact ⟨A', c', rfl, hW.below, hW.res_res 0 rfl⟩
theorem gets_any {A : Option Addr} {n c : Nat} {l : List Ins} {w : World} (h : Code_ w (.slice A n c) l) :
    Calls Try.prog 73 #[.slice A n c] w (IntsErr w (namesOr 13 l) (chkCode l)) := by
  refine enter Try.func73 rfl Try.ntmps73 rfl (fun a hF => ?_)
  have hW := Wd.start w NoB
  refine c_sr ?_
  refine pv hF hW (y_assign hF rfl) (fun a hF => ?_)
  refine pv hF hW (y_assign hF rfl) (fun a hF => ?_)
  refine l_nil ?_
  refine t_n ?_
  refine c_sr ?_
  refine pv hF hW (y_move hF rfl) (fun a hF => ?_)
  refine pe (e_call hF rfl rfl en_91 (by rfl) rfl rfl (named_any (h.below hW.below) 13) ?_)
  rintro e w1 ⟨A', c', rfl, hb, hr⟩
  replace hW := hW.gotR hb hr
  refine ⟨_, rfl, fun a hF => ?_⟩
  refine pv hF hW (y_extract hF rfl rfl) (fun a hF => ?_)
  refine pv hF hW (y_extract hF rfl rfl) (fun a hF => ?_)
  replace hF := hF.drop 2
  refine pv hF hW (y_assign hF rfl) (fun a hF => ?_)
  replace hF := hF.drop 3
  refine pv hF hW (y_assign hF rfl) (fun a hF => ?_)
  refine l_nil ?_
  replace hF := (hF.k 0 rfl (hF.k 2 rfl (hF.k 3 rfl hF.nil)))
  refine t_n ?_
  refine wp_ret ?_
  refine ret2 Try.results73 hF (rv_t hF rfl) (rv_t hF rfl) ?_
  exact ⟨A', c', rfl, hW.below, hW.res_res 0 rfl⟩
end Go.Proofs.Ytebklpbbglojmaa
