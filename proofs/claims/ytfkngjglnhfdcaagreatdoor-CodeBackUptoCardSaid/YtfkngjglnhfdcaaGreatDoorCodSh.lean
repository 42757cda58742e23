/- A builder of the call's own; code.Show gives a program's text; so does the reference. -/
import Derived.Test.YtfkngjglnhfdcaaGreatDoorIsaFr
import Derived.Test.YtfkngjglnhfdcaaGreatDoorSysB
import Derived.Shelf.Strings.BuilderK
import Derived.Shelf.Strings.Prefix
import Derived.Shelf.Small.Strs
namespace Go.Proofs.YtfkngjglnhfdcaaGreatDoor
set_option linter.unusedVariables false
set_option linter.unusedSimpArgs false
open Go.ChangeShapes Go.WideShapes Go.ChangeAt Go.RowKit

set_option maxRecDepth 100000

/-- a program's text -/
def codeTxt (l : List Ins) : List UInt8 := l.flatMap fun i => txtI i ++ [10]
theorem codeTxt_nil : codeTxt [] = [] := rfl
theorem codeTxt_succ {l : List Ins} {k : Nat} (d : Ins) (hk : k < l.length) : codeTxt (l.take (k + 1)) = codeTxt (l.take k) ++ (txtI (l.getD k d) ++ [10]) := by
  unfold codeTxt
  rw [List.take_succ_eq_append_getElem hk, List.flatMap_append, List.getD, List.getElem?_eq_getElem hk]
  simp
theorem codeTxt_len {l : List Ins} (h : ∀ i ∈ l, i.In) : (codeTxt l).length ≤ 101 * l.length := by
  induction l with
  | nil => simp [codeTxt]
  | cons x r ih =>
    have h1 := txt_len (h x List.mem_cons_self)
    have h2 := ih fun i hi => h i (List.mem_cons_of_mem _ hi)
    unfold codeTxt at h2 ⊢
    rw [List.flatMap_cons, List.length_append, List.length_append, List.length_cons]
    simp only [List.length_cons, List.length_nil]
    omega
theorem mem_getD' {l : List Ins} {k : Nat} (d : Ins) (hk : k < l.length) : l.getD k d ∈ l := by
  rw [List.getD, List.getElem?_eq_getElem hk]
  exact List.getElem_mem hk
/-- a builder of the call's own: all that was laid since the call began is its -/
def Asn.bld (B b : Nat) (bs : List UInt8) : Asn where
  holds w F := Lib.IsBuilderF 51 5 B b (Lib.byteCells bs) w ∧ ∃ n, b < n ∧ (∀ p v, w.heap[b]? = some (.cells #[p, v] 51 (0, 0)) → ∀ g, v.ownBlock = some g → g < n) ∧ ∀ k, B ≤ k → k < n → F k
  loc := fun w w' F h hk => by
    obtain ⟨h1, n, hbn, hg, hF⟩ := h
    have key : ∀ p, Lib.BuilderAtF 51 5 B b p (Lib.byteCells bs) w → Lib.BuilderAtF 51 5 B b p (Lib.byteCells bs) w' := by
      rintro p ⟨hB, v, hb, hown, hne⟩
      refine ⟨hB, v, (hk b (hF b hB hbn)).trans hb, ⟨hown.1, ?_⟩, hne⟩
      rcases hown.2 with h2 | ⟨g, cap, cur, fz, rfl, hBg, hgh, r⟩
      · exact .inl h2
      · exact .inr ⟨g, cap, cur, fz, rfl, hBg, (hk g (hF g hBg (hg p _ hb g rfl))).trans hgh, r⟩
    refine ⟨h1.imp (key _) (key _), n, hbn, fun p v hb g hv => ?_, hF⟩
    have hB : B ≤ b := h1.elim (fun h => h.1) fun h => h.1
    rw [hk b (hF b hB hbn)] at hb
    exact hg p v hb g hv
section
variable {w wc w1 : World} {es : List Asn} {b : Nat} {bs : List UInt8}
theorem Wd.bldN (hb : Below w.heap.size w w1) (h : Lib.IsBuilderF 51 5 w.heap.size b (Lib.byteCells bs) w1) : Wd w NoB [.bld w.heap.size b bs] w1 := by
  refine ⟨((Wd.start w NoB).kept hb).chg, fun k => w.heap.size ≤ k ∧ k < w1.heap.size, ⟨h, w1.heap.size, ?_, ?_, fun k h1 h2 => ⟨h1, h2⟩⟩, fun k hk => ⟨fun h2 => by have := h2.1; omega, hk.2⟩, trivial⟩
  · exact h.elim (fun h => h.lt) fun h => h.lt
  · intro p v hv g hg
    have key : ∀ q, Lib.BuilderAtF 51 5 w.heap.size b q (Lib.byteCells bs) w1 → g < w1.heap.size := by
      rintro q ⟨-, v2, hb2, hown, -⟩
      rw [hv] at hb2
      simp only [Option.some.injEq, Obj.cells.injEq, and_true] at hb2
      have e : v = v2 := by
        have := hb2
        simp at this
        exact this.2
      subst e
      exact (hown.lt g hg).2
    exact h.elim (key _) (key _)
theorem Wd.bldR (hW : Wd w NoB es wc) (i : Nat) (hi : es[i]? = some (.bld w.heap.size b bs)) : Lib.IsBuilderF 51 5 w.heap.size b (Lib.byteCells bs) wc := by
  obtain ⟨F, hA, -⟩ := Own.get es _ i _ hW.own hi
  exact hA.1
theorem Wd.bld0 (hW : Wd w NoB es wc) (i : Nat) (hi : es[i]? = some (.blk b 51 [.pointer none, .slice none 0 0])) : Wd w NoB [.bld w.heap.size b []] wc := by
  have hB := hW.blk i hi
  have hge := (hW.blk_ge i hi).1
  have hge2 : w.heap.size ≤ b := Nat.le_of_not_lt fun h => hge ⟨h, id⟩
  exact Wd.bldN hW.below (.inl ⟨hge2, _, hB, World.ownsRowF_nil _ _ _ _, by simp [Value.ownBlock]⟩)
theorem write_own (hW : Wd w NoB es wc) (i : Nat) (hi : es[i]? = some (.bld w.heap.size b bs)) (s : List UInt8) (hl : bs.length + s.length ≤ 140737488355328) :
    Calls Tryz.prog 24 #[.pointer (some ⟨b, 0, none⟩), .string (bstr s)] wc fun e w1 => e = .returned (.tuple #[.int .i64 (s.length : Int), .nilIface]) ∧ Wd w NoB [.bld w.heap.size b (bs ++ s)] w1 := by
  refine (Any.Builder_WriteString_k (P := Tryz.prog) (ρ := lay_ren) lay_166 lay_Builder_Extra w.heap.size b (Lib.byteCells bs) (bstr s) wc (hW.bldR i hi) (by rw [Lib.byteCells_length, bstr_size]; exact hl) hW.size).mono ?_
  rintro e w1 ⟨rfl, hA, hb, -⟩
  refine ⟨rfl, Wd.bldN (hW.below.trans hb) (.inr ?_)⟩
  rw [Lib.byteCells_append]
  exact hA
theorem string_own (hW : Wd w NoB es wc) (i : Nat) (hi : es[i]? = some (.bld w.heap.size b bs)) :
    Calls Tryz.prog 25 #[.pointer (some ⟨b, 0, none⟩)] wc fun e w1 => e = .returned (.string (bstr bs)) ∧ Wd w NoB [] w1 := by
  refine (Any.Builder_String_any_k (P := Tryz.prog) (ρ := lay_ren) lay_169 lay_Builder_Extra w.heap.size b bs wc (hW.bldR i hi) hW.size).mono ?_
  rintro e w1 ⟨rfl, -, hb, -⟩
  exact ⟨rfl, (Wd.start w NoB).kept (hW.below.trans hb)⟩
end
set_option maxHeartbeats 4000000 in
theorem codeShow_any {A : Option Addr} {n c : Nat} {l : List Ins} {w : World} (h : Code_ w (.slice A n c) l) (hi : ∀ i ∈ l, i.In) (hL : Lay w) :
    Calls Tryz.prog 13 #[.slice A n c] w fun e w' => e = .returned (.tuple #[.string (bstr (if chkCode l = 0 then codeTxt l else [])), .int .i64 (chkCode l)]) ∧ Below w.heap.size w w' := by
  have hl := h.len
  unfold maxLen at hl
  have hR := h.rf Ins.cells_len I0
  refine enter Tryz.func13 rfl Tryz.ntmps13 rfl fun a hF => ?_
  have hW := Wd.start w NoB
  refine c_sr <| pv hF hW (y_assign hF rfl) fun a hF => pv hF hW (y_assign hF rfl) fun a hF => l_nil <| t_n <| c_s <| c_sr <| pv hF hW (y_move hF rfl) fun a hF => ?_; refine pe (e_call hF rfl rfl en_11 (by rfl) rfl rfl (codeCheck_any _ _ _ (h.below hW.below)) ?_); rintro e w1 ⟨rfl, hb⟩; replace hW := hW.kept hb; clear hb; refine ⟨_, rfl, fun a hF => ?_⟩; refine pv hF hW (y_assign hF rfl) fun a hF => l_nil ?_; replace hF := hF.ks [0, 2, 3, 4] rfl; refine t_n <| c_sr <| pv hF hW (y_move hF rfl) fun a hF => pv hF hW (y_neq hF rfl rfl) fun a hF => ?_; refine Fr.splitD hF ?_ ?_
  · intro h1 hF; refine l_nil ?_; replace hF := hF.ks [0, 2, 3, 4, 13] rfl; refine t_n <| c_t hF rfl <| c_sr <| pv hF hW (y_move hF rfl) fun a hF => ?_; replace hF := hF.drop 2; refine pv hF hW (y_assign hF rfl) fun a hF => ?_; replace hF := hF.drop 3; refine pv hF hW (y_assign hF rfl) fun a hF => l_nil ?_; replace hF := hF.ks [0, 2, 3, 4, 13] rfl; refine t_n <| wp_ret <| t_r <| ret2 Tryz.results13 hF (rv_t hF rfl) (rv_t hF rfl) ?_
    exact ⟨by rw [if_neg (show ¬ chkCode l = 0 by omega)]; rfl, hW.below⟩
  · intro h1 hF; refine l_nil ?_; replace hF := hF.ks [0, 2, 3, 4, 13] rfl; refine t_n <| c_f hF rfl <| wp_skip <| t_n ?_
    obtain ⟨h20, hall⟩ := chkCode_all (show chkCode l = 0 by omega)
    refine c_sr ?_; refine pe (e_alloc hF hW ze_51 rfl rfl rfl ?_); intro b2 a wc hF hW; refine l_nil <| t_n <| c_s <| c_sr <| pv hF hW (y_move hF rfl) fun a hF => pv hF hW (y_len hF rfl Tryz.underlying22) fun a hF => pv hF hW (y_move hF rfl) fun a hF => l_nil <| t_n <| wp_block ?_; replace hW := hW.bld0 0 rfl; refine c_loop (G := Nat) (fun k : Nat => [(17, .int .i64 (k : Int))]) (fun k : Nat => [.bld w.heap.size b2 (codeTxt (l.take k))]) (fun k : Nat => k ≤ n) (fun k : Nat => n - k) 0 (hF.ks [0, 2, 3, 4, 5, 13, 15, 16] rfl) (Fr.cons hF (t := 17) rfl (by first | rfl | (simp; done)) (Fr.nil hF)) (hW) ?_ ?_
    · simp
    clear hF hW
    try clear a
    intro k a wc hC hF hW; refine c_sr <| pv hF hW (y_lss hF rfl rfl) fun a hF => ?_; refine Fr.splitD hF ?_ ?_
    · intro h3 hF; refine l_nil <| t_n <| c_s <| c_t hF rfl <| wp_skip <| t_n <| c_s <| wp_block <| c_sr <| pv hF hW (y_indexS hF rfl rfl (by first | omega | decide) Tryz.underlying22 sz_46 (fun w h => (hR).wd h)) fun a hF => pv hF hW (y_loadRowW hF rfl (fun w h => (hR).wd h) (by first | omega | decide) Tryz.underlying46 rfl sz_46) fun a hF => ?_; refine pe (e_alloc hF hW ze_46 rfl rfl rfl ?_); intro b4 a wc hF hW; refine pe (e_storeAll rfl hF hW rfl rfl 0 rfl rfl rfl (by kernel_rfl) sz_46 ?_); intro wc hW; refine l_nil ?_; replace hF := hF.ks [0, 2, 3, 4, 5, 7, 13, 15, 16, 17, 18] rfl; refine t_n ?_
      have hk := hi _ (mem_getD' I0 (show k < l.length by omega))
      have hck := hall _ (mem_getD' I0 (show k < l.length by omega))
      have hct := codeTxt_len (l := l.take k) fun i h => hi i (List.mem_of_mem_take h)
      have hctl := List.length_take (l := l) (i := k)
      have htl := txt_len hk
      refine c_sr <| pv hF hW (y_loadAll hF rfl 0 rfl Tryz.underlying46 rfl sz_46) fun a hF => ?_; refine pe (e_call hF rfl rfl en_23 (by rfl) rfl rfl (show_ok2 hck hk (hL.wd hW)) ?_); rintro e w1 ⟨rfl, hb⟩; replace hW := hW.kept hb; clear hb; refine ⟨_, rfl, fun a hF => ?_⟩; refine pv hF hW (y_move hF rfl) fun a hF => pv hF hW (y_extract hF rfl rfl) fun a hF => pv hF hW (y_extract hF rfl rfl) fun a hF => pv hF hW (y_assign hF rfl) fun a hF => pv hF hW (y_assign hF rfl) fun a hF => l_nil ?_; replace hF := hF.ks [0, 2, 3, 4, 5, 7, 8, 13, 15, 16, 17, 18] rfl; refine t_n <| c_r <| pv hF hW (y_move hF rfl) fun a hF => pv hF hW (y_catB hF rfl rfl (by unfold maxLen; simp only [List.length_cons, List.length_nil]; omega)) fun a hF => ?_; refine pe (e_call hF rfl rfl en_24 (by rfl) rfl rfl (write_own hW 1 rfl _ (by simp only [List.length_append, List.length_cons, List.length_nil]; omega)) ?_); rintro e w1 ⟨rfl, hN⟩; replace hW := hN; refine ⟨_, rfl, fun a hF => ?_⟩; refine l_nil ?_; replace hF := hF.ks [0, 2, 3, 4, 5, 7, 8, 13, 15, 16, 17, 18] rfl; refine b_n <| t_n <| c_r <| pv hF hW (y_add hF rfl rfl (IntWalk.i64_in _ (by omega))) fun a hF => ?_; replace hF := hF.drop 17; refine pv hF hW (y_move hF rfl) fun a hF => l_nil ?_; replace hF := hF.ks [0, 2, 3, 4, 5, 7, 8, 13, 15, 16, 17, 18] rfl; refine t_n ?_; refine ⟨(k + 1), ?_, ?_, ?_, ?_⟩
      · omega
      · first | omega | (dsimp only; omega)
      · exact Fr.app (Fr.cons hF (t := 17) rfl (by first | rfl | (simp; done) | omega) (Fr.nil hF)) (hF.ks [0, 2, 3, 4, 5, 13, 15, 16] rfl)
      · exact by rw [codeTxt_succ I0 (show k < l.length by omega)]; exact hW
    · intro h3 hF; refine l_nil <| t_n <| c_s <| c_f hF rfl <| wp_exit <| t_x <| t_x <| b_h <| t_n <| c_sr ?_; refine pe (e_call hF rfl rfl en_25 (by rfl) rfl rfl (string_own hW 0 rfl) ?_); rintro e w1 ⟨rfl, hN⟩; replace hW := hN; refine ⟨_, rfl, fun a hF => ?_⟩; replace hF := hF.drop 2; refine pv hF hW (y_assign hF rfl) fun a hF => ?_; replace hF := hF.drop 3; refine pv hF hW (y_assign hF rfl) fun a hF => l_nil ?_; replace hF := hF.ks [0, 2, 3, 4, 5, 13, 15, 16, 17, 18] rfl; refine t_n <| wp_ret <| ret2 Tryz.results13 hF (rv_t hF rfl) (rv_t hF rfl) ?_
      obtain rfl : k = n := (by omega)
      exact ⟨by rw [if_pos (show chkCode l = 0 by omega), show chkCode l = 0 by omega, List.take_of_length_le (by omega)], hW.below⟩
/- the reference -/
set_option maxHeartbeats 4000000 in
theorem codeText_any {A : Option Addr} {n c : Nat} {l : List Ins} {w : World} (h : Code_ w (.slice A n c) l) (hi : ∀ i ∈ l, i.In) (hc : chkCode l = 0) :
    Calls Tryz.prog 14 #[.slice A n c] w fun e w' => e = .returned (.string (bstr (codeTxt l))) ∧ Below w.heap.size w w' := by
  have hl := h.len
  unfold maxLen at hl
  have hR := h.rf Ins.cells_len I0
  obtain ⟨h20, hall⟩ := chkCode_all hc
  refine enter Tryz.func14 rfl Tryz.ntmps14 rfl fun a hF => ?_
  have hW := Wd.start w NoB
  refine c_sr <| pv hF hW (y_assign hF rfl) fun a hF => l_nil <| t_n <| c_sr <| pv hF hW (y_assign hF rfl) fun a hF => l_nil <| t_n <| c_s <| c_sr <| pv hF hW (y_assign hF rfl) fun a hF => l_nil <| t_n <| wp_block ?_; refine c_loop (G := Nat) (fun k : Nat => [(4, .int .i64 (k : Int)), (3, .string (bstr (codeTxt (l.take k))))]) (fun k : Nat => []) (fun k : Nat => k ≤ n) (fun k : Nat => n - k) 0 (hF.ks [0, 2] rfl) (Fr.cons hF (t := 4) rfl (by first | rfl | (simp; done)) (Fr.cons hF (t := 3) rfl (by first | rfl | (simp; done)) (Fr.nil hF))) (hW) ?_ ?_
  · simp
  clear hF hW
  try clear a
  intro k a wc hC hF hW; refine c_s <| c_sr <| pv hF hW (y_move hF rfl) fun a hF => pv hF hW (y_move hF rfl) fun a hF => pv hF hW (y_len hF rfl Tryz.underlying22) fun a hF => pv hF hW (y_lss hF rfl rfl) fun a hF => ?_; refine Fr.splitD hF ?_ ?_
  · intro h1 hF; refine l_nil ?_; replace hF := hF.ks [0, 2, 3, 4, 8] rfl; refine t_n <| c_t hF rfl <| wp_skip <| t_n <| c_s <| wp_block ?_
    have hk := hi _ (mem_getD' I0 (show k < l.length by omega))
    have hck := hall _ (mem_getD' I0 (show k < l.length by omega))
    have hct := codeTxt_len (l := l.take k) fun i h => hi i (List.mem_of_mem_take h)
    have hctl := List.length_take (l := l) (i := k)
    have htl := txt_len hk
    refine c_r <| pv hF hW (y_move hF rfl) fun a hF => pv hF hW (y_move hF rfl) fun a hF => pv hF hW (y_move hF rfl) fun a hF => pv hF hW (y_indexS hF rfl rfl (by first | omega | decide) Tryz.underlying22 sz_46 (fun w h => (hR).wd h)) fun a hF => pv hF hW (y_loadRowW hF rfl (fun w h => (hR).wd h) (by first | omega | decide) Tryz.underlying46 rfl sz_46) fun a hF => ?_; refine pe (e_call hF rfl rfl en_26 (by rfl) rfl rfl (instrText_any _ hck hk _) ?_); rintro e w1 ⟨rfl, hb⟩; replace hW := hW.kept hb; clear hb; refine ⟨_, rfl, fun a hF => ?_⟩; refine pv hF hW (y_catB hF rfl rfl (by unfold maxLen; omega)) fun a hF => pv hF hW (y_catB hF rfl rfl (by unfold maxLen; simp only [List.length_append, List.length_cons, List.length_nil]; omega)) fun a hF => ?_; replace hF := hF.drop 3; refine pv hF hW (y_assign hF rfl) fun a hF => l_nil ?_; replace hF := hF.ks [0, 2, 3, 4, 8] rfl; refine b_n <| t_n <| c_r <| pv hF hW (y_move hF rfl) fun a hF => pv hF hW (y_add hF rfl rfl (IntWalk.i64_in _ (by omega))) fun a hF => ?_; replace hF := hF.drop 4; refine pv hF hW (y_assign hF rfl) fun a hF => l_nil ?_; replace hF := hF.ks [0, 2, 3, 4, 8] rfl; refine t_n ?_; refine ⟨(k + 1), ?_, ?_, ?_, ?_⟩
    · omega
    · first | omega | (dsimp only; omega)
    · exact Fr.app (Fr.cons hF (t := 4) rfl (by first | rfl | (exact congrArg (fun z => Value.string (bstr z)) ((List.append_assoc _ _ _).trans (codeTxt_succ I0 (show k < l.length by omega)).symm)) | (simp; done) | omega) (Fr.cons hF (t := 3) rfl (by first | rfl | (exact congrArg (fun z => Value.string (bstr z)) ((List.append_assoc _ _ _).trans (codeTxt_succ I0 (show k < l.length by omega)).symm)) | (simp; done) | omega) (Fr.nil hF))) (hF.ks [0, 2] rfl)
    · exact hW
  · intro h1 hF; refine l_nil ?_; replace hF := hF.ks [0, 2, 3, 4, 8] rfl; refine t_n <| c_f hF rfl <| wp_exit <| t_x <| t_x <| b_h <| t_n <| c_sr <| pv hF hW (y_move hF rfl) fun a hF => ?_; replace hF := hF.drop 2; refine pv hF hW (y_assign hF rfl) fun a hF => l_nil ?_; replace hF := hF.ks [0, 2, 3, 4, 8] rfl; refine t_n <| wp_ret <| ret1 Tryz.results14 hF (rv_t hF rfl) ?_
    obtain rfl : k = n := (by omega)
    exact ⟨by rw [List.take_of_length_le (by omega)], hW.below⟩
set_option maxHeartbeats 4000000 in
theorem sameCode_any {A B : Option Addr} {n m c d : Nat} {l k : List Ins} {w : World} (h : Code_ w (.slice A n c) l) (h2 : Code_ w (.slice B m d) k) (e : l = k) :
    Calls Tryz.prog 17 #[.slice A n c, .slice B m d] w fun e w' => e = .returned (.bool true) ∧ Below w.heap.size w w' := by
  subst e
  have hl := h.len
  have hl2 := h2.len
  unfold maxLen at hl hl2
  have hR := h.rf Ins.cells_len I0
  have hT := h2.rf Ins.cells_len I0
  refine enter Tryz.func17 rfl Tryz.ntmps17 rfl fun a hF => ?_
  have hW := Wd.start w NoB
  refine c_sr <| pv hF hW (y_assign hF rfl) fun a hF => l_nil <| t_n <| c_s <| c_sr <| pv hF hW (y_move hF rfl) fun a hF => pv hF hW (y_len hF rfl Tryz.underlying22) fun a hF => pv hF hW (y_move hF rfl) fun a hF => pv hF hW (y_len hF rfl Tryz.underlying22) fun a hF => pv hF hW (y_neq hF rfl rfl) fun a hF => ?_; refine Fr.splitD hF ?_ ?_
  · intro h1 hF; exfalso
    omega
  · intro h1 hF; refine l_nil ?_; replace hF := hF.ks [0, 1, 4, 10] rfl; refine t_n <| c_f hF rfl <| wp_skip <| t_n <| c_s <| c_sr <| pv hF hW (y_assign hF rfl) fun a hF => l_nil <| t_n <| wp_block ?_; refine c_loop (G := Nat) (fun k : Nat => [(5, .int .i64 (k : Int))]) (fun k : Nat => []) (fun k : Nat => k ≤ n) (fun k : Nat => n - k) 0 (hF.ks [0, 1, 10] rfl) (Fr.cons hF (t := 5) rfl (by first | rfl | (simp; done)) (Fr.nil hF)) (hW) ?_ ?_
    · simp
    clear hF hW
    try clear a
    intro k a wc hC hF hW; refine c_s <| c_sr <| pv hF hW (y_move hF rfl) fun a hF => pv hF hW (y_move hF rfl) fun a hF => pv hF hW (y_len hF rfl Tryz.underlying22) fun a hF => pv hF hW (y_lss hF rfl rfl) fun a hF => ?_; refine Fr.splitD hF ?_ ?_
    · intro h2 hF; refine l_nil ?_; replace hF := hF.ks [0, 1, 5, 10, 14] rfl; refine t_n <| c_t hF rfl <| wp_skip <| t_n <| c_s <| wp_block <| c_sd mixed_ok hW (hW) ?_
      clear hW; intro wc hW hS
      refine dv 0 rfl hF hS (y_move hF rfl) fun a hF => dv 1 rfl hF hS (y_move hF rfl) fun a hF => dv 2 rfl hF hS (y_indexS hF rfl rfl (by omega) Tryz.underlying22 sz_46 (fun w h => (hR).wd h)) fun a hF => dv 3 rfl hF hS (y_loadRowW hF rfl (fun w h => (hR).wd h) (by omega) Tryz.underlying46 rfl sz_46) fun a hF => dv 4 rfl hF hS (y_move hF rfl) fun a hF => dv 5 rfl hF hS (y_move hF rfl) fun a hF => dv 6 rfl hF hS (y_indexS hF rfl rfl (by omega) Tryz.underlying22 sz_46 (fun w h => (hT).wd h)) fun a hF => dv 7 rfl hF hS (y_loadRowW hF rfl (fun w h => (hT).wd h) (by omega) Tryz.underlying46 rfl sz_46) fun a hF => dv 8 rfl hF hS (y_bin hF rfl rfl (fun w => net_46 _ _ _ _ _ _ _ _ _ _ w)) fun a hF => ?_; refine Fr.splitD hF ?_ ?_
      · intro h3 hF; exfalso
        exact h3 ⟨rfl, rfl, rfl, rfl⟩
      · intro h3 hF; clear hS; refine d_nil (by kernel_rfl) ?_; replace hF := hF.ks [0, 1, 5, 10, 14, 25] rfl; refine t_n <| c_f hF rfl <| wp_skip <| b_n <| t_n <| c_r <| pv hF hW (y_move hF rfl) fun a hF => pv hF hW (y_add hF rfl rfl (IntWalk.i64_in _ (by omega))) fun a hF => ?_; replace hF := hF.drop 5; refine pv hF hW (y_assign hF rfl) fun a hF => l_nil ?_; replace hF := hF.ks [0, 1, 5, 10, 14, 25] rfl; refine t_n ?_; refine ⟨(k + 1), ?_, ?_, ?_, ?_⟩
        · omega
        · first | omega | (dsimp only; omega)
        · exact Fr.app (Fr.cons hF (t := 5) rfl (by first | rfl | (simp; done) | omega) (Fr.nil hF)) (hF.ks [0, 1, 10] rfl)
        · exact hW
    · intro h2 hF; refine l_nil ?_; replace hF := hF.ks [0, 1, 5, 10, 14] rfl; refine t_n <| c_f hF rfl <| wp_exit <| t_x <| t_x <| b_h <| t_n <| c_sr <| pv hF hW (y_assign hF rfl) fun a hF => l_nil <| t_n <| wp_ret <| ret1 Tryz.results17 hF (rv_t hF rfl) ?_
      exact ⟨rfl, hW.below⟩
end Go.Proofs.YtfkngjglnhfdcaaGreatDoor
