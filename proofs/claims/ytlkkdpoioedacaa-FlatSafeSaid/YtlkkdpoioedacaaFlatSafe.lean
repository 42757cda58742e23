/- The law FlatSafe answers true for every input. -/
import Derived.Test.YtlkkdpoioedacaaFlatI
namespace Go.Proofs.Ytlkkdpoioedacaa
set_option linter.unusedVariables false
set_option linter.unusedSimpArgs false
open Go.ChangeShapes Go.WideShapes Go.ChangeAt Go.RowKit

set_option maxRecDepth 100000

theorem stepErrW_zero {s : Sys} {w : Wrl} (h : stepErrW s w = 0) : chkSys s = 0 ∧ Right s w ∧ w.tick < 300 := by
  unfold stepErrW at h
  by_cases h1 : chkWorld s w = 0
  · rw [if_pos h1] at h
    by_cases h2 : w.tick = 300
    · rw [if_pos h2] at h; cases h
    · obtain ⟨h3, h4⟩ := chkWorld_zero h1
      have hr := right_iff.1 h4
      exact ⟨h3, hr, by have := hr.t1; omega⟩
  · rw [if_neg h1] at h; exact absurd h h1
theorem getD_set_ne {α : Type} {l : List α} {n k : Nat} {c d : α} (h : n ≠ k) : (l.set n c).getD k d = l.getD k d := by
  simp only [List.getD, List.getElem?_set, if_neg h]
theorem stepP_lines {s : Sys} {w : Wrl} {p : Nat} (hk : chkSys s = 0) (hp : p < s.parts.length) (k : Nat) (h1 : (s.chans.getD k C0).from_ ≠ p) (h2 : (s.chans.getD k C0).to_ ≠ p) : (stepP s p w).lines.getD k [] = w.lines.getD k [] := by
  obtain ⟨⟨c, q⟩, e⟩ : ∃ q, stepOf (s.parts.getD p Pt0) (w.cells.getD p Cel.zero) = q := ⟨_, rfl⟩
  have hw := stepOf_want (c := w.cells.getD p Cel.zero) hk hp
  rw [e] at hw
  dsimp only at hw
  rcases hw with hz | hw
  · rw [stepP_0 e (by rw [hz]; rfl)]
  · rw [stepP_1 e (by rcases hw.kind with h | h <;> omega) rfl]
    refine getD_set_ne fun h => ?_
    subst h
    rcases hw.kind with ⟨h, -⟩ | ⟨h, -⟩
    · exact h1 (hw.put h)
    · exact h2 (hw.get h)
theorem stepP_lens {s : Sys} {w : Wrl} {p : Nat} : (stepP s p w).cells.length = w.cells.length ∧ (stepP s p w).lines.length = w.lines.length := by
  unfold stepP
  dsimp only
  split <;> simp
theorem gApp1 {α : Type} {l m : List α} {k : Nat} {d : α} (h : k < l.length) : (l ++ m).getD k d = l.getD k d := by simp only [List.getD, List.getElem?_append_left h]
theorem gApp2 {α : Type} {l m : List α} {k : Nat} {d : α} (h : l.length ≤ k) : (l ++ m).getD k d = m.getD (k - l.length) d := by simp only [List.getD, List.getElem?_append_right h]
/-- two rows of numbers that differ only where it is allowed -/
def Safe (a b : List Int) (o : List Bool) : Prop := a.length = b.length ∧ o.length = a.length ∧ ∀ k, k < a.length → a.getD k 0 = b.getD k 0 ∨ o.getD k false = true
theorem Safe.app {a b a' b' : List Int} {o o' : List Bool} (h1 : Safe a b o) (h2 : Safe a' b' o') : Safe (a ++ a') (b ++ b') (o ++ o') := by
  obtain ⟨l1, l2, h⟩ := h1
  obtain ⟨m1, m2, g⟩ := h2
  refine ⟨by rw [List.length_append, List.length_append, l1, m1], by rw [List.length_append, List.length_append, l2, m2], fun k hk => ?_⟩
  rw [List.length_append] at hk
  rcases Nat.lt_or_ge k a.length with hl | hl
  · rw [gApp1 hl, gApp1 (by omega), gApp1 (by omega)]
    exact h k hl
  · rw [gApp2 hl, gApp2 (by omega), gApp2 (by omega), l2, ← l1]
    exact g _ (by omega)
theorem Safe.same {a : List Int} {o : List Bool} (h : o.length = a.length) : Safe a a o := ⟨rfl, h, fun _ _ => .inl rfl⟩
theorem Safe.all {a b : List Int} {n : Nat} (h1 : a.length = n) (h2 : b.length = n) : Safe a b (List.replicate n true) := by
  refine ⟨by omega, by rw [List.length_replicate, h1], fun k hk => .inr ?_⟩
  simp only [List.getD, List.getElem?_replicate]
  rw [if_pos (by omega)]
  rfl
theorem Safe.flat {α γ : Type} {f : α → List Int} {h : γ → List Bool} {d : α} {e : γ} : ∀ (l m : List α) (q : List γ), l.length = m.length → q.length = l.length → (∀ i, i < l.length → Safe (f (l.getD i d)) (f (m.getD i d)) (h (q.getD i e))) → Safe (l.flatMap f) (m.flatMap f) (q.flatMap h)
  | [], [], [], _, _, _ => ⟨rfl, rfl, fun k hk => by simp at hk⟩
  | x :: l, y :: m, z :: q, h1, h2, h3 => by
    rw [List.flatMap_cons, List.flatMap_cons, List.flatMap_cons]
    exact (h3 0 (by simp)).app (Safe.flat l m q (by simpa using h1) (by simpa using h2) fun i hi => h3 (i + 1) (by simpa using hi))
  | [], _ :: _, _, h1, _, _ => by simp at h1
  | _ :: _, [], _, h1, _, _ => by simp at h1
  | [], [], _ :: _, _, h2, _ => by simp at h2
  | _ :: _, _ :: _, [], _, h2, _ => by simp at h2
theorem row_lens {x : SysD} {y : WD} (h : chkWorld x.sys y.wrl = 0) : (∀ c, c ∈ y.wrl.cells → (cellRowL c).length = 32) ∧ ∀ l, l ∈ y.wrl.lines → (padL 3 l).length = 4 := by
  obtain ⟨-, -, -, hco, hlv⟩ := world_small h
  refine ⟨fun c hc => ?_, fun l hl => ?_⟩
  · obtain ⟨q, hq, rfl⟩ := List.mem_map.1 hc
    exact cellRowL_len q.wf (hco q hq)
  · obtain ⟨q, hq, rfl⟩ := List.mem_map.1 hl
    exact padL_len (hlv q hq)
theorem row_safe {x : SysD} {y y1 : WD} (h0 : stepErrW x.sys y.wrl = 0) {p : Nat} (e : whoOf x.slots y.tick = p) (hp : p < x.sys.parts.length) (h1 : y1.wrl = stepW x.sys y.wrl) : chkWorld x.sys y.wrl = 0 ∧ chkWorld x.sys y1.wrl = 0 ∧ Safe (rowL y.wrl) (rowL y1.wrl) (ownL x.sys p) := by
  obtain ⟨hk, hr, ht⟩ := stepErrW_zero h0
  have hs : stepW x.sys y.wrl = stepP x.sys p y.wrl := by
    unfold stepW
    rw [show whoOf x.sys.slots y.wrl.tick = p from e, Int.toNat_natCast]
  rw [hs] at h1
  obtain ⟨hr1, -, hcells⟩ := stepP_right hk hr ht hp
  have hc0 : chkWorld x.sys y.wrl = 0 := chkWorld_0 hk (right_iff.2 hr)
  have hc1 : chkWorld x.sys y1.wrl = 0 := by rw [h1]; exact chkWorld_0 hk (right_iff.2 hr1)
  obtain ⟨q1, q2⟩ := row_lens hc0
  obtain ⟨r1, r2⟩ := row_lens hc1
  obtain ⟨n1, n2⟩ := stepP_lens (s := x.sys) (w := y.wrl) (p := p)
  rw [← h1] at n1 n2 hcells
  have hcl := hr.cl
  have hll := hr.ll
  refine ⟨hc0, hc1, ?_⟩
  have hA : Safe (y.wrl.cells.flatMap cellRowL) (y1.wrl.cells.flatMap cellRowL) ((List.range x.sys.parts.length).flatMap (ownC p)) := by
    refine Safe.flat (d := Cel.zero) (e := 0) _ _ _ n1.symm (by rw [List.length_range, hcl]) fun i hi => ?_
    have hi2 : i < y1.wrl.cells.length := by omega
    rw [show (List.range x.sys.parts.length).getD i 0 = i by rw [List.getD, List.getElem?_range (by omega)]; rfl]
    have z1 := q1 _ (mem_getD Cel.zero hi)
    have z2 := r1 _ (mem_getD Cel.zero hi2)
    by_cases hip : i = p
    · subst hip
      unfold ownC
      rw [decide_eq_true rfl]
      exact Safe.all z1 z2
    · rw [hcells i hip]
      exact Safe.same (by rw [z1]; simp [ownC])
  have hB : Safe (y.wrl.lines.flatMap (padL 3)) (y1.wrl.lines.flatMap (padL 3)) (x.sys.chans.flatMap (ownH p)) := by
    refine Safe.flat (d := []) (e := C0) _ _ _ n2.symm hll.symm fun i hi => ?_
    have hi2 : i < y1.wrl.lines.length := by omega
    have z1 := q2 _ (mem_getD [] hi)
    have z2 := r2 _ (mem_getD [] hi2)
    by_cases k1 : (x.sys.chans.getD i C0).from_ = p
    · unfold ownH
      rw [decide_eq_true k1, Bool.true_or]
      exact Safe.all z1 z2
    · by_cases k2 : (x.sys.chans.getD i C0).to_ = p
      · unfold ownH
        rw [decide_eq_true k2, Bool.or_true]
        exact Safe.all z1 z2
      · have := stepP_lines (w := y.wrl) hk hp i k1 k2
        rw [← h1] at this
        rw [this]
        exact Safe.same (by rw [z1]; simp [ownH])
  exact Safe.app (a := [y.wrl.tick]) (b := [y1.wrl.tick]) (o := [true]) (Safe.all (n := 1) rfl rfl) (hA.app hB)
theorem lay_ok {x : SysD} {y : WD} {w : World} (hx : x.At w) (hy : y.At w) (h : chkWorld x.sys y.wrl = 0) : Calls Try.prog 38 #[x.val, y.val] w fun e w' => ∃ A c, e = .returned (.tuple #[.slice A (rowL y.wrl).length c, .int .i64 0]) ∧ Below w.heap.size w w' ∧ OwnRes w w' (fun u => Ints u (.slice A (rowL y.wrl).length c) (rowL y.wrl)) := by
  refine (flatLay_any hx hy).mono ?_
  rintro e w' ⟨R, A, c, rfl, hR, hb, hr⟩
  have e2 : R = rowL y.wrl := hR.trans (if_pos h)
  subst e2
  rw [h]
  exact ⟨A, c, rfl, hb, hr⟩
theorem own_ok {x : SysD} {w : World} (hx : x.At w) {p : Int} (h : thereErr x.sys p = 0) : Calls Try.prog 44 #[x.val, .int .i64 p] w fun e w' => ∃ A c, e = .returned (.tuple #[.slice A (ownL x.sys p).length c, .int .i64 0]) ∧ Below w.heap.size w w' ∧ OwnRes w w' (fun u => Flat encB 1 u (.slice A (ownL x.sys p).length c) (ownL x.sys p)) := by
  refine (flatOwn_any hx p).mono ?_
  rintro e w' ⟨R, A, c, rfl, hR, hb, hr⟩
  have e2 : R = ownL x.sys p := hR.trans (if_pos h)
  subst e2
  rw [h]
  exact ⟨A, c, rfl, hb, hr⟩
set_option maxHeartbeats 8000000 in
theorem flatSafe_run (x : SysD) (y : WD) (w : World) (hx : x.At w) (hy : y.At w) :
    Calls Try.prog 12 #[x.val, y.val] w fun e w' => e = .returned (.bool true) ∧ Below w.heap.size w w' := by
  by_cases h0 : stepErrW x.sys y.wrl = 0
  · obtain ⟨hk, hr, ht⟩ := stepErrW_zero h0
    obtain ⟨p, hp, hpl⟩ := who_part hk hr.t0
    have hp' : whoOf x.slots y.tick = p := hp
    have hthe : thereErr x.sys p = 0 := there_0 hk (by omega)
    have hst := fun w1 (hb : Below w.heap.size w w1) => step_ok (hx.below hb) (hy.below hb) rfl h0
    have hwho := fun w1 (hb : Below w.heap.size w w1) => who_val (hx.below hb) hk (t := y.tick) hr.t0
    rw [hp'] at hwho
    have hlay := fun w1 (hb : Below w.heap.size w w1) (z : WD) (hz : z.At w1) (hc : chkWorld x.sys z.wrl = 0) => lay_ok (hx.below hb) hz hc
    have hown := fun w1 (hb : Below w.heap.size w w1) => own_ok (hx.below hb) hthe
    have hsafe := fun (y1 : WD) (h : y1.wrl = stepW x.sys y.wrl) => row_safe h0 hp' hpl h
    rw [x.val_eq, y.val_eq] at *
    refine enter Try.func12 rfl Try.ntmps12 rfl fun a hF => ?_
    have hW := Wd.start w NoB
    refine c_sr ?_; refine pe (e_box hF hW rfl rfl rfl rfl ?_); intro b1 a wc hF hW; refine pe (e_box hF hW rfl rfl rfl rfl ?_); intro b2 a wc hF hW; refine pv hF hW (y_assign hF rfl) fun a hF => l_nil <| t_n <| c_sr <| pv hF hW (y_loadAll hF rfl 1 rfl Try.underlying26 rfl sz_26) fun a hF => pv hF hW (y_loadAll hF rfl 0 rfl Try.underlying78 rfl sz_78) fun a hF => ?_; refine pe (e_call hF rfl rfl en_42 (by rfl) rfl rfl (hst _ hW.below) ?_); rintro e w1 ⟨y1, rfl, hy1, hN⟩; replace hW := hW.comb3 hN; replace hW := hW.own_world; refine ⟨_, rfl, fun a hF => ?_⟩; replace hF := Fr.cast (v' := .tuple #[.agg #[.int .i64 y1.tick, .slice y1.ca y1.cells.length y1.cc, .slice y1.la y1.lines.length y1.lc], .int .i64 0]) rfl hF
    obtain ⟨hc0, hc1, hs1, hs2, hs3⟩ := hsafe y1 hy1
    refine pv hF hW (y_move hF rfl) fun a hF => pv hF hW (y_extract hF rfl rfl) fun a hF => pv hF hW (y_extract hF rfl rfl) fun a hF => ?_; refine pe (e_alloc hF hW ze_78 rfl rfl rfl ?_); intro b3 a wc hF hW; refine pe (e_storeAll rfl hF hW rfl rfl 0 rfl rfl rfl (by kernel_rfl) sz_78 ?_); intro wc hW; refine pv hF hW (y_assign hF rfl) fun a hF => l_nil ?_; replace hF := hF.ks [0, 1, 2, 3, 4, 5, 6] rfl; refine t_n <| c_s <| c_sr <| pv hF hW (y_move hF rfl) fun a hF => pv hF hW (y_neq hF rfl rfl) fun a hF => ?_; replace hF := hF.ff; refine l_nil ?_; replace hF := hF.ks [0, 1, 2, 3, 4, 5, 6, 23] rfl; refine t_n <| c_f hF rfl <| wp_skip <| t_n <| c_sr <| pv hF hW (y_loadAll hF rfl 3 rfl Try.underlying26 rfl sz_26) fun a hF => pv hF hW (y_fieldOwn hF rfl fa_78_0) fun a hF => pv hF hW (y_loadOwn hF rfl 2 rfl rfl Try.underlying3 rfl) fun a hF => ?_; refine pe (e_call hF rfl rfl en_43 (by rfl) rfl rfl (hwho _ hW.below) ?_); rintro e w1 ⟨rfl, hb⟩; replace hW := hW.kept hb; clear hb; refine ⟨_, rfl, fun a hF => ?_⟩; refine pv hF hW (y_move hF rfl) fun a hF => pv hF hW (y_extract hF rfl rfl) fun a hF => pv hF hW (y_extract hF rfl rfl) fun a hF => pv hF hW (y_assign hF rfl) fun a hF => pv hF hW (y_assign hF rfl) fun a hF => l_nil ?_; replace hF := hF.ks [0, 1, 2, 3, 4, 5, 6, 7, 8, 23] rfl; refine t_n <| c_sr <| pv hF hW (y_loadAll hF rfl 3 rfl Try.underlying26 rfl sz_26) fun a hF => pv hF hW (y_loadAll hF rfl 2 rfl Try.underlying78 rfl sz_78) fun a hF => ?_; refine pe (e_call hF rfl rfl en_38 (by rfl) rfl rfl (hlay _ hW.below y (hy.below hW.below) hc0) ?_); rintro e w1 ⟨A1, c1, rfl, hb, hr⟩; replace hW := hW.gotR hb hr; refine ⟨_, rfl, fun a hF => ?_⟩; refine pv hF hW (y_move hF rfl) fun a hF => pv hF hW (y_extract hF rfl rfl) fun a hF => pv hF hW (y_extract hF rfl rfl) fun a hF => pv hF hW (y_assign hF rfl) fun a hF => pv hF hW (y_assign hF rfl) fun a hF => l_nil ?_; replace hF := hF.ks [0, 1, 2, 3, 4, 5, 6, 7, 8, 9, 10, 23] rfl; refine t_n <| c_sr <| pv hF hW (y_loadAll hF rfl 4 rfl Try.underlying26 rfl sz_26) fun a hF => pv hF hW (y_loadAll hF rfl 1 rfl Try.underlying78 rfl sz_78) fun a hF => ?_; refine pe (e_call hF rfl rfl en_38 (by rfl) rfl rfl (hlay _ hW.below y1 (hW.res 2 rfl) hc1) ?_); rintro e w1 ⟨A2, c2, rfl, hb, hr⟩; replace hW := hW.gotR hb hr; refine ⟨_, rfl, fun a hF => ?_⟩; refine pv hF hW (y_move hF rfl) fun a hF => pv hF hW (y_extract hF rfl rfl) fun a hF => pv hF hW (y_extract hF rfl rfl) fun a hF => pv hF hW (y_assign hF rfl) fun a hF => pv hF hW (y_assign hF rfl) fun a hF => l_nil ?_
    replace hF := hF.ks [0, 1, 2, 3, 4, 5, 6, 7, 8, 9, 10, 11, 12, 23] rfl; refine t_n <| c_sr <| pv hF hW (y_loadAll hF rfl 5 rfl Try.underlying26 rfl sz_26) fun a hF => pv hF hW (y_move hF rfl) fun a hF => ?_; refine pe (e_call hF rfl rfl en_44 (by rfl) rfl rfl (hown _ hW.below) ?_); rintro e w1 ⟨A3, c3, rfl, hb, hr⟩; replace hW := hW.gotR hb hr; refine ⟨_, rfl, fun a hF => ?_⟩; refine pv hF hW (y_move hF rfl) fun a hF => pv hF hW (y_extract hF rfl rfl) fun a hF => pv hF hW (y_extract hF rfl rfl) fun a hF => pv hF hW (y_assign hF rfl) fun a hF => pv hF hW (y_assign hF rfl) fun a hF => l_nil ?_; replace hF := hF.ks [0, 1, 2, 3, 4, 5, 6, 7, 8, 9, 10, 11, 12, 13, 14, 23] rfl; refine t_n <| c_s <| c_sr <| pv hF hW (y_move hF rfl) fun a hF => pv hF hW (y_neq hF rfl rfl) fun a hF => ?_; replace hF := hF.ff; refine pv hF hW (y_move hF rfl) fun a hF => ?_; replace hF := hF.ff; refine pvg hF hW (y_move hF rfl) (ws hF rfl rfl) fun a hF => pvg hF hW (y_neq hF rfl rfl) (ws hF rfl rfl) fun a hF => ?_; replace hF := hF.ff; refine pv hF hW (y_pick hF rfl rfl) fun a hF => ?_; replace hF := hF.ff; refine pv hF hW (y_move hF rfl) fun a hF => ?_; replace hF := hF.ff; refine pvg hF hW (y_move hF rfl) (ws hF rfl rfl) fun a hF => pvg hF hW (y_neq hF rfl rfl) (ws hF rfl rfl) fun a hF => ?_; replace hF := hF.ff; refine pv hF hW (y_pick hF rfl rfl) fun a hF => ?_; replace hF := hF.ff; refine pv hF hW (y_move hF rfl) fun a hF => ?_; replace hF := hF.ff; refine pvg hF hW (y_move hF rfl) (ws hF rfl rfl) fun a hF => pvg hF hW (y_neq hF rfl rfl) (ws hF rfl rfl) fun a hF => ?_; replace hF := hF.ff; refine pv hF hW (y_pick hF rfl rfl) fun a hF => ?_; replace hF := hF.ff; refine pv hF hW (y_move hF rfl) fun a hF => ?_; replace hF := hF.ff; refine pvg hF hW (y_move hF rfl) (ws hF rfl rfl) fun a hF => pvg hF hW (y_len hF rfl Try.underlying42) (ws hF rfl rfl) fun a hF => pvg hF hW (y_move hF rfl) (ws hF rfl rfl) fun a hF => pvg hF hW (y_len hF rfl Try.underlying42) (ws hF rfl rfl) fun a hF => pvg hF hW (y_neq hF rfl rfl) (ws hF rfl rfl) fun a hF => ?_; refine Fr.splitD hF ?_ ?_
    · intro h4 hF; exfalso
      omega
    · intro h4 hF; refine pv hF hW (y_pick hF rfl rfl) fun a hF => pv hF hW (y_move hF rfl) fun a hF => pvg hF hW (y_move hF rfl) (ws hF rfl rfl) fun a hF => pvg hF hW (y_len hF rfl Try.underlying38) (ws hF rfl rfl) fun a hF => pvg hF hW (y_move hF rfl) (ws hF rfl rfl) fun a hF => pvg hF hW (y_len hF rfl Try.underlying42) (ws hF rfl rfl) fun a hF => pvg hF hW (y_neq hF rfl rfl) (ws hF rfl rfl) fun a hF => ?_; refine Fr.splitD hF ?_ ?_
      · intro h5 hF; exfalso
        omega
      · intro h5 hF; refine pv hF hW (y_pick hF rfl rfl) fun a hF => l_nil ?_; replace hF := hF.ks [0, 1, 2, 3, 4, 5, 6, 7, 8, 9, 10, 11, 12, 13, 14, 23, 77] rfl; refine t_n <| c_f hF rfl <| wp_skip <| t_n <| c_s ?_
        have hlr := (hW.res 2 rfl).len
        unfold maxLen at hlr
        refine c_sr <| pv hF hW (y_assign hF rfl) fun a hF => l_nil <| t_n <| wp_block ?_; refine c_loop (G := Nat) (fun k : Nat => [(15, .int .i64 (k : Int))]) (fun k : Nat => []) (fun k : Nat => k ≤ (rowL y.wrl).length) (fun k : Nat => (rowL y.wrl).length - k) 0 (hF.ks [0, 1, 2, 3, 5, 6, 7, 8, 9, 10, 11, 12, 13, 14, 23, 77] rfl) (Fr.cons hF (t := 15) rfl (by first | rfl | (simp; done)) (Fr.nil hF)) (hW) ?_ ?_
        · simp
        clear hF hW
        try clear a
        intro k a wc hC hF hW
        have hkl := hC
        refine c_s <| c_sr <| pv hF hW (y_move hF rfl) fun a hF => pv hF hW (y_move hF rfl) fun a hF => pv hF hW (y_len hF rfl Try.underlying42) fun a hF => pv hF hW (y_lss hF rfl rfl) fun a hF => ?_; refine Fr.splitD hF ?_ ?_
        · intro h6 hF; refine l_nil ?_; replace hF := hF.ks [0, 1, 2, 3, 5, 6, 7, 8, 9, 10, 11, 12, 13, 14, 15, 23, 77, 81] rfl; refine t_n <| c_t hF rfl <| wp_skip <| t_n <| c_s <| wp_block ?_
          have k1 : k < (rowL y.wrl).length := (by omega)
          have k2 : k < (rowL y1.wrl).length := (by omega)
          have k3 : k < (ownL x.sys p).length := (by omega)
          have hsk := hs3 k k1
          refine c_sd mixed_ok hW (hW) ?_
          clear hW; intro wc hW hS
          refine dv 0 rfl hF hS (y_move hF rfl) fun a hF => dv 1 rfl hF hS (y_move hF rfl) fun a hF => dv 2 rfl hF hS (y_indexS hF rfl rfl (by exact k1) Try.underlying42 sz_3 (fun w h => (h.res 2 rfl).rf)) fun a hF => dv 3 rfl hF hS (y_loadRow hF rfl (fun w h => (h.res 2 rfl).rf) (by exact k1) rfl Try.underlying3 rfl) fun a hF => dv 4 rfl hF hS (y_move hF rfl) fun a hF => dv 5 rfl hF hS (y_move hF rfl) fun a hF => dv 6 rfl hF hS (y_indexS hF rfl rfl (by exact k2) Try.underlying42 sz_3 (fun w h => (h.res 1 rfl).rf)) fun a hF => dv 7 rfl hF hS (y_loadRow hF rfl (fun w h => (h.res 1 rfl).rf) (by exact k2) rfl Try.underlying3 rfl) fun a hF => dv 8 rfl hF hS (y_neq hF rfl rfl) fun a hF => ?_; refine Fr.splitD hF ?_ ?_
          · intro h7 hF; refine dv 9 rfl hF hS (y_move hF rfl) fun a hF => dvg 10 rfl hF hS (y_move hF rfl) (ws hF rfl rfl) fun a hF => dvg 11 rfl hF hS (y_move hF rfl) (ws hF rfl rfl) fun a hF => dvg 12 rfl hF hS (y_indexS hF rfl rfl (by exact k3) Try.underlying38 sz_4 (fun w h => (h.res 0 rfl)|> own_rf)) (ws hF rfl rfl) fun a hF => dvg 13 rfl hF hS (y_loadRow hF rfl (fun w h => (h.res 0 rfl)|> own_rf) (by exact k3) rfl Try.underlying4 rfl) (ws hF rfl rfl) fun a hF => ?_; refine Fr.splitB hF ?_ ?_
            · intro h8 hF; refine dvg 14 rfl hF hS (y_not hF rfl) (ws hF rfl rfl) fun a hF => ?_; replace hF := hF.ff; refine dv 15 rfl hF hS (y_pick hF rfl rfl) fun a hF => ?_; replace hF := hF.ff; clear hS; refine d_nil (by kernel_rfl) ?_; replace hF := hF.ks [0, 1, 2, 3, 5, 6, 7, 8, 9, 10, 11, 12, 13, 14, 15, 23, 77, 81, 99] rfl; refine t_n <| c_f hF rfl <| wp_skip <| b_n <| t_n <| c_r <| pv hF hW (y_move hF rfl) fun a hF => pv hF hW (y_add hF rfl rfl (IntWalk.i64_in _ (by omega))) fun a hF => ?_; replace hF := hF.drop 15; refine pv hF hW (y_assign hF rfl) fun a hF => l_nil ?_; replace hF := hF.ks [0, 1, 2, 3, 5, 6, 7, 8, 9, 10, 11, 12, 13, 14, 15, 23, 77, 81, 99] rfl; refine t_n ?_; refine ⟨(k + 1), ?_, ?_, ?_, ?_⟩
              · omega
              · first | omega | (dsimp only; omega)
              · exact Fr.app (Fr.cons hF (t := 15) rfl (by first | rfl | (simp; done) | omega) (Fr.nil hF)) (hF.ks [0, 1, 2, 3, 5, 6, 7, 8, 9, 10, 11, 12, 13, 14, 23, 77] rfl)
              · exact hW
            · intro h8 hF; exfalso
              rcases hsk with q | q; exact absurd q (by assumption); rw [q] at h8; cases h8
          · intro h7 hF; refine dv 9 rfl hF hS (y_move hF rfl) fun a hF => dk 10 rfl hF (wn hF rfl rfl rfl) hS fun a hF => dk 11 rfl hF (wn hF rfl rfl rfl) hS fun a hF => dk 12 rfl hF (wn hF rfl rfl rfl) hS fun a hF => dk 13 rfl hF (wn hF rfl rfl rfl) hS fun a hF => dk 14 rfl hF (wn hF rfl rfl rfl) hS fun a hF => dv 15 rfl hF hS (y_pick hF rfl rfl) fun a hF => ?_; clear hS; refine d_nil (by kernel_rfl) ?_; replace hF := hF.ks [0, 1, 2, 3, 5, 6, 7, 8, 9, 10, 11, 12, 13, 14, 15, 23, 77, 81, 99] rfl; refine t_n <| c_f hF rfl <| wp_skip <| b_n <| t_n <| c_r <| pv hF hW (y_move hF rfl) fun a hF => pv hF hW (y_add hF rfl rfl (IntWalk.i64_in _ (by omega))) fun a hF => ?_; replace hF := hF.drop 15; refine pv hF hW (y_assign hF rfl) fun a hF => l_nil ?_; replace hF := hF.ks [0, 1, 2, 3, 5, 6, 7, 8, 9, 10, 11, 12, 13, 14, 15, 23, 77, 81, 99] rfl; refine t_n ?_; refine ⟨(k + 1), ?_, ?_, ?_, ?_⟩
            · omega
            · first | omega | (dsimp only; omega)
            · exact Fr.app (Fr.cons hF (t := 15) rfl (by first | rfl | (simp; done) | omega) (Fr.nil hF)) (hF.ks [0, 1, 2, 3, 5, 6, 7, 8, 9, 10, 11, 12, 13, 14, 23, 77] rfl)
            · exact hW
        · intro h6 hF; refine l_nil ?_; replace hF := hF.ks [0, 1, 2, 3, 5, 6, 7, 8, 9, 10, 11, 12, 13, 14, 15, 23, 77, 81] rfl; refine t_n <| c_f hF rfl <| wp_exit <| t_x <| t_x <| b_h <| t_n <| c_sr ?_; refine pe (e_call hF rfl rfl en_41 (by rfl) rfl rfl (flatBegun_any _) ?_); rintro e w1 ⟨rfl, hb⟩; replace hW := hW.kept hb; clear hb; refine ⟨_, rfl, fun a hF => ?_⟩; refine pv hF hW (y_assign hF rfl) fun a hF => l_nil ?_; replace hF := hF.ks [0, 1, 2, 3, 4, 5, 6, 7, 8, 9, 10, 11, 12, 13, 14, 15, 23, 77, 81] rfl; refine t_n <| wp_ret <| ret1 Try.results12 hF (rv_t hF rfl) ?_
          exact ⟨rfl, hW.below⟩
  · have hst := fun w1 (hb : Below w.heap.size w w1) => step_no (hx.below hb) (hy.below hb) rfl h0
    generalize stepErrW x.sys y.wrl = E at *
    rw [x.val_eq, y.val_eq] at *
    refine enter Try.func12 rfl Try.ntmps12 rfl fun a hF => ?_
    have hW := Wd.start w NoB
    refine c_sr ?_; refine pe (e_box hF hW rfl rfl rfl rfl ?_); intro b1 a wc hF hW; refine pe (e_box hF hW rfl rfl rfl rfl ?_); intro b2 a wc hF hW; refine pv hF hW (y_assign hF rfl) fun a hF => l_nil <| t_n <| c_sr <| pv hF hW (y_loadAll hF rfl 1 rfl Try.underlying26 rfl sz_26) fun a hF => pv hF hW (y_loadAll hF rfl 0 rfl Try.underlying78 rfl sz_78) fun a hF => ?_; refine pe (e_call hF rfl rfl en_42 (by rfl) rfl rfl (hst _ hW.below) ?_); rintro e w1 ⟨y1, rfl, hy1, hN⟩; replace hW := hW.comb3 hN; replace hW := hW.own_world; refine ⟨_, rfl, fun a hF => ?_⟩; replace hF := Fr.cast (v' := .tuple #[.agg #[.int .i64 y1.tick, .slice y1.ca y1.cells.length y1.cc, .slice y1.la y1.lines.length y1.lc], .int .i64 E]) rfl hF; refine pv hF hW (y_move hF rfl) fun a hF => pv hF hW (y_extract hF rfl rfl) fun a hF => pv hF hW (y_extract hF rfl rfl) fun a hF => ?_; refine pe (e_alloc hF hW ze_78 rfl rfl rfl ?_); intro b3 a wc hF hW; refine pe (e_storeAll rfl hF hW rfl rfl 0 rfl rfl rfl (by kernel_rfl) sz_78 ?_); intro wc hW; refine pv hF hW (y_assign hF rfl) fun a hF => l_nil ?_; replace hF := hF.ks [0, 1, 2, 3, 4, 5, 6] rfl; refine t_n <| c_s <| c_sr <| pv hF hW (y_move hF rfl) fun a hF => pv hF hW (y_neq hF rfl rfl) fun a hF => ?_; refine Fr.splitD hF ?_ ?_
    · intro h4 hF; refine l_nil ?_; replace hF := hF.ks [0, 1, 2, 3, 4, 5, 6, 23] rfl; refine t_n <| c_t hF rfl <| c_sr ?_; refine pe (e_call hF rfl rfl en_41 (by rfl) rfl rfl (flatBegun_any _) ?_); rintro e w1 ⟨rfl, hb⟩; replace hW := hW.kept hb; clear hb; refine ⟨_, rfl, fun a hF => ?_⟩; replace hF := hF.drop 4; refine pv hF hW (y_assign hF rfl) fun a hF => l_nil ?_; replace hF := hF.ks [0, 1, 2, 3, 4, 5, 6, 23] rfl; refine t_n <| wp_ret <| t_r <| ret1 Try.results12 hF (rv_t hF rfl) ?_
      exact ⟨rfl, hW.below⟩
    · intro h4 hF; exfalso
      exact h4 h0

set_option maxRecDepth 100000 in
theorem flatSafe_contract (H : Type) (enc : TypeId × Value → H) (W : World) (base : Nat) (args : Array Value) (ds gs : List (DataW H)) (before : List MemPlace)
    (hval : ∀ (j : Nat) t v, Try.f12.params[j]? = some t → args[j]? = some v → Value.okWide Try.prog W .any base t v)
    (hW : DataW.Whole enc Try.prog Try.f12.params.toList Rows.flatSafeSpec.vars false W args.toList ds gs before) :
    Calls Try.prog 12 args W fun e W' => ∃ v, e = .returned v ∧ Rows.flatSafeSpec.post enc Try.prog Try.f12 false true false false W args v W' := by
  have hW' := hW
  obtain ⟨p, q, hA0, hV, rfl, hfz, hnd⟩ := hW
  have hA : DataW.TrodAll enc Try.prog W 0 (fun _ => true) true Try.f12.params.toList args.toList ds p := hA0
  rw [Try.params12] at hA hval
  obtain ⟨v0, v1, d0, d1, p0, p1, rfl, rfl, rfl, h0, h1⟩ := trodAll_two hA
  obtain ⟨x, rfl, hx⟩ := sys_open (hval 0 26 v0 rfl rfl) h0
  obtain ⟨y, rfl, hy⟩ := wrl_open (hval 1 78 v1 rfl rfl) h1
  refine (flatSafe_run x y W hx hy).mono fun e W' ⟨he, hb⟩ => ?_
  subst he
  exact ⟨_, rfl, law_post Try.laidOut hW' hb rfl (by kernel_rfl) Try.underlying4 (by kernel_rfl) rfl⟩

set_option maxRecDepth 100000 in
theorem flatSafe_lifted (os : Os) (started : os.Started) (H : Type) (enc : TypeId × Value → H) :
    ReturnsInHanded {} Try.checked os 12 .any (Rows.flatSafeSpec.pre6 enc Try.prog Try.f12 Rows.flatSafeRow.domain false) (Rows.flatSafeSpec.post enc Try.prog Try.f12 false true false false) := by
  refine returnsInHanded_of_change (C := Try.checked) Try.own started (by kernel_rfl) Try.func12
    (ChangeSpec.witness6 (enc := enc) (C := Try.checked) false ⟨#[], #[.agg #[.slice none 0 0, .slice none 0 0, .slice none 0 0], .agg #[.int .i64 0, .slice none 0 0, .slice none 0 0]], []⟩ 8 (by kernel_rfl) (by kernel_rfl) (by kernel_rfl) (by kernel_rfl)) ?_
  intro W base args ds gs before hval hW _ _
  exact flatSafe_contract H enc W base args ds gs before hval hW

theorem flatSafe_holds : Rows.FlatSafeSaid :=
  OpenClaim.holds_of_wide 12 Try.f12 rfl rfl rfl rfl rfl rfl rfl ⟨rfl, rfl, rfl, rfl, rfl⟩ rfl rfl rfl rfl rfl (by kernel_rfl) Try.func12 (by kernel_rfl)
    (of_decide_eq_true (by kernel_rfl)) (by unfold Func.isWrapper; first | (rw [if_pos (by decide +kernel)]; kernel_rfl) | (rw [if_neg (by decide +kernel)]; exact ⟨rfl, rfl⟩))
    (fun os started H enc _ => flatSafe_lifted os started H enc)
end Go.Proofs.Ytlkkdpoioedacaa
