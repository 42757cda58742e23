/- schedBegun; choose; what is so of turns, in plain words. -/
import Derived.Test.YtebklpbbglojmaaSchedC
namespace Go.Proofs.Ytebklpbbglojmaa
set_option linter.unusedVariables false
set_option linter.unusedSimpArgs false
open Go.ChangeShapes Go.WideShapes Go.ChangeAt Go.RowKit

set_option maxRecDepth 100000

theorem chooseN_any {c n : Int} (hc : -9223372036854775808 ≤ c ∧ c ≤ 9223372036854775807) (hn : 0 < n) (w : World) : Calls Try.prog 20 #[.int .i64 c, .int .i64 n] w fun e w' => (∃ r, e = .returned (.int .i64 r) ∧ 0 ≤ r ∧ r < n) ∧ Below w.heap.size w w' := by
  refine enter Try.func20 rfl Try.ntmps20 rfl (fun a hF => ?_)
  have hW := Wd.start w NoB
  refine c_sr ?_
  refine pv hF hW (y_assign hF rfl) (fun a hF => ?_)
  refine l_nil ?_
  refine t_n ?_
  refine c_s ?_
  refine c_sr ?_
  refine pv hF hW (y_move hF rfl) (fun a hF => ?_)
  refine pv hF hW (y_lss hF rfl rfl) (fun a hF => ?_)
  refine Fr.splitD hF ?_ ?_
  · intro h1 hF
    refine l_nil ?_
    replace hF := (hF.k 0 rfl (hF.k 1 rfl (hF.k 4 rfl (hF.k 6 rfl hF.nil))))
    refine t_n ?_
    refine c_t hF rfl ?_
    refine c_r ?_
    refine pv hF hW (y_move hF rfl) (fun a hF => ?_)
    refine pv hF hW (y_add hF rfl rfl (IntWalk.i64_in _ (by omega))) (fun a hF => ?_)
    refine pv hF hW (y_neg hF rfl (IntWalk.i64_in _ (by omega))) (fun a hF => ?_)
    replace hF := hF.drop 0
    refine pv hF hW (y_assign hF rfl) (fun a hF => ?_)
    refine l_nil ?_
    replace hF := (hF.k 0 rfl (hF.k 1 rfl (hF.k 4 rfl (hF.k 6 rfl hF.nil))))
    refine t_n ?_
    refine c_sr ?_
    refine pv hF hW (y_move hF rfl) (fun a hF => ?_)
    refine pv hF hW (y_move hF rfl) (fun a hF => ?_)
    refine pv hF hW (y_rem hF rfl rfl (by omega) rfl) (fun a hF => ?_)
    replace hF := hF.drop 4
    refine pv hF hW (y_assign hF rfl) (fun a hF => ?_)
    refine l_nil ?_
    replace hF := (hF.k 0 rfl (hF.k 1 rfl (hF.k 4 rfl (hF.k 6 rfl hF.nil))))
    refine t_n ?_
    refine wp_ret ?_
    refine ret1 Try.results20 hF (rv_t hF rfl) ?_
    exact ⟨⟨_, rfl, Int.tmod_nonneg _ (by omega), Int.tmod_lt_of_pos _ hn⟩, hW.below⟩
  · intro h1 hF
    refine l_nil ?_
    replace hF := (hF.k 0 rfl (hF.k 1 rfl (hF.k 4 rfl (hF.k 6 rfl hF.nil))))
    refine t_n ?_
    refine c_f hF rfl ?_
    refine wp_skip ?_
    refine t_n ?_
    refine c_sr ?_
    refine pv hF hW (y_move hF rfl) (fun a hF => ?_)
    refine pv hF hW (y_move hF rfl) (fun a hF => ?_)
    refine pv hF hW (y_rem hF rfl rfl (by omega) rfl) (fun a hF => ?_)
    replace hF := hF.drop 4
    refine pv hF hW (y_assign hF rfl) (fun a hF => ?_)
    refine l_nil ?_
    replace hF := (hF.k 0 rfl (hF.k 1 rfl (hF.k 4 rfl (hF.k 6 rfl hF.nil))))
    refine t_n ?_
    refine wp_ret ?_
    refine ret1 Try.results20 hF (rv_t hF rfl) ?_
    exact ⟨⟨_, rfl, Int.tmod_nonneg _ (by omega), Int.tmod_lt_of_pos _ hn⟩, hW.below⟩

section
variable {L : List PP} {pa sa : Option Addr} {b : Nat} {T : TypeId} {u : World}
theorem relay_ok : chkSys ⟨relayP, relayC, relayS⟩ = 0 := by kernel_rfl
theorem relay_frame (hL : L.map Prod.fst = relayP) (hB : Blk u b T (relayC.flatMap Chn.cells)) (h : RelayR L pa sa u) :
    Calls Try.prog 38 #[.agg #[.slice pa 4 4, .slice (some ⟨b, 0, none⟩) 2 2, .slice sa 4 4]] u fun e w' => e = .returned (.tuple #[.int .i64 12, .int .i64 0]) ∧ Below u.heap.size u w' := by
  have := schedFrame_any (relay_at hL rfl hB h)
  rwa [relay_val hL rfl, relay_sys hL, relay_ok, show frameOf ⟨relayP, relayC, relayS⟩ = 12 by kernel_rfl] at this
theorem relay_who (hL : L.map Prod.fst = relayP) (hB : Blk u b T (relayC.flatMap Chn.cells)) (h : RelayR L pa sa u) (t p : Int) (ht : 0 ≤ t) (hp : whoOf relayS t = p) :
    Calls Try.prog 39 #[.agg #[.slice pa 4 4, .slice (some ⟨b, 0, none⟩) 2 2, .slice sa 4 4], .int .i64 t] u fun e w' => e = .returned (.tuple #[.int .i64 p, .int .i64 0]) ∧ Below u.heap.size u w' := by
  have := who_val (relay_at hL rfl hB h) (by rw [relay_sys hL]; exact relay_ok) ht
  rwa [relay_val hL rfl, show (relayD L pa b sa relayC).slots = relayS from rfl, hp] at this
theorem relay_neg (hL : L.map Prod.fst = relayP) (hB : Blk u b T (relayC.flatMap Chn.cells)) (h : RelayR L pa sa u) (t : Int) (ht : t < 0) :
    Calls Try.prog 39 #[.agg #[.slice pa 4 4, .slice (some ⟨b, 0, none⟩) 2 2, .slice sa 4 4], .int .i64 t] u fun e w' => e = .returned (.tuple #[.int .i64 0, .int .i64 3]) ∧ Below u.heap.size u w' := by
  have := who_neg (relay_at hL rfl hB h) (by rw [relay_sys hL]; exact relay_ok) t ht
  rwa [relay_val hL rfl] at this
end
theorem schedBegun_any (w : World) : Calls Try.prog 42 #[] w fun e w' => e = .returned (.bool true) ∧ Below w.heap.size w w' := by
  refine enter Try.func42 rfl Try.ntmps42 rfl (fun a hF => ?_)
  have hW := Wd.start w NoB
  refine c_sr ?_
  refine pv hF hW (y_assign hF rfl) (fun a hF => ?_)
  refine l_nil ?_
  refine t_n ?_
  refine c_sr ?_
  refine pe (e_call hF rfl rfl en_63 (by rfl) rfl rfl (relay_any _) ?_)
  rintro e w1 ⟨L1, pa1, b1, sa1, rfl, hL1, hN⟩
  replace hW := hW.comb2 hN
  refine ⟨_, rfl, fun a hF => ?_⟩
  refine pe (e_call hF rfl rfl en_38 (by rfl) rfl rfl (relay_frame hL1 (hW.blk 1 rfl) (hW.res 0 rfl)) ?_)
  rintro e w1 ⟨rfl, hb⟩
  replace hW := hW.kept hb
  clear hb
  refine ⟨_, rfl, fun a hF => ?_⟩
  refine pv hF hW (y_move hF rfl) (fun a hF => ?_)
  refine pv hF hW (y_extract hF rfl rfl) (fun a hF => ?_)
  refine pv hF hW (y_extract hF rfl rfl) (fun a hF => ?_)
  refine pv hF hW (y_assign hF rfl) (fun a hF => ?_)
  refine pv hF hW (y_assign hF rfl) (fun a hF => ?_)
  refine l_nil ?_
  replace hF := (hF.k 0 rfl (hF.k 1 rfl (hF.k 2 rfl hF.nil)))
  refine t_n ?_
  refine c_sr ?_
  refine pe (e_call hF rfl rfl en_63 (by rfl) rfl rfl (relay_any _) ?_)
  rintro e w1 ⟨L2, pa2, b2, sa2, rfl, hL2, hN⟩
  replace hW := hW.comb2 hN
  refine ⟨_, rfl, fun a hF => ?_⟩
  refine pe (e_call hF rfl rfl en_39 (by rfl) rfl rfl (relay_who hL2 (hW.blk 1 rfl) (hW.res 0 rfl) 7 3 (by decide) (by kernel_rfl)) ?_)
  rintro e w1 ⟨rfl, hb⟩
  replace hW := hW.kept hb
  clear hb
  refine ⟨_, rfl, fun a hF => ?_⟩
  refine pv hF hW (y_move hF rfl) (fun a hF => ?_)
  refine pv hF hW (y_extract hF rfl rfl) (fun a hF => ?_)
  refine pv hF hW (y_extract hF rfl rfl) (fun a hF => ?_)
  refine pv hF hW (y_assign hF rfl) (fun a hF => ?_)
  refine pv hF hW (y_assign hF rfl) (fun a hF => ?_)
  refine l_nil ?_
  replace hF := (hF.k 0 rfl (hF.k 1 rfl (hF.k 2 rfl (hF.k 3 rfl (hF.k 4 rfl hF.nil)))))
  refine t_n ?_
  refine c_sr ?_
  refine pe (e_call hF rfl rfl en_63 (by rfl) rfl rfl (relay_any _) ?_)
  rintro e w1 ⟨L3, pa3, b3, sa3, rfl, hL3, hN⟩
  replace hW := hW.comb2 hN
  refine ⟨_, rfl, fun a hF => ?_⟩
  refine pe (e_call hF rfl rfl en_39 (by rfl) rfl rfl (relay_who hL3 (hW.blk 1 rfl) (hW.res 0 rfl) 12 0 (by decide) (by kernel_rfl)) ?_)
  rintro e w1 ⟨rfl, hb⟩
  replace hW := hW.kept hb
  clear hb
  refine ⟨_, rfl, fun a hF => ?_⟩
  refine pv hF hW (y_move hF rfl) (fun a hF => ?_)
  refine pv hF hW (y_extract hF rfl rfl) (fun a hF => ?_)
  refine pv hF hW (y_extract hF rfl rfl) (fun a hF => ?_)
  refine pv hF hW (y_assign hF rfl) (fun a hF => ?_)
  refine pv hF hW (y_assign hF rfl) (fun a hF => ?_)
  refine l_nil ?_
  replace hF := (hF.k 0 rfl (hF.k 1 rfl (hF.k 2 rfl (hF.k 3 rfl (hF.k 4 rfl (hF.k 5 rfl (hF.k 6 rfl hF.nil)))))))
  refine t_n ?_
  refine c_sr ?_
  refine pe (e_call hF rfl rfl en_63 (by rfl) rfl rfl (relay_any _) ?_)
  rintro e w1 ⟨L4, pa4, b4, sa4, rfl, hL4, hN⟩
  replace hW := hW.comb2 hN
  refine ⟨_, rfl, fun a hF => ?_⟩
  refine pe (e_call hF rfl rfl en_39 (by rfl) rfl rfl (relay_neg hL4 (hW.blk 1 rfl) (hW.res 0 rfl) (-1) (by decide)) ?_)
  rintro e w1 ⟨rfl, hb⟩
  replace hW := hW.kept hb
  clear hb
  refine ⟨_, rfl, fun a hF => ?_⟩
  refine pv hF hW (y_move hF rfl) (fun a hF => ?_)
  refine pv hF hW (y_extract hF rfl rfl) (fun a hF => ?_)
  refine pv hF hW (y_extract hF rfl rfl) (fun a hF => ?_)
  refine pv hF hW (y_assign hF rfl) (fun a hF => ?_)
  refine pv hF hW (y_assign hF rfl) (fun a hF => ?_)
  refine l_nil ?_
  replace hF := (hF.k 0 rfl (hF.k 1 rfl (hF.k 2 rfl (hF.k 3 rfl (hF.k 4 rfl (hF.k 5 rfl (hF.k 6 rfl (hF.k 8 rfl hF.nil))))))))
  refine t_n ?_
  refine c_sr ?_
  refine pv hF hW (y_move hF rfl) (fun a hF => ?_)
  refine pv hF hW (y_eql hF rfl rfl) (fun a hF => ?_)
  replace hF := Fr.bool (t := true) (by first | decide | (simp; done) | rfl) hF
  refine pv hF hW (y_move hF rfl) (fun a hF => ?_)
  replace hF := Fr.bool (t := true) (by first | decide | (simp; done) | rfl) hF
  refine pv hF hW (y_move hF rfl) (fun a hF => ?_) (ws hF rfl rfl)
  refine pv hF hW (y_eql hF rfl rfl) (fun a hF => ?_) (ws hF rfl rfl)
  replace hF := Fr.bool (t := true) (by first | decide | (simp; done) | rfl) hF
  refine pv hF hW (y_pick hF rfl rfl) (fun a hF => ?_)
  replace hF := Fr.bool (t := true) (by first | decide | (simp; done) | rfl) hF
  refine pv hF hW (y_move hF rfl) (fun a hF => ?_)
  replace hF := Fr.bool (t := true) (by first | decide | (simp; done) | rfl) hF
  refine pv hF hW (y_move hF rfl) (fun a hF => ?_) (ws hF rfl rfl)
  refine pv hF hW (y_eql hF rfl rfl) (fun a hF => ?_) (ws hF rfl rfl)
  replace hF := Fr.bool (t := true) (by first | decide | (simp; done) | rfl) hF
  refine pv hF hW (y_pick hF rfl rfl) (fun a hF => ?_)
  replace hF := Fr.bool (t := true) (by first | decide | (simp; done) | rfl) hF
  refine pv hF hW (y_move hF rfl) (fun a hF => ?_)
  replace hF := Fr.bool (t := true) (by first | decide | (simp; done) | rfl) hF
  refine pv hF hW (y_move hF rfl) (fun a hF => ?_) (ws hF rfl rfl)
  refine pv hF hW (y_eql hF rfl rfl) (fun a hF => ?_) (ws hF rfl rfl)
  replace hF := Fr.bool (t := true) (by first | decide | (simp; done) | rfl) hF
  refine pv hF hW (y_pick hF rfl rfl) (fun a hF => ?_)
  replace hF := Fr.bool (t := true) (by first | decide | (simp; done) | rfl) hF
  refine pv hF hW (y_move hF rfl) (fun a hF => ?_)
  replace hF := Fr.bool (t := true) (by first | decide | (simp; done) | rfl) hF
  refine pv hF hW (y_move hF rfl) (fun a hF => ?_) (ws hF rfl rfl)
  refine pv hF hW (y_eql hF rfl rfl) (fun a hF => ?_) (ws hF rfl rfl)
  replace hF := Fr.bool (t := true) (by first | decide | (simp; done) | rfl) hF
  refine pv hF hW (y_pick hF rfl rfl) (fun a hF => ?_)
  replace hF := Fr.bool (t := true) (by first | decide | (simp; done) | rfl) hF
  refine pv hF hW (y_move hF rfl) (fun a hF => ?_)
  replace hF := Fr.bool (t := true) (by first | decide | (simp; done) | rfl) hF
  refine pv hF hW (y_move hF rfl) (fun a hF => ?_) (ws hF rfl rfl)
  refine pv hF hW (y_eql hF rfl rfl) (fun a hF => ?_) (ws hF rfl rfl)
  replace hF := Fr.bool (t := true) (by first | decide | (simp; done) | rfl) hF
  refine pv hF hW (y_pick hF rfl rfl) (fun a hF => ?_)
  replace hF := Fr.bool (t := true) (by first | decide | (simp; done) | rfl) hF
  refine pv hF hW (y_move hF rfl) (fun a hF => ?_)
  replace hF := Fr.bool (t := true) (by first | decide | (simp; done) | rfl) hF
  refine pv hF hW (y_move hF rfl) (fun a hF => ?_) (ws hF rfl rfl)
  refine pv hF hW (y_eql hF rfl rfl) (fun a hF => ?_) (ws hF rfl rfl)
  replace hF := Fr.bool (t := true) (by first | decide | (simp; done) | rfl) hF
  refine pv hF hW (y_pick hF rfl rfl) (fun a hF => ?_)
  replace hF := Fr.bool (t := true) (by first | decide | (simp; done) | rfl) hF
  replace hF := hF.drop 0
  refine pv hF hW (y_assign hF rfl) (fun a hF => ?_)
  replace hF := Fr.bool (t := true) (by first | decide | (simp; done) | rfl) hF
  refine l_nil ?_
  replace hF := (hF.k 0 rfl (hF.k 1 rfl (hF.k 2 rfl (hF.k 3 rfl (hF.k 4 rfl (hF.k 5 rfl (hF.k 6 rfl (hF.k 8 rfl hF.nil))))))))
  refine t_n ?_
  refine wp_ret ?_
  refine ret1 Try.results42 hF (rv_t hF rfl) ?_
  exact ⟨rfl, hW.below⟩

/-! ### plain words -/
/-- how many ticks one has, by the slots -/
def ticksOf (ss : List Slt) (u : Int) : Int := (ss.map fun s => if s.part = u then s.ticks else 0).sum
theorem ticksOf_count : ∀ {ss : List Slt} (u : Int), (∀ s, s ∈ ss → 0 ≤ s.ticks) → ((turnsL ss).countP (fun p => decide (p = u)) : Int) = ticksOf ss u
  | [], u, _ => by simp [turnsL, ticksOf]
  | s :: r, u, h => by
    have ih := ticksOf_count (ss := r) u fun q hq => h q (List.mem_cons_of_mem _ hq)
    have h0 := h s List.mem_cons_self
    unfold turnsL ticksOf at *
    rw [List.flatMap_cons, List.countP_append, List.map_cons, List.sum_cons, Int.natCast_add, ih, List.countP_replicate]
    by_cases hs : s.part = u
    · rw [if_pos (by simpa using hs), if_pos hs, Int.toNat_of_nonneg h0]
    · rw [if_neg (by simpa using hs), if_neg hs]
      rfl
/-- in a window as wide as the period it is so as often as in any other one -/
theorem window {g : Nat → Bool} {F : Nat} (hg : ∀ a, g (a + F) = g a) : ∀ t, (List.range F).countP (fun j => g (t + j)) = (List.range F).countP g
  | 0 => by simp
  | t + 1 => by
    have h1 : (List.range (F + 1)).countP (fun j => g (t + j)) = (List.range F).countP (fun j => g (t + j)) + (if g (t + F) then 1 else 0) := by
      rw [List.range_succ, List.countP_append]
      simp [List.countP_cons]
    have h2 : (List.range (F + 1)).countP (fun j => g (t + j)) = (if g t then 1 else 0) + (List.range F).countP (fun j => g (t + 1 + j)) := by
      rw [List.range_succ_eq_map, List.countP_cons, List.countP_map]
      have : ((fun j => g (t + j)) ∘ Nat.succ) = fun j => g (t + 1 + j) := by
        funext j
        simp only [Function.comp]
        congr 1
        omega
      rw [this]
      simp only [Nat.add_zero]
      omega
    rw [hg t] at h1
    have h3 := window hg t
    omega
theorem count_get {α : Type} (f : α → Bool) (d : α) : ∀ (l : List α), (List.range l.length).countP (fun j => f (l.getD j d)) = l.countP f := by
  intro l
  have : l = (List.range l.length).map (fun j => l.getD j d) := by
    apply List.ext_getElem
    · simp
    · intro i h1 h2
      simp [List.getD, h1]
  conv => rhs; rw [this, List.countP_map]
  rfl
theorem whoOf_nat (ss : List Slt) (a : Nat) : whoOf ss (a : Int) = (turnsL ss).getD (a % (turnsL ss).length) 0 := by
  unfold whoOf
  rw [← Int.ofNat_tmod]
  rfl
theorem whoOf_add (ss : List Slt) (a : Nat) : whoOf ss ((a + (turnsL ss).length : Nat) : Int) = whoOf ss (a : Int) := by
  rw [whoOf_nat, whoOf_nat, Nat.add_mod_right]
/-- in a frame each has as many ticks as its slots -/
theorem frame_count {ss : List Slt} (h : ∀ s, s ∈ ss → 0 ≤ s.ticks) (t : Nat) (u : Int) : ((List.range (turnsL ss).length).countP (fun j => decide (whoOf ss ((t + j : Nat) : Int) = u)) : Int) = ticksOf ss u := by
  rw [← ticksOf_count u h]
  congr 1
  rw [window (g := fun a => decide (whoOf ss (a : Int) = u)) (F := (turnsL ss).length) (fun a => by simp only [whoOf_add])]
  rw [← count_get (fun p => decide (p = u)) 0 (turnsL ss)]
  apply List.countP_congr
  intro j hj
  rw [whoOf_nat, Nat.mod_eq_of_lt (List.mem_range.1 hj)]
theorem ticksOf_snoc {ss : List Slt} {k : Nat} (u : Int) (hk : k < ss.length) : ticksOf (ss.take (k + 1)) u = ticksOf (ss.take k) u + (if (ss.getD k S0).part = u then (ss.getD k S0).ticks else 0) := by
  unfold ticksOf
  rw [List.take_add_one, List.getElem?_eq_getElem hk, List.map_append, List.sum_append, List.getD, List.getElem?_eq_getElem hk]
  simp
end Go.Proofs.Ytebklpbbglojmaa
