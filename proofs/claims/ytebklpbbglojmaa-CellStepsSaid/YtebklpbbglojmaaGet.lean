/- chans.Get answers by a plain function of the line's numbers. -/
import Derived.Test.YtebklpbbglojmaaPut
import Derived.Deep.RegionWith
import Derived.Deep.RegionHeld3
import Derived.Deep.DeepCutAuto
namespace Go.Proofs.Ytebklpbbglojmaa
set_option linter.unusedVariables false
set_option linter.unusedSimpArgs false
open Go.RowKit

/-- what Get leaves in a line, the number, whether there was one, and the error -/
def getOf (k : Int) (l : List Int) : List Int × Int × Bool × Int :=
  if chkLine k l.length = 0 then (match l with | [] => ([], 0, false, 0) | x :: r => (if k = 2 then r else x :: r, x, true, 0)) else ([], 0, false, chkLine k l.length)

/-- a line comes back, with a number, a bool and an error -/
def LineNumBack (w0 : World) (r : List Int × Int × Bool × Int) (e : Ending) (w' : World) : Prop :=
  ∃ v, e = .returned (.tuple #[.agg #[v], .int .i64 r.2.1, .bool r.2.2.1, .int .i64 r.2.2.2]) ∧ OwnInts w' w0.heap.size v r.1 ∧ Below w0.heap.size w0 w'

/-- what is cut off at the head of a list of integers -/
theorem ints_tail {w : World} {ad : Addr} {c : Nat} {x : Int} {r : List Int} (h : RowAt w 1 (some ad) (x :: r).length ((x :: r).map (.int .i64))) (hc : (x :: r).length ≤ c) (hm : c ≤ maxLen) :
    (c = 1 → Ints w (.slice (some ad) r.length 0) r) ∧ (¬ c = 1 → Ints w (.slice (some ⟨ad.block, ad.off + 1, none⟩) r.length (c - 1)) r) := by
  have hcut := h.cut (k := 1) (by simp) hc
  have hl : (x :: r).length - 1 = r.length := by simp
  rw [hl] at hcut
  simp only [List.length_cons] at hc
  refine ⟨fun e => ?_, fun e => ?_⟩
  · rw [if_pos e] at hcut
    exact ⟨_, 0, rfl, by omega, by omega, hcut⟩
  · rw [if_neg e] at hcut
    exact ⟨_, c - 1, rfl, by omega, by omega, hcut⟩

set_option maxRecDepth 100000 in
set_option maxHeartbeats 1000000 in
theorem get_more (k x : Int) (v : Value) (r l' : List Int) (w : World) (hk : k = 1 ∧ l' = x :: r ∨ k = 2 ∧ l' = r) (h0 : chkLine k (x :: r).length = 0) (hv : Ints w v (x :: r)) :
    Calls Try.prog 13 #[.int .i64 k, .agg #[v]] w (LineNumBack w (l', x, true, 0)) := by
  have hvw := hv.below ((Below.refl w.heap.size w).alloc1 (.cells #[v] 24))
  have hvw2 := hvw.below ((Below.refl _ _).alloc1 (.cells #[.slice none 0 0] 24))
  have hc1 := chansCheck_any k _ _ _ hvw2
  rw [h0] at hc1
  have HC1 := hide hc1
  have hlen : l'.length ≤ 3 := by
    have := chk_zero h0
    simp only [List.length_cons] at this
    rcases hk with ⟨_, rfl⟩ | ⟨_, rfl⟩
    · simp only [List.length_cons]; omega
    · omega
  have HV := hide hv
  clear hc1 h0
  obtain ⟨A, c, rfl, hc, hm, hr⟩ := hv
  obtain ⟨ad, rfl, hca⟩ := ints_at hr (k := 0) (by simp)
  have e0 : ad.add 0 = ad := by simp [Addr.add]
  rw [e0] at hca
  simp only [List.getElem_cons_zero] at hca
  have hne1 := new_ne hca 1 0
  have HT := hide (ints_tail hr hc hm)
  clear hr e0 hvw hvw2
  have hl1 : (x :: r).length = r.length + 1 := rfl
  generalize (x :: r).length = n at *
  have hn0 : ((n : Int) == 0) = false := by simp; omega
  have hnp : 0 < n := by omega
  have HN := hide hl1
  clear hl1
  go_enter Try.func13, Try.ntmps13
  go_upto_if 25 with (first
    | (go_at_call 18; refine HC1.out.mono ?_; rintro e w1 ⟨rfl, hb⟩; obtain ⟨hc1, hf1⟩ := bcell hb; (try simp only [World.heap_drewN, World.cell?_drewN, World.frozen?_drewN] at hc1 hf1); have hs1 := hb.size; (try simp at hs1); have z0w1 : w.heap.size < w1.heap.size := (by omega); have z1w1 : w.heap.size + 1 < w1.heap.size := (by omega)))
  have hbw : Below w.heap.size w w1 := (by repeat' (first | exact Below.refl _ _ | assumption | refine Below.alloc1 ?_ _ | refine Below.drewN1 ?_ _ | refine Below.drew ?_ | refine Below.setCell1 ?_ ?_ _ | refine Below.via ?_ (by assumption) | refine Below.viaD ?_ (by assumption) | omega | (simp; done) | (simp; omega)))
  have hcw1 : w1.cell? ad = some (.int .i64 x) := cell_below hbw hca
  obtain ⟨m, hm'⟩ : ∃ m, l'.length = m := ⟨_, rfl⟩
  have HM := hide hm'
  clear hm'
  go_cut [9] (fun s9 wx => ∃ A' c', s9 = .slice A' m c' ∧ Ints w (.slice A' m c') l' ∧ wx = w1)
  case first =>
    rcases hk with ⟨rfl, rfl⟩ | ⟨rfl, rfl⟩
    · obtain rfl : m = n := by have h1 := HM.out; have h2 := HN.out; simp only [List.length_cons] at h1; omega
      go_wp2
      go_meet
      exact ⟨_, _, rfl, HV.out, rfl⟩
    · have hn1 : n - 1 = m := by have h1 := HM.out; have h2 := HN.out; omega
      have HN1 := hide hn1
      clear hn1
      by_cases hc' : c = 1
      · have h := hide (HT.out.1 hc')
        subst hc'
        obtain rfl : m = 0 := by have := HN1.out; omega
        go_wp2
        go_meet
        exact ⟨_, _, rfl, by have h := h.out; rw [HM.out] at h; exact h, rfl⟩
      · have h := hide (HT.out.2 hc')
        go_wp2
        go_meet
        exact ⟨_, _, by rw [HN1.out], by have h := h.out; rw [HM.out] at h; exact h, rfl⟩
  case rest =>
    obtain ⟨A', c', rfl, hv', rfl⟩ := hcut
    have hcl := fun q => cloneInt_any (w := wc.drewN q) ((hv'.below hbw).keep fun _ _ h => h) (by omega)
    rw [HM.out] at hcl
    have HCL := hide hcl
    clear hcl HT HV HC1
    go_wp2_with fail
    go_region_with (go_at_call 43; refine (HCL.out _).mono ?_; rintro e w2 ⟨A2, c2, rfl, hown2, hb2⟩; have hcw2 : w2.cell? ad = some (.int .i64 x) := cell_below hb2 hcw1; obtain ⟨hc2, hf2⟩ := bcell hb2; (try simp only [World.heap_drewN, World.cell?_drewN, World.frozen?_drewN] at hc2 hf2); have hs2 := hb2.size; (try simp at hs2); have z0w2 : w.heap.size < w2.heap.size := (by omega); have z1w2 : w.heap.size + 1 < w2.heap.size := (by omega))
    all_goals
      go_wp2
      refine bodyPost_ret (v := .tuple #[.agg #[.slice A2 m c2], .int .i64 x, .bool true, .int .i64 0]) ?_ rfl ?_
      · simp [results, Try.results13, go_sem, *]
      refine ⟨_, rfl, OwnInts.of_own (ownsRow_setCell_below hown2 z1w1 _) (by simp only [World.heap_drewN]; omega), (by repeat' (first | exact Below.refl _ _ | assumption | refine Below.alloc1 ?_ _ | refine Below.drewN1 ?_ _ | refine Below.drew ?_ | refine Below.setCell1 ?_ ?_ _ | refine Below.via ?_ (by assumption) | refine Below.viaD ?_ (by assumption) | omega | (simp; done) | (simp; omega)))⟩

set_option maxRecDepth 100000 in
set_option maxHeartbeats 1000000 in
theorem get_any (k : Int) (v : Value) (l : List Int) (w : World) (hv : Ints w v l) :
    Calls Try.prog 13 #[.int .i64 k, .agg #[v]] w (LineNumBack w (getOf k l)) := by
  have hvw := hv.below ((Below.refl w.heap.size w).alloc1 (.cells #[v] 24))
  have hvw2 := hvw.below ((Below.refl _ _).alloc1 (.cells #[.slice none 0 0] 24))
  have hc1 := chansCheck_any k _ l _ hvw2
  by_cases h0 : chkLine k l.length = 0
  · cases l with
    | cons x r =>
      have hl := chk_zero h0
      have e : getOf k (x :: r) = (if k = 2 then r else x :: r, x, true, 0) := by simp only [getOf, if_pos h0]
      rw [e]
      rcases hl with ⟨rfl, -⟩ | ⟨rfl, -⟩
      · exact get_more 1 x v r (x :: r) w (.inl ⟨rfl, rfl⟩) h0 hv
      · exact get_more 2 x v r r w (.inr ⟨rfl, rfl⟩) h0 hv
    | nil =>
      rw [h0] at hc1
      have HC1 := hide hc1
      have e : getOf k [] = ([], 0, false, 0) := by simp only [getOf, if_pos h0]
      rw [e]
      clear hvw2 hvw h0 hc1 e
      obtain ⟨A, c, rfl, -, -, -⟩ := hv
      go_enter Try.func13, Try.ntmps13
      go_wp2_with (first
        | (go_at_call 18; refine HC1.out.mono ?_; rintro e w1 ⟨rfl, hb⟩; obtain ⟨hc1, hf1⟩ := bcell hb; (try simp only [World.heap_drewN, World.cell?_drewN, World.frozen?_drewN] at hc1 hf1); have hs1 := hb.size; (try simp at hs1); have z0w1 : w.heap.size < w1.heap.size := (by omega); have z1w1 : w.heap.size + 1 < w1.heap.size := (by omega)))
      refine bodyPost_ret (v := .tuple #[.agg #[.slice none 0 0], .int .i64 0, .bool false, .int .i64 0]) ?_ rfl ?_
      · simp [results, Try.results13, go_sem, *]
      refine ⟨_, rfl, OwnInts.nil_, (by repeat' (first | exact Below.refl _ _ | assumption | refine Below.alloc1 ?_ _ | refine Below.drewN1 ?_ _ | refine Below.drew ?_ | refine Below.setCell1 ?_ ?_ _ | refine Below.via ?_ (by assumption) | refine Below.viaD ?_ (by assumption) | omega | (simp; done) | (simp; omega)))⟩
  · have e : getOf k l = ([], 0, false, chkLine k l.length) := by simp only [getOf, if_neg h0]
    rw [e]
    clear e
    have HC1 := hide hc1
    have hne : (chkLine k l.length != 0) = true := by simpa using h0
    clear h0 hc1
    go_enter Try.func13, Try.ntmps13
    go_wp2_with (first
      | (go_at_call 18; refine HC1.out.mono ?_; rintro e w1 ⟨rfl, hb⟩; obtain ⟨hc1, hf1⟩ := bcell hb; (try simp only [World.heap_drewN, World.cell?_drewN, World.frozen?_drewN] at hc1 hf1); have hs1 := hb.size; (try simp at hs1); have z0w1 : w.heap.size < w1.heap.size := (by omega); have z1w1 : w.heap.size + 1 < w1.heap.size := (by omega)))
    refine bodyPost_ret (v := .tuple #[.agg #[.slice none 0 0], .int .i64 0, .bool false, .int .i64 (chkLine k l.length)]) ?_ rfl ?_
    · simp [results, Try.results13, go_sem, *]
    refine ⟨_, rfl, OwnInts.nil_, (by repeat' (first | exact Below.refl _ _ | assumption | refine Below.alloc1 ?_ _ | refine Below.drewN1 ?_ _ | refine Below.drew ?_ | refine Below.setCell1 ?_ ?_ _ | refine Below.via ?_ (by assumption) | refine Below.viaD ?_ (by assumption) | omega | (simp; done) | (simp; omega)))⟩
end Go.Proofs.Ytebklpbbglojmaa
