/- chansBegun answers true. -/
import Derived.Test.YtebklpbbglojmaaRefLine
import Derived.Test.YtebklpbbglojmaaSame
namespace Go.Proofs.Ytebklpbbglojmaa
set_option linter.unusedVariables false
set_option linter.unusedSimpArgs false
open Go.RowKit

theorem ints_lit {w : World} (l : List Int) {b n : Nat} {cs : Array Value} {e : TypeId} (hb : b = w.heap.size) (hn : n = l.length) (hc : cs = (l.map (Value.int .i64)).toArray) (h : l.length ≤ 1000) :
    Ints (w.alloc (.cells cs e)) (.slice (some ⟨b, 0, none⟩) n n) l := by
  subst hb hn hc
  exact Ints.of_own (n := l.length) (ownsRow_lit w _ _ 1 l.length (by simp) (by unfold maxLen; omega))

set_option maxRecDepth 100000 in
set_option maxHeartbeats 1000000 in
theorem chansBegun_any (w : World) : Calls Try.prog 17 #[] w fun e w' => e = .returned (.bool true) ∧ Below w.heap.size w w' := by
  have p1 : ∀ w v, Ints w v [1, 2] → Calls Try.prog 12 #[.int .i64 2, .agg #[v], .int .i64 3] w (LineBack w ([1, 2, 3], true, 0)) := fun w v h => put_any 2 3 v [1, 2] w h
  have p2 : ∀ w v, Ints w v [1, 2, 3] → Calls Try.prog 12 #[.int .i64 2, .agg #[v], .int .i64 4] w (LineBack w ([1, 2, 3], false, 0)) := fun w v h => put_any 2 4 v [1, 2, 3] w h
  have g1 : ∀ w v, Ints w v [1, 2, 3] → Calls Try.prog 13 #[.int .i64 2, .agg #[v]] w (LineNumBack w ([2, 3], 1, true, 0)) := fun w v h => get_any 2 v [1, 2, 3] w h
  have g2 : ∀ w v, Ints w v [9] → Calls Try.prog 13 #[.int .i64 1, .agg #[v]] w (LineNumBack w ([9], 9, true, 0)) := fun w v h => get_any 1 v [9] w h
  have P1 := hide p1
  have P2 := hide p2
  have G1 := hide g1
  have G2 := hide g2
  clear p1 p2 g1 g2
  go_enter Try.func17, Try.ntmps17
  go_wp2_with fail
  refine (P1.out _ _ (by exact ints_lit [1, 2] (by simp) rfl rfl (by simp))).mono ?_
  rintro e w1 ⟨v1, rfl, hv1, hb1⟩
  obtain ⟨A1, c1, rfl⟩ := hv1.form (n := 3) rfl
  go_wp2_with fail
  refine (P2.out _ _ (by exact (hv1.below (by repeat' (first | exact Below.refl _ _ | assumption | refine Below.alloc1 ?_ _ | refine Below.drewN1 ?_ _ | refine Below.drew ?_ | refine Below.setCell1 ?_ ?_ _ | refine Below.via ?_ (by assumption) | refine Below.viaD ?_ (by assumption) | omega | (simp; done) | (simp; omega)))).ints)).mono ?_
  rintro e w2 ⟨v2, rfl, hv2, hb2⟩
  obtain ⟨A2, c2, rfl⟩ := hv2.form (n := 3) rfl
  obtain ⟨hc2, hf2⟩ := bcell hb2; (try simp only [World.heap_drewN, World.cell?_drewN, World.frozen?_drewN] at hc2 hf2); have hs2 := hb2.size; (try simp at hs2)
  have lt0_w1_w2 : w1.heap.size < w2.heap.size := (by omega); have lt1_w1_w2 : w1.heap.size < w2.heap.size + 1 := (by omega); have lt2_w1_w2 : w1.heap.size < w2.heap.size + 1 + 1 := (by omega); have lt3_w1_w2 : w1.heap.size < w2.heap.size + 1 + 1 + 1 := (by omega); have le1_w1_w2 : w1.heap.size ≤ w2.heap.size := (by omega); have le2_w1_w2 : w1.heap.size ≤ w2.heap.size + 1 := (by omega); have le3_w1_w2 : w1.heap.size ≤ w2.heap.size + 1 + 1 := (by omega)
  go_wp2_with fail
  refine (G1.out _ _ (by exact (hv2.below (by repeat' (first | exact Below.refl _ _ | assumption | refine Below.alloc1 ?_ _ | refine Below.drewN1 ?_ _ | refine Below.drew ?_ | refine Below.setCell1 ?_ ?_ _ | refine Below.via ?_ (by assumption) | refine Below.viaD ?_ (by assumption) | omega | (simp; done) | (simp; omega)))).ints)).mono ?_
  rintro e w3 ⟨v3, rfl, hv3, hb3⟩
  obtain ⟨A3, c3, rfl⟩ := hv3.form (n := 2) rfl
  obtain ⟨hc3, hf3⟩ := bcell hb3; (try simp only [World.heap_drewN, World.cell?_drewN, World.frozen?_drewN] at hc3 hf3); have hs3 := hb3.size; (try simp at hs3)
  have lt0_w1_w3 : w1.heap.size < w3.heap.size := (by omega); have lt1_w1_w3 : w1.heap.size < w3.heap.size + 1 := (by omega); have lt2_w1_w3 : w1.heap.size < w3.heap.size + 1 + 1 := (by omega); have lt3_w1_w3 : w1.heap.size < w3.heap.size + 1 + 1 + 1 := (by omega); have le1_w1_w3 : w1.heap.size ≤ w3.heap.size := (by omega); have le2_w1_w3 : w1.heap.size ≤ w3.heap.size + 1 := (by omega); have le3_w1_w3 : w1.heap.size ≤ w3.heap.size + 1 + 1 := (by omega)
  have lt0_w2_w3 : w2.heap.size < w3.heap.size := (by omega); have lt1_w2_w3 : w2.heap.size < w3.heap.size + 1 := (by omega); have lt2_w2_w3 : w2.heap.size < w3.heap.size + 1 + 1 := (by omega); have lt3_w2_w3 : w2.heap.size < w3.heap.size + 1 + 1 + 1 := (by omega); have le1_w2_w3 : w2.heap.size ≤ w3.heap.size := (by omega); have le2_w2_w3 : w2.heap.size ≤ w3.heap.size + 1 := (by omega); have le3_w2_w3 : w2.heap.size ≤ w3.heap.size + 1 + 1 := (by omega)
  go_wp2_with fail
  refine (G2.out _ _ (by exact ints_lit [9] (by simp) rfl rfl (by simp))).mono ?_
  rintro e w4 ⟨v4, rfl, hv4, hb4⟩
  obtain ⟨A4, c4, rfl⟩ := hv4.form (n := 1) rfl
  obtain ⟨hc4, hf4⟩ := bcell hb4; (try simp only [World.heap_drewN, World.cell?_drewN, World.frozen?_drewN] at hc4 hf4); have hs4 := hb4.size; (try simp at hs4)
  have lt0_w1_w4 : w1.heap.size < w4.heap.size := (by omega); have lt1_w1_w4 : w1.heap.size < w4.heap.size + 1 := (by omega); have lt2_w1_w4 : w1.heap.size < w4.heap.size + 1 + 1 := (by omega); have lt3_w1_w4 : w1.heap.size < w4.heap.size + 1 + 1 + 1 := (by omega); have le1_w1_w4 : w1.heap.size ≤ w4.heap.size := (by omega); have le2_w1_w4 : w1.heap.size ≤ w4.heap.size + 1 := (by omega); have le3_w1_w4 : w1.heap.size ≤ w4.heap.size + 1 + 1 := (by omega)
  have lt0_w2_w4 : w2.heap.size < w4.heap.size := (by omega); have lt1_w2_w4 : w2.heap.size < w4.heap.size + 1 := (by omega); have lt2_w2_w4 : w2.heap.size < w4.heap.size + 1 + 1 := (by omega); have lt3_w2_w4 : w2.heap.size < w4.heap.size + 1 + 1 + 1 := (by omega); have le1_w2_w4 : w2.heap.size ≤ w4.heap.size := (by omega); have le2_w2_w4 : w2.heap.size ≤ w4.heap.size + 1 := (by omega); have le3_w2_w4 : w2.heap.size ≤ w4.heap.size + 1 + 1 := (by omega)
  have lt0_w3_w4 : w3.heap.size < w4.heap.size := (by omega); have lt1_w3_w4 : w3.heap.size < w4.heap.size + 1 := (by omega); have lt2_w3_w4 : w3.heap.size < w4.heap.size + 1 + 1 := (by omega); have lt3_w3_w4 : w3.heap.size < w4.heap.size + 1 + 1 + 1 := (by omega); have le1_w3_w4 : w3.heap.size ≤ w4.heap.size := (by omega); have le2_w3_w4 : w3.heap.size ≤ w4.heap.size + 1 := (by omega); have le3_w3_w4 : w3.heap.size ≤ w4.heap.size + 1 + 1 := (by omega)
  go_wp2_with fail
  refine (sameInts_any (by exact (hv3.below (by repeat' (first | exact Below.refl _ _ | assumption | refine Below.alloc1 ?_ _ | refine Below.drewN1 ?_ _ | refine Below.drew ?_ | refine Below.setCell1 ?_ ?_ _ | refine Below.via ?_ (by assumption) | refine Below.viaD ?_ (by assumption) | omega | (simp; done) | (simp; omega)))).ints) (by exact ints_lit [2, 3] (by simp) rfl rfl (by simp))).mono ?_
  rintro e w5 ⟨rfl, q5, rfl⟩
  go_wp2_with fail
  refine (sameInts_any (by exact (hv4.below (by repeat' (first | exact Below.refl _ _ | assumption | refine Below.alloc1 ?_ _ | refine Below.drewN1 ?_ _ | refine Below.drew ?_ | refine Below.setCell1 ?_ ?_ _ | refine Below.via ?_ (by assumption) | refine Below.viaD ?_ (by assumption) | omega | (simp; done) | (simp; omega)))).ints) (by exact ints_lit [9] (by simp) rfl rfl (by simp))).mono ?_
  rintro e w6 ⟨rfl, q6, rfl⟩
  go_wp2_with fail
  refine (chansCheck_any _ _ _ _ (by exact (hv1.below (by repeat' (first | exact Below.refl _ _ | assumption | refine Below.alloc1 ?_ _ | refine Below.drewN1 ?_ _ | refine Below.drew ?_ | refine Below.setCell1 ?_ ?_ _ | refine Below.via ?_ (by assumption) | refine Below.viaD ?_ (by assumption) | omega | (simp; done) | (simp; omega)))).ints)).mono ?_
  rintro e w7 ⟨rfl, hb7⟩
  obtain ⟨hc7, hf7⟩ := bcell hb7; (try simp only [World.heap_drewN, World.cell?_drewN, World.frozen?_drewN] at hc7 hf7); have hs7 := hb7.size; (try simp at hs7)
  have lt0_w1_w7 : w1.heap.size < w7.heap.size := (by omega); have lt1_w1_w7 : w1.heap.size < w7.heap.size + 1 := (by omega); have lt2_w1_w7 : w1.heap.size < w7.heap.size + 1 + 1 := (by omega); have lt3_w1_w7 : w1.heap.size < w7.heap.size + 1 + 1 + 1 := (by omega); have le1_w1_w7 : w1.heap.size ≤ w7.heap.size := (by omega); have le2_w1_w7 : w1.heap.size ≤ w7.heap.size + 1 := (by omega); have le3_w1_w7 : w1.heap.size ≤ w7.heap.size + 1 + 1 := (by omega)
  go_wp2_with fail
  refine (chansCheck_any _ _ _ _ (by exact (hv1.below (by repeat' (first | exact Below.refl _ _ | assumption | refine Below.alloc1 ?_ _ | refine Below.drewN1 ?_ _ | refine Below.drew ?_ | refine Below.setCell1 ?_ ?_ _ | refine Below.via ?_ (by assumption) | refine Below.viaD ?_ (by assumption) | omega | (simp; done) | (simp; omega)))).ints)).mono ?_
  rintro e w8 ⟨rfl, hb8⟩
  go_wp2_with fail
  go_ret
  exact ⟨rfl, (by repeat' (first | exact Below.refl _ _ | assumption | refine Below.alloc1 ?_ _ | refine Below.drewN1 ?_ _ | refine Below.drew ?_ | refine Below.setCell1 ?_ ?_ _ | refine Below.via ?_ (by assumption) | refine Below.viaD ?_ (by assumption) | omega | (simp; done) | (simp; omega)))⟩
end Go.Proofs.Ytebklpbbglojmaa
