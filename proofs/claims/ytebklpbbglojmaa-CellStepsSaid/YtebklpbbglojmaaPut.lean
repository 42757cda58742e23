/- chans.Put and chans.Get answer by plain functions of the line's numbers. -/
import Derived.Test.YtebklpbbglojmaaChans
import Derived.Test.YtebklpbbglojmaaClone
namespace Go.Proofs.Ytebklpbbglojmaa
set_option linter.unusedVariables false
set_option linter.unusedSimpArgs false
open Go.RowKit

/-- what Put leaves in a line, whether it went in, and the error -/
def putOf (k : Int) (l : List Int) (x : Int) : List Int × Bool × Int :=
  if chkLine k l.length = 0 then (if k = 1 then ([x], true, 0) else if l.length < 3 then (l ++ [x], true, 0) else (l, false, 0)) else ([], false, chkLine k l.length)

theorem chk_zero {k : Int} {n : Nat} (h : chkLine k n = 0) : (k = 1 ∧ n ≤ 1) ∨ (k = 2 ∧ n ≤ 3) := by
  unfold chkLine roomIs roomOf at h
  by_cases h1 : k = 1
  · subst h1; simp at h; omega
  · by_cases h2 : k = 2
    · subst h2; simp at h; omega
    · simp [h1, h2] at h

/-- a line comes back, with a bool and an error -/
def LineBack (w0 : World) (r : List Int × Bool × Int) (e : Ending) (w' : World) : Prop :=
  ∃ v, e = .returned (.tuple #[.agg #[v], .bool r.2.1, .int .i64 r.2.2]) ∧ OwnInts w' w0.heap.size v r.1 ∧ Below w0.heap.size w0 w'

set_option maxRecDepth 100000 in
set_option maxHeartbeats 1000000 in
theorem put_any (k x : Int) (v : Value) (l : List Int) (w : World) (hv : Ints w v l) :
    Calls Try.prog 12 #[.int .i64 k, .agg #[v], .int .i64 x] w (LineBack w (putOf k l x)) := by
  by_cases h0 : chkLine k l.length = 0
  · obtain ⟨i0, hi0, hz0, hz1, hz2⟩ := info_parts info_int
    have hvw := hv.below ((Below.refl w.heap.size w).alloc1 (.cells #[v] 24))
    have hvw2 := hvw.below ((Below.refl _ _).alloc1 (.cells #[.slice none 0 0] 24))
    obtain ⟨n, hn⟩ : ∃ n, l.length = n := ⟨_, rfl⟩
    have hc1 := chansCheck_any k _ l _ hvw2
    rw [h0] at hc1
    have HC1 := hide hc1
    have hlen := chk_zero h0
    have hcl := fun w1 (hb : Below _ _ w1) => cloneInt_any (hvw2.below hb) (by omega)
    rw [hn] at hcl hlen
    have HCL := hide hcl
    clear hc1 hcl hv hvw hvw2
    rcases hlen with ⟨rfl, hl⟩ | ⟨rfl, hl⟩
    · have e : putOf 1 l x = ([x], true, 0) := by simp [putOf, h0]
      rw [e]
      clear e h0 hn
      go_enter Try.func12, Try.ntmps12
      go_wp2_with (first
        | (go_at_call 18; refine HC1.out.mono ?_; rintro e w1 ⟨rfl, hb⟩; obtain ⟨hc1, hf1⟩ := bcell hb; (try simp only [World.heap_drewN, World.cell?_drewN, World.frozen?_drewN] at hc1 hf1); have hs1 := hb.size; (try simp at hs1); have z0w1 : w.heap.size < w1.heap.size := (by omega); have z1w1 : w.heap.size + 1 < w1.heap.size := (by omega))
        | (go_at_call 43; refine (HCL.out _ hb).mono ?_; rintro e w2 ⟨A2, c2, rfl, hown2, hb2⟩; obtain ⟨hc2, hf2⟩ := bcell hb2; (try simp only [World.heap_drewN, World.cell?_drewN, World.frozen?_drewN] at hc2 hf2); have hs2 := hb2.size; (try simp at hs2); have z0w2 : w.heap.size < w2.heap.size := (by omega); have z1w2 : w.heap.size + 1 < w2.heap.size := (by omega))
        | (at_builtin; refine wpList_append_row _ rfl _ _ _ rfl w2.heap.size 3 i0 _ 1 8 Try.underlying22 hi0 hz0 hz1 hz2 rfl (by omega) (.slice none 0 0) 0 [] rfl (World.ownsRow_nil _ _ _ _) (some ⟨w2.heap.size, 0, none⟩) 1 1 [.int .i64 x] rfl (RowAt.new w2 #[.int .i64 x] 3 1 1 rfl) (oneCell_ints [x]) 1 [.int .i64 x] rfl rfl (by unfold maxLen; omega) (by omega) (by simp) ?_; intro A3 c3 w3 hown3 hg3 hat3; have hb3 := below_grown (w0 := w2) ((Below.refl _ w2).alloc1 _) (World.ownsRow_nil _ w2.heap.size 3 1) (Nat.le_refl _) hg3; obtain ⟨hc3, hf3⟩ := bcell hb3; (try simp only [World.heap_drewN, World.cell?_drewN, World.frozen?_drewN] at hc3 hf3); have hs3 := hb3.size; (try simp at hs3); have z0w3 : w.heap.size < w3.heap.size := (by omega); have z1w3 : w.heap.size + 1 < w3.heap.size := (by omega)))
      refine bodyPost_ret (v := .tuple #[.agg #[.slice A3 1 c3], .bool true, .int .i64 0]) ?_ rfl ?_
      · simp [results, Try.results12, go_sem, *]
      refine ⟨_, rfl, OwnInts.of_own (l := [x]) (ownsRow_setCell_below hown3 z1w2 _) (by omega), (by repeat' (first | exact Below.refl _ _ | assumption | refine Below.alloc1 ?_ _ | refine Below.drewN1 ?_ _ | refine Below.drew ?_ | refine Below.setCell1 ?_ ?_ _ | refine Below.via ?_ (by assumption) | refine Below.viaD ?_ (by assumption) | omega | (simp; done) | (simp; omega)))⟩
    · have h0' := h0
      rw [hn] at h0'
      by_cases h3 : n < 3
      · have e : putOf 2 l x = (l ++ [x], true, 0) := by simp [putOf, h0', hn, h3]
        rw [e]
        clear e h0 h0'
        have HN := hide hn
        have hd : decide ((n : Int) < 3) = true := by simp; omega
        have hmp : (l ++ [x]).map (Value.int .i64) = l.map (.int .i64) ++ [.int .i64 x] := by simp
        clear hn
        go_enter Try.func12, Try.ntmps12
        go_wp2_with (first
          | (go_at_call 18; refine HC1.out.mono ?_; rintro e w1 ⟨rfl, hb⟩; obtain ⟨hc1, hf1⟩ := bcell hb; (try simp only [World.heap_drewN, World.cell?_drewN, World.frozen?_drewN] at hc1 hf1); have hs1 := hb.size; (try simp at hs1); have z0w1 : w.heap.size < w1.heap.size := (by omega); have z1w1 : w.heap.size + 1 < w1.heap.size := (by omega))
          | (go_at_call 43; refine (HCL.out _ hb).mono ?_; rintro e w2 ⟨A2, c2, rfl, hown2, hb2⟩; obtain ⟨hc2, hf2⟩ := bcell hb2; (try simp only [World.heap_drewN, World.cell?_drewN, World.frozen?_drewN] at hc2 hf2); have hs2 := hb2.size; (try simp at hs2); have z0w2 : w.heap.size < w2.heap.size := (by omega); have z1w2 : w.heap.size + 1 < w2.heap.size := (by omega))
          | (at_builtin; refine wpList_append_row _ rfl _ _ _ rfl w1.heap.size 3 i0 _ 1 8 Try.underlying22 hi0 hz0 hz1 hz2 rfl (by omega) _ n _ rfl (hown2.alloc _) (some ⟨w2.heap.size, 0, none⟩) 1 1 [.int .i64 x] rfl (RowAt.new w2 #[.int .i64 x] 3 1 1 rfl) (oneCell_ints [x]) (n + 1) _ rfl rfl (by unfold maxLen; omega) (by omega) (by simp; omega) ?_; intro A3 c3 w3 hown3 hg3 hat3; have hb3 := below_grown (w0 := w1) (hb2.alloc1 _) (hown2.alloc _) (Nat.le_refl _) hg3; obtain ⟨hc3, hf3⟩ := bcell hb3; (try simp only [World.heap_drewN, World.cell?_drewN, World.frozen?_drewN] at hc3 hf3); have hs3 := hb3.size; (try simp at hs3); have z0w3 : w.heap.size < w3.heap.size := (by omega); have z1w3 : w.heap.size + 1 < w3.heap.size := (by omega)))
        refine bodyPost_ret (v := .tuple #[.agg #[.slice A3 (n + 1) c3], .bool true, .int .i64 0]) ?_ rfl ?_
        · simp [results, Try.results12, go_sem, *]
        refine ⟨_, rfl, OwnInts.of_own (l := l ++ [x]) (by rw [hmp]; exact ownsRow_setCell_below hown3 z1w1 _) (by omega), (by repeat' (first | exact Below.refl _ _ | assumption | refine Below.alloc1 ?_ _ | refine Below.drewN1 ?_ _ | refine Below.drew ?_ | refine Below.setCell1 ?_ ?_ _ | refine Below.via ?_ (by assumption) | refine Below.viaD ?_ (by assumption) | omega | (simp; done) | (simp; omega)))⟩
      · have e : putOf 2 l x = (l, false, 0) := by simp [putOf, h0', hn, h3]
        rw [e]
        clear e h0 h0' hn
        have hd : decide ((n : Int) < 3) = false := by simp; omega
        go_enter Try.func12, Try.ntmps12
        go_wp2_with (first
          | (go_at_call 18; refine HC1.out.mono ?_; rintro e w1 ⟨rfl, hb⟩; obtain ⟨hc1, hf1⟩ := bcell hb; (try simp only [World.heap_drewN, World.cell?_drewN, World.frozen?_drewN] at hc1 hf1); have hs1 := hb.size; (try simp at hs1); have z0w1 : w.heap.size < w1.heap.size := (by omega); have z1w1 : w.heap.size + 1 < w1.heap.size := (by omega))
          | (go_at_call 43; refine (HCL.out _ hb).mono ?_; rintro e w2 ⟨A2, c2, rfl, hown2, hb2⟩; obtain ⟨hc2, hf2⟩ := bcell hb2; (try simp only [World.heap_drewN, World.cell?_drewN, World.frozen?_drewN] at hc2 hf2); have hs2 := hb2.size; (try simp at hs2); have z0w2 : w.heap.size < w2.heap.size := (by omega); have z1w2 : w.heap.size + 1 < w2.heap.size := (by omega)))
        refine bodyPost_ret (v := .tuple #[.agg #[.slice A2 n c2], .bool false, .int .i64 0]) ?_ rfl ?_
        · simp [results, Try.results12, go_sem, *]
        refine ⟨_, rfl, OwnInts.of_own (ownsRow_setCell_below hown2 z1w1 _) (by omega), (by repeat' (first | exact Below.refl _ _ | assumption | refine Below.alloc1 ?_ _ | refine Below.drewN1 ?_ _ | refine Below.drew ?_ | refine Below.setCell1 ?_ ?_ _ | refine Below.via ?_ (by assumption) | refine Below.viaD ?_ (by assumption) | omega | (simp; done) | (simp; omega)))⟩
  · have e : putOf k l x = ([], false, chkLine k l.length) := by simp [putOf, h0]
    rw [e]
    clear e
    have hne : (chkLine k l.length != 0) = true := by simpa using h0
    clear h0
    have hvw := hv.below ((Below.refl w.heap.size w).alloc1 (.cells #[v] 24))
    have hvw2 := hvw.below ((Below.refl _ _).alloc1 (.cells #[.slice none 0 0] 24))
    go_enter Try.func12, Try.ntmps12
    go_wp2_with (go_at_call 18; refine (chansCheck_any _ _ _ _ hvw2).mono ?_; rintro e w1 ⟨rfl, hb⟩; obtain ⟨hc1, hf1⟩ := bcell hb; (try simp only [World.heap_drewN, World.cell?_drewN, World.frozen?_drewN] at hc1 hf1); have hs1 := hb.size; (try simp at hs1); have z0w1 : w.heap.size < w1.heap.size := (by omega); have z1w1 : w.heap.size + 1 < w1.heap.size := (by omega))
    exact bodyPost_ret (v := .tuple #[.agg #[.slice none 0 0], .bool false, .int .i64 (chkLine k l.length)]) (by simp [results, Try.results12, go_sem, *]) rfl ⟨_, rfl, OwnInts.nil_, (by repeat' (first | exact Below.refl _ _ | assumption | refine Below.alloc1 ?_ _ | refine Below.drewN1 ?_ _ | refine Below.drew ?_ | refine Below.setCell1 ?_ ?_ _ | refine Below.via ?_ (by assumption) | refine Below.viaD ?_ (by assumption) | omega | (simp; done) | (simp; omega)))⟩
end Go.Proofs.Ytebklpbbglojmaa
