/- The reference's CheckLine, PutOf and GetOf answer by the same plain functions. -/
import Derived.Test.YtebklpbbglojmaaGet
import Derived.Deep.RegionLaw
import Derived.Deep.RegionHeld3
namespace Go.Proofs.Ytebklpbbglojmaa
set_option linter.unusedVariables false
set_option linter.unusedSimpArgs false
open Go.RowKit

set_option maxHeartbeats 400000 in
theorem kindFine_any (k : Int) (w : World) :
    Calls Try.prog 44 #[.int .i64 k] w fun e w' => e = .returned (.bool (roomIs k)) ∧ w = w' := by
  by_cases h1 : k = 1
  · subst h1
    go_enter Try.func44, Try.ntmps44
    go_wp2
    go_ret
    exact ⟨rfl, rfl⟩
  by_cases h2 : k = 2
  · subst h2
    go_enter Try.func44, Try.ntmps44
    go_wp2
    go_ret
    exact ⟨rfl, rfl⟩
  · have e : roomIs k = false := by simp [roomIs, h1, h2]
    rw [e]
    have b1 : (k == 1) = false := by simpa using h1
    have b2 : (k == 2) = false := by simpa using h2
    clear e h1 h2
    go_enter Try.func44, Try.ntmps44
    go_wp2
    go_ret
    exact ⟨rfl, rfl⟩

set_option maxHeartbeats 400000 in
theorem checkLine_any (k : Int) (v : Value) (l : List Int) (w : World) (hv : Ints w v l) :
    Calls Try.prog 14 #[.int .i64 k, .agg #[v]] w fun e w' => e = .returned (.int .i64 (chkLine k l.length)) ∧ Below w.heap.size w w' := by
  obtain ⟨A, c, rfl, -, -, -⟩ := hv
  obtain ⟨n, hn⟩ : ∃ n, l.length = n := ⟨_, rfl⟩
  rw [hn]
  clear hn
  cases hk : roomIs k with
  | false =>
    have e : chkLine k n = 4 := by simp [chkLine, hk]
    rw [e]
    clear e
    go_enter Try.func14, Try.ntmps14
    go_wp2_with (go_at_call 44; refine (kindFine_any _ _).mono ?_; rintro e w1 ⟨rfl, rfl⟩)
    go_ret
    exact ⟨rfl, (by repeat' (first | exact Below.refl _ _ | assumption | refine Below.alloc1 ?_ _ | refine Below.drewN1 ?_ _ | refine Below.drew ?_ | refine Below.setCell1 ?_ ?_ _ | refine Below.via ?_ (by assumption) | refine Below.viaD ?_ (by assumption) | omega | (simp; done) | (simp; omega)))⟩
  | true =>
    have hk' : k = 1 ∨ k = 2 := by simpa [roomIs] using hk
    rcases hk' with rfl | rfl
    · by_cases hl : 1 < n
      · have e : chkLine 1 n = 2 := by simp [chkLine, roomIs, roomOf]; omega
        rw [e]
        have d1 : decide ((1 : Int) < (n : Int)) = true := by simp; omega
        clear e
        go_enter Try.func14, Try.ntmps14
        go_wp2_with (go_at_call 44; refine (kindFine_any _ _).mono ?_; rintro e w1 ⟨rfl, rfl⟩)
        go_ret
        exact ⟨rfl, (by repeat' (first | exact Below.refl _ _ | assumption | refine Below.alloc1 ?_ _ | refine Below.drewN1 ?_ _ | refine Below.drew ?_ | refine Below.setCell1 ?_ ?_ _ | refine Below.via ?_ (by assumption) | refine Below.viaD ?_ (by assumption) | omega | (simp; done) | (simp; omega)))⟩
      · have e : chkLine 1 n = 0 := by simp [chkLine, roomIs, roomOf]; omega
        rw [e]
        have d1 : decide ((1 : Int) < (n : Int)) = false := by simp; omega
        have d3 : decide ((3 : Int) < (n : Int)) = false := by simp; omega
        clear e
        go_enter Try.func14, Try.ntmps14
        go_wp2_with (go_at_call 44; refine (kindFine_any _ _).mono ?_; rintro e w1 ⟨rfl, rfl⟩)
        go_ret
        exact ⟨rfl, (by repeat' (first | exact Below.refl _ _ | assumption | refine Below.alloc1 ?_ _ | refine Below.drewN1 ?_ _ | refine Below.drew ?_ | refine Below.setCell1 ?_ ?_ _ | refine Below.via ?_ (by assumption) | refine Below.viaD ?_ (by assumption) | omega | (simp; done) | (simp; omega)))⟩
    · by_cases hl : 3 < n
      · have e : chkLine 2 n = 2 := by simp [chkLine, roomIs, roomOf]; omega
        rw [e]
        have d3 : decide ((3 : Int) < (n : Int)) = true := by simp; omega
        clear e
        go_enter Try.func14, Try.ntmps14
        go_wp2_with (go_at_call 44; refine (kindFine_any _ _).mono ?_; rintro e w1 ⟨rfl, rfl⟩)
        go_ret
        exact ⟨rfl, (by repeat' (first | exact Below.refl _ _ | assumption | refine Below.alloc1 ?_ _ | refine Below.drewN1 ?_ _ | refine Below.drew ?_ | refine Below.setCell1 ?_ ?_ _ | refine Below.via ?_ (by assumption) | refine Below.viaD ?_ (by assumption) | omega | (simp; done) | (simp; omega)))⟩
      · have e : chkLine 2 n = 0 := by simp [chkLine, roomIs, roomOf]; omega
        rw [e]
        have d3 : decide ((3 : Int) < (n : Int)) = false := by simp; omega
        clear e
        go_enter Try.func14, Try.ntmps14
        go_wp2_with (go_at_call 44; refine (kindFine_any _ _).mono ?_; rintro e w1 ⟨rfl, rfl⟩)
        go_ret
        exact ⟨rfl, (by repeat' (first | exact Below.refl _ _ | assumption | refine Below.alloc1 ?_ _ | refine Below.drewN1 ?_ _ | refine Below.drew ?_ | refine Below.setCell1 ?_ ?_ _ | refine Below.via ?_ (by assumption) | refine Below.viaD ?_ (by assumption) | omega | (simp; done) | (simp; omega)))⟩

/-- a line comes back, and a bool -/
def LineIsBack (w0 : World) (r : List Int × Bool) (e : Ending) (w' : World) : Prop :=
  ∃ v, e = .returned (.tuple #[.agg #[v], .bool r.2]) ∧ OwnInts w' w0.heap.size v r.1 ∧ Below w0.heap.size w0 w'

set_option maxRecDepth 100000 in
set_option maxHeartbeats 1000000 in
theorem putOfR_any (k x : Int) (v : Value) (l : List Int) (w : World) (hv : Ints w v l) (h0 : chkLine k l.length = 0) :
    Calls Try.prog 15 #[.int .i64 k, .agg #[v], .int .i64 x] w (LineIsBack w ((putOf k l x).1, (putOf k l x).2.1)) := by
  obtain ⟨i0, hi0, hz0, hz1, hz2⟩ := info_parts info_int
  obtain ⟨A, c, rfl, hc, hm, hr⟩ := hv
  have hlen := chk_zero h0
  have hm1 : l.length ≤ 1048576 := by omega
  obtain ⟨n, hn⟩ : ∃ n, l.length = n := ⟨_, rfl⟩
  have ho := oneCell_ints l
  rcases hlen with ⟨rfl, hl⟩ | ⟨rfl, hl⟩
  · have e : putOf 1 l x = ([x], true, 0) := by simp [putOf, h0]
    rw [e, hn]
    clear e h0 hn hr hc hm hl hm1
    clear ho
    go_enter Try.func15, Try.ntmps15
    go_wp2
    refine bodyPost_ret (v := .tuple #[.agg #[.slice (some ⟨w.heap.size + 1 + 1, 0, none⟩) 1 1], .bool true]) ?_ rfl ?_
    · simp [results, Try.results15, go_sem, *]
    have ho := fun Y => ownsRow_lit ((w.alloc (.cells #[.slice A n c] 24)).alloc Y) #[.int .i64 x] 3 1 1 rfl (by unfold maxLen; omega)
    simp only [World.size_alloc] at ho
    refine ⟨_, rfl, OwnInts.of_own (l := [x]) (ho _) (by omega), (by repeat' (first | exact Below.refl _ _ | assumption | refine Below.alloc1 ?_ _ | refine Below.drewN1 ?_ _ | refine Below.drew ?_ | refine Below.setCell1 ?_ ?_ _ | refine Below.via ?_ (by assumption) | refine Below.viaD ?_ (by assumption) | omega | (simp; done) | (simp; omega)))⟩
  · have hr' := hr.below ((Below.refl w.heap.size w).alloc1 (.cells #[.slice A l.length c] 24) |>.alloc1 (.cells #[.slice none 0 0] 24) |>.alloc1 (.cells #[] 3))
    rw [hn] at hr' hl hm1 hc ⊢
    by_cases h3 : l.length < 3
    · have e : putOf 2 l x = (l ++ [x], true, 0) := by simp [putOf, h0, h3]
      rw [e]
      have hown0 := ownsRow_empty ((w.alloc (.cells #[.slice A n c] 24)).alloc (.cells #[.slice none 0 0] 24)) 3 1
      simp only [World.size_alloc] at hown0
      have hb3 : ((n : Int) == 3) = false := by simp; omega
      have hmp : (l ++ [x]).map (Value.int .i64) = l.map (.int .i64) ++ [.int .i64 x] := by simp
      have HN := hide hn
      clear e h0 hn hr h3
      go_enter Try.func15, Try.ntmps15
      go_wp2_with (first
        | (at_builtin; refine wpList_append_row _ rfl (.tmp 22) (.tmp 24) _ rfl (w.heap.size + 1 + 1) 3 i0 _ 1 8 Try.underlying22 hi0 hz0 hz1 hz2 rfl (by omega) _ 0 [] rfl hown0 A n c _ rfl hr' ho n _ (by omega) rfl (by unfold maxLen; omega) (by omega) (by simp) ?_; intro A2 c2 w2 hown2 hg2 hat2; have hb2 := below_grown (w0 := (w.alloc (.cells #[.slice A n c] 24)).alloc (.cells #[.slice none 0 0] 24)) ((Below.refl _ _).alloc1 _) hown0 (by simp) hg2; obtain ⟨hc2, hf2⟩ := bcell hb2; (try simp only [World.heap_drewN, World.cell?_drewN, World.frozen?_drewN] at hc2 hf2); have hs2 := hb2.size; (try simp at hs2); have z0w2 : w.heap.size < w2.heap.size := (by omega); have z1w2 : w.heap.size + 1 < w2.heap.size := (by omega))
        | (at_builtin; refine wpList_append_row _ rfl (.tmp 25) (.tmp 27) _ rfl (w.heap.size + 1 + 1) 3 i0 _ 1 8 Try.underlying22 hi0 hz0 hz1 hz2 rfl (by omega) _ n _ rfl (hown2.alloc _) (some ⟨w2.heap.size, 0, none⟩) 1 1 [.int .i64 x] rfl (RowAt.new w2 #[.int .i64 x] 3 1 1 rfl) (oneCell_ints [x]) (n + 1) _ rfl rfl (by unfold maxLen; omega) (by omega) (by simp; omega) ?_; intro A3 c3 w3 hown3 hg3 hat3; have hb3 := below_grown (w0 := (w.alloc (.cells #[.slice A n c] 24)).alloc (.cells #[.slice none 0 0] 24)) (hb2.alloc1 _) (hown2.alloc _) (by simp) hg3; obtain ⟨hc3, hf3⟩ := bcell hb3; (try simp only [World.heap_drewN, World.cell?_drewN, World.frozen?_drewN] at hc3 hf3); have hs3 := hb3.size; (try simp at hs3); have z0w3 : w.heap.size < w3.heap.size := (by omega); have z1w3 : w.heap.size + 1 < w3.heap.size := (by omega)))
      refine bodyPost_ret (v := .tuple #[.agg #[.slice A3 (n + 1) c3], .bool true]) ?_ rfl ?_
      · simp [results, Try.results15, go_sem, *]
      refine ⟨_, rfl, OwnInts.of_own (l := l ++ [x]) (by rw [hmp]; exact ownsRow_setCell_below hown3 (by simp) _) (by omega), (by repeat' (first | exact Below.refl _ _ | assumption | refine Below.alloc1 ?_ _ | refine Below.drewN1 ?_ _ | refine Below.drew ?_ | refine Below.setCell1 ?_ ?_ _ | refine Below.via ?_ (by assumption) | refine Below.viaD ?_ (by assumption) | omega | (simp; done) | (simp; omega)))⟩
    · have e : putOf 2 l x = (l, false, 0) := by simp [putOf, h0, h3]
      rw [e]
      obtain rfl : n = 3 := by omega
      have hown0 := ownsRow_empty ((w.alloc (.cells #[.slice A 3 c] 24)).alloc (.cells #[.slice none 0 0] 24)) 3 1
      simp only [World.size_alloc] at hown0
      have HN := hide hn
      clear e h0 hn hr h3
      go_enter Try.func15, Try.ntmps15
      go_wp2_with (first
        | (at_builtin; refine wpList_append_row _ rfl (.tmp 17) (.tmp 19) _ rfl (w.heap.size + 1 + 1) 3 i0 _ 1 8 Try.underlying22 hi0 hz0 hz1 hz2 rfl (by omega) _ 0 [] rfl hown0 A 3 c _ rfl hr' ho 3 _ (by omega) rfl (by unfold maxLen; omega) (by omega) (by simp) ?_; intro A2 c2 w2 hown2 hg2 hat2; have hb2 := below_grown (w0 := (w.alloc (.cells #[.slice A 3 c] 24)).alloc (.cells #[.slice none 0 0] 24)) ((Below.refl _ _).alloc1 _) hown0 (by simp) hg2; obtain ⟨hc2, hf2⟩ := bcell hb2; (try simp only [World.heap_drewN, World.cell?_drewN, World.frozen?_drewN] at hc2 hf2); have hs2 := hb2.size; (try simp at hs2); have z0w2 : w.heap.size < w2.heap.size := (by omega); have z1w2 : w.heap.size + 1 < w2.heap.size := (by omega)))
      refine bodyPost_ret (v := .tuple #[.agg #[.slice A2 3 c2], .bool false]) ?_ rfl ?_
      · simp [results, Try.results15, go_sem, *]
      refine ⟨_, rfl, OwnInts.of_own (ownsRow_setCell_below hown2 (by simp) _) (by omega), (by repeat' (first | exact Below.refl _ _ | assumption | refine Below.alloc1 ?_ _ | refine Below.drewN1 ?_ _ | refine Below.drew ?_ | refine Below.setCell1 ?_ ?_ _ | refine Below.via ?_ (by assumption) | refine Below.viaD ?_ (by assumption) | omega | (simp; done) | (simp; omega)))⟩

theorem row_tail {w : World} {ad : Addr} {c : Nat} {x : Int} {r : List Int} (h : RowAt w 1 (some ad) (x :: r).length ((x :: r).map (.int .i64))) (hc : (x :: r).length ≤ c) :
    (c = 1 → RowAt w 1 (some ad) r.length (r.map (.int .i64))) ∧ (¬ c = 1 → RowAt w 1 (some ⟨ad.block, ad.off + 1, none⟩) r.length (r.map (.int .i64))) := by
  have hcut := h.cut (k := 1) (by simp) hc
  have hl : (x :: r).length - 1 = r.length := by simp
  rw [hl] at hcut
  exact ⟨fun e => by rw [if_pos e] at hcut; exact hcut, fun e => by rw [if_neg e] at hcut; exact hcut⟩

/-- a line comes back, a number and a bool -/
def LineNumIsBack (w0 : World) (r : List Int × Int × Bool) (e : Ending) (w' : World) : Prop :=
  ∃ v, e = .returned (.tuple #[.agg #[v], .int .i64 r.2.1, .bool r.2.2]) ∧ OwnInts w' w0.heap.size v r.1 ∧ Below w0.heap.size w0 w'

set_option maxRecDepth 100000 in
set_option maxHeartbeats 1000000 in
theorem getOfR_more (k x : Int) (v : Value) (r l' : List Int) (w : World) (hk : k = 1 ∧ l' = x :: r ∨ k = 2 ∧ l' = r) (h0 : chkLine k (x :: r).length = 0) (hv : Ints w v (x :: r)) :
    Calls Try.prog 16 #[.int .i64 k, .agg #[v]] w (LineNumIsBack w (l', x, true)) := by
  obtain ⟨i0, hi0, hz0, hz1, hz2⟩ := info_parts info_int
  have hlen : l'.length ≤ 3 := by
    have := chk_zero h0
    simp only [List.length_cons] at this
    rcases hk with ⟨_, rfl⟩ | ⟨_, rfl⟩
    · simp only [List.length_cons]; omega
    · omega
  have HV := hide hv
  clear h0
  obtain ⟨A, c, rfl, hc, hm, hr⟩ := hv
  obtain ⟨ad, rfl, hca⟩ := ints_at hr (k := 0) (by simp)
  have e0 : ad.add 0 = ad := by simp [Addr.add]
  rw [e0] at hca
  simp only [List.getElem_cons_zero] at hca
  have hne1 := new_ne hca 1 0
  have hlt := World.block_lt_of_cell? w _ hca
  have hlt1 : ad.block < w.heap.size + 1 := by omega
  have hlt2 : ad.block < w.heap.size + 1 + 1 := by omega
  have HRW := hide hr
  have HT := hide (row_tail hr hc)
  clear hr e0
  have hl1 : (x :: r).length = r.length + 1 := rfl
  generalize (x :: r).length = n at *
  have hn0 : ((n : Int) == 0) = false := by simp; omega
  have hnp : 0 < n := by omega
  have HN := hide hl1
  clear hl1
  obtain ⟨m, hm'⟩ : ∃ m, l'.length = m := ⟨_, rfl⟩
  rw [hm'] at hlen
  have HM := hide hm'
  clear hm'
  have hown0 := ownsRow_empty ((w.alloc (.cells #[.slice (some ad) n c] 24)).alloc (.cells #[.slice none 0 0] 24)) 3 1
  simp only [World.size_alloc] at hown0
  have hoc := oneCell_ints l'
  rcases hk with ⟨rfl, rfl⟩ | ⟨rfl, rfl⟩
  · obtain rfl : m = n := by have h1 := HM.out; have h2 := HN.out; simp only [List.length_cons] at h1; omega
    have hrw := HRW.out
    go_enter Try.func16, Try.ntmps16
    go_wp2
    have hrow := hrw.below ((Below.refl w.heap.size w).alloc1 (.cells #[.slice (some ad) m c] 24) |>.alloc1 (.cells #[.slice none 0 0] 24) |>.alloc1 (.cells #[] 3))
    go_region_held3 (fun w' => w'.cell? ad = some (.int .i64 x) ∧ w'.cell? ⟨w.heap.size, 0, none⟩ = some (.slice (some ad) m c))
      (repeat' (first | with_reducible assumption | with_reducible refine And.intro ?_ ?_ | (simp [World.cell?_alloc_new]; done) | with_reducible refine cell_drew ?_ | with_reducible refine cell_drewN ?_ | with_reducible refine cell_alloc ?_ | (with_reducible apply cell_below; (with_reducible assumption)) | (with_reducible apply cell_same; (with_reducible assumption)) | (with_reducible apply cell_set; (focus (first | with_reducible assumption | (simp; done) | (simp; omega))))))
      ((refine step_append_row _ rfl _ _ _ rfl (w.heap.size + 1 + 1) 3 i0 _ 1 8 Try.underlying22 hi0 hz0 hz1 hz2 rfl (by omega) _ 0 [] rfl hown0 (some ad) m c ((x :: r).map (.int .i64)) rfl (by exact hrow) hoc m ((x :: r).map (.int .i64)) (by omega) rfl (by unfold maxLen; omega) (by omega) (by simp) ?_; intro A2 c2 w2 hown2 hg2 hat2; have hb2 := below_grown (w0 := (w.alloc (.cells #[.slice (some ad) m c] 24)).alloc (.cells #[.slice none 0 0] 24)) (((Below.refl _ _).alloc1 _).drew) hown0 (by simp) hg2; obtain ⟨hc2, hf2⟩ := bcell hb2; (try simp only [World.heap_drewN, World.cell?_drewN, World.frozen?_drewN] at hc2 hf2); have hs2 := hb2.size; (try simp at hs2); have z0w2 : w.heap.size < w2.heap.size := (by omega); have z1w2 : w.heap.size + 1 < w2.heap.size := (by omega)))
    go_wp2
    refine bodyPost_ret (v := .tuple #[.agg #[.slice A2 m c2], .int .i64 x, .bool true]) ?_ rfl ?_
    · simp [results, Try.results16, go_sem, *]
    refine ⟨_, rfl, OwnInts.of_own (l := (x :: r)) (ownsRow_setCell_below hown2 (by simp) _) (by omega), (by repeat' (first | exact Below.refl _ _ | assumption | refine Below.alloc1 ?_ _ | refine Below.drewN1 ?_ _ | refine Below.drew ?_ | refine Below.setCell1 ?_ ?_ _ | refine Below.via ?_ (by assumption) | refine Below.viaD ?_ (by assumption) | omega | (simp; done) | (simp; omega)))⟩
  · have hn1 : n - 1 = m := by have h1 := HM.out; have h2 := HN.out; omega
    have e2 : ∀ A' : Option Addr, RowAt w 1 A' l'.length (l'.map (.int .i64)) → RowAt w 1 A' m (l'.map (.int .i64)) := fun A' h => by rw [HM.out] at h; exact h
    have HN1 := hide hn1
    clear hn1
    by_cases hc' : c = 1
    · have hrw := e2 _ (HT.out.1 hc')
      clear e2
      subst hc'
      obtain rfl : m = 0 := by have := HN1.out; omega
      obtain rfl : n = 1 := by have := HN1.out; omega
      go_enter Try.func16, Try.ntmps16
      go_wp2
      have hrow := hrw.below ((Below.refl w.heap.size w).alloc1 (.cells #[.slice (some ad) 1 1] 24) |>.alloc1 (.cells #[.slice none 0 0] 24) |>.alloc1 (.cells #[] 3))
      go_region_held3 (fun w' => w'.cell? ad = some (.int .i64 x) ∧ w'.cell? ⟨w.heap.size, 0, none⟩ = some (.slice (some ad) 1 1))
        (repeat' (first | with_reducible assumption | with_reducible refine And.intro ?_ ?_ | (simp [World.cell?_alloc_new]; done) | with_reducible refine cell_drew ?_ | with_reducible refine cell_drewN ?_ | with_reducible refine cell_alloc ?_ | (with_reducible apply cell_below; (with_reducible assumption)) | (with_reducible apply cell_same; (with_reducible assumption)) | (with_reducible apply cell_set; (focus (first | with_reducible assumption | (simp; done) | (simp; omega))))))
        ((refine step_append_row _ rfl _ _ _ rfl (w.heap.size + 1 + 1) 3 i0 _ 1 8 Try.underlying22 hi0 hz0 hz1 hz2 rfl (by omega) _ 0 [] rfl hown0 (some ad) 0 0 (l'.map (.int .i64)) rfl (by exact hrow) hoc 0 (l'.map (.int .i64)) (by omega) rfl (by unfold maxLen; omega) (by omega) (by simp) ?_; intro A2 c2 w2 hown2 hg2 hat2; have hb2 := below_grown (w0 := (w.alloc (.cells #[.slice (some ad) 1 1] 24)).alloc (.cells #[.slice none 0 0] 24)) (((Below.refl _ _).alloc1 _).drew) hown0 (by simp) hg2; obtain ⟨hc2, hf2⟩ := bcell hb2; (try simp only [World.heap_drewN, World.cell?_drewN, World.frozen?_drewN] at hc2 hf2); have hs2 := hb2.size; (try simp at hs2); have z0w2 : w.heap.size < w2.heap.size := (by omega); have z1w2 : w.heap.size + 1 < w2.heap.size := (by omega)))
      go_wp2
      refine bodyPost_ret (v := .tuple #[.agg #[.slice A2 0 c2], .int .i64 x, .bool true]) ?_ rfl ?_
      · simp [results, Try.results16, go_sem, *]
      refine ⟨_, rfl, OwnInts.of_own (l := l') (ownsRow_setCell_below hown2 (by simp) _) (by omega), (by repeat' (first | exact Below.refl _ _ | assumption | refine Below.alloc1 ?_ _ | refine Below.drewN1 ?_ _ | refine Below.drew ?_ | refine Below.setCell1 ?_ ?_ _ | refine Below.via ?_ (by assumption) | refine Below.viaD ?_ (by assumption) | omega | (simp; done) | (simp; omega)))⟩
    · have hrw := e2 _ (HT.out.2 hc')
      clear e2
      have h1n : 1 ≤ n := hnp
      have h1c : 1 ≤ c := by omega
      have h1n' : (1 : Int) ≤ (n : Int) := by omega
      have h1c' : (1 : Int) ≤ (c : Int) := by omega
      go_enter Try.func16, Try.ntmps16
      go_wp2
      have hrow := hrw.below ((Below.refl w.heap.size w).alloc1 (.cells #[.slice (some ad) n c] 24) |>.alloc1 (.cells #[.slice none 0 0] 24) |>.alloc1 (.cells #[] 3))
      rw [← HN1.out] at hrow hlen
      go_region_held3 (fun w' => w'.cell? ad = some (.int .i64 x) ∧ w'.cell? ⟨w.heap.size, 0, none⟩ = some (.slice (some ad) n c))
        (repeat' (first | with_reducible assumption | with_reducible refine And.intro ?_ ?_ | (simp [World.cell?_alloc_new]; done) | with_reducible refine cell_drew ?_ | with_reducible refine cell_drewN ?_ | with_reducible refine cell_alloc ?_ | (with_reducible apply cell_below; (with_reducible assumption)) | (with_reducible apply cell_same; (with_reducible assumption)) | (with_reducible apply cell_set; (focus (first | with_reducible assumption | (simp; done) | (simp; omega))))))
        ((refine step_append_row _ rfl _ _ _ rfl (w.heap.size + 1 + 1) 3 i0 _ 1 8 Try.underlying22 hi0 hz0 hz1 hz2 rfl (by omega) _ 0 [] rfl hown0 _ (n - 1) (c - 1) (l'.map (.int .i64)) rfl (by exact hrow) hoc (n - 1) (l'.map (.int .i64)) (by omega) rfl (by unfold maxLen; omega) (by omega) (by simp) ?_; intro A2 c2 w2 hown2 hg2 hat2; have hb2 := below_grown (w0 := (w.alloc (.cells #[.slice (some ad) n c] 24)).alloc (.cells #[.slice none 0 0] 24)) (((Below.refl _ _).alloc1 _).drew) hown0 (by simp) hg2; obtain ⟨hc2, hf2⟩ := bcell hb2; (try simp only [World.heap_drewN, World.cell?_drewN, World.frozen?_drewN] at hc2 hf2); have hs2 := hb2.size; (try simp at hs2); have z0w2 : w.heap.size < w2.heap.size := (by omega); have z1w2 : w.heap.size + 1 < w2.heap.size := (by omega)))
      go_wp2
      refine bodyPost_ret (v := .tuple #[.agg #[.slice A2 (n - 1) c2], .int .i64 x, .bool true]) ?_ rfl ?_
      · simp [results, Try.results16, go_sem, *]
      refine ⟨_, rfl, OwnInts.of_own (l := l') (ownsRow_setCell_below hown2 (by simp) _) (by omega), (by repeat' (first | exact Below.refl _ _ | assumption | refine Below.alloc1 ?_ _ | refine Below.drewN1 ?_ _ | refine Below.drew ?_ | refine Below.setCell1 ?_ ?_ _ | refine Below.via ?_ (by assumption) | refine Below.viaD ?_ (by assumption) | omega | (simp; done) | (simp; omega)))⟩

set_option maxRecDepth 100000 in
set_option maxHeartbeats 1000000 in
theorem getOfR_any (k : Int) (v : Value) (l : List Int) (w : World) (hv : Ints w v l) (h0 : chkLine k l.length = 0) :
    Calls Try.prog 16 #[.int .i64 k, .agg #[v]] w (LineNumIsBack w ((getOf k l).1, (getOf k l).2.1, (getOf k l).2.2.1)) := by
  cases l with
  | cons x r =>
    have e : getOf k (x :: r) = (if k = 2 then r else x :: r, x, true, 0) := by simp only [getOf, if_pos h0]
    rw [e]
    rcases chk_zero h0 with ⟨rfl, -⟩ | ⟨rfl, -⟩
    · exact getOfR_more 1 x v r (x :: r) w (.inl ⟨rfl, rfl⟩) h0 hv
    · exact getOfR_more 2 x v r r w (.inr ⟨rfl, rfl⟩) h0 hv
  | nil =>
    have e : getOf k [] = ([], 0, false, 0) := by simp only [getOf, if_pos h0]
    rw [e]
    clear e h0
    obtain ⟨A, c, rfl, -, -, -⟩ := hv
    go_enter Try.func16, Try.ntmps16
    go_wp2
    refine bodyPost_ret (v := .tuple #[.agg #[.slice none 0 0], .int .i64 0, .bool false]) ?_ rfl ?_
    · simp [results, Try.results16, go_sem]
    refine ⟨_, rfl, OwnInts.nil_, (by repeat' (first | exact Below.refl _ _ | assumption | refine Below.alloc1 ?_ _ | refine Below.drewN1 ?_ _ | refine Below.drew ?_ | refine Below.setCell1 ?_ ?_ _ | refine Below.via ?_ (by assumption) | refine Below.viaD ?_ (by assumption) | omega | (simp; done) | (simp; omega)))⟩
end Go.Proofs.Ytebklpbbglojmaa
