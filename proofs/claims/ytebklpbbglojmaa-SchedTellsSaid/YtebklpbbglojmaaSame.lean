/- The reference's SameInts answers whether two lists of integers are the same. -/
import Derived.Test.YtebklpbbglojmaaProg
import Derived.Test.YtebklpbbglojmaaMem
namespace Go.Proofs.Ytebklpbbglojmaa
set_option linter.unusedVariables false
set_option linter.unusedSimpArgs false
open Go.RowKit

theorem take_succ_eq {l m : List Int} {k : Nat} (hl : k < l.length) (hm : k < m.length) (h : l.take k = m.take k) : l.take (k + 1) = m.take (k + 1) ↔ l[k] = m[k] := by
  rw [List.take_succ_eq_append_getElem hl, List.take_succ_eq_append_getElem hm, h, List.append_cancel_left_eq]; simp

set_option maxHeartbeats 400000 in
theorem sameInts_len (A B : Option Addr) (n c d : Nat) (l m : List Int) (w : World) (hn : n ≤ maxLen) (hl : l.length = n) (hm : m.length = n)
    (ha : RowAt w 1 A l.length (l.map (.int .i64))) (hb : RowAt w 1 B m.length (m.map (.int .i64))) :
    Calls Try.prog 19 #[.slice A n c, .slice B n d] w fun e w' => e = .returned (.bool (decide (l = m))) ∧ Drew w w' := by
  unfold maxLen at hn
  go_enter Try.func19, Try.ntmps19
  go_wp2
  have HL := hide hl
  have HM := hide hm
  clear hl hm
  go_loopw [5] (fun i wr => ∃ k : Nat, k ≤ n ∧ i = .int .i64 k ∧ l.take k = m.take k ∧ Drew w wr) (fun i _ => n - (intOf i).toNat)
  case atStart => exact ⟨0, by omega, rfl, rfl, Drew.refl w⟩
  case round => 
    obtain ⟨k, hk, rfl, heq, q, rfl⟩ := hrel
    have HD : Drew w (w.drewN q) := ⟨q, rfl⟩
    have hl := HL.out
    have hm := HM.out
    have HE := hide heq
    clear heq
    by_cases hlt : k < n
    · have hkl : k < l.length := by omega
      have hkm : k < m.length := by omega
      obtain ⟨x, hx⟩ : ∃ x, l[k] = x := ⟨_, rfl⟩
      obtain ⟨y, hy⟩ : ∃ x, m[k] = x := ⟨_, rfl⟩
      obtain ⟨ad, rfl, hca⟩ := ints_at ha hkl
      obtain ⟨bd, rfl, hcb⟩ := ints_at hb hkm
      rw [hx] at hca
      rw [hy] at hcb
      have ht := take_succ_eq hkl hkm HE.out
      rw [hx, hy] at ht
      have HT := hide ht
      clear ht hl hm ha hb
      by_cases hxy : x = y
      · have hxy' : (x != y) = false := by simpa using hxy
        have HX := hide hxy
        clear hxy hx hy
        go_wp2
        go_quiet (fail)
        go_wp2
        go_roundw
        case rel => exact ⟨k + 1, by omega, by go_num, HT.out.2 HX.out, (by repeat (first | exact Drew.refl _ | exact Drew.mk _ _ | refine Drew.drewN ?_ _ | refine Drew.drew ?_ | assumption))⟩
        case measure => simp [intOf]; omega
      · have hxy' : (x != y) = true := by simpa using hxy
        go_wp2
        go_quiet (fail)
        go_wp2
        go_ret
        refine ⟨?_, (by repeat (first | exact Drew.refl _ | exact Drew.mk _ _ | refine Drew.drewN ?_ _ | refine Drew.drew ?_ | assumption))⟩
        have : l ≠ m := fun e => hxy (by subst e; rw [← hx, ← hy])
        simp [this]
    · obtain rfl : k = n := by omega
      have e : l = m := by
        have := HE.out
        rwa [List.take_of_length_le (by omega), List.take_of_length_le (by omega)] at this
      clear hl hm
      go_wp2
      go_ret
      exact ⟨by simp [e], HD⟩

set_option maxHeartbeats 400000 in
theorem sameInts_any {w : World} {u v : Value} {l m : List Int} (hu : Ints w u l) (hv : Ints w v m) :
    Calls Try.prog 19 #[u, v] w fun e w' => e = .returned (.bool (decide (l = m))) ∧ Drew w w' := by
  obtain ⟨A, c, rfl, hc, hm, ha⟩ := hu
  obtain ⟨B, d, rfl, hd, hm', hb⟩ := hv
  by_cases h : l.length = m.length
  · rw [← h]
    exact sameInts_len A B l.length c d l m w (by omega) rfl h.symm ha hb
  · have hne : l ≠ m := fun e => h (by rw [e])
    obtain ⟨n, hn⟩ : ∃ n, l.length = n := ⟨_, rfl⟩
    obtain ⟨k, hk⟩ : ∃ k, m.length = k := ⟨_, rfl⟩
    rw [hn, hk] at h ⊢
    clear ha hb hc hd hn hk
    have hb : ((n : Int) != (k : Int)) = true := by simp only [bne_iff_ne, ne_eq]; omega
    go_enter Try.func19, Try.ntmps19
    go_wp2
    go_ret
    exact ⟨by simp [hne], Drew.refl _⟩
end Go.Proofs.Ytebklpbbglojmaa
