/- code.Check and the reference's CheckCode answer by one plain function of a program. -/
import Derived.Test.YtebklpbbglojmaaIsaChk
import Derived.Test.YtebklpbbglojmaaData
namespace Go.Proofs.Ytebklpbbglojmaa
set_option linter.unusedVariables false
set_option linter.unusedSimpArgs false
open Go.RowKit

def chkIns (i : Ins) : Int := chkI i.op i.a i.b i.n
/-- the first error -/
def firstErr : List Ins → Int
  | [] => 0
  | i :: r => if chkIns i = 0 then firstErr r else chkIns i
/-- Check of a program -/
def chkCode (l : List Ins) : Int := if l.length < 1 ∨ 20 < l.length then 2 else firstErr l
theorem firstErr_drop (l : List Ins) (k : Nat) (hk : k < l.length) : firstErr (l.drop k) = if chkIns l[k] = 0 then firstErr (l.drop (k + 1)) else chkIns l[k] := by
  rw [List.drop_eq_getElem_cons hk]; rfl

set_option maxRecDepth 100000 in
set_option maxHeartbeats 1000000 in
theorem codeCheck_right (v : Value) (l : List Ins) (w : World) (hv : Code_ w v l) (h1 : 1 ≤ l.length) (h2 : l.length ≤ 20) :
    Calls Try.prog 46 #[v] w fun e w' => e = .returned (.int .i64 (firstErr l)) ∧ Below w.heap.size w w' := by
  obtain ⟨A, c, rfl, hc, hm, hr⟩ := hv
  obtain ⟨m, hml⟩ : ∃ m, l.length = m := ⟨_, rfl⟩
  rw [hml] at h1 h2 ⊢
  have HR := hide hr
  have HM := hide hml
  clear hr hml hc hm
  have d1 : decide ((m : Int) < 1) = false := by simp; omega
  have d2 : decide (20 < (m : Int)) = false := by simp; omega
  go_enter Try.func46, Try.ntmps46
  go_wp2_with fail
  go_loopg [16] m (fun g i wr => ∃ k : Nat, g + k = m ∧ i = .int .i64 k ∧ firstErr l = firstErr (l.drop k) ∧ Below w.heap.size w wr)
  case atStart => exact ⟨0, by omega, rfl, by simp, Below.refl _ _⟩
  case round =>
    obtain ⟨k, hg, rfl, hfe, hbw⟩ := hrel
    by_cases hk : k < m
    · have hkl : k < l.length := by have := HM.out; omega
      obtain ⟨ad, rfl, hcell0, hcell⟩ := flat_at Ins.cells_len HR.out hkl
      have hd := firstErr_drop l k hkl
      generalize l[k] = i at *
      have c0 := cell_below hbw (hcell0 _ rfl)
      have c1 := cell_below hbw (hcell 0 _ rfl)
      have c2 := cell_below hbw (hcell 1 _ rfl)
      have c3 := cell_below hbw (hcell 2 _ rfl)
      have HFE := hide (hfe.trans hd)
      have HG := hide hg
      have HB := hide hbw
      clear hcell hcell0 hd hfe hg hbw
      have hci := fun w => isaCheck_any i.op i.a i.b i.n w
      by_cases hi : chkIns i = 0
      · rw [show chkI i.op i.a i.b i.n = 0 from hi] at hci
        have HCI := hide hci
        have HI := hide hi
        clear hci hi
        go_wp2_with (go_at_call 81; refine (HCI.out _).mono ?_; rintro e w1 ⟨rfl, hb⟩; obtain ⟨hc1, hf1⟩ := bcell hb; (try simp only [World.heap_drewN, World.cell?_drewN, World.frozen?_drewN] at hc1 hf1); have hs1 := hb.size; (try simp at hs1))
        obtain ⟨g', rfl⟩ : ∃ g', gk = g' + 1 := ⟨gk - 1, by have := HG.out; omega⟩
        go_roundg g'
        case measure => omega
        case rel =>
          have hbw := HB.out
          exact ⟨k + 1, by have := HG.out; omega, by go_num, by rw [HFE.out, if_pos HI.out], (by repeat' (first | exact Below.refl _ _ | assumption | refine Below.alloc1 ?_ _ | refine Below.drewN1 ?_ _ | refine Below.drew ?_ | refine Below.setCell1 ?_ ?_ _ | refine Below.via ?_ (by assumption) | refine Below.viaD ?_ (by assumption) | omega | (simp; done) | (simp; omega)))⟩
      · have hi' : (chkI i.op i.a i.b i.n != 0) = true := by simpa [chkIns] using hi
        have HCI := hide hci
        have HI := hide (show firstErr l = chkI i.op i.a i.b i.n by rw [HFE.out, if_neg hi]; rfl)
        clear hci hi
        go_wp2_with (go_at_call 81; refine (HCI.out _).mono ?_; rintro e w1 ⟨rfl, hb⟩; obtain ⟨hc1, hf1⟩ := bcell hb; (try simp only [World.heap_drewN, World.cell?_drewN, World.frozen?_drewN] at hc1 hf1); have hs1 := hb.size; (try simp at hs1))
        go_ret
        have hbw := HB.out
        exact ⟨by rw [HI.out]; rfl, (by repeat' (first | exact Below.refl _ _ | assumption | refine Below.alloc1 ?_ _ | refine Below.drewN1 ?_ _ | refine Below.drew ?_ | refine Below.setCell1 ?_ ?_ _ | refine Below.via ?_ (by assumption) | refine Below.viaD ?_ (by assumption) | omega | (simp; done) | (simp; omega)))⟩
    · have HFE := hide (show firstErr l = 0 by rw [hfe, List.drop_of_length_le (by have := HM.out; omega)]; rfl)
      clear hfe
      go_wp2_with fail
      go_ret
      exact ⟨by rw [HFE.out]; rfl, hbw⟩
set_option maxRecDepth 100000 in
theorem codeCheck_any (v : Value) (l : List Ins) (w : World) (hv : Code_ w v l) :
    Calls Try.prog 46 #[v] w fun e w' => e = .returned (.int .i64 (chkCode l)) ∧ Below w.heap.size w w' := by
  by_cases h1 : l.length < 1 ∨ 20 < l.length
  · rw [show chkCode l = 2 from if_pos h1]
    obtain ⟨A, c, rfl, hc, hm, -⟩ := hv
    generalize l.length = m at *
    rcases Nat.lt_or_ge m 1 with h | h
    · have d1 : decide ((m : Int) < 1) = true := by simp; omega
      clear h1
      go_enter Try.func46, Try.ntmps46
      go_wp2_with fail
      go_ret
      exact ⟨rfl, (by repeat' (first | exact Below.refl _ _ | assumption | refine Below.alloc1 ?_ _ | refine Below.drewN1 ?_ _ | refine Below.drew ?_ | refine Below.setCell1 ?_ ?_ _ | refine Below.via ?_ (by assumption) | refine Below.viaD ?_ (by assumption) | omega | (simp; done) | (simp; omega)))⟩
    · have d1 : decide ((m : Int) < 1) = false := by simp; omega
      have d2 : decide (20 < (m : Int)) = true := by simp; omega
      clear h1
      go_enter Try.func46, Try.ntmps46
      go_wp2_with fail
      go_ret
      exact ⟨rfl, (by repeat' (first | exact Below.refl _ _ | assumption | refine Below.alloc1 ?_ _ | refine Below.drewN1 ?_ _ | refine Below.drew ?_ | refine Below.setCell1 ?_ ?_ _ | refine Below.via ?_ (by assumption) | refine Below.viaD ?_ (by assumption) | omega | (simp; done) | (simp; omega)))⟩
  · rw [show chkCode l = firstErr l from if_neg h1]
    exact codeCheck_right v l w hv (by omega) (by omega)

set_option maxRecDepth 100000 in
set_option maxHeartbeats 1000000 in
theorem checkCode_right (v : Value) (l : List Ins) (w : World) (hv : Code_ w v l) (h1 : 1 ≤ l.length) (h2 : l.length ≤ 20) :
    Calls Try.prog 48 #[v] w fun e w' => e = .returned (.int .i64 (firstErr l)) ∧ Below w.heap.size w w' := by
  obtain ⟨A, c, rfl, hc, hm, hr⟩ := hv
  obtain ⟨m, hml⟩ : ∃ m, l.length = m := ⟨_, rfl⟩
  rw [hml] at h1 h2 ⊢
  have HR := hide hr
  have HM := hide hml
  have hwi := fun w => within_any (m : Int) 1 20 w
  rw [show (decide (1 ≤ (m : Int)) && decide ((m : Int) ≤ 20)) = true by simp; omega] at hwi
  have HW := hide hwi
  clear hr hml hc hm hwi
  go_enter Try.func48, Try.ntmps48
  go_wp2_with (go_at_call 50; refine (HW.out _).mono ?_; rintro e w1 ⟨rfl, rfl⟩)
  go_loopg [3] m (fun g i wr => ∃ k : Nat, g + k = m ∧ i = .int .i64 k ∧ firstErr l = firstErr (l.drop k) ∧ Below w.heap.size w wr)
  case atStart => exact ⟨0, by omega, rfl, by simp, Below.refl _ _⟩
  case round =>
    obtain ⟨k, hg, rfl, hfe, hbw⟩ := hrel
    by_cases hk : k < m
    · have hkl : k < l.length := by have := HM.out; omega
      obtain ⟨ad, rfl, hcell0, hcell⟩ := flat_at Ins.cells_len HR.out hkl
      have hd := firstErr_drop l k hkl
      generalize l[k] = i at *
      have c0 := cell_below hbw (hcell0 _ rfl)
      have c1 := cell_below hbw (hcell 0 _ rfl)
      have c2 := cell_below hbw (hcell 1 _ rfl)
      have c3 := cell_below hbw (hcell 2 _ rfl)
      have HFE := hide (hfe.trans hd)
      have HG := hide hg
      have HB := hide hbw
      clear hcell hcell0 hd hfe hg hbw
      have hci := fun w => checkInstr_any i.op i.a i.b i.n w
      by_cases hi : chkIns i = 0
      · rw [show chkI i.op i.a i.b i.n = 0 from hi] at hci
        have HCI := hide hci
        have HI := hide hi
        clear hci hi
        go_wp2_with (go_at_call 84; refine (HCI.out _).mono ?_; rintro e w1 ⟨rfl, hb⟩; obtain ⟨hc1, hf1⟩ := bcell hb; (try simp only [World.heap_drewN, World.cell?_drewN, World.frozen?_drewN] at hc1 hf1); have hs1 := hb.size; (try simp at hs1))
        obtain ⟨g', rfl⟩ : ∃ g', gk = g' + 1 := ⟨gk - 1, by have := HG.out; omega⟩
        go_roundg g'
        case measure => omega
        case rel =>
          have hbw := HB.out
          exact ⟨k + 1, by have := HG.out; omega, by go_num, by rw [HFE.out, if_pos HI.out], (by repeat' (first | exact Below.refl _ _ | assumption | refine Below.alloc1 ?_ _ | refine Below.drewN1 ?_ _ | refine Below.drew ?_ | refine Below.setCell1 ?_ ?_ _ | refine Below.via ?_ (by assumption) | refine Below.viaD ?_ (by assumption) | omega | (simp; done) | (simp; omega)))⟩
      · have hi' : (chkI i.op i.a i.b i.n != 0) = true := by simpa [chkIns] using hi
        have HCI := hide hci
        have HI := hide (show firstErr l = chkI i.op i.a i.b i.n by rw [HFE.out, if_neg hi]; rfl)
        clear hci hi
        go_wp2_with (go_at_call 84; refine (HCI.out _).mono ?_; rintro e w1 ⟨rfl, hb⟩; obtain ⟨hc1, hf1⟩ := bcell hb; (try simp only [World.heap_drewN, World.cell?_drewN, World.frozen?_drewN] at hc1 hf1); have hs1 := hb.size; (try simp at hs1))
        go_ret
        have hbw := HB.out
        exact ⟨by rw [HI.out]; rfl, (by repeat' (first | exact Below.refl _ _ | assumption | refine Below.alloc1 ?_ _ | refine Below.drewN1 ?_ _ | refine Below.drew ?_ | refine Below.setCell1 ?_ ?_ _ | refine Below.via ?_ (by assumption) | refine Below.viaD ?_ (by assumption) | omega | (simp; done) | (simp; omega)))⟩
    · have HFE := hide (show firstErr l = 0 by rw [hfe, List.drop_of_length_le (by have := HM.out; omega)]; rfl)
      clear hfe
      go_wp2_with fail
      go_ret
      exact ⟨by rw [HFE.out]; rfl, hbw⟩

theorem checkCode_any (v : Value) (l : List Ins) (w : World) (hv : Code_ w v l) :
    Calls Try.prog 48 #[v] w fun e w' => e = .returned (.int .i64 (chkCode l)) ∧ Below w.heap.size w w' := by
  by_cases h1 : l.length < 1 ∨ 20 < l.length
  · rw [show chkCode l = 2 from if_pos h1]
    obtain ⟨A, c, rfl, hc, hm, -⟩ := hv
    generalize l.length = m at *
    have hwi := fun w => within_any (m : Int) 1 20 w
    rw [show (decide (1 ≤ (m : Int)) && decide ((m : Int) ≤ 20)) = false by simp; omega] at hwi
    have HW := hide hwi
    clear hwi h1
    go_enter Try.func48, Try.ntmps48
    go_wp2_with (go_at_call 50; refine (HW.out _).mono ?_; rintro e w1 ⟨rfl, rfl⟩)
    go_ret
    exact ⟨rfl, (by repeat' (first | exact Below.refl _ _ | assumption | refine Below.alloc1 ?_ _ | refine Below.drewN1 ?_ _ | refine Below.drew ?_ | refine Below.setCell1 ?_ ?_ _ | refine Below.via ?_ (by assumption) | refine Below.viaD ?_ (by assumption) | omega | (simp; done) | (simp; omega)))⟩
  · rw [show chkCode l = firstErr l from if_neg h1]
    exact checkCode_right v l w hv (by omega) (by omega)
end Go.Proofs.Ytebklpbbglojmaa
