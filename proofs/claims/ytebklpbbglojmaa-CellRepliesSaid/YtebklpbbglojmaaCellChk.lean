/- cell.Check, and a cell as a value. -/
import Derived.Test.YtebklpbbglojmaaCellTry
namespace Go.Proofs.Ytebklpbbglojmaa
set_option linter.unusedVariables false
set_option linter.unusedSimpArgs false
open Go.RowKit

/-- a cell as a value, its Out as this slice -/
def celV (c : Cel) (ov : Value) : Value := .agg (cellL c ov).toArray
def wntV (k : Wnt) : Value := .agg (wantL k).toArray
theorem celV_eq (at_ r0 r1 r2 r3 m0 m1 m2 m3 m4 m5 m6 m7 rd en : Int) (out : List Int) (ov : Value) : celV ⟨at_, [r0, r1, r2, r3], [m0, m1, m2, m3, m4, m5, m6, m7], rd, out, en⟩ ov = .agg #[.int .i64 at_, .int .i64 r0, .int .i64 r1, .int .i64 r2, .int .i64 r3, .int .i64 m0, .int .i64 m1, .int .i64 m2, .int .i64 m3, .int .i64 m4, .int .i64 m5, .int .i64 m6, .int .i64 m7, .int .i64 rd, ov, .int .i64 en] := rfl

set_option maxRecDepth 100000 in
set_option maxHeartbeats 1000000 in
theorem cellCheck_any (c : Cel) (ov : Value) (hwf : c.wf) (w : World) (ho : Ints w ov c.out) :
    Calls Try.prog 25 #[celV c ov] w fun e w' => e = .returned (.int .i64 (cellErr c)) ∧ Below w.heap.size w w' := by
  obtain ⟨at_, regs, mem, rd, out, en⟩ := c
  obtain ⟨r0, r1, r2, r3, hregs⟩ := len_four hwf.1
  obtain ⟨m0, m1, m2, m3, m4, m5, m6, m7, hmem⟩ := len_eight hwf.2
  dsimp only at hregs hmem
  subst hregs hmem
  clear hwf
  obtain ⟨m, hm⟩ : ∃ m, out.length = m := ⟨_, rfl⟩
  obtain ⟨A, cc, rfl⟩ := ho.form hm
  rw [celV_eq]
  clear ho
  cases d0 : decide (at_ < 0)
  · skip
    cases d1 : decide (20 < at_)
    · skip
      cases d2 : decide (rd < 0)
      · skip
        cases d3 : decide (12 < rd)
        · skip
          cases d4 : decide (en < 0)
          · skip
            cases d5 : decide (2 < en)
            · skip
              cases d6 : decide (16 < (m : Int))
              · skip
                have HE := hide (show cellErr ⟨at_, [r0, r1, r2, r3], [m0, m1, m2, m3, m4, m5, m6, m7], rd, out, en⟩ = 0 by simp only [decide_eq_false_iff_not] at *; unfold cellErr cellFine; rw [if_pos]; simp only [decide_eq_true_eq]; omega)
                clear hm
                go_enter Try.func25, Try.ntmps25
                go_wp2_with fail
                go_ret
                exact ⟨by rw [HE.out]; rfl, (by repeat' (first | exact Below.refl _ _ | assumption | refine Below.alloc1 ?_ _ | refine Below.drewN1 ?_ _ | refine Below.drew ?_ | refine Below.setCell1 ?_ ?_ _ | refine Below.via ?_ (by assumption) | refine Below.viaD ?_ (by assumption) | omega | (simp; done) | (simp; omega)))⟩
              · have HE := hide (show cellErr ⟨at_, [r0, r1, r2, r3], [m0, m1, m2, m3, m4, m5, m6, m7], rd, out, en⟩ = 1 by simp only [decide_eq_true_eq] at d6; unfold cellErr cellFine; rw [if_neg]; simp only [decide_eq_true_eq]; omega)
                clear hm
                go_enter Try.func25, Try.ntmps25
                go_wp2_with fail
                go_ret
                exact ⟨by rw [HE.out]; rfl, (by repeat' (first | exact Below.refl _ _ | assumption | refine Below.alloc1 ?_ _ | refine Below.drewN1 ?_ _ | refine Below.drew ?_ | refine Below.setCell1 ?_ ?_ _ | refine Below.via ?_ (by assumption) | refine Below.viaD ?_ (by assumption) | omega | (simp; done) | (simp; omega)))⟩
            · have HE := hide (show cellErr ⟨at_, [r0, r1, r2, r3], [m0, m1, m2, m3, m4, m5, m6, m7], rd, out, en⟩ = 1 by simp only [decide_eq_true_eq] at d5; unfold cellErr cellFine; rw [if_neg]; simp only [decide_eq_true_eq]; omega)
              clear hm
              go_enter Try.func25, Try.ntmps25
              go_wp2_with fail
              go_ret
              exact ⟨by rw [HE.out]; rfl, (by repeat' (first | exact Below.refl _ _ | assumption | refine Below.alloc1 ?_ _ | refine Below.drewN1 ?_ _ | refine Below.drew ?_ | refine Below.setCell1 ?_ ?_ _ | refine Below.via ?_ (by assumption) | refine Below.viaD ?_ (by assumption) | omega | (simp; done) | (simp; omega)))⟩
          · have HE := hide (show cellErr ⟨at_, [r0, r1, r2, r3], [m0, m1, m2, m3, m4, m5, m6, m7], rd, out, en⟩ = 1 by simp only [decide_eq_true_eq] at d4; unfold cellErr cellFine; rw [if_neg]; simp only [decide_eq_true_eq]; omega)
            clear hm
            go_enter Try.func25, Try.ntmps25
            go_wp2_with fail
            go_ret
            exact ⟨by rw [HE.out]; rfl, (by repeat' (first | exact Below.refl _ _ | assumption | refine Below.alloc1 ?_ _ | refine Below.drewN1 ?_ _ | refine Below.drew ?_ | refine Below.setCell1 ?_ ?_ _ | refine Below.via ?_ (by assumption) | refine Below.viaD ?_ (by assumption) | omega | (simp; done) | (simp; omega)))⟩
        · have HE := hide (show cellErr ⟨at_, [r0, r1, r2, r3], [m0, m1, m2, m3, m4, m5, m6, m7], rd, out, en⟩ = 1 by simp only [decide_eq_true_eq] at d3; unfold cellErr cellFine; rw [if_neg]; simp only [decide_eq_true_eq]; omega)
          clear hm
          go_enter Try.func25, Try.ntmps25
          go_wp2_with fail
          go_ret
          exact ⟨by rw [HE.out]; rfl, (by repeat' (first | exact Below.refl _ _ | assumption | refine Below.alloc1 ?_ _ | refine Below.drewN1 ?_ _ | refine Below.drew ?_ | refine Below.setCell1 ?_ ?_ _ | refine Below.via ?_ (by assumption) | refine Below.viaD ?_ (by assumption) | omega | (simp; done) | (simp; omega)))⟩
      · have HE := hide (show cellErr ⟨at_, [r0, r1, r2, r3], [m0, m1, m2, m3, m4, m5, m6, m7], rd, out, en⟩ = 1 by simp only [decide_eq_true_eq] at d2; unfold cellErr cellFine; rw [if_neg]; simp only [decide_eq_true_eq]; omega)
        clear hm
        go_enter Try.func25, Try.ntmps25
        go_wp2_with fail
        go_ret
        exact ⟨by rw [HE.out]; rfl, (by repeat' (first | exact Below.refl _ _ | assumption | refine Below.alloc1 ?_ _ | refine Below.drewN1 ?_ _ | refine Below.drew ?_ | refine Below.setCell1 ?_ ?_ _ | refine Below.via ?_ (by assumption) | refine Below.viaD ?_ (by assumption) | omega | (simp; done) | (simp; omega)))⟩
    · have HE := hide (show cellErr ⟨at_, [r0, r1, r2, r3], [m0, m1, m2, m3, m4, m5, m6, m7], rd, out, en⟩ = 1 by simp only [decide_eq_true_eq] at d1; unfold cellErr cellFine; rw [if_neg]; simp only [decide_eq_true_eq]; omega)
      clear hm
      go_enter Try.func25, Try.ntmps25
      go_wp2_with fail
      go_ret
      exact ⟨by rw [HE.out]; rfl, (by repeat' (first | exact Below.refl _ _ | assumption | refine Below.alloc1 ?_ _ | refine Below.drewN1 ?_ _ | refine Below.drew ?_ | refine Below.setCell1 ?_ ?_ _ | refine Below.via ?_ (by assumption) | refine Below.viaD ?_ (by assumption) | omega | (simp; done) | (simp; omega)))⟩
  · have HE := hide (show cellErr ⟨at_, [r0, r1, r2, r3], [m0, m1, m2, m3, m4, m5, m6, m7], rd, out, en⟩ = 1 by simp only [decide_eq_true_eq] at d0; unfold cellErr cellFine; rw [if_neg]; simp only [decide_eq_true_eq]; omega)
    clear hm
    go_enter Try.func25, Try.ntmps25
    go_wp2_with fail
    go_ret
    exact ⟨by rw [HE.out]; rfl, (by repeat' (first | exact Below.refl _ _ | assumption | refine Below.alloc1 ?_ _ | refine Below.drewN1 ?_ _ | refine Below.drew ?_ | refine Below.setCell1 ?_ ?_ _ | refine Below.via ?_ (by assumption) | refine Below.viaD ?_ (by assumption) | omega | (simp; done) | (simp; omega)))⟩
end Go.Proofs.Ytebklpbbglojmaa
