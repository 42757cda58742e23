/- The reference's OwnCell, and words on cells that come back. -/
import Derived.Test.YtebklpbbglojmaaCellChk
import Derived.Test.YtebklpbbglojmaaRefLine
namespace Go.Proofs.Ytebklpbbglojmaa
set_option linter.unusedVariables false
set_option linter.unusedSimpArgs false
open Go.RowKit

/-- a cell comes back, its Out in memory of its own -/
def CelBack (w0 : World) (c : Cel) (e : Ending) (w' : World) : Prop :=
  ∃ ov, e = .returned (celV c ov) ∧ c.wf ∧ OwnAs 3 w' w0.heap.size ov c.out ∧ Below w0.heap.size w0 w'
/-- a cell comes back, and an error -/
def CelErrBack (w0 : World) (c : Cel) (x : Int) (e : Ending) (w' : World) : Prop :=
  ∃ ov, e = .returned (.tuple #[celV c ov, .int .i64 x]) ∧ c.wf ∧ OwnAs 3 w' w0.heap.size ov c.out ∧ Below w0.heap.size w0 w'

set_option maxRecDepth 100000 in
set_option maxHeartbeats 2000000 in
theorem ownCell_any (c : Cel) (ov : Value) (hwf : c.wf) (w : World) (ho : Ints w ov c.out) (hlen : c.out.length ≤ 1048576) :
    Calls Try.prog 49 #[celV c ov] w (CelBack w c) := by
  obtain ⟨i0, hi0, hz0, hz1, hz2⟩ := info_parts info_int
  have HWF := hide hwf
  obtain ⟨at_, regs, mem, rd, out, en⟩ := c
  obtain ⟨r0, r1, r2, r3, hregs⟩ := len_four hwf.1
  obtain ⟨m0, m1, m2, m3, m4, m5, m6, m7, hmem⟩ := len_eight hwf.2
  dsimp only at hregs hmem
  subst hregs hmem
  clear hwf
  obtain ⟨A, cc, rfl, hcc, hm, hr⟩ := ho
  dsimp only at *
  have hone := oneCell_ints out
  rw [celV_eq]
  obtain ⟨n, hn⟩ : ∃ n, out.length = n := ⟨_, rfl⟩
  rw [hn] at hr hlen hcc ⊢
  have hown0 : ∀ Y1 Y2, (((w.alloc Y1).alloc Y2).alloc (.cells #[] 3)).ownsRow (w.heap.size + 1 + 1) 3 1 (.slice (some ⟨w.heap.size + 1 + 1, 0, none⟩) 0 0) 0 [] := fun Y1 Y2 => by
    have := ownsRow_empty ((w.alloc Y1).alloc Y2) 3 1
    simpa using this
  have HR := hide (fun Y1 Y2 Y3 => hr.below (((Below.refl w.heap.size w).alloc1 Y1).alloc1 Y2 |>.alloc1 Y3))
  have HONE := hide hone
  have HN := hide hn
  have HOWN := hide hown0
  have HBG := hide (fun Y1 Y2 w1 hg => below_grown (w0 := (w.alloc Y1).alloc Y2) (w' := w1) ((Below.refl _ _).alloc1 (.cells #[] 3)) (hown0 Y1 Y2) (by simp) hg)
  clear hr hone hn hcc hown0
  go_enter Try.func49, Try.ntmps49
  go_wp2_with (at_builtin; refine wpList_append_row _ rfl _ _ _ rfl (w.heap.size + 1 + 1) 3 i0 _ 1 8 Try.underlying22 hi0 hz0 hz1 hz2 rfl (by omega) _ 0 [] rfl (HOWN.out _ _) A n cc _ rfl (HR.out _ _ _) HONE.out n _ (by omega) rfl (by unfold maxLen; omega) (by omega) (by simp) ?_; intro A1 c1 w1 hown1 hg1 hat1; have hb1 := HBG.out _ _ _ hg1; have HB0 := ((Blk.new w _ _).alloc _).kept hb1; have HB1 := (Blk.new1 w _ _ _).kept hb1; have e0 := HB0.cell; have f0 := HB0.frozen; have e1 := HB1.cell; have f1 := HB1.frozen; have hne : ¬ w.heap.size = w.heap.size + 1 := (by omega))
  refine bodyPost_ret (v := .agg #[.int .i64 at_, .int .i64 r0, .int .i64 r1, .int .i64 r2, .int .i64 r3, .int .i64 m0, .int .i64 m1, .int .i64 m2, .int .i64 m3, .int .i64 m4, .int .i64 m5, .int .i64 m6, .int .i64 m7, .int .i64 rd, .slice A1 n c1, .int .i64 en]) ?_ rfl ?_
  · simp [results, Try.results49, go_sem, *]
  refine ⟨_, rfl, HWF.out, ?_, ?_⟩
  · have hO : OwnAs 3 w1 (w.heap.size + 1 + 1) (.slice A1 n c1) out := OwnAs.of_own (n := n) (by simpa using hown1) (Nat.le_refl _)
    refine OwnAs.less (base := w.heap.size + 1 + 1) ?_ (by omega)
    exact (by repeat' (first | with_reducible assumption | with_reducible refine OwnAs.set ?_ ?_ _ | with_reducible refine OwnAs.drewN ?_ _ | omega | (simp; done) | (simp; omega)))
  · exact (by repeat' (first | with_reducible exact Below.refl _ _ | with_reducible assumption | with_reducible refine Below.alloc1 ?_ _ | with_reducible refine Below.drewN1 ?_ _ | with_reducible refine Below.drew ?_ | with_reducible refine Below.setCell1 ?_ ?_ _ | with_reducible refine Below.via ?_ (by with_reducible assumption) | with_reducible refine Below.viaD ?_ (by with_reducible assumption) | omega | (simp; done) | (simp; omega)))
end Go.Proofs.Ytebklpbbglojmaa
