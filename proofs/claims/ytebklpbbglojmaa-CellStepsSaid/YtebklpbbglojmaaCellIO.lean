/- The reference's StepOf answers stepOf: In and Out. -/
import Derived.Test.YtebklpbbglojmaaTys
import Derived.Test.YtebklpbbglojmaaStepRM
namespace Go.Proofs.Ytebklpbbglojmaa
set_option linter.unusedVariables false
set_option linter.unusedSimpArgs false
open Go.RowKit
theorem bs_CellIO_22_1_0 (x0 : Int) (w : World) : (Instr.buildSlice 22 1 #[(0, (.int .i64 x0))]).run Try.prog w = .ok (.slice (some ⟨w.heap.size, 0, none⟩) 1 1) (w.alloc (.cells #[(.int .i64 x0)] 3)) := by kernel_rfl
theorem bu_CellIO_48_  (w : World) : (Instr.build 48 #[]).run Try.prog w = .ok (.agg #[(.int .i64 0), (.int .i64 0), (.int .i64 0), (.int .i64 0), (.int .i64 0)]) w := by kernel_rfl
set_option maxRecDepth 100000

theorem withinD_any (n lo hi : Int) (w : World) : Calls Try.prog 50 #[.int .i64 n, .int .i64 lo, .int .i64 hi] w fun e w' => e = .returned (.bool (decide (lo ≤ n ∧ n ≤ hi))) ∧ Below w.heap.size w w' := by
  refine enter Try.func50 rfl Try.ntmps50 rfl (fun a hF => ?_)
  have hW := Wd.start w NoB
  refine c_sr ?_
  refine pv hF hW (y_assign hF rfl) (fun a hF => ?_)
  refine l_nil ?_
  refine t_n ?_
  refine c_sr ?_
  refine pv hF hW (y_move hF rfl) (fun a hF => ?_)
  refine pv hF hW (y_move hF rfl) (fun a hF => ?_)
  refine pv hF hW (y_geq hF rfl rfl) (fun a hF => ?_)
  refine Fr.splitD hF ?_ ?_
  · intro h1 hF
    refine pv hF hW (y_move hF rfl) (fun a hF => ?_)
    refine pv hF hW (y_move hF rfl) (fun a hF => ?_) (ws hF rfl rfl)
    refine pv hF hW (y_move hF rfl) (fun a hF => ?_) (ws hF rfl rfl)
    refine pv hF hW (y_leq hF rfl rfl) (fun a hF => ?_) (ws hF rfl rfl)
    refine Fr.splitD hF ?_ ?_
    · intro h2 hF
      refine pv hF hW (y_pick hF rfl rfl) (fun a hF => ?_)
      replace hF := hF.drop 6
      refine pv hF hW (y_assign hF rfl) (fun a hF => ?_)
      refine l_nil ?_
      replace hF := (hF.k 0 rfl (hF.k 1 rfl (hF.k 2 rfl (hF.k 6 rfl hF.nil))))
      refine t_n ?_
      refine wp_ret ?_
      refine ret1 Try.results50 hF (rv_t hF rfl) ?_
      exact ⟨by simp [*], hW.below⟩
    · intro h2 hF
      refine pv hF hW (y_pick hF rfl rfl) (fun a hF => ?_)
      replace hF := hF.drop 6
      refine pv hF hW (y_assign hF rfl) (fun a hF => ?_)
      refine l_nil ?_
      replace hF := (hF.k 0 rfl (hF.k 1 rfl (hF.k 2 rfl (hF.k 6 rfl hF.nil))))
      refine t_n ?_
      refine wp_ret ?_
      refine ret1 Try.results50 hF (rv_t hF rfl) ?_
      exact ⟨by simp [*], hW.below⟩
  · intro h1 hF
    refine pv hF hW (y_move hF rfl) (fun a hF => ?_)
    refine p_skip hF (wn hF rfl rfl rfl) rfl rfl (fun a hF => ?_)
    refine p_skip hF (wn hF rfl rfl rfl) rfl rfl (fun a hF => ?_)
    refine p_skip hF (wn hF rfl rfl rfl) rfl rfl (fun a hF => ?_)
    refine pv hF hW (y_pick hF rfl rfl) (fun a hF => ?_)
    replace hF := hF.drop 6
    refine pv hF hW (y_assign hF rfl) (fun a hF => ?_)
    refine l_nil ?_
    replace hF := (hF.k 0 rfl (hF.k 1 rfl (hF.k 2 rfl (hF.k 6 rfl hF.nil))))
    refine t_n ?_
    refine wp_ret ?_
    refine ret1 Try.results50 hF (rv_t hF rfl) ?_
    exact ⟨by simp [*], hW.below⟩

theorem stepR_in0 (at' : Nat) (r0 r1 r2 r3 m0 m1 m2 m3 m4 m5 m6 m7 rd : Int) (l : List Ins) (inp out : List Int) (Ac Ai Ao : Option Addr) (cc ci co : Nat) (w : World)
    (hC : RF w Ac l.length 4 (fun k => [.int .i64 (l.getD k ⟨0, 0, 0, 0⟩).op, .int .i64 (l.getD k ⟨0, 0, 0, 0⟩).a, .int .i64 (l.getD k ⟨0, 0, 0, 0⟩).b, .int .i64 (l.getD k ⟨0, 0, 0, 0⟩).n])) (hlt : at' < l.length) (hl : l.length ≤ 1048576)
    (hi : l.getD at' ⟨0, 0, 0, 0⟩ = ⟨10, 0, 0, 0⟩) (hI : RF w Ai inp.length 1 (fun k => [.int .i64 (inp.getD k 0)])) (ho : Ints w (.slice Ao out.length co) out) (hol : out.length ≤ 1048576) (hr0 : 0 ≤ rd) (hr1 : rd ≤ inp.length) (hr2 : rd ≤ 12) :
    Calls Try.prog 23 #[.agg #[.slice Ac l.length cc, .slice Ai inp.length ci], .agg #[.int .i64 at', .int .i64 r0, .int .i64 r1, .int .i64 r2, .int .i64 r3, .int .i64 m0, .int .i64 m1, .int .i64 m2, .int .i64 m3, .int .i64 m4, .int .i64 m5, .int .i64 m6, .int .i64 m7, .int .i64 rd, .slice Ao out.length co, .int .i64 0]] w
      (CelWantBack w (⟨at' + 1, if rd < inp.length then [r0, r1, r2, r3].set 0 (inp.getD rd.toNat 0) else [r0, r1, r2, r3].set 0 0, [m0, m1, m2, m3, m4, m5, m6, m7], if rd < inp.length then rd + 1 else rd, out, 0⟩, Wnt.zero)) := by
  obtain ⟨rn, rfl⟩ := Int.eq_ofNat_of_zero_le hr0
  have hown := fun w1 (hb : Below w.heap.size w w1) => ownCell_abs ⟨at', [r0, r1, r2, r3], [m0, m1, m2, m3, m4, m5, m6, m7], rn, out, 0⟩ (.slice Ao out.length co) ⟨rfl, rfl⟩ w ho hol w1 hb
  refine enter Try.func23 rfl Try.ntmps23 rfl (fun a hF => ?_)
  have hW := Wd.start w NoB
  refine c_sr ?_
  refine pe (e_box hF hW rfl rfl rfl rfl ?_)
  intro b1 a wc hF hW
  refine pe (e_box hF hW rfl rfl rfl rfl ?_)
  intro b2 a wc hF hW
  refine pe (e_alloc hF hW ze_46 rfl rfl rfl ?_)
  intro b3 a wc hF hW
  refine pe (e_alloc hF hW ze_48 rfl rfl rfl ?_)
  intro b4 a wc hF hW
  refine l_nil ?_
  refine t_n ?_
  refine c_sr ?_
  refine pv hF hW (y_loadAll hF rfl 2 rfl Try.underlying46 rfl sz_46) (fun a hF => ?_)
  refine pe (e_call hF rfl rfl en_49 (by rfl) rfl rfl (hown _ hW.below) ?_)
  rintro e w1 ⟨A1, c1, rfl, hown1, hb⟩
  replace hW := hW.got_row (v := .slice A1 out.length c1) (n := out.length) (cs := out.map (.int .i64)) hb hown1
  refine ⟨_, rfl, fun a hF => ?_⟩
  replace hF := Fr.cast (v' := .agg #[.int .i64 at', .int .i64 r0, .int .i64 r1, .int .i64 r2, .int .i64 r3, .int .i64 m0, .int .i64 m1, .int .i64 m2, .int .i64 m3, .int .i64 m4, .int .i64 m5, .int .i64 m6, .int .i64 m7, .int .i64 rn, .slice A1 out.length c1, .int .i64 0]) rfl hF
  refine pe (e_storeAll rfl hF hW rfl rfl 3 rfl rfl rfl (by kernel_rfl) sz_46 ?_)
  intro wc hW
  refine l_nil ?_
  replace hF := (hF.k 0 rfl (hF.k 1 rfl (hF.k 2 rfl (hF.k 3 rfl (hF.k 4 rfl (hF.k 5 rfl hF.nil))))))
  refine t_n ?_
  refine c_s ?_
  refine c_sr ?_
  refine pv hF hW (y_fieldOwn hF rfl fa_46_5) (fun a hF => ?_)
  refine pv hF hW (y_loadOwn hF rfl 3 rfl rfl Try.underlying3 rfl) (fun a hF => ?_)
  refine pv hF hW (y_neq hF rfl rfl) (fun a hF => ?_)
  replace hF := Fr.bool (t := false) (by first | decide | (simp; done) | rfl) hF
  refine l_nil ?_
  replace hF := (hF.k 0 rfl (hF.k 1 rfl (hF.k 2 rfl (hF.k 3 rfl (hF.k 4 rfl (hF.k 5 rfl (hF.k 15 rfl hF.nil)))))))
  refine t_n ?_
  refine c_f hF rfl ?_
  refine wp_skip ?_
  refine t_n ?_
  refine c_s ?_
  refine c_sr ?_
  refine pv hF hW (y_fieldOwn hF rfl fa_46_0) (fun a hF => ?_)
  refine pv hF hW (y_loadOwn hF rfl 3 rfl rfl Try.underlying3 rfl) (fun a hF => ?_)
  refine pv hF hW (y_fieldOwn hF rfl fa_42_0) (fun a hF => ?_)
  refine pv hF hW (y_loadOwn hF rfl 4 rfl rfl Try.underlying40 rfl) (fun a hF => ?_)
  refine pv hF hW (y_len hF rfl Try.underlying40) (fun a hF => ?_)
  refine pv hF hW (y_geq hF rfl rfl) (fun a hF => ?_)
  refine Fr.splitD hF ?_ ?_
  · intro h5 hF
    first
      | (exfalso; omega)
      | (refine l_nil ?_
         replace hF := (hF.k 0 rfl (hF.k 1 rfl (hF.k 2 rfl (hF.k 3 rfl (hF.k 4 rfl (hF.k 5 rfl (hF.k 15 rfl (hF.k 23 rfl hF.nil))))))))
         refine t_n ?_
         refine c_t hF rfl ?_
         refine c_sr ?_
         refine pv hF hW (y_fieldOwn hF rfl fa_46_5) (fun a hF => ?_)
         refine pe (e_store rfl hF hW rfl rfl 3 rfl rfl rfl sz_3 ?_)
         intro wc hW
         refine l_nil ?_
         replace hF := (hF.k 0 rfl (hF.k 1 rfl (hF.k 2 rfl (hF.k 3 rfl (hF.k 4 rfl (hF.k 5 rfl (hF.k 15 rfl (hF.k 23 rfl hF.nil))))))))
         refine t_n ?_
         refine c_sr ?_
         refine pv hF hW (y_loadAll hF rfl 3 rfl Try.underlying46 rfl sz_46) (fun a hF => ?_)
         refine pv hF hW (y_build hF rfl (fun w => bu_CellIO_48_  w)) (fun a hF => ?_)
         refine pe (e_storeAll rfl hF hW rfl rfl 2 rfl rfl rfl (by kernel_rfl) sz_46 ?_)
         intro wc hW
         refine pe (e_storeAll rfl hF hW rfl rfl 1 rfl rfl rfl (by kernel_rfl) sz_48 ?_)
         intro wc hW
         refine l_nil ?_
         replace hF := (hF.k 0 rfl (hF.k 1 rfl (hF.k 2 rfl (hF.k 3 rfl (hF.k 4 rfl (hF.k 5 rfl (hF.k 15 rfl (hF.k 23 rfl hF.nil))))))))
         refine t_n ?_
         refine wp_ret ?_
         refine t_r ?_
         refine ret2 Try.results23 hF (rv_c hF rfl hW 2 rfl Try.underlying46 rfl sz_46) (rv_c hF rfl hW 1 rfl Try.underlying48 rfl sz_48) ?_
         first | rw [if_pos (by assumption), if_pos (by assumption)] | rw [if_neg (by assumption), if_neg (by assumption)]
         exact ⟨_, rfl, ⟨rfl, rfl⟩, hW.row_own 0 rfl, hW.below⟩)
  · intro h5 hF
    first
      | (exfalso; omega)
      | (refine l_nil ?_
         replace hF := (hF.k 0 rfl (hF.k 1 rfl (hF.k 2 rfl (hF.k 3 rfl (hF.k 4 rfl (hF.k 5 rfl (hF.k 15 rfl (hF.k 23 rfl hF.nil))))))))
         refine t_n ?_
         refine c_f hF rfl ?_
         refine wp_skip ?_
         refine t_n ?_
         refine c_sr ?_
         refine pv hF hW (y_fieldOwn hF rfl fa_42_0) (fun a hF => ?_)
         refine pv hF hW (y_loadOwn hF rfl 4 rfl rfl Try.underlying40 rfl) (fun a hF => ?_)
         refine pv hF hW (y_fieldOwn hF rfl fa_46_0) (fun a hF => ?_)
         refine pv hF hW (y_loadOwn hF rfl 3 rfl rfl Try.underlying3 rfl) (fun a hF => ?_)
         refine pv hF hW (y_indexS hF rfl rfl (by first | omega | decide) Try.underlying40 sz_95 (fun w h => (hC).wd h)) (fun a hF => ?_)
         refine pv hF hW (y_loadRowW hF rfl (fun w h => (hC).wd h) (by first | omega | decide) Try.underlying95 rfl sz_95) (fun a hF => ?_)
         replace hF := Fr.cast (v' := .agg #[.int .i64 10, .int .i64 0, .int .i64 0, .int .i64 0]) (by rw [hi]) hF
         refine pe (e_alloc hF hW ze_95 rfl rfl rfl ?_)
         intro b6 a wc hF hW
         refine pe (e_storeAll rfl hF hW rfl rfl 0 rfl rfl rfl (by kernel_rfl) sz_95 ?_)
         intro wc hW
         refine l_nil ?_
         replace hF := (hF.k 0 rfl (hF.k 1 rfl (hF.k 2 rfl (hF.k 3 rfl (hF.k 4 rfl (hF.k 5 rfl (hF.k 6 rfl (hF.k 15 rfl (hF.k 23 rfl hF.nil)))))))))
         refine t_n ?_
         refine c_sr ?_
         refine pv hF hW (y_fieldOwn hF rfl fa_46_0) (fun a hF => ?_)
         refine pv hF hW (y_loadOwn hF rfl 4 rfl rfl Try.underlying3 rfl) (fun a hF => ?_)
         refine pv hF hW (y_add hF rfl rfl (IntWalk.i64_in _ (by omega))) (fun a hF => ?_)
         refine pv hF hW (y_assign hF rfl) (fun a hF => ?_)
         refine l_nil ?_
         replace hF := (hF.k 0 rfl (hF.k 1 rfl (hF.k 2 rfl (hF.k 3 rfl (hF.k 4 rfl (hF.k 5 rfl (hF.k 6 rfl (hF.k 7 rfl (hF.k 15 rfl (hF.k 23 rfl hF.nil))))))))))
         refine t_n ?_
         refine c_sd mixed_ok hW (hW) ?_
         clear hW; intro wc hW hS
         refine dv 0 rfl hF hS (y_fieldOwn hF rfl fa_95_1) (fun a hF => ?_)
         refine dv 1 rfl hF hS (y_loadOwn hF rfl 0 rfl rfl Try.underlying3 rfl) (fun a hF => ?_)
         refine dv 2 rfl hF hS (y_fieldOwn hF rfl fa_46_1) (fun a hF => ?_)
         refine dv 3 rfl hF hS (y_indexA hF rfl rfl (by first | omega | decide) Try.underlying43 sz_3) (fun a hF => ?_)
         refine dv 4 rfl hF hS (y_loadOwn hF rfl 4 rfl rfl Try.underlying3 rfl) (fun a hF => ?_)
         refine dv 5 rfl hF hS (y_fieldOwn hF rfl fa_95_2) (fun a hF => ?_)
         refine dv 6 rfl hF hS (y_loadOwn hF rfl 0 rfl rfl Try.underlying3 rfl) (fun a hF => ?_)
         refine dv 7 rfl hF hS (y_fieldOwn hF rfl fa_46_1) (fun a hF => ?_)
         refine dv 8 rfl hF hS (y_indexA hF rfl rfl (by first | omega | decide) Try.underlying43 sz_3) (fun a hF => ?_)
         refine dv 9 rfl hF hS (y_loadOwn hF rfl 4 rfl rfl Try.underlying3 rfl) (fun a hF => ?_)
         refine dv 10 rfl hF hS (y_assign hF rfl) (fun a hF => ?_)
         refine dv 11 rfl hF hS (y_assign hF rfl) (fun a hF => ?_)
         clear hS
         refine d_nil (by kernel_rfl) ?_
         replace hF := (hF.k 0 rfl (hF.k 1 rfl (hF.k 2 rfl (hF.k 3 rfl (hF.k 4 rfl (hF.k 5 rfl (hF.k 6 rfl (hF.k 7 rfl (hF.k 8 rfl (hF.k 9 rfl (hF.k 15 rfl (hF.k 23 rfl hF.nil))))))))))))
         refine t_n ?_
         refine c_sr ?_
         refine pe (e_alloc hF hW ze_48 rfl rfl rfl ?_)
         intro b7 a wc hF hW
         refine l_nil ?_
         refine t_n ?_
         refine c_s ?_
         refine c_sr ?_
         refine pv hF hW (y_fieldOwn hF rfl fa_95_0) (fun a hF => ?_)
         refine pv hF hW (y_loadOwn hF rfl 1 rfl rfl Try.underlying3 rfl) (fun a hF => ?_)
         refine l_nil ?_
         replace hF := (hF.k 0 rfl (hF.k 1 rfl (hF.k 2 rfl (hF.k 3 rfl (hF.k 4 rfl (hF.k 5 rfl (hF.k 6 rfl (hF.k 7 rfl (hF.k 8 rfl (hF.k 9 rfl (hF.k 10 rfl (hF.k 15 rfl (hF.k 23 rfl (hF.k 47 rfl hF.nil))))))))))))))
         refine t_n ?_
         refine wp_block ?_
         refine c_sr ?_
         refine pv hF hW (y_eql hF rfl rfl) (fun a hF => ?_)
         replace hF := Fr.bool (t := false) (by first | decide | (simp; done) | rfl) hF
         refine pv hF hW (y_assign hF rfl) (fun a hF => ?_)
         replace hF := Fr.bool (t := false) (by first | decide | (simp; done) | rfl) hF
         refine l_nil ?_
         replace hF := (hF.k 0 rfl (hF.k 1 rfl (hF.k 2 rfl (hF.k 3 rfl (hF.k 4 rfl (hF.k 5 rfl (hF.k 6 rfl (hF.k 7 rfl (hF.k 8 rfl (hF.k 9 rfl (hF.k 10 rfl (hF.k 15 rfl (hF.k 23 rfl (hF.k 47 rfl (hF.k 48 rfl hF.nil)))))))))))))))
         refine t_n ?_
         refine c_f hF rfl ?_
         refine c_sr ?_
         refine pv hF hW (y_eql hF rfl rfl) (fun a hF => ?_)
         replace hF := Fr.bool (t := false) (by first | decide | (simp; done) | rfl) hF
         refine pv hF hW (y_assign hF rfl) (fun a hF => ?_)
         replace hF := Fr.bool (t := false) (by first | decide | (simp; done) | rfl) hF
         refine l_nil ?_
         replace hF := (hF.k 0 rfl (hF.k 1 rfl (hF.k 2 rfl (hF.k 3 rfl (hF.k 4 rfl (hF.k 5 rfl (hF.k 6 rfl (hF.k 7 rfl (hF.k 8 rfl (hF.k 9 rfl (hF.k 10 rfl (hF.k 15 rfl (hF.k 23 rfl (hF.k 47 rfl (hF.k 48 rfl (hF.k 56 rfl hF.nil))))))))))))))))
         refine t_n ?_
         refine c_f hF rfl ?_
         refine c_sr ?_
         refine pv hF hW (y_eql hF rfl rfl) (fun a hF => ?_)
         replace hF := Fr.bool (t := false) (by first | decide | (simp; done) | rfl) hF
         refine pv hF hW (y_assign hF rfl) (fun a hF => ?_)
         replace hF := Fr.bool (t := false) (by first | decide | (simp; done) | rfl) hF
         refine l_nil ?_
         replace hF := (hF.k 0 rfl (hF.k 1 rfl (hF.k 2 rfl (hF.k 3 rfl (hF.k 4 rfl (hF.k 5 rfl (hF.k 6 rfl (hF.k 7 rfl (hF.k 8 rfl (hF.k 9 rfl (hF.k 10 rfl (hF.k 15 rfl (hF.k 23 rfl (hF.k 47 rfl (hF.k 48 rfl (hF.k 56 rfl (hF.k 63 rfl hF.nil)))))))))))))))))
         refine t_n ?_
         refine c_f hF rfl ?_
         refine c_sr ?_
         refine pv hF hW (y_eql hF rfl rfl) (fun a hF => ?_)
         replace hF := Fr.bool (t := false) (by first | decide | (simp; done) | rfl) hF
         refine pv hF hW (y_assign hF rfl) (fun a hF => ?_)
         replace hF := Fr.bool (t := false) (by first | decide | (simp; done) | rfl) hF
         refine l_nil ?_
         replace hF := (hF.k 0 rfl (hF.k 1 rfl (hF.k 2 rfl (hF.k 3 rfl (hF.k 4 rfl (hF.k 5 rfl (hF.k 6 rfl (hF.k 7 rfl (hF.k 8 rfl (hF.k 9 rfl (hF.k 10 rfl (hF.k 15 rfl (hF.k 23 rfl (hF.k 47 rfl (hF.k 48 rfl (hF.k 56 rfl (hF.k 63 rfl (hF.k 72 rfl hF.nil))))))))))))))))))
         refine t_n ?_
         refine c_f hF rfl ?_
         refine c_sr ?_
         refine pv hF hW (y_eql hF rfl rfl) (fun a hF => ?_)
         replace hF := Fr.bool (t := false) (by first | decide | (simp; done) | rfl) hF
         refine pv hF hW (y_assign hF rfl) (fun a hF => ?_)
         replace hF := Fr.bool (t := false) (by first | decide | (simp; done) | rfl) hF
         refine l_nil ?_
         replace hF := (hF.k 0 rfl (hF.k 1 rfl (hF.k 2 rfl (hF.k 3 rfl (hF.k 4 rfl (hF.k 5 rfl (hF.k 6 rfl (hF.k 7 rfl (hF.k 8 rfl (hF.k 9 rfl (hF.k 10 rfl (hF.k 15 rfl (hF.k 23 rfl (hF.k 47 rfl (hF.k 48 rfl (hF.k 56 rfl (hF.k 63 rfl (hF.k 72 rfl (hF.k 81 rfl hF.nil)))))))))))))))))))
         refine t_n ?_
         refine c_f hF rfl ?_
         refine c_s ?_
         refine c_sr ?_
         refine pv hF hW (y_eql hF rfl rfl) (fun a hF => ?_)
         replace hF := Fr.bool (t := false) (by first | decide | (simp; done) | rfl) hF
         refine pv hF hW (y_assign hF rfl) (fun a hF => ?_)
         replace hF := Fr.bool (t := false) (by first | decide | (simp; done) | rfl) hF
         refine l_nil ?_
         replace hF := (hF.k 0 rfl (hF.k 1 rfl (hF.k 2 rfl (hF.k 3 rfl (hF.k 4 rfl (hF.k 5 rfl (hF.k 6 rfl (hF.k 7 rfl (hF.k 8 rfl (hF.k 9 rfl (hF.k 10 rfl (hF.k 15 rfl (hF.k 23 rfl (hF.k 47 rfl (hF.k 48 rfl (hF.k 56 rfl (hF.k 63 rfl (hF.k 72 rfl (hF.k 81 rfl (hF.k 94 rfl hF.nil))))))))))))))))))))
         refine t_n ?_
         refine c_f hF rfl ?_
         refine c_r ?_
         refine pv hF hW (y_eql hF rfl rfl) (fun a hF => ?_)
         replace hF := Fr.bool (t := false) (by first | decide | (simp; done) | rfl) hF
         replace hF := hF.drop 94
         refine pv hF hW (y_assign hF rfl) (fun a hF => ?_)
         replace hF := Fr.bool (t := false) (by first | decide | (simp; done) | rfl) hF
         refine l_nil ?_
         replace hF := (hF.k 0 rfl (hF.k 1 rfl (hF.k 2 rfl (hF.k 3 rfl (hF.k 4 rfl (hF.k 5 rfl (hF.k 6 rfl (hF.k 7 rfl (hF.k 8 rfl (hF.k 9 rfl (hF.k 10 rfl (hF.k 15 rfl (hF.k 23 rfl (hF.k 47 rfl (hF.k 48 rfl (hF.k 56 rfl (hF.k 63 rfl (hF.k 72 rfl (hF.k 81 rfl (hF.k 94 rfl hF.nil))))))))))))))))))))
         refine t_n ?_
         refine c_f hF rfl ?_
         refine c_sr ?_
         refine pv hF hW (y_eql hF rfl rfl) (fun a hF => ?_)
         replace hF := Fr.bool (t := false) (by first | decide | (simp; done) | rfl) hF
         refine pv hF hW (y_assign hF rfl) (fun a hF => ?_)
         replace hF := Fr.bool (t := false) (by first | decide | (simp; done) | rfl) hF
         refine l_nil ?_
         replace hF := (hF.k 0 rfl (hF.k 1 rfl (hF.k 2 rfl (hF.k 3 rfl (hF.k 4 rfl (hF.k 5 rfl (hF.k 6 rfl (hF.k 7 rfl (hF.k 8 rfl (hF.k 9 rfl (hF.k 10 rfl (hF.k 15 rfl (hF.k 23 rfl (hF.k 47 rfl (hF.k 48 rfl (hF.k 56 rfl (hF.k 63 rfl (hF.k 72 rfl (hF.k 81 rfl (hF.k 94 rfl (hF.k 118 rfl hF.nil)))))))))))))))))))))
         refine t_n ?_
         refine c_f hF rfl ?_
         refine c_sr ?_
         refine pv hF hW (y_eql hF rfl rfl) (fun a hF => ?_)
         replace hF := Fr.bool (t := false) (by first | decide | (simp; done) | rfl) hF
         refine pv hF hW (y_assign hF rfl) (fun a hF => ?_)
         replace hF := Fr.bool (t := false) (by first | decide | (simp; done) | rfl) hF
         refine l_nil ?_
         replace hF := (hF.k 0 rfl (hF.k 1 rfl (hF.k 2 rfl (hF.k 3 rfl (hF.k 4 rfl (hF.k 5 rfl (hF.k 6 rfl (hF.k 7 rfl (hF.k 8 rfl (hF.k 9 rfl (hF.k 10 rfl (hF.k 15 rfl (hF.k 23 rfl (hF.k 47 rfl (hF.k 48 rfl (hF.k 56 rfl (hF.k 63 rfl (hF.k 72 rfl (hF.k 81 rfl (hF.k 94 rfl (hF.k 118 rfl (hF.k 122 rfl hF.nil))))))))))))))))))))))
         refine t_n ?_
         refine c_f hF rfl ?_
         refine c_sr ?_
         refine pv hF hW (y_eql hF rfl rfl) (fun a hF => ?_)
         replace hF := Fr.bool (t := true) (by first | decide | (simp; done) | rfl) hF
         refine pv hF hW (y_assign hF rfl) (fun a hF => ?_)
         replace hF := Fr.bool (t := true) (by first | decide | (simp; done) | rfl) hF
         refine l_nil ?_
         replace hF := (hF.k 0 rfl (hF.k 1 rfl (hF.k 2 rfl (hF.k 3 rfl (hF.k 4 rfl (hF.k 5 rfl (hF.k 6 rfl (hF.k 7 rfl (hF.k 8 rfl (hF.k 9 rfl (hF.k 10 rfl (hF.k 15 rfl (hF.k 23 rfl (hF.k 47 rfl (hF.k 48 rfl (hF.k 56 rfl (hF.k 63 rfl (hF.k 72 rfl (hF.k 81 rfl (hF.k 94 rfl (hF.k 118 rfl (hF.k 122 rfl (hF.k 128 rfl hF.nil)))))))))))))))))))))))
         refine t_n ?_
         refine c_t hF rfl ?_
         refine c_sr ?_
         refine pv hF hW (y_fieldOwn hF rfl fa_95_1) (fun a hF => ?_)
         refine pv hF hW (y_loadOwn hF rfl 1 rfl rfl Try.underlying3 rfl) (fun a hF => ?_)
         refine pv hF hW (y_fieldOwn hF rfl fa_46_1) (fun a hF => ?_)
         refine pv hF hW (y_indexA hF rfl rfl (by first | omega | decide) Try.underlying43 sz_3) (fun a hF => ?_)
         refine pe (e_store rfl hF hW rfl rfl 5 rfl rfl rfl sz_3 ?_)
         intro wc hW
         refine l_nil ?_
         replace hF := (hF.k 0 rfl (hF.k 1 rfl (hF.k 2 rfl (hF.k 3 rfl (hF.k 4 rfl (hF.k 5 rfl (hF.k 6 rfl (hF.k 7 rfl (hF.k 8 rfl (hF.k 9 rfl (hF.k 10 rfl (hF.k 15 rfl (hF.k 23 rfl (hF.k 47 rfl (hF.k 48 rfl (hF.k 56 rfl (hF.k 63 rfl (hF.k 72 rfl (hF.k 81 rfl (hF.k 94 rfl (hF.k 118 rfl (hF.k 122 rfl (hF.k 128 rfl hF.nil)))))))))))))))))))))))
         refine t_n ?_
         refine c_sr ?_
         refine pv hF hW (y_fieldOwn hF rfl fa_46_3) (fun a hF => ?_)
         refine pv hF hW (y_loadOwn hF rfl 5 rfl rfl Try.underlying3 rfl) (fun a hF => ?_)
         refine pv hF hW (y_fieldOwn hF rfl fa_42_1) (fun a hF => ?_)
         refine pv hF hW (y_loadOwn hF rfl 6 rfl rfl Try.underlying22 rfl) (fun a hF => ?_)
         refine pv hF hW (y_len hF rfl Try.underlying22) (fun a hF => ?_)
         refine pv hF hW (y_lss hF rfl rfl) (fun a hF => ?_)
         refine Fr.splitD hF ?_ ?_
         · intro h8 hF
           first
             | (exfalso; omega)
             | (refine l_nil ?_
                replace hF := (hF.k 0 rfl (hF.k 1 rfl (hF.k 2 rfl (hF.k 3 rfl (hF.k 4 rfl (hF.k 5 rfl (hF.k 6 rfl (hF.k 7 rfl (hF.k 8 rfl (hF.k 9 rfl (hF.k 10 rfl (hF.k 15 rfl (hF.k 23 rfl (hF.k 47 rfl (hF.k 48 rfl (hF.k 56 rfl (hF.k 63 rfl (hF.k 72 rfl (hF.k 81 rfl (hF.k 94 rfl (hF.k 118 rfl (hF.k 122 rfl (hF.k 128 rfl (hF.k 139 rfl hF.nil))))))))))))))))))))))))
                refine t_n ?_
                refine c_t hF rfl ?_
                refine c_sd mixed_ok hW ((hW.del 5 rfl)) ?_
                clear hW; intro wc hW hS
                refine dv 0 rfl hF hS (y_fieldOwn hF rfl fa_95_1) (fun a hF => ?_)
                refine dv 1 rfl hF hS (y_loadOwn hF rfl 1 rfl rfl Try.underlying3 rfl) (fun a hF => ?_)
                refine dv 2 rfl hF hS (y_fieldOwn hF rfl fa_42_1) (fun a hF => ?_)
                refine dv 3 rfl hF hS (y_loadOwn hF rfl 5 rfl rfl Try.underlying22 rfl) (fun a hF => ?_)
                refine dv 4 rfl hF hS (y_fieldOwn hF rfl fa_46_3) (fun a hF => ?_)
                refine dv 8 rfl hF hS (y_fieldOwn hF rfl fa_46_1) (fun a hF => ?_)
                refine d_1 5 (by kernel_rfl) ?_
                refine d_opval rfl hF rfl hW (y_loadOwn hF rfl 5 rfl rfl Try.underlying3 rfl) rfl rfl (fun a hF => ?_)
                refine ⟨(hW.del 5 rfl), ?_⟩
                replace hS := (hW.del 5 rfl)
                refine dv 6 rfl hF hS (y_indexS hF rfl rfl (by first | omega | decide) Try.underlying22 sz_3 (fun w h => (hI).wd h)) (fun a hF => ?_)
                refine dv 7 rfl hF hS (y_loadRow hF rfl (fun w h => (hI).wd h) (by first | omega | decide) rfl Try.underlying3 rfl) (fun a hF => ?_)
                refine dv 9 rfl hF hS (y_indexA hF rfl rfl (by first | omega | decide) Try.underlying43 sz_3) (fun a hF => ?_)
                refine d_1 10 (by kernel_rfl) ?_
                refine d_op rfl rfl (e_store rfl hF hW rfl rfl 5 rfl rfl rfl sz_3 ?_)
                intro wc hW
                refine ⟨(hW.del 5 rfl), ?_⟩
                replace hS := (hW.del 5 rfl)
                clear hS
                refine d_nil (by kernel_rfl) ?_
                replace hF := (hF.k 0 rfl (hF.k 1 rfl (hF.k 2 rfl (hF.k 3 rfl (hF.k 4 rfl (hF.k 5 rfl (hF.k 6 rfl (hF.k 7 rfl (hF.k 8 rfl (hF.k 9 rfl (hF.k 10 rfl (hF.k 15 rfl (hF.k 23 rfl (hF.k 47 rfl (hF.k 48 rfl (hF.k 56 rfl (hF.k 63 rfl (hF.k 72 rfl (hF.k 81 rfl (hF.k 94 rfl (hF.k 118 rfl (hF.k 122 rfl (hF.k 128 rfl (hF.k 139 rfl hF.nil))))))))))))))))))))))))
                refine t_n ?_
                refine c_r ?_
                refine pv hF hW (y_fieldOwn hF rfl fa_46_3) (fun a hF => ?_)
                refine pv hF hW (y_loadOwn hF rfl 5 rfl rfl Try.underlying3 rfl) (fun a hF => ?_)
                refine pv hF hW (y_add hF rfl rfl (IntWalk.i64_in _ (by omega))) (fun a hF => ?_)
                refine pv hF hW (y_fieldOwn hF rfl fa_46_3) (fun a hF => ?_)
                refine pe (e_store rfl hF hW rfl rfl 5 rfl rfl rfl sz_3 ?_)
                intro wc hW
                refine l_nil ?_
                replace hF := (hF.k 0 rfl (hF.k 1 rfl (hF.k 2 rfl (hF.k 3 rfl (hF.k 4 rfl (hF.k 5 rfl (hF.k 6 rfl (hF.k 7 rfl (hF.k 8 rfl (hF.k 9 rfl (hF.k 10 rfl (hF.k 15 rfl (hF.k 23 rfl (hF.k 47 rfl (hF.k 48 rfl (hF.k 56 rfl (hF.k 63 rfl (hF.k 72 rfl (hF.k 81 rfl (hF.k 94 rfl (hF.k 118 rfl (hF.k 122 rfl (hF.k 128 rfl (hF.k 139 rfl hF.nil))))))))))))))))))))))))
                refine b_n ?_
                refine t_n ?_
                refine c_sr ?_
                refine pv hF hW (y_move hF rfl) (fun a hF => ?_)
                refine pv hF hW (y_fieldOwn hF rfl fa_46_0) (fun a hF => ?_)
                refine pe (e_store rfl hF hW rfl rfl 5 rfl rfl rfl sz_3 ?_)
                intro wc hW
                refine l_nil ?_
                replace hF := (hF.k 0 rfl (hF.k 1 rfl (hF.k 2 rfl (hF.k 3 rfl (hF.k 4 rfl (hF.k 5 rfl (hF.k 6 rfl (hF.k 7 rfl (hF.k 8 rfl (hF.k 9 rfl (hF.k 10 rfl (hF.k 15 rfl (hF.k 23 rfl (hF.k 47 rfl (hF.k 48 rfl (hF.k 56 rfl (hF.k 63 rfl (hF.k 72 rfl (hF.k 81 rfl (hF.k 94 rfl (hF.k 118 rfl (hF.k 122 rfl (hF.k 128 rfl (hF.k 139 rfl hF.nil))))))))))))))))))))))))
                refine t_n ?_
                refine c_sd mixed_ok hW (((hW.del 3 rfl).del 3 rfl)) ?_
                clear hW; intro wc hW hS
                refine dv 0 rfl hF hS (y_loadAll hF rfl 3 rfl Try.underlying46 rfl sz_46) (fun a hF => ?_)
                refine dv 1 rfl hF hS (y_loadAll hF rfl 0 rfl Try.underlying48 rfl sz_48) (fun a hF => ?_)
                refine d_1 2 (by kernel_rfl) ?_
                refine d_op rfl rfl (e_storeAll rfl hF hW rfl rfl 4 rfl rfl rfl (by kernel_rfl) sz_46 ?_)
                intro wc hW
                refine ⟨((hW.del 3 rfl).del 3 rfl), ?_⟩
                replace hS := ((hW.del 3 rfl).del 3 rfl)
                refine d_1 3 (by kernel_rfl) ?_
                refine d_op rfl rfl (e_storeAll rfl hF hW rfl rfl 3 rfl rfl rfl (by kernel_rfl) sz_48 ?_)
                intro wc hW
                refine ⟨((hW.del 3 rfl).del 3 rfl), ?_⟩
                replace hS := ((hW.del 3 rfl).del 3 rfl)
                clear hS
                refine d_nil (by kernel_rfl) ?_
                replace hF := (hF.k 0 rfl (hF.k 1 rfl (hF.k 2 rfl (hF.k 3 rfl (hF.k 4 rfl (hF.k 5 rfl (hF.k 6 rfl (hF.k 7 rfl (hF.k 8 rfl (hF.k 9 rfl (hF.k 10 rfl (hF.k 15 rfl (hF.k 23 rfl (hF.k 47 rfl (hF.k 48 rfl (hF.k 56 rfl (hF.k 63 rfl (hF.k 72 rfl (hF.k 81 rfl (hF.k 94 rfl (hF.k 118 rfl (hF.k 122 rfl (hF.k 128 rfl (hF.k 139 rfl hF.nil))))))))))))))))))))))))
                refine t_n ?_
                refine wp_ret ?_
                refine ret2 Try.results23 hF (rv_c hF rfl hW 4 rfl Try.underlying46 rfl sz_46) (rv_c hF rfl hW 3 rfl Try.underlying48 rfl sz_48) ?_
                first | rw [if_pos (by assumption), if_pos (by assumption)] | rw [if_neg (by assumption), if_neg (by assumption)]
                exact ⟨_, rfl, ⟨rfl, rfl⟩, hW.row_own 2 rfl, hW.below⟩)
         · intro h8 hF
           first
             | (exfalso; omega)
             | (refine l_nil ?_
                replace hF := (hF.k 0 rfl (hF.k 1 rfl (hF.k 2 rfl (hF.k 3 rfl (hF.k 4 rfl (hF.k 5 rfl (hF.k 6 rfl (hF.k 7 rfl (hF.k 8 rfl (hF.k 9 rfl (hF.k 10 rfl (hF.k 15 rfl (hF.k 23 rfl (hF.k 47 rfl (hF.k 48 rfl (hF.k 56 rfl (hF.k 63 rfl (hF.k 72 rfl (hF.k 81 rfl (hF.k 94 rfl (hF.k 118 rfl (hF.k 122 rfl (hF.k 128 rfl (hF.k 139 rfl hF.nil))))))))))))))))))))))))
                refine t_n ?_
                refine c_f hF rfl ?_
                refine wp_skip ?_
                refine b_n ?_
                refine t_n ?_
                refine c_sr ?_
                refine pv hF hW (y_move hF rfl) (fun a hF => ?_)
                refine pv hF hW (y_fieldOwn hF rfl fa_46_0) (fun a hF => ?_)
                refine pe (e_store rfl hF hW rfl rfl 5 rfl rfl rfl sz_3 ?_)
                intro wc hW
                refine l_nil ?_
                replace hF := (hF.k 0 rfl (hF.k 1 rfl (hF.k 2 rfl (hF.k 3 rfl (hF.k 4 rfl (hF.k 5 rfl (hF.k 6 rfl (hF.k 7 rfl (hF.k 8 rfl (hF.k 9 rfl (hF.k 10 rfl (hF.k 15 rfl (hF.k 23 rfl (hF.k 47 rfl (hF.k 48 rfl (hF.k 56 rfl (hF.k 63 rfl (hF.k 72 rfl (hF.k 81 rfl (hF.k 94 rfl (hF.k 118 rfl (hF.k 122 rfl (hF.k 128 rfl (hF.k 139 rfl hF.nil))))))))))))))))))))))))
                refine t_n ?_
                refine c_sd mixed_ok hW (((hW.del 3 rfl).del 3 rfl)) ?_
                clear hW; intro wc hW hS
                refine dv 0 rfl hF hS (y_loadAll hF rfl 3 rfl Try.underlying46 rfl sz_46) (fun a hF => ?_)
                refine dv 1 rfl hF hS (y_loadAll hF rfl 0 rfl Try.underlying48 rfl sz_48) (fun a hF => ?_)
                refine d_1 2 (by kernel_rfl) ?_
                refine d_op rfl rfl (e_storeAll rfl hF hW rfl rfl 4 rfl rfl rfl (by kernel_rfl) sz_46 ?_)
                intro wc hW
                refine ⟨((hW.del 3 rfl).del 3 rfl), ?_⟩
                replace hS := ((hW.del 3 rfl).del 3 rfl)
                refine d_1 3 (by kernel_rfl) ?_
                refine d_op rfl rfl (e_storeAll rfl hF hW rfl rfl 3 rfl rfl rfl (by kernel_rfl) sz_48 ?_)
                intro wc hW
                refine ⟨((hW.del 3 rfl).del 3 rfl), ?_⟩
                replace hS := ((hW.del 3 rfl).del 3 rfl)
                clear hS
                refine d_nil (by kernel_rfl) ?_
                replace hF := (hF.k 0 rfl (hF.k 1 rfl (hF.k 2 rfl (hF.k 3 rfl (hF.k 4 rfl (hF.k 5 rfl (hF.k 6 rfl (hF.k 7 rfl (hF.k 8 rfl (hF.k 9 rfl (hF.k 10 rfl (hF.k 15 rfl (hF.k 23 rfl (hF.k 47 rfl (hF.k 48 rfl (hF.k 56 rfl (hF.k 63 rfl (hF.k 72 rfl (hF.k 81 rfl (hF.k 94 rfl (hF.k 118 rfl (hF.k 122 rfl (hF.k 128 rfl (hF.k 139 rfl hF.nil))))))))))))))))))))))))
                refine t_n ?_
                refine wp_ret ?_
                refine ret2 Try.results23 hF (rv_c hF rfl hW 4 rfl Try.underlying46 rfl sz_46) (rv_c hF rfl hW 3 rfl Try.underlying48 rfl sz_48) ?_
                first | rw [if_pos (by assumption), if_pos (by assumption)] | rw [if_neg (by assumption), if_neg (by assumption)]
                exact ⟨_, rfl, ⟨rfl, rfl⟩, hW.row_own 2 rfl, hW.below⟩))
theorem stepR_in1 (at' : Nat) (r0 r1 r2 r3 m0 m1 m2 m3 m4 m5 m6 m7 rd : Int) (l : List Ins) (inp out : List Int) (Ac Ai Ao : Option Addr) (cc ci co : Nat) (w : World)
    (hC : RF w Ac l.length 4 (fun k => [.int .i64 (l.getD k ⟨0, 0, 0, 0⟩).op, .int .i64 (l.getD k ⟨0, 0, 0, 0⟩).a, .int .i64 (l.getD k ⟨0, 0, 0, 0⟩).b, .int .i64 (l.getD k ⟨0, 0, 0, 0⟩).n])) (hlt : at' < l.length) (hl : l.length ≤ 1048576)
    (hi : l.getD at' ⟨0, 0, 0, 0⟩ = ⟨10, 1, 0, 0⟩) (hI : RF w Ai inp.length 1 (fun k => [.int .i64 (inp.getD k 0)])) (ho : Ints w (.slice Ao out.length co) out) (hol : out.length ≤ 1048576) (hr0 : 0 ≤ rd) (hr1 : rd ≤ inp.length) (hr2 : rd ≤ 12) :
    Calls Try.prog 23 #[.agg #[.slice Ac l.length cc, .slice Ai inp.length ci], .agg #[.int .i64 at', .int .i64 r0, .int .i64 r1, .int .i64 r2, .int .i64 r3, .int .i64 m0, .int .i64 m1, .int .i64 m2, .int .i64 m3, .int .i64 m4, .int .i64 m5, .int .i64 m6, .int .i64 m7, .int .i64 rd, .slice Ao out.length co, .int .i64 0]] w
      (CelWantBack w (⟨at' + 1, if rd < inp.length then [r0, r1, r2, r3].set 1 (inp.getD rd.toNat 0) else [r0, r1, r2, r3].set 1 0, [m0, m1, m2, m3, m4, m5, m6, m7], if rd < inp.length then rd + 1 else rd, out, 0⟩, Wnt.zero)) := by
  obtain ⟨rn, rfl⟩ := Int.eq_ofNat_of_zero_le hr0
  have hown := fun w1 (hb : Below w.heap.size w w1) => ownCell_abs ⟨at', [r0, r1, r2, r3], [m0, m1, m2, m3, m4, m5, m6, m7], rn, out, 0⟩ (.slice Ao out.length co) ⟨rfl, rfl⟩ w ho hol w1 hb
  refine enter Try.func23 rfl Try.ntmps23 rfl (fun a hF => ?_)
  have hW := Wd.start w NoB
  refine c_sr ?_
  refine pe (e_box hF hW rfl rfl rfl rfl ?_)
  intro b1 a wc hF hW
  refine pe (e_box hF hW rfl rfl rfl rfl ?_)
  intro b2 a wc hF hW
  refine pe (e_alloc hF hW ze_46 rfl rfl rfl ?_)
  intro b3 a wc hF hW
  refine pe (e_alloc hF hW ze_48 rfl rfl rfl ?_)
  intro b4 a wc hF hW
  refine l_nil ?_
  refine t_n ?_
  refine c_sr ?_
  refine pv hF hW (y_loadAll hF rfl 2 rfl Try.underlying46 rfl sz_46) (fun a hF => ?_)
  refine pe (e_call hF rfl rfl en_49 (by rfl) rfl rfl (hown _ hW.below) ?_)
  rintro e w1 ⟨A1, c1, rfl, hown1, hb⟩
  replace hW := hW.got_row (v := .slice A1 out.length c1) (n := out.length) (cs := out.map (.int .i64)) hb hown1
  refine ⟨_, rfl, fun a hF => ?_⟩
  replace hF := Fr.cast (v' := .agg #[.int .i64 at', .int .i64 r0, .int .i64 r1, .int .i64 r2, .int .i64 r3, .int .i64 m0, .int .i64 m1, .int .i64 m2, .int .i64 m3, .int .i64 m4, .int .i64 m5, .int .i64 m6, .int .i64 m7, .int .i64 rn, .slice A1 out.length c1, .int .i64 0]) rfl hF
  refine pe (e_storeAll rfl hF hW rfl rfl 3 rfl rfl rfl (by kernel_rfl) sz_46 ?_)
  intro wc hW
  refine l_nil ?_
  replace hF := (hF.k 0 rfl (hF.k 1 rfl (hF.k 2 rfl (hF.k 3 rfl (hF.k 4 rfl (hF.k 5 rfl hF.nil))))))
  refine t_n ?_
  refine c_s ?_
  refine c_sr ?_
  refine pv hF hW (y_fieldOwn hF rfl fa_46_5) (fun a hF => ?_)
  refine pv hF hW (y_loadOwn hF rfl 3 rfl rfl Try.underlying3 rfl) (fun a hF => ?_)
  refine pv hF hW (y_neq hF rfl rfl) (fun a hF => ?_)
  replace hF := Fr.bool (t := false) (by first | decide | (simp; done) | rfl) hF
  refine l_nil ?_
  replace hF := (hF.k 0 rfl (hF.k 1 rfl (hF.k 2 rfl (hF.k 3 rfl (hF.k 4 rfl (hF.k 5 rfl (hF.k 15 rfl hF.nil)))))))
  refine t_n ?_
  refine c_f hF rfl ?_
  refine wp_skip ?_
  refine t_n ?_
  refine c_s ?_
  refine c_sr ?_
  refine pv hF hW (y_fieldOwn hF rfl fa_46_0) (fun a hF => ?_)
  refine pv hF hW (y_loadOwn hF rfl 3 rfl rfl Try.underlying3 rfl) (fun a hF => ?_)
  refine pv hF hW (y_fieldOwn hF rfl fa_42_0) (fun a hF => ?_)
  refine pv hF hW (y_loadOwn hF rfl 4 rfl rfl Try.underlying40 rfl) (fun a hF => ?_)
  refine pv hF hW (y_len hF rfl Try.underlying40) (fun a hF => ?_)
  refine pv hF hW (y_geq hF rfl rfl) (fun a hF => ?_)
  refine Fr.splitD hF ?_ ?_
  · intro h5 hF
    first
      | (exfalso; omega)
      | (refine l_nil ?_
         replace hF := (hF.k 0 rfl (hF.k 1 rfl (hF.k 2 rfl (hF.k 3 rfl (hF.k 4 rfl (hF.k 5 rfl (hF.k 15 rfl (hF.k 23 rfl hF.nil))))))))
         refine t_n ?_
         refine c_t hF rfl ?_
         refine c_sr ?_
         refine pv hF hW (y_fieldOwn hF rfl fa_46_5) (fun a hF => ?_)
         refine pe (e_store rfl hF hW rfl rfl 3 rfl rfl rfl sz_3 ?_)
         intro wc hW
         refine l_nil ?_
         replace hF := (hF.k 0 rfl (hF.k 1 rfl (hF.k 2 rfl (hF.k 3 rfl (hF.k 4 rfl (hF.k 5 rfl (hF.k 15 rfl (hF.k 23 rfl hF.nil))))))))
         refine t_n ?_
         refine c_sr ?_
         refine pv hF hW (y_loadAll hF rfl 3 rfl Try.underlying46 rfl sz_46) (fun a hF => ?_)
         refine pv hF hW (y_build hF rfl (fun w => bu_CellIO_48_  w)) (fun a hF => ?_)
         refine pe (e_storeAll rfl hF hW rfl rfl 2 rfl rfl rfl (by kernel_rfl) sz_46 ?_)
         intro wc hW
         refine pe (e_storeAll rfl hF hW rfl rfl 1 rfl rfl rfl (by kernel_rfl) sz_48 ?_)
         intro wc hW
         refine l_nil ?_
         replace hF := (hF.k 0 rfl (hF.k 1 rfl (hF.k 2 rfl (hF.k 3 rfl (hF.k 4 rfl (hF.k 5 rfl (hF.k 15 rfl (hF.k 23 rfl hF.nil))))))))
         refine t_n ?_
         refine wp_ret ?_
         refine t_r ?_
         refine ret2 Try.results23 hF (rv_c hF rfl hW 2 rfl Try.underlying46 rfl sz_46) (rv_c hF rfl hW 1 rfl Try.underlying48 rfl sz_48) ?_
         first | rw [if_pos (by assumption), if_pos (by assumption)] | rw [if_neg (by assumption), if_neg (by assumption)]
         exact ⟨_, rfl, ⟨rfl, rfl⟩, hW.row_own 0 rfl, hW.below⟩)
  · intro h5 hF
    first
      | (exfalso; omega)
      | (refine l_nil ?_
         replace hF := (hF.k 0 rfl (hF.k 1 rfl (hF.k 2 rfl (hF.k 3 rfl (hF.k 4 rfl (hF.k 5 rfl (hF.k 15 rfl (hF.k 23 rfl hF.nil))))))))
         refine t_n ?_
         refine c_f hF rfl ?_
         refine wp_skip ?_
         refine t_n ?_
         refine c_sr ?_
         refine pv hF hW (y_fieldOwn hF rfl fa_42_0) (fun a hF => ?_)
         refine pv hF hW (y_loadOwn hF rfl 4 rfl rfl Try.underlying40 rfl) (fun a hF => ?_)
         refine pv hF hW (y_fieldOwn hF rfl fa_46_0) (fun a hF => ?_)
         refine pv hF hW (y_loadOwn hF rfl 3 rfl rfl Try.underlying3 rfl) (fun a hF => ?_)
         refine pv hF hW (y_indexS hF rfl rfl (by first | omega | decide) Try.underlying40 sz_95 (fun w h => (hC).wd h)) (fun a hF => ?_)
         refine pv hF hW (y_loadRowW hF rfl (fun w h => (hC).wd h) (by first | omega | decide) Try.underlying95 rfl sz_95) (fun a hF => ?_)
         replace hF := Fr.cast (v' := .agg #[.int .i64 10, .int .i64 1, .int .i64 0, .int .i64 0]) (by rw [hi]) hF
         refine pe (e_alloc hF hW ze_95 rfl rfl rfl ?_)
         intro b6 a wc hF hW
         refine pe (e_storeAll rfl hF hW rfl rfl 0 rfl rfl rfl (by kernel_rfl) sz_95 ?_)
         intro wc hW
         refine l_nil ?_
         replace hF := (hF.k 0 rfl (hF.k 1 rfl (hF.k 2 rfl (hF.k 3 rfl (hF.k 4 rfl (hF.k 5 rfl (hF.k 6 rfl (hF.k 15 rfl (hF.k 23 rfl hF.nil)))))))))
         refine t_n ?_
         refine c_sr ?_
         refine pv hF hW (y_fieldOwn hF rfl fa_46_0) (fun a hF => ?_)
         refine pv hF hW (y_loadOwn hF rfl 4 rfl rfl Try.underlying3 rfl) (fun a hF => ?_)
         refine pv hF hW (y_add hF rfl rfl (IntWalk.i64_in _ (by omega))) (fun a hF => ?_)
         refine pv hF hW (y_assign hF rfl) (fun a hF => ?_)
         refine l_nil ?_
         replace hF := (hF.k 0 rfl (hF.k 1 rfl (hF.k 2 rfl (hF.k 3 rfl (hF.k 4 rfl (hF.k 5 rfl (hF.k 6 rfl (hF.k 7 rfl (hF.k 15 rfl (hF.k 23 rfl hF.nil))))))))))
         refine t_n ?_
         refine c_sd mixed_ok hW (hW) ?_
         clear hW; intro wc hW hS
         refine dv 0 rfl hF hS (y_fieldOwn hF rfl fa_95_1) (fun a hF => ?_)
         refine dv 1 rfl hF hS (y_loadOwn hF rfl 0 rfl rfl Try.underlying3 rfl) (fun a hF => ?_)
         refine dv 2 rfl hF hS (y_fieldOwn hF rfl fa_46_1) (fun a hF => ?_)
         refine dv 3 rfl hF hS (y_indexA hF rfl rfl (by first | omega | decide) Try.underlying43 sz_3) (fun a hF => ?_)
         refine dv 4 rfl hF hS (y_loadOwn hF rfl 4 rfl rfl Try.underlying3 rfl) (fun a hF => ?_)
         refine dv 5 rfl hF hS (y_fieldOwn hF rfl fa_95_2) (fun a hF => ?_)
         refine dv 6 rfl hF hS (y_loadOwn hF rfl 0 rfl rfl Try.underlying3 rfl) (fun a hF => ?_)
         refine dv 7 rfl hF hS (y_fieldOwn hF rfl fa_46_1) (fun a hF => ?_)
         refine dv 8 rfl hF hS (y_indexA hF rfl rfl (by first | omega | decide) Try.underlying43 sz_3) (fun a hF => ?_)
         refine dv 9 rfl hF hS (y_loadOwn hF rfl 4 rfl rfl Try.underlying3 rfl) (fun a hF => ?_)
         refine dv 10 rfl hF hS (y_assign hF rfl) (fun a hF => ?_)
         refine dv 11 rfl hF hS (y_assign hF rfl) (fun a hF => ?_)
         clear hS
         refine d_nil (by kernel_rfl) ?_
         replace hF := (hF.k 0 rfl (hF.k 1 rfl (hF.k 2 rfl (hF.k 3 rfl (hF.k 4 rfl (hF.k 5 rfl (hF.k 6 rfl (hF.k 7 rfl (hF.k 8 rfl (hF.k 9 rfl (hF.k 15 rfl (hF.k 23 rfl hF.nil))))))))))))
         refine t_n ?_
         refine c_sr ?_
         refine pe (e_alloc hF hW ze_48 rfl rfl rfl ?_)
         intro b7 a wc hF hW
         refine l_nil ?_
         refine t_n ?_
         refine c_s ?_
         refine c_sr ?_
         refine pv hF hW (y_fieldOwn hF rfl fa_95_0) (fun a hF => ?_)
         refine pv hF hW (y_loadOwn hF rfl 1 rfl rfl Try.underlying3 rfl) (fun a hF => ?_)
         refine l_nil ?_
         replace hF := (hF.k 0 rfl (hF.k 1 rfl (hF.k 2 rfl (hF.k 3 rfl (hF.k 4 rfl (hF.k 5 rfl (hF.k 6 rfl (hF.k 7 rfl (hF.k 8 rfl (hF.k 9 rfl (hF.k 10 rfl (hF.k 15 rfl (hF.k 23 rfl (hF.k 47 rfl hF.nil))))))))))))))
         refine t_n ?_
         refine wp_block ?_
         refine c_sr ?_
         refine pv hF hW (y_eql hF rfl rfl) (fun a hF => ?_)
         replace hF := Fr.bool (t := false) (by first | decide | (simp; done) | rfl) hF
         refine pv hF hW (y_assign hF rfl) (fun a hF => ?_)
         replace hF := Fr.bool (t := false) (by first | decide | (simp; done) | rfl) hF
         refine l_nil ?_
         replace hF := (hF.k 0 rfl (hF.k 1 rfl (hF.k 2 rfl (hF.k 3 rfl (hF.k 4 rfl (hF.k 5 rfl (hF.k 6 rfl (hF.k 7 rfl (hF.k 8 rfl (hF.k 9 rfl (hF.k 10 rfl (hF.k 15 rfl (hF.k 23 rfl (hF.k 47 rfl (hF.k 48 rfl hF.nil)))))))))))))))
         refine t_n ?_
         refine c_f hF rfl ?_
         refine c_sr ?_
         refine pv hF hW (y_eql hF rfl rfl) (fun a hF => ?_)
         replace hF := Fr.bool (t := false) (by first | decide | (simp; done) | rfl) hF
         refine pv hF hW (y_assign hF rfl) (fun a hF => ?_)
         replace hF := Fr.bool (t := false) (by first | decide | (simp; done) | rfl) hF
         refine l_nil ?_
         replace hF := (hF.k 0 rfl (hF.k 1 rfl (hF.k 2 rfl (hF.k 3 rfl (hF.k 4 rfl (hF.k 5 rfl (hF.k 6 rfl (hF.k 7 rfl (hF.k 8 rfl (hF.k 9 rfl (hF.k 10 rfl (hF.k 15 rfl (hF.k 23 rfl (hF.k 47 rfl (hF.k 48 rfl (hF.k 56 rfl hF.nil))))))))))))))))
         refine t_n ?_
         refine c_f hF rfl ?_
         refine c_sr ?_
         refine pv hF hW (y_eql hF rfl rfl) (fun a hF => ?_)
         replace hF := Fr.bool (t := false) (by first | decide | (simp; done) | rfl) hF
         refine pv hF hW (y_assign hF rfl) (fun a hF => ?_)
         replace hF := Fr.bool (t := false) (by first | decide | (simp; done) | rfl) hF
         refine l_nil ?_
         replace hF := (hF.k 0 rfl (hF.k 1 rfl (hF.k 2 rfl (hF.k 3 rfl (hF.k 4 rfl (hF.k 5 rfl (hF.k 6 rfl (hF.k 7 rfl (hF.k 8 rfl (hF.k 9 rfl (hF.k 10 rfl (hF.k 15 rfl (hF.k 23 rfl (hF.k 47 rfl (hF.k 48 rfl (hF.k 56 rfl (hF.k 63 rfl hF.nil)))))))))))))))))
         refine t_n ?_
         refine c_f hF rfl ?_
         refine c_sr ?_
         refine pv hF hW (y_eql hF rfl rfl) (fun a hF => ?_)
         replace hF := Fr.bool (t := false) (by first | decide | (simp; done) | rfl) hF
         refine pv hF hW (y_assign hF rfl) (fun a hF => ?_)
         replace hF := Fr.bool (t := false) (by first | decide | (simp; done) | rfl) hF
         refine l_nil ?_
         replace hF := (hF.k 0 rfl (hF.k 1 rfl (hF.k 2 rfl (hF.k 3 rfl (hF.k 4 rfl (hF.k 5 rfl (hF.k 6 rfl (hF.k 7 rfl (hF.k 8 rfl (hF.k 9 rfl (hF.k 10 rfl (hF.k 15 rfl (hF.k 23 rfl (hF.k 47 rfl (hF.k 48 rfl (hF.k 56 rfl (hF.k 63 rfl (hF.k 72 rfl hF.nil))))))))))))))))))
         refine t_n ?_
         refine c_f hF rfl ?_
         refine c_sr ?_
         refine pv hF hW (y_eql hF rfl rfl) (fun a hF => ?_)
         replace hF := Fr.bool (t := false) (by first | decide | (simp; done) | rfl) hF
         refine pv hF hW (y_assign hF rfl) (fun a hF => ?_)
         replace hF := Fr.bool (t := false) (by first | decide | (simp; done) | rfl) hF
         refine l_nil ?_
         replace hF := (hF.k 0 rfl (hF.k 1 rfl (hF.k 2 rfl (hF.k 3 rfl (hF.k 4 rfl (hF.k 5 rfl (hF.k 6 rfl (hF.k 7 rfl (hF.k 8 rfl (hF.k 9 rfl (hF.k 10 rfl (hF.k 15 rfl (hF.k 23 rfl (hF.k 47 rfl (hF.k 48 rfl (hF.k 56 rfl (hF.k 63 rfl (hF.k 72 rfl (hF.k 81 rfl hF.nil)))))))))))))))))))
         refine t_n ?_
         refine c_f hF rfl ?_
         refine c_s ?_
         refine c_sr ?_
         refine pv hF hW (y_eql hF rfl rfl) (fun a hF => ?_)
         replace hF := Fr.bool (t := false) (by first | decide | (simp; done) | rfl) hF
         refine pv hF hW (y_assign hF rfl) (fun a hF => ?_)
         replace hF := Fr.bool (t := false) (by first | decide | (simp; done) | rfl) hF
         refine l_nil ?_
         replace hF := (hF.k 0 rfl (hF.k 1 rfl (hF.k 2 rfl (hF.k 3 rfl (hF.k 4 rfl (hF.k 5 rfl (hF.k 6 rfl (hF.k 7 rfl (hF.k 8 rfl (hF.k 9 rfl (hF.k 10 rfl (hF.k 15 rfl (hF.k 23 rfl (hF.k 47 rfl (hF.k 48 rfl (hF.k 56 rfl (hF.k 63 rfl (hF.k 72 rfl (hF.k 81 rfl (hF.k 94 rfl hF.nil))))))))))))))))))))
         refine t_n ?_
         refine c_f hF rfl ?_
         refine c_r ?_
         refine pv hF hW (y_eql hF rfl rfl) (fun a hF => ?_)
         replace hF := Fr.bool (t := false) (by first | decide | (simp; done) | rfl) hF
         replace hF := hF.drop 94
         refine pv hF hW (y_assign hF rfl) (fun a hF => ?_)
         replace hF := Fr.bool (t := false) (by first | decide | (simp; done) | rfl) hF
         refine l_nil ?_
         replace hF := (hF.k 0 rfl (hF.k 1 rfl (hF.k 2 rfl (hF.k 3 rfl (hF.k 4 rfl (hF.k 5 rfl (hF.k 6 rfl (hF.k 7 rfl (hF.k 8 rfl (hF.k 9 rfl (hF.k 10 rfl (hF.k 15 rfl (hF.k 23 rfl (hF.k 47 rfl (hF.k 48 rfl (hF.k 56 rfl (hF.k 63 rfl (hF.k 72 rfl (hF.k 81 rfl (hF.k 94 rfl hF.nil))))))))))))))))))))
         refine t_n ?_
         refine c_f hF rfl ?_
         refine c_sr ?_
         refine pv hF hW (y_eql hF rfl rfl) (fun a hF => ?_)
         replace hF := Fr.bool (t := false) (by first | decide | (simp; done) | rfl) hF
         refine pv hF hW (y_assign hF rfl) (fun a hF => ?_)
         replace hF := Fr.bool (t := false) (by first | decide | (simp; done) | rfl) hF
         refine l_nil ?_
         replace hF := (hF.k 0 rfl (hF.k 1 rfl (hF.k 2 rfl (hF.k 3 rfl (hF.k 4 rfl (hF.k 5 rfl (hF.k 6 rfl (hF.k 7 rfl (hF.k 8 rfl (hF.k 9 rfl (hF.k 10 rfl (hF.k 15 rfl (hF.k 23 rfl (hF.k 47 rfl (hF.k 48 rfl (hF.k 56 rfl (hF.k 63 rfl (hF.k 72 rfl (hF.k 81 rfl (hF.k 94 rfl (hF.k 118 rfl hF.nil)))))))))))))))))))))
         refine t_n ?_
         refine c_f hF rfl ?_
         refine c_sr ?_
         refine pv hF hW (y_eql hF rfl rfl) (fun a hF => ?_)
         replace hF := Fr.bool (t := false) (by first | decide | (simp; done) | rfl) hF
         refine pv hF hW (y_assign hF rfl) (fun a hF => ?_)
         replace hF := Fr.bool (t := false) (by first | decide | (simp; done) | rfl) hF
         refine l_nil ?_
         replace hF := (hF.k 0 rfl (hF.k 1 rfl (hF.k 2 rfl (hF.k 3 rfl (hF.k 4 rfl (hF.k 5 rfl (hF.k 6 rfl (hF.k 7 rfl (hF.k 8 rfl (hF.k 9 rfl (hF.k 10 rfl (hF.k 15 rfl (hF.k 23 rfl (hF.k 47 rfl (hF.k 48 rfl (hF.k 56 rfl (hF.k 63 rfl (hF.k 72 rfl (hF.k 81 rfl (hF.k 94 rfl (hF.k 118 rfl (hF.k 122 rfl hF.nil))))))))))))))))))))))
         refine t_n ?_
         refine c_f hF rfl ?_
         refine c_sr ?_
         refine pv hF hW (y_eql hF rfl rfl) (fun a hF => ?_)
         replace hF := Fr.bool (t := true) (by first | decide | (simp; done) | rfl) hF
         refine pv hF hW (y_assign hF rfl) (fun a hF => ?_)
         replace hF := Fr.bool (t := true) (by first | decide | (simp; done) | rfl) hF
         refine l_nil ?_
         replace hF := (hF.k 0 rfl (hF.k 1 rfl (hF.k 2 rfl (hF.k 3 rfl (hF.k 4 rfl (hF.k 5 rfl (hF.k 6 rfl (hF.k 7 rfl (hF.k 8 rfl (hF.k 9 rfl (hF.k 10 rfl (hF.k 15 rfl (hF.k 23 rfl (hF.k 47 rfl (hF.k 48 rfl (hF.k 56 rfl (hF.k 63 rfl (hF.k 72 rfl (hF.k 81 rfl (hF.k 94 rfl (hF.k 118 rfl (hF.k 122 rfl (hF.k 128 rfl hF.nil)))))))))))))))))))))))
         refine t_n ?_
         refine c_t hF rfl ?_
         refine c_sr ?_
         refine pv hF hW (y_fieldOwn hF rfl fa_95_1) (fun a hF => ?_)
         refine pv hF hW (y_loadOwn hF rfl 1 rfl rfl Try.underlying3 rfl) (fun a hF => ?_)
         refine pv hF hW (y_fieldOwn hF rfl fa_46_1) (fun a hF => ?_)
         refine pv hF hW (y_indexA hF rfl rfl (by first | omega | decide) Try.underlying43 sz_3) (fun a hF => ?_)
         refine pe (e_store rfl hF hW rfl rfl 5 rfl rfl rfl sz_3 ?_)
         intro wc hW
         refine l_nil ?_
         replace hF := (hF.k 0 rfl (hF.k 1 rfl (hF.k 2 rfl (hF.k 3 rfl (hF.k 4 rfl (hF.k 5 rfl (hF.k 6 rfl (hF.k 7 rfl (hF.k 8 rfl (hF.k 9 rfl (hF.k 10 rfl (hF.k 15 rfl (hF.k 23 rfl (hF.k 47 rfl (hF.k 48 rfl (hF.k 56 rfl (hF.k 63 rfl (hF.k 72 rfl (hF.k 81 rfl (hF.k 94 rfl (hF.k 118 rfl (hF.k 122 rfl (hF.k 128 rfl hF.nil)))))))))))))))))))))))
         refine t_n ?_
         refine c_sr ?_
         refine pv hF hW (y_fieldOwn hF rfl fa_46_3) (fun a hF => ?_)
         refine pv hF hW (y_loadOwn hF rfl 5 rfl rfl Try.underlying3 rfl) (fun a hF => ?_)
         refine pv hF hW (y_fieldOwn hF rfl fa_42_1) (fun a hF => ?_)
         refine pv hF hW (y_loadOwn hF rfl 6 rfl rfl Try.underlying22 rfl) (fun a hF => ?_)
         refine pv hF hW (y_len hF rfl Try.underlying22) (fun a hF => ?_)
         refine pv hF hW (y_lss hF rfl rfl) (fun a hF => ?_)
         refine Fr.splitD hF ?_ ?_
         · intro h8 hF
           first
             | (exfalso; omega)
             | (refine l_nil ?_
                replace hF := (hF.k 0 rfl (hF.k 1 rfl (hF.k 2 rfl (hF.k 3 rfl (hF.k 4 rfl (hF.k 5 rfl (hF.k 6 rfl (hF.k 7 rfl (hF.k 8 rfl (hF.k 9 rfl (hF.k 10 rfl (hF.k 15 rfl (hF.k 23 rfl (hF.k 47 rfl (hF.k 48 rfl (hF.k 56 rfl (hF.k 63 rfl (hF.k 72 rfl (hF.k 81 rfl (hF.k 94 rfl (hF.k 118 rfl (hF.k 122 rfl (hF.k 128 rfl (hF.k 139 rfl hF.nil))))))))))))))))))))))))
                refine t_n ?_
                refine c_t hF rfl ?_
                refine c_sd mixed_ok hW ((hW.del 5 rfl)) ?_
                clear hW; intro wc hW hS
                refine dv 0 rfl hF hS (y_fieldOwn hF rfl fa_95_1) (fun a hF => ?_)
                refine dv 1 rfl hF hS (y_loadOwn hF rfl 1 rfl rfl Try.underlying3 rfl) (fun a hF => ?_)
                refine dv 2 rfl hF hS (y_fieldOwn hF rfl fa_42_1) (fun a hF => ?_)
                refine dv 3 rfl hF hS (y_loadOwn hF rfl 5 rfl rfl Try.underlying22 rfl) (fun a hF => ?_)
                refine dv 4 rfl hF hS (y_fieldOwn hF rfl fa_46_3) (fun a hF => ?_)
                refine dv 8 rfl hF hS (y_fieldOwn hF rfl fa_46_1) (fun a hF => ?_)
                refine d_1 5 (by kernel_rfl) ?_
                refine d_opval rfl hF rfl hW (y_loadOwn hF rfl 5 rfl rfl Try.underlying3 rfl) rfl rfl (fun a hF => ?_)
                refine ⟨(hW.del 5 rfl), ?_⟩
                replace hS := (hW.del 5 rfl)
                refine dv 6 rfl hF hS (y_indexS hF rfl rfl (by first | omega | decide) Try.underlying22 sz_3 (fun w h => (hI).wd h)) (fun a hF => ?_)
                refine dv 7 rfl hF hS (y_loadRow hF rfl (fun w h => (hI).wd h) (by first | omega | decide) rfl Try.underlying3 rfl) (fun a hF => ?_)
                refine dv 9 rfl hF hS (y_indexA hF rfl rfl (by first | omega | decide) Try.underlying43 sz_3) (fun a hF => ?_)
                refine d_1 10 (by kernel_rfl) ?_
                refine d_op rfl rfl (e_store rfl hF hW rfl rfl 5 rfl rfl rfl sz_3 ?_)
                intro wc hW
                refine ⟨(hW.del 5 rfl), ?_⟩
                replace hS := (hW.del 5 rfl)
                clear hS
                refine d_nil (by kernel_rfl) ?_
                replace hF := (hF.k 0 rfl (hF.k 1 rfl (hF.k 2 rfl (hF.k 3 rfl (hF.k 4 rfl (hF.k 5 rfl (hF.k 6 rfl (hF.k 7 rfl (hF.k 8 rfl (hF.k 9 rfl (hF.k 10 rfl (hF.k 15 rfl (hF.k 23 rfl (hF.k 47 rfl (hF.k 48 rfl (hF.k 56 rfl (hF.k 63 rfl (hF.k 72 rfl (hF.k 81 rfl (hF.k 94 rfl (hF.k 118 rfl (hF.k 122 rfl (hF.k 128 rfl (hF.k 139 rfl hF.nil))))))))))))))))))))))))
                refine t_n ?_
                refine c_r ?_
                refine pv hF hW (y_fieldOwn hF rfl fa_46_3) (fun a hF => ?_)
                refine pv hF hW (y_loadOwn hF rfl 5 rfl rfl Try.underlying3 rfl) (fun a hF => ?_)
                refine pv hF hW (y_add hF rfl rfl (IntWalk.i64_in _ (by omega))) (fun a hF => ?_)
                refine pv hF hW (y_fieldOwn hF rfl fa_46_3) (fun a hF => ?_)
                refine pe (e_store rfl hF hW rfl rfl 5 rfl rfl rfl sz_3 ?_)
                intro wc hW
                refine l_nil ?_
                replace hF := (hF.k 0 rfl (hF.k 1 rfl (hF.k 2 rfl (hF.k 3 rfl (hF.k 4 rfl (hF.k 5 rfl (hF.k 6 rfl (hF.k 7 rfl (hF.k 8 rfl (hF.k 9 rfl (hF.k 10 rfl (hF.k 15 rfl (hF.k 23 rfl (hF.k 47 rfl (hF.k 48 rfl (hF.k 56 rfl (hF.k 63 rfl (hF.k 72 rfl (hF.k 81 rfl (hF.k 94 rfl (hF.k 118 rfl (hF.k 122 rfl (hF.k 128 rfl (hF.k 139 rfl hF.nil))))))))))))))))))))))))
                refine b_n ?_
                refine t_n ?_
                refine c_sr ?_
                refine pv hF hW (y_move hF rfl) (fun a hF => ?_)
                refine pv hF hW (y_fieldOwn hF rfl fa_46_0) (fun a hF => ?_)
                refine pe (e_store rfl hF hW rfl rfl 5 rfl rfl rfl sz_3 ?_)
                intro wc hW
                refine l_nil ?_
                replace hF := (hF.k 0 rfl (hF.k 1 rfl (hF.k 2 rfl (hF.k 3 rfl (hF.k 4 rfl (hF.k 5 rfl (hF.k 6 rfl (hF.k 7 rfl (hF.k 8 rfl (hF.k 9 rfl (hF.k 10 rfl (hF.k 15 rfl (hF.k 23 rfl (hF.k 47 rfl (hF.k 48 rfl (hF.k 56 rfl (hF.k 63 rfl (hF.k 72 rfl (hF.k 81 rfl (hF.k 94 rfl (hF.k 118 rfl (hF.k 122 rfl (hF.k 128 rfl (hF.k 139 rfl hF.nil))))))))))))))))))))))))
                refine t_n ?_
                refine c_sd mixed_ok hW (((hW.del 3 rfl).del 3 rfl)) ?_
                clear hW; intro wc hW hS
                refine dv 0 rfl hF hS (y_loadAll hF rfl 3 rfl Try.underlying46 rfl sz_46) (fun a hF => ?_)
                refine dv 1 rfl hF hS (y_loadAll hF rfl 0 rfl Try.underlying48 rfl sz_48) (fun a hF => ?_)
                refine d_1 2 (by kernel_rfl) ?_
                refine d_op rfl rfl (e_storeAll rfl hF hW rfl rfl 4 rfl rfl rfl (by kernel_rfl) sz_46 ?_)
                intro wc hW
                refine ⟨((hW.del 3 rfl).del 3 rfl), ?_⟩
                replace hS := ((hW.del 3 rfl).del 3 rfl)
                refine d_1 3 (by kernel_rfl) ?_
                refine d_op rfl rfl (e_storeAll rfl hF hW rfl rfl 3 rfl rfl rfl (by kernel_rfl) sz_48 ?_)
                intro wc hW
                refine ⟨((hW.del 3 rfl).del 3 rfl), ?_⟩
                replace hS := ((hW.del 3 rfl).del 3 rfl)
                clear hS
                refine d_nil (by kernel_rfl) ?_
                replace hF := (hF.k 0 rfl (hF.k 1 rfl (hF.k 2 rfl (hF.k 3 rfl (hF.k 4 rfl (hF.k 5 rfl (hF.k 6 rfl (hF.k 7 rfl (hF.k 8 rfl (hF.k 9 rfl (hF.k 10 rfl (hF.k 15 rfl (hF.k 23 rfl (hF.k 47 rfl (hF.k 48 rfl (hF.k 56 rfl (hF.k 63 rfl (hF.k 72 rfl (hF.k 81 rfl (hF.k 94 rfl (hF.k 118 rfl (hF.k 122 rfl (hF.k 128 rfl (hF.k 139 rfl hF.nil))))))))))))))))))))))))
                refine t_n ?_
                refine wp_ret ?_
                refine ret2 Try.results23 hF (rv_c hF rfl hW 4 rfl Try.underlying46 rfl sz_46) (rv_c hF rfl hW 3 rfl Try.underlying48 rfl sz_48) ?_
                first | rw [if_pos (by assumption), if_pos (by assumption)] | rw [if_neg (by assumption), if_neg (by assumption)]
                exact ⟨_, rfl, ⟨rfl, rfl⟩, hW.row_own 2 rfl, hW.below⟩)
         · intro h8 hF
           first
             | (exfalso; omega)
             | (refine l_nil ?_
                replace hF := (hF.k 0 rfl (hF.k 1 rfl (hF.k 2 rfl (hF.k 3 rfl (hF.k 4 rfl (hF.k 5 rfl (hF.k 6 rfl (hF.k 7 rfl (hF.k 8 rfl (hF.k 9 rfl (hF.k 10 rfl (hF.k 15 rfl (hF.k 23 rfl (hF.k 47 rfl (hF.k 48 rfl (hF.k 56 rfl (hF.k 63 rfl (hF.k 72 rfl (hF.k 81 rfl (hF.k 94 rfl (hF.k 118 rfl (hF.k 122 rfl (hF.k 128 rfl (hF.k 139 rfl hF.nil))))))))))))))))))))))))
                refine t_n ?_
                refine c_f hF rfl ?_
                refine wp_skip ?_
                refine b_n ?_
                refine t_n ?_
                refine c_sr ?_
                refine pv hF hW (y_move hF rfl) (fun a hF => ?_)
                refine pv hF hW (y_fieldOwn hF rfl fa_46_0) (fun a hF => ?_)
                refine pe (e_store rfl hF hW rfl rfl 5 rfl rfl rfl sz_3 ?_)
                intro wc hW
                refine l_nil ?_
                replace hF := (hF.k 0 rfl (hF.k 1 rfl (hF.k 2 rfl (hF.k 3 rfl (hF.k 4 rfl (hF.k 5 rfl (hF.k 6 rfl (hF.k 7 rfl (hF.k 8 rfl (hF.k 9 rfl (hF.k 10 rfl (hF.k 15 rfl (hF.k 23 rfl (hF.k 47 rfl (hF.k 48 rfl (hF.k 56 rfl (hF.k 63 rfl (hF.k 72 rfl (hF.k 81 rfl (hF.k 94 rfl (hF.k 118 rfl (hF.k 122 rfl (hF.k 128 rfl (hF.k 139 rfl hF.nil))))))))))))))))))))))))
                refine t_n ?_
                refine c_sd mixed_ok hW (((hW.del 3 rfl).del 3 rfl)) ?_
                clear hW; intro wc hW hS
                refine dv 0 rfl hF hS (y_loadAll hF rfl 3 rfl Try.underlying46 rfl sz_46) (fun a hF => ?_)
                refine dv 1 rfl hF hS (y_loadAll hF rfl 0 rfl Try.underlying48 rfl sz_48) (fun a hF => ?_)
                refine d_1 2 (by kernel_rfl) ?_
                refine d_op rfl rfl (e_storeAll rfl hF hW rfl rfl 4 rfl rfl rfl (by kernel_rfl) sz_46 ?_)
                intro wc hW
                refine ⟨((hW.del 3 rfl).del 3 rfl), ?_⟩
                replace hS := ((hW.del 3 rfl).del 3 rfl)
                refine d_1 3 (by kernel_rfl) ?_
                refine d_op rfl rfl (e_storeAll rfl hF hW rfl rfl 3 rfl rfl rfl (by kernel_rfl) sz_48 ?_)
                intro wc hW
                refine ⟨((hW.del 3 rfl).del 3 rfl), ?_⟩
                replace hS := ((hW.del 3 rfl).del 3 rfl)
                clear hS
                refine d_nil (by kernel_rfl) ?_
                replace hF := (hF.k 0 rfl (hF.k 1 rfl (hF.k 2 rfl (hF.k 3 rfl (hF.k 4 rfl (hF.k 5 rfl (hF.k 6 rfl (hF.k 7 rfl (hF.k 8 rfl (hF.k 9 rfl (hF.k 10 rfl (hF.k 15 rfl (hF.k 23 rfl (hF.k 47 rfl (hF.k 48 rfl (hF.k 56 rfl (hF.k 63 rfl (hF.k 72 rfl (hF.k 81 rfl (hF.k 94 rfl (hF.k 118 rfl (hF.k 122 rfl (hF.k 128 rfl (hF.k 139 rfl hF.nil))))))))))))))))))))))))
                refine t_n ?_
                refine wp_ret ?_
                refine ret2 Try.results23 hF (rv_c hF rfl hW 4 rfl Try.underlying46 rfl sz_46) (rv_c hF rfl hW 3 rfl Try.underlying48 rfl sz_48) ?_
                first | rw [if_pos (by assumption), if_pos (by assumption)] | rw [if_neg (by assumption), if_neg (by assumption)]
                exact ⟨_, rfl, ⟨rfl, rfl⟩, hW.row_own 2 rfl, hW.below⟩))
theorem stepR_in2 (at' : Nat) (r0 r1 r2 r3 m0 m1 m2 m3 m4 m5 m6 m7 rd : Int) (l : List Ins) (inp out : List Int) (Ac Ai Ao : Option Addr) (cc ci co : Nat) (w : World)
    (hC : RF w Ac l.length 4 (fun k => [.int .i64 (l.getD k ⟨0, 0, 0, 0⟩).op, .int .i64 (l.getD k ⟨0, 0, 0, 0⟩).a, .int .i64 (l.getD k ⟨0, 0, 0, 0⟩).b, .int .i64 (l.getD k ⟨0, 0, 0, 0⟩).n])) (hlt : at' < l.length) (hl : l.length ≤ 1048576)
    (hi : l.getD at' ⟨0, 0, 0, 0⟩ = ⟨10, 2, 0, 0⟩) (hI : RF w Ai inp.length 1 (fun k => [.int .i64 (inp.getD k 0)])) (ho : Ints w (.slice Ao out.length co) out) (hol : out.length ≤ 1048576) (hr0 : 0 ≤ rd) (hr1 : rd ≤ inp.length) (hr2 : rd ≤ 12) :
    Calls Try.prog 23 #[.agg #[.slice Ac l.length cc, .slice Ai inp.length ci], .agg #[.int .i64 at', .int .i64 r0, .int .i64 r1, .int .i64 r2, .int .i64 r3, .int .i64 m0, .int .i64 m1, .int .i64 m2, .int .i64 m3, .int .i64 m4, .int .i64 m5, .int .i64 m6, .int .i64 m7, .int .i64 rd, .slice Ao out.length co, .int .i64 0]] w
      (CelWantBack w (⟨at' + 1, if rd < inp.length then [r0, r1, r2, r3].set 2 (inp.getD rd.toNat 0) else [r0, r1, r2, r3].set 2 0, [m0, m1, m2, m3, m4, m5, m6, m7], if rd < inp.length then rd + 1 else rd, out, 0⟩, Wnt.zero)) := by
  obtain ⟨rn, rfl⟩ := Int.eq_ofNat_of_zero_le hr0
  have hown := fun w1 (hb : Below w.heap.size w w1) => ownCell_abs ⟨at', [r0, r1, r2, r3], [m0, m1, m2, m3, m4, m5, m6, m7], rn, out, 0⟩ (.slice Ao out.length co) ⟨rfl, rfl⟩ w ho hol w1 hb
  refine enter Try.func23 rfl Try.ntmps23 rfl (fun a hF => ?_)
  have hW := Wd.start w NoB
  refine c_sr ?_
  refine pe (e_box hF hW rfl rfl rfl rfl ?_)
  intro b1 a wc hF hW
  refine pe (e_box hF hW rfl rfl rfl rfl ?_)
  intro b2 a wc hF hW
  refine pe (e_alloc hF hW ze_46 rfl rfl rfl ?_)
  intro b3 a wc hF hW
  refine pe (e_alloc hF hW ze_48 rfl rfl rfl ?_)
  intro b4 a wc hF hW
  refine l_nil ?_
  refine t_n ?_
  refine c_sr ?_
  refine pv hF hW (y_loadAll hF rfl 2 rfl Try.underlying46 rfl sz_46) (fun a hF => ?_)
  refine pe (e_call hF rfl rfl en_49 (by rfl) rfl rfl (hown _ hW.below) ?_)
  rintro e w1 ⟨A1, c1, rfl, hown1, hb⟩
  replace hW := hW.got_row (v := .slice A1 out.length c1) (n := out.length) (cs := out.map (.int .i64)) hb hown1
  refine ⟨_, rfl, fun a hF => ?_⟩
  replace hF := Fr.cast (v' := .agg #[.int .i64 at', .int .i64 r0, .int .i64 r1, .int .i64 r2, .int .i64 r3, .int .i64 m0, .int .i64 m1, .int .i64 m2, .int .i64 m3, .int .i64 m4, .int .i64 m5, .int .i64 m6, .int .i64 m7, .int .i64 rn, .slice A1 out.length c1, .int .i64 0]) rfl hF
  refine pe (e_storeAll rfl hF hW rfl rfl 3 rfl rfl rfl (by kernel_rfl) sz_46 ?_)
  intro wc hW
  refine l_nil ?_
  replace hF := (hF.k 0 rfl (hF.k 1 rfl (hF.k 2 rfl (hF.k 3 rfl (hF.k 4 rfl (hF.k 5 rfl hF.nil))))))
  refine t_n ?_
  refine c_s ?_
  refine c_sr ?_
  refine pv hF hW (y_fieldOwn hF rfl fa_46_5) (fun a hF => ?_)
  refine pv hF hW (y_loadOwn hF rfl 3 rfl rfl Try.underlying3 rfl) (fun a hF => ?_)
  refine pv hF hW (y_neq hF rfl rfl) (fun a hF => ?_)
  replace hF := Fr.bool (t := false) (by first | decide | (simp; done) | rfl) hF
  refine l_nil ?_
  replace hF := (hF.k 0 rfl (hF.k 1 rfl (hF.k 2 rfl (hF.k 3 rfl (hF.k 4 rfl (hF.k 5 rfl (hF.k 15 rfl hF.nil)))))))
  refine t_n ?_
  refine c_f hF rfl ?_
  refine wp_skip ?_
  refine t_n ?_
  refine c_s ?_
  refine c_sr ?_
  refine pv hF hW (y_fieldOwn hF rfl fa_46_0) (fun a hF => ?_)
  refine pv hF hW (y_loadOwn hF rfl 3 rfl rfl Try.underlying3 rfl) (fun a hF => ?_)
  refine pv hF hW (y_fieldOwn hF rfl fa_42_0) (fun a hF => ?_)
  refine pv hF hW (y_loadOwn hF rfl 4 rfl rfl Try.underlying40 rfl) (fun a hF => ?_)
  refine pv hF hW (y_len hF rfl Try.underlying40) (fun a hF => ?_)
  refine pv hF hW (y_geq hF rfl rfl) (fun a hF => ?_)
  refine Fr.splitD hF ?_ ?_
  · intro h5 hF
    first
      | (exfalso; omega)
      | (refine l_nil ?_
         replace hF := (hF.k 0 rfl (hF.k 1 rfl (hF.k 2 rfl (hF.k 3 rfl (hF.k 4 rfl (hF.k 5 rfl (hF.k 15 rfl (hF.k 23 rfl hF.nil))))))))
         refine t_n ?_
         refine c_t hF rfl ?_
         refine c_sr ?_
         refine pv hF hW (y_fieldOwn hF rfl fa_46_5) (fun a hF => ?_)
         refine pe (e_store rfl hF hW rfl rfl 3 rfl rfl rfl sz_3 ?_)
         intro wc hW
         refine l_nil ?_
         replace hF := (hF.k 0 rfl (hF.k 1 rfl (hF.k 2 rfl (hF.k 3 rfl (hF.k 4 rfl (hF.k 5 rfl (hF.k 15 rfl (hF.k 23 rfl hF.nil))))))))
         refine t_n ?_
         refine c_sr ?_
         refine pv hF hW (y_loadAll hF rfl 3 rfl Try.underlying46 rfl sz_46) (fun a hF => ?_)
         refine pv hF hW (y_build hF rfl (fun w => bu_CellIO_48_  w)) (fun a hF => ?_)
         refine pe (e_storeAll rfl hF hW rfl rfl 2 rfl rfl rfl (by kernel_rfl) sz_46 ?_)
         intro wc hW
         refine pe (e_storeAll rfl hF hW rfl rfl 1 rfl rfl rfl (by kernel_rfl) sz_48 ?_)
         intro wc hW
         refine l_nil ?_
         replace hF := (hF.k 0 rfl (hF.k 1 rfl (hF.k 2 rfl (hF.k 3 rfl (hF.k 4 rfl (hF.k 5 rfl (hF.k 15 rfl (hF.k 23 rfl hF.nil))))))))
         refine t_n ?_
         refine wp_ret ?_
         refine t_r ?_
         refine ret2 Try.results23 hF (rv_c hF rfl hW 2 rfl Try.underlying46 rfl sz_46) (rv_c hF rfl hW 1 rfl Try.underlying48 rfl sz_48) ?_
         first | rw [if_pos (by assumption), if_pos (by assumption)] | rw [if_neg (by assumption), if_neg (by assumption)]
         exact ⟨_, rfl, ⟨rfl, rfl⟩, hW.row_own 0 rfl, hW.below⟩)
  · intro h5 hF
    first
      | (exfalso; omega)
      | (refine l_nil ?_
         replace hF := (hF.k 0 rfl (hF.k 1 rfl (hF.k 2 rfl (hF.k 3 rfl (hF.k 4 rfl (hF.k 5 rfl (hF.k 15 rfl (hF.k 23 rfl hF.nil))))))))
         refine t_n ?_
         refine c_f hF rfl ?_
         refine wp_skip ?_
         refine t_n ?_
         refine c_sr ?_
         refine pv hF hW (y_fieldOwn hF rfl fa_42_0) (fun a hF => ?_)
         refine pv hF hW (y_loadOwn hF rfl 4 rfl rfl Try.underlying40 rfl) (fun a hF => ?_)
         refine pv hF hW (y_fieldOwn hF rfl fa_46_0) (fun a hF => ?_)
         refine pv hF hW (y_loadOwn hF rfl 3 rfl rfl Try.underlying3 rfl) (fun a hF => ?_)
         refine pv hF hW (y_indexS hF rfl rfl (by first | omega | decide) Try.underlying40 sz_95 (fun w h => (hC).wd h)) (fun a hF => ?_)
         refine pv hF hW (y_loadRowW hF rfl (fun w h => (hC).wd h) (by first | omega | decide) Try.underlying95 rfl sz_95) (fun a hF => ?_)
         replace hF := Fr.cast (v' := .agg #[.int .i64 10, .int .i64 2, .int .i64 0, .int .i64 0]) (by rw [hi]) hF
         refine pe (e_alloc hF hW ze_95 rfl rfl rfl ?_)
         intro b6 a wc hF hW
         refine pe (e_storeAll rfl hF hW rfl rfl 0 rfl rfl rfl (by kernel_rfl) sz_95 ?_)
         intro wc hW
         refine l_nil ?_
         replace hF := (hF.k 0 rfl (hF.k 1 rfl (hF.k 2 rfl (hF.k 3 rfl (hF.k 4 rfl (hF.k 5 rfl (hF.k 6 rfl (hF.k 15 rfl (hF.k 23 rfl hF.nil)))))))))
         refine t_n ?_
         refine c_sr ?_
         refine pv hF hW (y_fieldOwn hF rfl fa_46_0) (fun a hF => ?_)
         refine pv hF hW (y_loadOwn hF rfl 4 rfl rfl Try.underlying3 rfl) (fun a hF => ?_)
         refine pv hF hW (y_add hF rfl rfl (IntWalk.i64_in _ (by omega))) (fun a hF => ?_)
         refine pv hF hW (y_assign hF rfl) (fun a hF => ?_)
         refine l_nil ?_
         replace hF := (hF.k 0 rfl (hF.k 1 rfl (hF.k 2 rfl (hF.k 3 rfl (hF.k 4 rfl (hF.k 5 rfl (hF.k 6 rfl (hF.k 7 rfl (hF.k 15 rfl (hF.k 23 rfl hF.nil))))))))))
         refine t_n ?_
         refine c_sd mixed_ok hW (hW) ?_
         clear hW; intro wc hW hS
         refine dv 0 rfl hF hS (y_fieldOwn hF rfl fa_95_1) (fun a hF => ?_)
         refine dv 1 rfl hF hS (y_loadOwn hF rfl 0 rfl rfl Try.underlying3 rfl) (fun a hF => ?_)
         refine dv 2 rfl hF hS (y_fieldOwn hF rfl fa_46_1) (fun a hF => ?_)
         refine dv 3 rfl hF hS (y_indexA hF rfl rfl (by first | omega | decide) Try.underlying43 sz_3) (fun a hF => ?_)
         refine dv 4 rfl hF hS (y_loadOwn hF rfl 4 rfl rfl Try.underlying3 rfl) (fun a hF => ?_)
         refine dv 5 rfl hF hS (y_fieldOwn hF rfl fa_95_2) (fun a hF => ?_)
         refine dv 6 rfl hF hS (y_loadOwn hF rfl 0 rfl rfl Try.underlying3 rfl) (fun a hF => ?_)
         refine dv 7 rfl hF hS (y_fieldOwn hF rfl fa_46_1) (fun a hF => ?_)
         refine dv 8 rfl hF hS (y_indexA hF rfl rfl (by first | omega | decide) Try.underlying43 sz_3) (fun a hF => ?_)
         refine dv 9 rfl hF hS (y_loadOwn hF rfl 4 rfl rfl Try.underlying3 rfl) (fun a hF => ?_)
         refine dv 10 rfl hF hS (y_assign hF rfl) (fun a hF => ?_)
         refine dv 11 rfl hF hS (y_assign hF rfl) (fun a hF => ?_)
         clear hS
         refine d_nil (by kernel_rfl) ?_
         replace hF := (hF.k 0 rfl (hF.k 1 rfl (hF.k 2 rfl (hF.k 3 rfl (hF.k 4 rfl (hF.k 5 rfl (hF.k 6 rfl (hF.k 7 rfl (hF.k 8 rfl (hF.k 9 rfl (hF.k 15 rfl (hF.k 23 rfl hF.nil))))))))))))
         refine t_n ?_
         refine c_sr ?_
         refine pe (e_alloc hF hW ze_48 rfl rfl rfl ?_)
         intro b7 a wc hF hW
         refine l_nil ?_
         refine t_n ?_
         refine c_s ?_
         refine c_sr ?_
         refine pv hF hW (y_fieldOwn hF rfl fa_95_0) (fun a hF => ?_)
         refine pv hF hW (y_loadOwn hF rfl 1 rfl rfl Try.underlying3 rfl) (fun a hF => ?_)
         refine l_nil ?_
         replace hF := (hF.k 0 rfl (hF.k 1 rfl (hF.k 2 rfl (hF.k 3 rfl (hF.k 4 rfl (hF.k 5 rfl (hF.k 6 rfl (hF.k 7 rfl (hF.k 8 rfl (hF.k 9 rfl (hF.k 10 rfl (hF.k 15 rfl (hF.k 23 rfl (hF.k 47 rfl hF.nil))))))))))))))
         refine t_n ?_
         refine wp_block ?_
         refine c_sr ?_
         refine pv hF hW (y_eql hF rfl rfl) (fun a hF => ?_)
         replace hF := Fr.bool (t := false) (by first | decide | (simp; done) | rfl) hF
         refine pv hF hW (y_assign hF rfl) (fun a hF => ?_)
         replace hF := Fr.bool (t := false) (by first | decide | (simp; done) | rfl) hF
         refine l_nil ?_
         replace hF := (hF.k 0 rfl (hF.k 1 rfl (hF.k 2 rfl (hF.k 3 rfl (hF.k 4 rfl (hF.k 5 rfl (hF.k 6 rfl (hF.k 7 rfl (hF.k 8 rfl (hF.k 9 rfl (hF.k 10 rfl (hF.k 15 rfl (hF.k 23 rfl (hF.k 47 rfl (hF.k 48 rfl hF.nil)))))))))))))))
         refine t_n ?_
         refine c_f hF rfl ?_
         refine c_sr ?_
         refine pv hF hW (y_eql hF rfl rfl) (fun a hF => ?_)
         replace hF := Fr.bool (t := false) (by first | decide | (simp; done) | rfl) hF
         refine pv hF hW (y_assign hF rfl) (fun a hF => ?_)
         replace hF := Fr.bool (t := false) (by first | decide | (simp; done) | rfl) hF
         refine l_nil ?_
         replace hF := (hF.k 0 rfl (hF.k 1 rfl (hF.k 2 rfl (hF.k 3 rfl (hF.k 4 rfl (hF.k 5 rfl (hF.k 6 rfl (hF.k 7 rfl (hF.k 8 rfl (hF.k 9 rfl (hF.k 10 rfl (hF.k 15 rfl (hF.k 23 rfl (hF.k 47 rfl (hF.k 48 rfl (hF.k 56 rfl hF.nil))))))))))))))))
         refine t_n ?_
         refine c_f hF rfl ?_
         refine c_sr ?_
         refine pv hF hW (y_eql hF rfl rfl) (fun a hF => ?_)
         replace hF := Fr.bool (t := false) (by first | decide | (simp; done) | rfl) hF
         refine pv hF hW (y_assign hF rfl) (fun a hF => ?_)
         replace hF := Fr.bool (t := false) (by first | decide | (simp; done) | rfl) hF
         refine l_nil ?_
         replace hF := (hF.k 0 rfl (hF.k 1 rfl (hF.k 2 rfl (hF.k 3 rfl (hF.k 4 rfl (hF.k 5 rfl (hF.k 6 rfl (hF.k 7 rfl (hF.k 8 rfl (hF.k 9 rfl (hF.k 10 rfl (hF.k 15 rfl (hF.k 23 rfl (hF.k 47 rfl (hF.k 48 rfl (hF.k 56 rfl (hF.k 63 rfl hF.nil)))))))))))))))))
         refine t_n ?_
         refine c_f hF rfl ?_
         refine c_sr ?_
         refine pv hF hW (y_eql hF rfl rfl) (fun a hF => ?_)
         replace hF := Fr.bool (t := false) (by first | decide | (simp; done) | rfl) hF
         refine pv hF hW (y_assign hF rfl) (fun a hF => ?_)
         replace hF := Fr.bool (t := false) (by first | decide | (simp; done) | rfl) hF
         refine l_nil ?_
         replace hF := (hF.k 0 rfl (hF.k 1 rfl (hF.k 2 rfl (hF.k 3 rfl (hF.k 4 rfl (hF.k 5 rfl (hF.k 6 rfl (hF.k 7 rfl (hF.k 8 rfl (hF.k 9 rfl (hF.k 10 rfl (hF.k 15 rfl (hF.k 23 rfl (hF.k 47 rfl (hF.k 48 rfl (hF.k 56 rfl (hF.k 63 rfl (hF.k 72 rfl hF.nil))))))))))))))))))
         refine t_n ?_
         refine c_f hF rfl ?_
         refine c_sr ?_
         refine pv hF hW (y_eql hF rfl rfl) (fun a hF => ?_)
         replace hF := Fr.bool (t := false) (by first | decide | (simp; done) | rfl) hF
         refine pv hF hW (y_assign hF rfl) (fun a hF => ?_)
         replace hF := Fr.bool (t := false) (by first | decide | (simp; done) | rfl) hF
         refine l_nil ?_
         replace hF := (hF.k 0 rfl (hF.k 1 rfl (hF.k 2 rfl (hF.k 3 rfl (hF.k 4 rfl (hF.k 5 rfl (hF.k 6 rfl (hF.k 7 rfl (hF.k 8 rfl (hF.k 9 rfl (hF.k 10 rfl (hF.k 15 rfl (hF.k 23 rfl (hF.k 47 rfl (hF.k 48 rfl (hF.k 56 rfl (hF.k 63 rfl (hF.k 72 rfl (hF.k 81 rfl hF.nil)))))))))))))))))))
         refine t_n ?_
         refine c_f hF rfl ?_
         refine c_s ?_
         refine c_sr ?_
         refine pv hF hW (y_eql hF rfl rfl) (fun a hF => ?_)
         replace hF := Fr.bool (t := false) (by first | decide | (simp; done) | rfl) hF
         refine pv hF hW (y_assign hF rfl) (fun a hF => ?_)
         replace hF := Fr.bool (t := false) (by first | decide | (simp; done) | rfl) hF
         refine l_nil ?_
         replace hF := (hF.k 0 rfl (hF.k 1 rfl (hF.k 2 rfl (hF.k 3 rfl (hF.k 4 rfl (hF.k 5 rfl (hF.k 6 rfl (hF.k 7 rfl (hF.k 8 rfl (hF.k 9 rfl (hF.k 10 rfl (hF.k 15 rfl (hF.k 23 rfl (hF.k 47 rfl (hF.k 48 rfl (hF.k 56 rfl (hF.k 63 rfl (hF.k 72 rfl (hF.k 81 rfl (hF.k 94 rfl hF.nil))))))))))))))))))))
         refine t_n ?_
         refine c_f hF rfl ?_
         refine c_r ?_
         refine pv hF hW (y_eql hF rfl rfl) (fun a hF => ?_)
         replace hF := Fr.bool (t := false) (by first | decide | (simp; done) | rfl) hF
         replace hF := hF.drop 94
         refine pv hF hW (y_assign hF rfl) (fun a hF => ?_)
         replace hF := Fr.bool (t := false) (by first | decide | (simp; done) | rfl) hF
         refine l_nil ?_
         replace hF := (hF.k 0 rfl (hF.k 1 rfl (hF.k 2 rfl (hF.k 3 rfl (hF.k 4 rfl (hF.k 5 rfl (hF.k 6 rfl (hF.k 7 rfl (hF.k 8 rfl (hF.k 9 rfl (hF.k 10 rfl (hF.k 15 rfl (hF.k 23 rfl (hF.k 47 rfl (hF.k 48 rfl (hF.k 56 rfl (hF.k 63 rfl (hF.k 72 rfl (hF.k 81 rfl (hF.k 94 rfl hF.nil))))))))))))))))))))
         refine t_n ?_
         refine c_f hF rfl ?_
         refine c_sr ?_
         refine pv hF hW (y_eql hF rfl rfl) (fun a hF => ?_)
         replace hF := Fr.bool (t := false) (by first | decide | (simp; done) | rfl) hF
         refine pv hF hW (y_assign hF rfl) (fun a hF => ?_)
         replace hF := Fr.bool (t := false) (by first | decide | (simp; done) | rfl) hF
         refine l_nil ?_
         replace hF := (hF.k 0 rfl (hF.k 1 rfl (hF.k 2 rfl (hF.k 3 rfl (hF.k 4 rfl (hF.k 5 rfl (hF.k 6 rfl (hF.k 7 rfl (hF.k 8 rfl (hF.k 9 rfl (hF.k 10 rfl (hF.k 15 rfl (hF.k 23 rfl (hF.k 47 rfl (hF.k 48 rfl (hF.k 56 rfl (hF.k 63 rfl (hF.k 72 rfl (hF.k 81 rfl (hF.k 94 rfl (hF.k 118 rfl hF.nil)))))))))))))))))))))
         refine t_n ?_
         refine c_f hF rfl ?_
         refine c_sr ?_
         refine pv hF hW (y_eql hF rfl rfl) (fun a hF => ?_)
         replace hF := Fr.bool (t := false) (by first | decide | (simp; done) | rfl) hF
         refine pv hF hW (y_assign hF rfl) (fun a hF => ?_)
         replace hF := Fr.bool (t := false) (by first | decide | (simp; done) | rfl) hF
         refine l_nil ?_
         replace hF := (hF.k 0 rfl (hF.k 1 rfl (hF.k 2 rfl (hF.k 3 rfl (hF.k 4 rfl (hF.k 5 rfl (hF.k 6 rfl (hF.k 7 rfl (hF.k 8 rfl (hF.k 9 rfl (hF.k 10 rfl (hF.k 15 rfl (hF.k 23 rfl (hF.k 47 rfl (hF.k 48 rfl (hF.k 56 rfl (hF.k 63 rfl (hF.k 72 rfl (hF.k 81 rfl (hF.k 94 rfl (hF.k 118 rfl (hF.k 122 rfl hF.nil))))))))))))))))))))))
         refine t_n ?_
         refine c_f hF rfl ?_
         refine c_sr ?_
         refine pv hF hW (y_eql hF rfl rfl) (fun a hF => ?_)
         replace hF := Fr.bool (t := true) (by first | decide | (simp; done) | rfl) hF
         refine pv hF hW (y_assign hF rfl) (fun a hF => ?_)
         replace hF := Fr.bool (t := true) (by first | decide | (simp; done) | rfl) hF
         refine l_nil ?_
         replace hF := (hF.k 0 rfl (hF.k 1 rfl (hF.k 2 rfl (hF.k 3 rfl (hF.k 4 rfl (hF.k 5 rfl (hF.k 6 rfl (hF.k 7 rfl (hF.k 8 rfl (hF.k 9 rfl (hF.k 10 rfl (hF.k 15 rfl (hF.k 23 rfl (hF.k 47 rfl (hF.k 48 rfl (hF.k 56 rfl (hF.k 63 rfl (hF.k 72 rfl (hF.k 81 rfl (hF.k 94 rfl (hF.k 118 rfl (hF.k 122 rfl (hF.k 128 rfl hF.nil)))))))))))))))))))))))
         refine t_n ?_
         refine c_t hF rfl ?_
         refine c_sr ?_
         refine pv hF hW (y_fieldOwn hF rfl fa_95_1) (fun a hF => ?_)
         refine pv hF hW (y_loadOwn hF rfl 1 rfl rfl Try.underlying3 rfl) (fun a hF => ?_)
         refine pv hF hW (y_fieldOwn hF rfl fa_46_1) (fun a hF => ?_)
         refine pv hF hW (y_indexA hF rfl rfl (by first | omega | decide) Try.underlying43 sz_3) (fun a hF => ?_)
         refine pe (e_store rfl hF hW rfl rfl 5 rfl rfl rfl sz_3 ?_)
         intro wc hW
         refine l_nil ?_
         replace hF := (hF.k 0 rfl (hF.k 1 rfl (hF.k 2 rfl (hF.k 3 rfl (hF.k 4 rfl (hF.k 5 rfl (hF.k 6 rfl (hF.k 7 rfl (hF.k 8 rfl (hF.k 9 rfl (hF.k 10 rfl (hF.k 15 rfl (hF.k 23 rfl (hF.k 47 rfl (hF.k 48 rfl (hF.k 56 rfl (hF.k 63 rfl (hF.k 72 rfl (hF.k 81 rfl (hF.k 94 rfl (hF.k 118 rfl (hF.k 122 rfl (hF.k 128 rfl hF.nil)))))))))))))))))))))))
         refine t_n ?_
         refine c_sr ?_
         refine pv hF hW (y_fieldOwn hF rfl fa_46_3) (fun a hF => ?_)
         refine pv hF hW (y_loadOwn hF rfl 5 rfl rfl Try.underlying3 rfl) (fun a hF => ?_)
         refine pv hF hW (y_fieldOwn hF rfl fa_42_1) (fun a hF => ?_)
         refine pv hF hW (y_loadOwn hF rfl 6 rfl rfl Try.underlying22 rfl) (fun a hF => ?_)
         refine pv hF hW (y_len hF rfl Try.underlying22) (fun a hF => ?_)
         refine pv hF hW (y_lss hF rfl rfl) (fun a hF => ?_)
         refine Fr.splitD hF ?_ ?_
         · intro h8 hF
           first
             | (exfalso; omega)
             | (refine l_nil ?_
                replace hF := (hF.k 0 rfl (hF.k 1 rfl (hF.k 2 rfl (hF.k 3 rfl (hF.k 4 rfl (hF.k 5 rfl (hF.k 6 rfl (hF.k 7 rfl (hF.k 8 rfl (hF.k 9 rfl (hF.k 10 rfl (hF.k 15 rfl (hF.k 23 rfl (hF.k 47 rfl (hF.k 48 rfl (hF.k 56 rfl (hF.k 63 rfl (hF.k 72 rfl (hF.k 81 rfl (hF.k 94 rfl (hF.k 118 rfl (hF.k 122 rfl (hF.k 128 rfl (hF.k 139 rfl hF.nil))))))))))))))))))))))))
                refine t_n ?_
                refine c_t hF rfl ?_
                refine c_sd mixed_ok hW ((hW.del 5 rfl)) ?_
                clear hW; intro wc hW hS
                refine dv 0 rfl hF hS (y_fieldOwn hF rfl fa_95_1) (fun a hF => ?_)
                refine dv 1 rfl hF hS (y_loadOwn hF rfl 1 rfl rfl Try.underlying3 rfl) (fun a hF => ?_)
                refine dv 2 rfl hF hS (y_fieldOwn hF rfl fa_42_1) (fun a hF => ?_)
                refine dv 3 rfl hF hS (y_loadOwn hF rfl 5 rfl rfl Try.underlying22 rfl) (fun a hF => ?_)
                refine dv 4 rfl hF hS (y_fieldOwn hF rfl fa_46_3) (fun a hF => ?_)
                refine dv 8 rfl hF hS (y_fieldOwn hF rfl fa_46_1) (fun a hF => ?_)
                refine d_1 5 (by kernel_rfl) ?_
                refine d_opval rfl hF rfl hW (y_loadOwn hF rfl 5 rfl rfl Try.underlying3 rfl) rfl rfl (fun a hF => ?_)
                refine ⟨(hW.del 5 rfl), ?_⟩
                replace hS := (hW.del 5 rfl)
                refine dv 6 rfl hF hS (y_indexS hF rfl rfl (by first | omega | decide) Try.underlying22 sz_3 (fun w h => (hI).wd h)) (fun a hF => ?_)
                refine dv 7 rfl hF hS (y_loadRow hF rfl (fun w h => (hI).wd h) (by first | omega | decide) rfl Try.underlying3 rfl) (fun a hF => ?_)
                refine dv 9 rfl hF hS (y_indexA hF rfl rfl (by first | omega | decide) Try.underlying43 sz_3) (fun a hF => ?_)
                refine d_1 10 (by kernel_rfl) ?_
                refine d_op rfl rfl (e_store rfl hF hW rfl rfl 5 rfl rfl rfl sz_3 ?_)
                intro wc hW
                refine ⟨(hW.del 5 rfl), ?_⟩
                replace hS := (hW.del 5 rfl)
                clear hS
                refine d_nil (by kernel_rfl) ?_
                replace hF := (hF.k 0 rfl (hF.k 1 rfl (hF.k 2 rfl (hF.k 3 rfl (hF.k 4 rfl (hF.k 5 rfl (hF.k 6 rfl (hF.k 7 rfl (hF.k 8 rfl (hF.k 9 rfl (hF.k 10 rfl (hF.k 15 rfl (hF.k 23 rfl (hF.k 47 rfl (hF.k 48 rfl (hF.k 56 rfl (hF.k 63 rfl (hF.k 72 rfl (hF.k 81 rfl (hF.k 94 rfl (hF.k 118 rfl (hF.k 122 rfl (hF.k 128 rfl (hF.k 139 rfl hF.nil))))))))))))))))))))))))
                refine t_n ?_
                refine c_r ?_
                refine pv hF hW (y_fieldOwn hF rfl fa_46_3) (fun a hF => ?_)
                refine pv hF hW (y_loadOwn hF rfl 5 rfl rfl Try.underlying3 rfl) (fun a hF => ?_)
                refine pv hF hW (y_add hF rfl rfl (IntWalk.i64_in _ (by omega))) (fun a hF => ?_)
                refine pv hF hW (y_fieldOwn hF rfl fa_46_3) (fun a hF => ?_)
                refine pe (e_store rfl hF hW rfl rfl 5 rfl rfl rfl sz_3 ?_)
                intro wc hW
                refine l_nil ?_
                replace hF := (hF.k 0 rfl (hF.k 1 rfl (hF.k 2 rfl (hF.k 3 rfl (hF.k 4 rfl (hF.k 5 rfl (hF.k 6 rfl (hF.k 7 rfl (hF.k 8 rfl (hF.k 9 rfl (hF.k 10 rfl (hF.k 15 rfl (hF.k 23 rfl (hF.k 47 rfl (hF.k 48 rfl (hF.k 56 rfl (hF.k 63 rfl (hF.k 72 rfl (hF.k 81 rfl (hF.k 94 rfl (hF.k 118 rfl (hF.k 122 rfl (hF.k 128 rfl (hF.k 139 rfl hF.nil))))))))))))))))))))))))
                refine b_n ?_
                refine t_n ?_
                refine c_sr ?_
                refine pv hF hW (y_move hF rfl) (fun a hF => ?_)
                refine pv hF hW (y_fieldOwn hF rfl fa_46_0) (fun a hF => ?_)
                refine pe (e_store rfl hF hW rfl rfl 5 rfl rfl rfl sz_3 ?_)
                intro wc hW
                refine l_nil ?_
                replace hF := (hF.k 0 rfl (hF.k 1 rfl (hF.k 2 rfl (hF.k 3 rfl (hF.k 4 rfl (hF.k 5 rfl (hF.k 6 rfl (hF.k 7 rfl (hF.k 8 rfl (hF.k 9 rfl (hF.k 10 rfl (hF.k 15 rfl (hF.k 23 rfl (hF.k 47 rfl (hF.k 48 rfl (hF.k 56 rfl (hF.k 63 rfl (hF.k 72 rfl (hF.k 81 rfl (hF.k 94 rfl (hF.k 118 rfl (hF.k 122 rfl (hF.k 128 rfl (hF.k 139 rfl hF.nil))))))))))))))))))))))))
                refine t_n ?_
                refine c_sd mixed_ok hW (((hW.del 3 rfl).del 3 rfl)) ?_
                clear hW; intro wc hW hS
                refine dv 0 rfl hF hS (y_loadAll hF rfl 3 rfl Try.underlying46 rfl sz_46) (fun a hF => ?_)
                refine dv 1 rfl hF hS (y_loadAll hF rfl 0 rfl Try.underlying48 rfl sz_48) (fun a hF => ?_)
                refine d_1 2 (by kernel_rfl) ?_
                refine d_op rfl rfl (e_storeAll rfl hF hW rfl rfl 4 rfl rfl rfl (by kernel_rfl) sz_46 ?_)
                intro wc hW
                refine ⟨((hW.del 3 rfl).del 3 rfl), ?_⟩
                replace hS := ((hW.del 3 rfl).del 3 rfl)
                refine d_1 3 (by kernel_rfl) ?_
                refine d_op rfl rfl (e_storeAll rfl hF hW rfl rfl 3 rfl rfl rfl (by kernel_rfl) sz_48 ?_)
                intro wc hW
                refine ⟨((hW.del 3 rfl).del 3 rfl), ?_⟩
                replace hS := ((hW.del 3 rfl).del 3 rfl)
                clear hS
                refine d_nil (by kernel_rfl) ?_
                replace hF := (hF.k 0 rfl (hF.k 1 rfl (hF.k 2 rfl (hF.k 3 rfl (hF.k 4 rfl (hF.k 5 rfl (hF.k 6 rfl (hF.k 7 rfl (hF.k 8 rfl (hF.k 9 rfl (hF.k 10 rfl (hF.k 15 rfl (hF.k 23 rfl (hF.k 47 rfl (hF.k 48 rfl (hF.k 56 rfl (hF.k 63 rfl (hF.k 72 rfl (hF.k 81 rfl (hF.k 94 rfl (hF.k 118 rfl (hF.k 122 rfl (hF.k 128 rfl (hF.k 139 rfl hF.nil))))))))))))))))))))))))
                refine t_n ?_
                refine wp_ret ?_
                refine ret2 Try.results23 hF (rv_c hF rfl hW 4 rfl Try.underlying46 rfl sz_46) (rv_c hF rfl hW 3 rfl Try.underlying48 rfl sz_48) ?_
                first | rw [if_pos (by assumption), if_pos (by assumption)] | rw [if_neg (by assumption), if_neg (by assumption)]
                exact ⟨_, rfl, ⟨rfl, rfl⟩, hW.row_own 2 rfl, hW.below⟩)
         · intro h8 hF
           first
             | (exfalso; omega)
             | (refine l_nil ?_
                replace hF := (hF.k 0 rfl (hF.k 1 rfl (hF.k 2 rfl (hF.k 3 rfl (hF.k 4 rfl (hF.k 5 rfl (hF.k 6 rfl (hF.k 7 rfl (hF.k 8 rfl (hF.k 9 rfl (hF.k 10 rfl (hF.k 15 rfl (hF.k 23 rfl (hF.k 47 rfl (hF.k 48 rfl (hF.k 56 rfl (hF.k 63 rfl (hF.k 72 rfl (hF.k 81 rfl (hF.k 94 rfl (hF.k 118 rfl (hF.k 122 rfl (hF.k 128 rfl (hF.k 139 rfl hF.nil))))))))))))))))))))))))
                refine t_n ?_
                refine c_f hF rfl ?_
                refine wp_skip ?_
                refine b_n ?_
                refine t_n ?_
                refine c_sr ?_
                refine pv hF hW (y_move hF rfl) (fun a hF => ?_)
                refine pv hF hW (y_fieldOwn hF rfl fa_46_0) (fun a hF => ?_)
                refine pe (e_store rfl hF hW rfl rfl 5 rfl rfl rfl sz_3 ?_)
                intro wc hW
                refine l_nil ?_
                replace hF := (hF.k 0 rfl (hF.k 1 rfl (hF.k 2 rfl (hF.k 3 rfl (hF.k 4 rfl (hF.k 5 rfl (hF.k 6 rfl (hF.k 7 rfl (hF.k 8 rfl (hF.k 9 rfl (hF.k 10 rfl (hF.k 15 rfl (hF.k 23 rfl (hF.k 47 rfl (hF.k 48 rfl (hF.k 56 rfl (hF.k 63 rfl (hF.k 72 rfl (hF.k 81 rfl (hF.k 94 rfl (hF.k 118 rfl (hF.k 122 rfl (hF.k 128 rfl (hF.k 139 rfl hF.nil))))))))))))))))))))))))
                refine t_n ?_
                refine c_sd mixed_ok hW (((hW.del 3 rfl).del 3 rfl)) ?_
                clear hW; intro wc hW hS
                refine dv 0 rfl hF hS (y_loadAll hF rfl 3 rfl Try.underlying46 rfl sz_46) (fun a hF => ?_)
                refine dv 1 rfl hF hS (y_loadAll hF rfl 0 rfl Try.underlying48 rfl sz_48) (fun a hF => ?_)
                refine d_1 2 (by kernel_rfl) ?_
                refine d_op rfl rfl (e_storeAll rfl hF hW rfl rfl 4 rfl rfl rfl (by kernel_rfl) sz_46 ?_)
                intro wc hW
                refine ⟨((hW.del 3 rfl).del 3 rfl), ?_⟩
                replace hS := ((hW.del 3 rfl).del 3 rfl)
                refine d_1 3 (by kernel_rfl) ?_
                refine d_op rfl rfl (e_storeAll rfl hF hW rfl rfl 3 rfl rfl rfl (by kernel_rfl) sz_48 ?_)
                intro wc hW
                refine ⟨((hW.del 3 rfl).del 3 rfl), ?_⟩
                replace hS := ((hW.del 3 rfl).del 3 rfl)
                clear hS
                refine d_nil (by kernel_rfl) ?_
                replace hF := (hF.k 0 rfl (hF.k 1 rfl (hF.k 2 rfl (hF.k 3 rfl (hF.k 4 rfl (hF.k 5 rfl (hF.k 6 rfl (hF.k 7 rfl (hF.k 8 rfl (hF.k 9 rfl (hF.k 10 rfl (hF.k 15 rfl (hF.k 23 rfl (hF.k 47 rfl (hF.k 48 rfl (hF.k 56 rfl (hF.k 63 rfl (hF.k 72 rfl (hF.k 81 rfl (hF.k 94 rfl (hF.k 118 rfl (hF.k 122 rfl (hF.k 128 rfl (hF.k 139 rfl hF.nil))))))))))))))))))))))))
                refine t_n ?_
                refine wp_ret ?_
                refine ret2 Try.results23 hF (rv_c hF rfl hW 4 rfl Try.underlying46 rfl sz_46) (rv_c hF rfl hW 3 rfl Try.underlying48 rfl sz_48) ?_
                first | rw [if_pos (by assumption), if_pos (by assumption)] | rw [if_neg (by assumption), if_neg (by assumption)]
                exact ⟨_, rfl, ⟨rfl, rfl⟩, hW.row_own 2 rfl, hW.below⟩))
theorem stepR_in3 (at' : Nat) (r0 r1 r2 r3 m0 m1 m2 m3 m4 m5 m6 m7 rd : Int) (l : List Ins) (inp out : List Int) (Ac Ai Ao : Option Addr) (cc ci co : Nat) (w : World)
    (hC : RF w Ac l.length 4 (fun k => [.int .i64 (l.getD k ⟨0, 0, 0, 0⟩).op, .int .i64 (l.getD k ⟨0, 0, 0, 0⟩).a, .int .i64 (l.getD k ⟨0, 0, 0, 0⟩).b, .int .i64 (l.getD k ⟨0, 0, 0, 0⟩).n])) (hlt : at' < l.length) (hl : l.length ≤ 1048576)
    (hi : l.getD at' ⟨0, 0, 0, 0⟩ = ⟨10, 3, 0, 0⟩) (hI : RF w Ai inp.length 1 (fun k => [.int .i64 (inp.getD k 0)])) (ho : Ints w (.slice Ao out.length co) out) (hol : out.length ≤ 1048576) (hr0 : 0 ≤ rd) (hr1 : rd ≤ inp.length) (hr2 : rd ≤ 12) :
    Calls Try.prog 23 #[.agg #[.slice Ac l.length cc, .slice Ai inp.length ci], .agg #[.int .i64 at', .int .i64 r0, .int .i64 r1, .int .i64 r2, .int .i64 r3, .int .i64 m0, .int .i64 m1, .int .i64 m2, .int .i64 m3, .int .i64 m4, .int .i64 m5, .int .i64 m6, .int .i64 m7, .int .i64 rd, .slice Ao out.length co, .int .i64 0]] w
      (CelWantBack w (⟨at' + 1, if rd < inp.length then [r0, r1, r2, r3].set 3 (inp.getD rd.toNat 0) else [r0, r1, r2, r3].set 3 0, [m0, m1, m2, m3, m4, m5, m6, m7], if rd < inp.length then rd + 1 else rd, out, 0⟩, Wnt.zero)) := by
  obtain ⟨rn, rfl⟩ := Int.eq_ofNat_of_zero_le hr0
  have hown := fun w1 (hb : Below w.heap.size w w1) => ownCell_abs ⟨at', [r0, r1, r2, r3], [m0, m1, m2, m3, m4, m5, m6, m7], rn, out, 0⟩ (.slice Ao out.length co) ⟨rfl, rfl⟩ w ho hol w1 hb
  refine enter Try.func23 rfl Try.ntmps23 rfl (fun a hF => ?_)
  have hW := Wd.start w NoB
  refine c_sr ?_
  refine pe (e_box hF hW rfl rfl rfl rfl ?_)
  intro b1 a wc hF hW
  refine pe (e_box hF hW rfl rfl rfl rfl ?_)
  intro b2 a wc hF hW
  refine pe (e_alloc hF hW ze_46 rfl rfl rfl ?_)
  intro b3 a wc hF hW
  refine pe (e_alloc hF hW ze_48 rfl rfl rfl ?_)
  intro b4 a wc hF hW
  refine l_nil ?_
  refine t_n ?_
  refine c_sr ?_
  refine pv hF hW (y_loadAll hF rfl 2 rfl Try.underlying46 rfl sz_46) (fun a hF => ?_)
  refine pe (e_call hF rfl rfl en_49 (by rfl) rfl rfl (hown _ hW.below) ?_)
  rintro e w1 ⟨A1, c1, rfl, hown1, hb⟩
  replace hW := hW.got_row (v := .slice A1 out.length c1) (n := out.length) (cs := out.map (.int .i64)) hb hown1
  refine ⟨_, rfl, fun a hF => ?_⟩
  replace hF := Fr.cast (v' := .agg #[.int .i64 at', .int .i64 r0, .int .i64 r1, .int .i64 r2, .int .i64 r3, .int .i64 m0, .int .i64 m1, .int .i64 m2, .int .i64 m3, .int .i64 m4, .int .i64 m5, .int .i64 m6, .int .i64 m7, .int .i64 rn, .slice A1 out.length c1, .int .i64 0]) rfl hF
  refine pe (e_storeAll rfl hF hW rfl rfl 3 rfl rfl rfl (by kernel_rfl) sz_46 ?_)
  intro wc hW
  refine l_nil ?_
  replace hF := (hF.k 0 rfl (hF.k 1 rfl (hF.k 2 rfl (hF.k 3 rfl (hF.k 4 rfl (hF.k 5 rfl hF.nil))))))
  refine t_n ?_
  refine c_s ?_
  refine c_sr ?_
  refine pv hF hW (y_fieldOwn hF rfl fa_46_5) (fun a hF => ?_)
  refine pv hF hW (y_loadOwn hF rfl 3 rfl rfl Try.underlying3 rfl) (fun a hF => ?_)
  refine pv hF hW (y_neq hF rfl rfl) (fun a hF => ?_)
  replace hF := Fr.bool (t := false) (by first | decide | (simp; done) | rfl) hF
  refine l_nil ?_
  replace hF := (hF.k 0 rfl (hF.k 1 rfl (hF.k 2 rfl (hF.k 3 rfl (hF.k 4 rfl (hF.k 5 rfl (hF.k 15 rfl hF.nil)))))))
  refine t_n ?_
  refine c_f hF rfl ?_
  refine wp_skip ?_
  refine t_n ?_
  refine c_s ?_
  refine c_sr ?_
  refine pv hF hW (y_fieldOwn hF rfl fa_46_0) (fun a hF => ?_)
  refine pv hF hW (y_loadOwn hF rfl 3 rfl rfl Try.underlying3 rfl) (fun a hF => ?_)
  refine pv hF hW (y_fieldOwn hF rfl fa_42_0) (fun a hF => ?_)
  refine pv hF hW (y_loadOwn hF rfl 4 rfl rfl Try.underlying40 rfl) (fun a hF => ?_)
  refine pv hF hW (y_len hF rfl Try.underlying40) (fun a hF => ?_)
  refine pv hF hW (y_geq hF rfl rfl) (fun a hF => ?_)
  refine Fr.splitD hF ?_ ?_
  · intro h5 hF
    first
      | (exfalso; omega)
      | (refine l_nil ?_
         replace hF := (hF.k 0 rfl (hF.k 1 rfl (hF.k 2 rfl (hF.k 3 rfl (hF.k 4 rfl (hF.k 5 rfl (hF.k 15 rfl (hF.k 23 rfl hF.nil))))))))
         refine t_n ?_
         refine c_t hF rfl ?_
         refine c_sr ?_
         refine pv hF hW (y_fieldOwn hF rfl fa_46_5) (fun a hF => ?_)
         refine pe (e_store rfl hF hW rfl rfl 3 rfl rfl rfl sz_3 ?_)
         intro wc hW
         refine l_nil ?_
         replace hF := (hF.k 0 rfl (hF.k 1 rfl (hF.k 2 rfl (hF.k 3 rfl (hF.k 4 rfl (hF.k 5 rfl (hF.k 15 rfl (hF.k 23 rfl hF.nil))))))))
         refine t_n ?_
         refine c_sr ?_
         refine pv hF hW (y_loadAll hF rfl 3 rfl Try.underlying46 rfl sz_46) (fun a hF => ?_)
         refine pv hF hW (y_build hF rfl (fun w => bu_CellIO_48_  w)) (fun a hF => ?_)
         refine pe (e_storeAll rfl hF hW rfl rfl 2 rfl rfl rfl (by kernel_rfl) sz_46 ?_)
         intro wc hW
         refine pe (e_storeAll rfl hF hW rfl rfl 1 rfl rfl rfl (by kernel_rfl) sz_48 ?_)
         intro wc hW
         refine l_nil ?_
         replace hF := (hF.k 0 rfl (hF.k 1 rfl (hF.k 2 rfl (hF.k 3 rfl (hF.k 4 rfl (hF.k 5 rfl (hF.k 15 rfl (hF.k 23 rfl hF.nil))))))))
         refine t_n ?_
         refine wp_ret ?_
         refine t_r ?_
         refine ret2 Try.results23 hF (rv_c hF rfl hW 2 rfl Try.underlying46 rfl sz_46) (rv_c hF rfl hW 1 rfl Try.underlying48 rfl sz_48) ?_
         first | rw [if_pos (by assumption), if_pos (by assumption)] | rw [if_neg (by assumption), if_neg (by assumption)]
         exact ⟨_, rfl, ⟨rfl, rfl⟩, hW.row_own 0 rfl, hW.below⟩)
  · intro h5 hF
    first
      | (exfalso; omega)
      | (refine l_nil ?_
         replace hF := (hF.k 0 rfl (hF.k 1 rfl (hF.k 2 rfl (hF.k 3 rfl (hF.k 4 rfl (hF.k 5 rfl (hF.k 15 rfl (hF.k 23 rfl hF.nil))))))))
         refine t_n ?_
         refine c_f hF rfl ?_
         refine wp_skip ?_
         refine t_n ?_
         refine c_sr ?_
         refine pv hF hW (y_fieldOwn hF rfl fa_42_0) (fun a hF => ?_)
         refine pv hF hW (y_loadOwn hF rfl 4 rfl rfl Try.underlying40 rfl) (fun a hF => ?_)
         refine pv hF hW (y_fieldOwn hF rfl fa_46_0) (fun a hF => ?_)
         refine pv hF hW (y_loadOwn hF rfl 3 rfl rfl Try.underlying3 rfl) (fun a hF => ?_)
         refine pv hF hW (y_indexS hF rfl rfl (by first | omega | decide) Try.underlying40 sz_95 (fun w h => (hC).wd h)) (fun a hF => ?_)
         refine pv hF hW (y_loadRowW hF rfl (fun w h => (hC).wd h) (by first | omega | decide) Try.underlying95 rfl sz_95) (fun a hF => ?_)
         replace hF := Fr.cast (v' := .agg #[.int .i64 10, .int .i64 3, .int .i64 0, .int .i64 0]) (by rw [hi]) hF
         refine pe (e_alloc hF hW ze_95 rfl rfl rfl ?_)
         intro b6 a wc hF hW
         refine pe (e_storeAll rfl hF hW rfl rfl 0 rfl rfl rfl (by kernel_rfl) sz_95 ?_)
         intro wc hW
         refine l_nil ?_
         replace hF := (hF.k 0 rfl (hF.k 1 rfl (hF.k 2 rfl (hF.k 3 rfl (hF.k 4 rfl (hF.k 5 rfl (hF.k 6 rfl (hF.k 15 rfl (hF.k 23 rfl hF.nil)))))))))
         refine t_n ?_
         refine c_sr ?_
         refine pv hF hW (y_fieldOwn hF rfl fa_46_0) (fun a hF => ?_)
         refine pv hF hW (y_loadOwn hF rfl 4 rfl rfl Try.underlying3 rfl) (fun a hF => ?_)
         refine pv hF hW (y_add hF rfl rfl (IntWalk.i64_in _ (by omega))) (fun a hF => ?_)
         refine pv hF hW (y_assign hF rfl) (fun a hF => ?_)
         refine l_nil ?_
         replace hF := (hF.k 0 rfl (hF.k 1 rfl (hF.k 2 rfl (hF.k 3 rfl (hF.k 4 rfl (hF.k 5 rfl (hF.k 6 rfl (hF.k 7 rfl (hF.k 15 rfl (hF.k 23 rfl hF.nil))))))))))
         refine t_n ?_
         refine c_sd mixed_ok hW (hW) ?_
         clear hW; intro wc hW hS
         refine dv 0 rfl hF hS (y_fieldOwn hF rfl fa_95_1) (fun a hF => ?_)
         refine dv 1 rfl hF hS (y_loadOwn hF rfl 0 rfl rfl Try.underlying3 rfl) (fun a hF => ?_)
         refine dv 2 rfl hF hS (y_fieldOwn hF rfl fa_46_1) (fun a hF => ?_)
         refine dv 3 rfl hF hS (y_indexA hF rfl rfl (by first | omega | decide) Try.underlying43 sz_3) (fun a hF => ?_)
         refine dv 4 rfl hF hS (y_loadOwn hF rfl 4 rfl rfl Try.underlying3 rfl) (fun a hF => ?_)
         refine dv 5 rfl hF hS (y_fieldOwn hF rfl fa_95_2) (fun a hF => ?_)
         refine dv 6 rfl hF hS (y_loadOwn hF rfl 0 rfl rfl Try.underlying3 rfl) (fun a hF => ?_)
         refine dv 7 rfl hF hS (y_fieldOwn hF rfl fa_46_1) (fun a hF => ?_)
         refine dv 8 rfl hF hS (y_indexA hF rfl rfl (by first | omega | decide) Try.underlying43 sz_3) (fun a hF => ?_)
         refine dv 9 rfl hF hS (y_loadOwn hF rfl 4 rfl rfl Try.underlying3 rfl) (fun a hF => ?_)
         refine dv 10 rfl hF hS (y_assign hF rfl) (fun a hF => ?_)
         refine dv 11 rfl hF hS (y_assign hF rfl) (fun a hF => ?_)
         clear hS
         refine d_nil (by kernel_rfl) ?_
         replace hF := (hF.k 0 rfl (hF.k 1 rfl (hF.k 2 rfl (hF.k 3 rfl (hF.k 4 rfl (hF.k 5 rfl (hF.k 6 rfl (hF.k 7 rfl (hF.k 8 rfl (hF.k 9 rfl (hF.k 15 rfl (hF.k 23 rfl hF.nil))))))))))))
         refine t_n ?_
         refine c_sr ?_
         refine pe (e_alloc hF hW ze_48 rfl rfl rfl ?_)
         intro b7 a wc hF hW
         refine l_nil ?_
         refine t_n ?_
         refine c_s ?_
         refine c_sr ?_
         refine pv hF hW (y_fieldOwn hF rfl fa_95_0) (fun a hF => ?_)
         refine pv hF hW (y_loadOwn hF rfl 1 rfl rfl Try.underlying3 rfl) (fun a hF => ?_)
         refine l_nil ?_
         replace hF := (hF.k 0 rfl (hF.k 1 rfl (hF.k 2 rfl (hF.k 3 rfl (hF.k 4 rfl (hF.k 5 rfl (hF.k 6 rfl (hF.k 7 rfl (hF.k 8 rfl (hF.k 9 rfl (hF.k 10 rfl (hF.k 15 rfl (hF.k 23 rfl (hF.k 47 rfl hF.nil))))))))))))))
         refine t_n ?_
         refine wp_block ?_
         refine c_sr ?_
         refine pv hF hW (y_eql hF rfl rfl) (fun a hF => ?_)
         replace hF := Fr.bool (t := false) (by first | decide | (simp; done) | rfl) hF
         refine pv hF hW (y_assign hF rfl) (fun a hF => ?_)
         replace hF := Fr.bool (t := false) (by first | decide | (simp; done) | rfl) hF
         refine l_nil ?_
         replace hF := (hF.k 0 rfl (hF.k 1 rfl (hF.k 2 rfl (hF.k 3 rfl (hF.k 4 rfl (hF.k 5 rfl (hF.k 6 rfl (hF.k 7 rfl (hF.k 8 rfl (hF.k 9 rfl (hF.k 10 rfl (hF.k 15 rfl (hF.k 23 rfl (hF.k 47 rfl (hF.k 48 rfl hF.nil)))))))))))))))
         refine t_n ?_
         refine c_f hF rfl ?_
         refine c_sr ?_
         refine pv hF hW (y_eql hF rfl rfl) (fun a hF => ?_)
         replace hF := Fr.bool (t := false) (by first | decide | (simp; done) | rfl) hF
         refine pv hF hW (y_assign hF rfl) (fun a hF => ?_)
         replace hF := Fr.bool (t := false) (by first | decide | (simp; done) | rfl) hF
         refine l_nil ?_
         replace hF := (hF.k 0 rfl (hF.k 1 rfl (hF.k 2 rfl (hF.k 3 rfl (hF.k 4 rfl (hF.k 5 rfl (hF.k 6 rfl (hF.k 7 rfl (hF.k 8 rfl (hF.k 9 rfl (hF.k 10 rfl (hF.k 15 rfl (hF.k 23 rfl (hF.k 47 rfl (hF.k 48 rfl (hF.k 56 rfl hF.nil))))))))))))))))
         refine t_n ?_
         refine c_f hF rfl ?_
         refine c_sr ?_
         refine pv hF hW (y_eql hF rfl rfl) (fun a hF => ?_)
         replace hF := Fr.bool (t := false) (by first | decide | (simp; done) | rfl) hF
         refine pv hF hW (y_assign hF rfl) (fun a hF => ?_)
         replace hF := Fr.bool (t := false) (by first | decide | (simp; done) | rfl) hF
         refine l_nil ?_
         replace hF := (hF.k 0 rfl (hF.k 1 rfl (hF.k 2 rfl (hF.k 3 rfl (hF.k 4 rfl (hF.k 5 rfl (hF.k 6 rfl (hF.k 7 rfl (hF.k 8 rfl (hF.k 9 rfl (hF.k 10 rfl (hF.k 15 rfl (hF.k 23 rfl (hF.k 47 rfl (hF.k 48 rfl (hF.k 56 rfl (hF.k 63 rfl hF.nil)))))))))))))))))
         refine t_n ?_
         refine c_f hF rfl ?_
         refine c_sr ?_
         refine pv hF hW (y_eql hF rfl rfl) (fun a hF => ?_)
         replace hF := Fr.bool (t := false) (by first | decide | (simp; done) | rfl) hF
         refine pv hF hW (y_assign hF rfl) (fun a hF => ?_)
         replace hF := Fr.bool (t := false) (by first | decide | (simp; done) | rfl) hF
         refine l_nil ?_
         replace hF := (hF.k 0 rfl (hF.k 1 rfl (hF.k 2 rfl (hF.k 3 rfl (hF.k 4 rfl (hF.k 5 rfl (hF.k 6 rfl (hF.k 7 rfl (hF.k 8 rfl (hF.k 9 rfl (hF.k 10 rfl (hF.k 15 rfl (hF.k 23 rfl (hF.k 47 rfl (hF.k 48 rfl (hF.k 56 rfl (hF.k 63 rfl (hF.k 72 rfl hF.nil))))))))))))))))))
         refine t_n ?_
         refine c_f hF rfl ?_
         refine c_sr ?_
         refine pv hF hW (y_eql hF rfl rfl) (fun a hF => ?_)
         replace hF := Fr.bool (t := false) (by first | decide | (simp; done) | rfl) hF
         refine pv hF hW (y_assign hF rfl) (fun a hF => ?_)
         replace hF := Fr.bool (t := false) (by first | decide | (simp; done) | rfl) hF
         refine l_nil ?_
         replace hF := (hF.k 0 rfl (hF.k 1 rfl (hF.k 2 rfl (hF.k 3 rfl (hF.k 4 rfl (hF.k 5 rfl (hF.k 6 rfl (hF.k 7 rfl (hF.k 8 rfl (hF.k 9 rfl (hF.k 10 rfl (hF.k 15 rfl (hF.k 23 rfl (hF.k 47 rfl (hF.k 48 rfl (hF.k 56 rfl (hF.k 63 rfl (hF.k 72 rfl (hF.k 81 rfl hF.nil)))))))))))))))))))
         refine t_n ?_
         refine c_f hF rfl ?_
         refine c_s ?_
         refine c_sr ?_
         refine pv hF hW (y_eql hF rfl rfl) (fun a hF => ?_)
         replace hF := Fr.bool (t := false) (by first | decide | (simp; done) | rfl) hF
         refine pv hF hW (y_assign hF rfl) (fun a hF => ?_)
         replace hF := Fr.bool (t := false) (by first | decide | (simp; done) | rfl) hF
         refine l_nil ?_
         replace hF := (hF.k 0 rfl (hF.k 1 rfl (hF.k 2 rfl (hF.k 3 rfl (hF.k 4 rfl (hF.k 5 rfl (hF.k 6 rfl (hF.k 7 rfl (hF.k 8 rfl (hF.k 9 rfl (hF.k 10 rfl (hF.k 15 rfl (hF.k 23 rfl (hF.k 47 rfl (hF.k 48 rfl (hF.k 56 rfl (hF.k 63 rfl (hF.k 72 rfl (hF.k 81 rfl (hF.k 94 rfl hF.nil))))))))))))))))))))
         refine t_n ?_
         refine c_f hF rfl ?_
         refine c_r ?_
         refine pv hF hW (y_eql hF rfl rfl) (fun a hF => ?_)
         replace hF := Fr.bool (t := false) (by first | decide | (simp; done) | rfl) hF
         replace hF := hF.drop 94
         refine pv hF hW (y_assign hF rfl) (fun a hF => ?_)
         replace hF := Fr.bool (t := false) (by first | decide | (simp; done) | rfl) hF
         refine l_nil ?_
         replace hF := (hF.k 0 rfl (hF.k 1 rfl (hF.k 2 rfl (hF.k 3 rfl (hF.k 4 rfl (hF.k 5 rfl (hF.k 6 rfl (hF.k 7 rfl (hF.k 8 rfl (hF.k 9 rfl (hF.k 10 rfl (hF.k 15 rfl (hF.k 23 rfl (hF.k 47 rfl (hF.k 48 rfl (hF.k 56 rfl (hF.k 63 rfl (hF.k 72 rfl (hF.k 81 rfl (hF.k 94 rfl hF.nil))))))))))))))))))))
         refine t_n ?_
         refine c_f hF rfl ?_
         refine c_sr ?_
         refine pv hF hW (y_eql hF rfl rfl) (fun a hF => ?_)
         replace hF := Fr.bool (t := false) (by first | decide | (simp; done) | rfl) hF
         refine pv hF hW (y_assign hF rfl) (fun a hF => ?_)
         replace hF := Fr.bool (t := false) (by first | decide | (simp; done) | rfl) hF
         refine l_nil ?_
         replace hF := (hF.k 0 rfl (hF.k 1 rfl (hF.k 2 rfl (hF.k 3 rfl (hF.k 4 rfl (hF.k 5 rfl (hF.k 6 rfl (hF.k 7 rfl (hF.k 8 rfl (hF.k 9 rfl (hF.k 10 rfl (hF.k 15 rfl (hF.k 23 rfl (hF.k 47 rfl (hF.k 48 rfl (hF.k 56 rfl (hF.k 63 rfl (hF.k 72 rfl (hF.k 81 rfl (hF.k 94 rfl (hF.k 118 rfl hF.nil)))))))))))))))))))))
         refine t_n ?_
         refine c_f hF rfl ?_
         refine c_sr ?_
         refine pv hF hW (y_eql hF rfl rfl) (fun a hF => ?_)
         replace hF := Fr.bool (t := false) (by first | decide | (simp; done) | rfl) hF
         refine pv hF hW (y_assign hF rfl) (fun a hF => ?_)
         replace hF := Fr.bool (t := false) (by first | decide | (simp; done) | rfl) hF
         refine l_nil ?_
         replace hF := (hF.k 0 rfl (hF.k 1 rfl (hF.k 2 rfl (hF.k 3 rfl (hF.k 4 rfl (hF.k 5 rfl (hF.k 6 rfl (hF.k 7 rfl (hF.k 8 rfl (hF.k 9 rfl (hF.k 10 rfl (hF.k 15 rfl (hF.k 23 rfl (hF.k 47 rfl (hF.k 48 rfl (hF.k 56 rfl (hF.k 63 rfl (hF.k 72 rfl (hF.k 81 rfl (hF.k 94 rfl (hF.k 118 rfl (hF.k 122 rfl hF.nil))))))))))))))))))))))
         refine t_n ?_
         refine c_f hF rfl ?_
         refine c_sr ?_
         refine pv hF hW (y_eql hF rfl rfl) (fun a hF => ?_)
         replace hF := Fr.bool (t := true) (by first | decide | (simp; done) | rfl) hF
         refine pv hF hW (y_assign hF rfl) (fun a hF => ?_)
         replace hF := Fr.bool (t := true) (by first | decide | (simp; done) | rfl) hF
         refine l_nil ?_
         replace hF := (hF.k 0 rfl (hF.k 1 rfl (hF.k 2 rfl (hF.k 3 rfl (hF.k 4 rfl (hF.k 5 rfl (hF.k 6 rfl (hF.k 7 rfl (hF.k 8 rfl (hF.k 9 rfl (hF.k 10 rfl (hF.k 15 rfl (hF.k 23 rfl (hF.k 47 rfl (hF.k 48 rfl (hF.k 56 rfl (hF.k 63 rfl (hF.k 72 rfl (hF.k 81 rfl (hF.k 94 rfl (hF.k 118 rfl (hF.k 122 rfl (hF.k 128 rfl hF.nil)))))))))))))))))))))))
         refine t_n ?_
         refine c_t hF rfl ?_
         refine c_sr ?_
         refine pv hF hW (y_fieldOwn hF rfl fa_95_1) (fun a hF => ?_)
         refine pv hF hW (y_loadOwn hF rfl 1 rfl rfl Try.underlying3 rfl) (fun a hF => ?_)
         refine pv hF hW (y_fieldOwn hF rfl fa_46_1) (fun a hF => ?_)
         refine pv hF hW (y_indexA hF rfl rfl (by first | omega | decide) Try.underlying43 sz_3) (fun a hF => ?_)
         refine pe (e_store rfl hF hW rfl rfl 5 rfl rfl rfl sz_3 ?_)
         intro wc hW
         refine l_nil ?_
         replace hF := (hF.k 0 rfl (hF.k 1 rfl (hF.k 2 rfl (hF.k 3 rfl (hF.k 4 rfl (hF.k 5 rfl (hF.k 6 rfl (hF.k 7 rfl (hF.k 8 rfl (hF.k 9 rfl (hF.k 10 rfl (hF.k 15 rfl (hF.k 23 rfl (hF.k 47 rfl (hF.k 48 rfl (hF.k 56 rfl (hF.k 63 rfl (hF.k 72 rfl (hF.k 81 rfl (hF.k 94 rfl (hF.k 118 rfl (hF.k 122 rfl (hF.k 128 rfl hF.nil)))))))))))))))))))))))
         refine t_n ?_
         refine c_sr ?_
         refine pv hF hW (y_fieldOwn hF rfl fa_46_3) (fun a hF => ?_)
         refine pv hF hW (y_loadOwn hF rfl 5 rfl rfl Try.underlying3 rfl) (fun a hF => ?_)
         refine pv hF hW (y_fieldOwn hF rfl fa_42_1) (fun a hF => ?_)
         refine pv hF hW (y_loadOwn hF rfl 6 rfl rfl Try.underlying22 rfl) (fun a hF => ?_)
         refine pv hF hW (y_len hF rfl Try.underlying22) (fun a hF => ?_)
         refine pv hF hW (y_lss hF rfl rfl) (fun a hF => ?_)
         refine Fr.splitD hF ?_ ?_
         · intro h8 hF
           first
             | (exfalso; omega)
             | (refine l_nil ?_
                replace hF := (hF.k 0 rfl (hF.k 1 rfl (hF.k 2 rfl (hF.k 3 rfl (hF.k 4 rfl (hF.k 5 rfl (hF.k 6 rfl (hF.k 7 rfl (hF.k 8 rfl (hF.k 9 rfl (hF.k 10 rfl (hF.k 15 rfl (hF.k 23 rfl (hF.k 47 rfl (hF.k 48 rfl (hF.k 56 rfl (hF.k 63 rfl (hF.k 72 rfl (hF.k 81 rfl (hF.k 94 rfl (hF.k 118 rfl (hF.k 122 rfl (hF.k 128 rfl (hF.k 139 rfl hF.nil))))))))))))))))))))))))
                refine t_n ?_
                refine c_t hF rfl ?_
                refine c_sd mixed_ok hW ((hW.del 5 rfl)) ?_
                clear hW; intro wc hW hS
                refine dv 0 rfl hF hS (y_fieldOwn hF rfl fa_95_1) (fun a hF => ?_)
                refine dv 1 rfl hF hS (y_loadOwn hF rfl 1 rfl rfl Try.underlying3 rfl) (fun a hF => ?_)
                refine dv 2 rfl hF hS (y_fieldOwn hF rfl fa_42_1) (fun a hF => ?_)
                refine dv 3 rfl hF hS (y_loadOwn hF rfl 5 rfl rfl Try.underlying22 rfl) (fun a hF => ?_)
                refine dv 4 rfl hF hS (y_fieldOwn hF rfl fa_46_3) (fun a hF => ?_)
                refine dv 8 rfl hF hS (y_fieldOwn hF rfl fa_46_1) (fun a hF => ?_)
                refine d_1 5 (by kernel_rfl) ?_
                refine d_opval rfl hF rfl hW (y_loadOwn hF rfl 5 rfl rfl Try.underlying3 rfl) rfl rfl (fun a hF => ?_)
                refine ⟨(hW.del 5 rfl), ?_⟩
                replace hS := (hW.del 5 rfl)
                refine dv 6 rfl hF hS (y_indexS hF rfl rfl (by first | omega | decide) Try.underlying22 sz_3 (fun w h => (hI).wd h)) (fun a hF => ?_)
                refine dv 7 rfl hF hS (y_loadRow hF rfl (fun w h => (hI).wd h) (by first | omega | decide) rfl Try.underlying3 rfl) (fun a hF => ?_)
                refine dv 9 rfl hF hS (y_indexA hF rfl rfl (by first | omega | decide) Try.underlying43 sz_3) (fun a hF => ?_)
                refine d_1 10 (by kernel_rfl) ?_
                refine d_op rfl rfl (e_store rfl hF hW rfl rfl 5 rfl rfl rfl sz_3 ?_)
                intro wc hW
                refine ⟨(hW.del 5 rfl), ?_⟩
                replace hS := (hW.del 5 rfl)
                clear hS
                refine d_nil (by kernel_rfl) ?_
                replace hF := (hF.k 0 rfl (hF.k 1 rfl (hF.k 2 rfl (hF.k 3 rfl (hF.k 4 rfl (hF.k 5 rfl (hF.k 6 rfl (hF.k 7 rfl (hF.k 8 rfl (hF.k 9 rfl (hF.k 10 rfl (hF.k 15 rfl (hF.k 23 rfl (hF.k 47 rfl (hF.k 48 rfl (hF.k 56 rfl (hF.k 63 rfl (hF.k 72 rfl (hF.k 81 rfl (hF.k 94 rfl (hF.k 118 rfl (hF.k 122 rfl (hF.k 128 rfl (hF.k 139 rfl hF.nil))))))))))))))))))))))))
                refine t_n ?_
                refine c_r ?_
                refine pv hF hW (y_fieldOwn hF rfl fa_46_3) (fun a hF => ?_)
                refine pv hF hW (y_loadOwn hF rfl 5 rfl rfl Try.underlying3 rfl) (fun a hF => ?_)
                refine pv hF hW (y_add hF rfl rfl (IntWalk.i64_in _ (by omega))) (fun a hF => ?_)
                refine pv hF hW (y_fieldOwn hF rfl fa_46_3) (fun a hF => ?_)
                refine pe (e_store rfl hF hW rfl rfl 5 rfl rfl rfl sz_3 ?_)
                intro wc hW
                refine l_nil ?_
                replace hF := (hF.k 0 rfl (hF.k 1 rfl (hF.k 2 rfl (hF.k 3 rfl (hF.k 4 rfl (hF.k 5 rfl (hF.k 6 rfl (hF.k 7 rfl (hF.k 8 rfl (hF.k 9 rfl (hF.k 10 rfl (hF.k 15 rfl (hF.k 23 rfl (hF.k 47 rfl (hF.k 48 rfl (hF.k 56 rfl (hF.k 63 rfl (hF.k 72 rfl (hF.k 81 rfl (hF.k 94 rfl (hF.k 118 rfl (hF.k 122 rfl (hF.k 128 rfl (hF.k 139 rfl hF.nil))))))))))))))))))))))))
                refine b_n ?_
                refine t_n ?_
                refine c_sr ?_
                refine pv hF hW (y_move hF rfl) (fun a hF => ?_)
                refine pv hF hW (y_fieldOwn hF rfl fa_46_0) (fun a hF => ?_)
                refine pe (e_store rfl hF hW rfl rfl 5 rfl rfl rfl sz_3 ?_)
                intro wc hW
                refine l_nil ?_
                replace hF := (hF.k 0 rfl (hF.k 1 rfl (hF.k 2 rfl (hF.k 3 rfl (hF.k 4 rfl (hF.k 5 rfl (hF.k 6 rfl (hF.k 7 rfl (hF.k 8 rfl (hF.k 9 rfl (hF.k 10 rfl (hF.k 15 rfl (hF.k 23 rfl (hF.k 47 rfl (hF.k 48 rfl (hF.k 56 rfl (hF.k 63 rfl (hF.k 72 rfl (hF.k 81 rfl (hF.k 94 rfl (hF.k 118 rfl (hF.k 122 rfl (hF.k 128 rfl (hF.k 139 rfl hF.nil))))))))))))))))))))))))
                refine t_n ?_
                refine c_sd mixed_ok hW (((hW.del 3 rfl).del 3 rfl)) ?_
                clear hW; intro wc hW hS
                refine dv 0 rfl hF hS (y_loadAll hF rfl 3 rfl Try.underlying46 rfl sz_46) (fun a hF => ?_)
                refine dv 1 rfl hF hS (y_loadAll hF rfl 0 rfl Try.underlying48 rfl sz_48) (fun a hF => ?_)
                refine d_1 2 (by kernel_rfl) ?_
                refine d_op rfl rfl (e_storeAll rfl hF hW rfl rfl 4 rfl rfl rfl (by kernel_rfl) sz_46 ?_)
                intro wc hW
                refine ⟨((hW.del 3 rfl).del 3 rfl), ?_⟩
                replace hS := ((hW.del 3 rfl).del 3 rfl)
                refine d_1 3 (by kernel_rfl) ?_
                refine d_op rfl rfl (e_storeAll rfl hF hW rfl rfl 3 rfl rfl rfl (by kernel_rfl) sz_48 ?_)
                intro wc hW
                refine ⟨((hW.del 3 rfl).del 3 rfl), ?_⟩
                replace hS := ((hW.del 3 rfl).del 3 rfl)
                clear hS
                refine d_nil (by kernel_rfl) ?_
                replace hF := (hF.k 0 rfl (hF.k 1 rfl (hF.k 2 rfl (hF.k 3 rfl (hF.k 4 rfl (hF.k 5 rfl (hF.k 6 rfl (hF.k 7 rfl (hF.k 8 rfl (hF.k 9 rfl (hF.k 10 rfl (hF.k 15 rfl (hF.k 23 rfl (hF.k 47 rfl (hF.k 48 rfl (hF.k 56 rfl (hF.k 63 rfl (hF.k 72 rfl (hF.k 81 rfl (hF.k 94 rfl (hF.k 118 rfl (hF.k 122 rfl (hF.k 128 rfl (hF.k 139 rfl hF.nil))))))))))))))))))))))))
                refine t_n ?_
                refine wp_ret ?_
                refine ret2 Try.results23 hF (rv_c hF rfl hW 4 rfl Try.underlying46 rfl sz_46) (rv_c hF rfl hW 3 rfl Try.underlying48 rfl sz_48) ?_
                first | rw [if_pos (by assumption), if_pos (by assumption)] | rw [if_neg (by assumption), if_neg (by assumption)]
                exact ⟨_, rfl, ⟨rfl, rfl⟩, hW.row_own 2 rfl, hW.below⟩)
         · intro h8 hF
           first
             | (exfalso; omega)
             | (refine l_nil ?_
                replace hF := (hF.k 0 rfl (hF.k 1 rfl (hF.k 2 rfl (hF.k 3 rfl (hF.k 4 rfl (hF.k 5 rfl (hF.k 6 rfl (hF.k 7 rfl (hF.k 8 rfl (hF.k 9 rfl (hF.k 10 rfl (hF.k 15 rfl (hF.k 23 rfl (hF.k 47 rfl (hF.k 48 rfl (hF.k 56 rfl (hF.k 63 rfl (hF.k 72 rfl (hF.k 81 rfl (hF.k 94 rfl (hF.k 118 rfl (hF.k 122 rfl (hF.k 128 rfl (hF.k 139 rfl hF.nil))))))))))))))))))))))))
                refine t_n ?_
                refine c_f hF rfl ?_
                refine wp_skip ?_
                refine b_n ?_
                refine t_n ?_
                refine c_sr ?_
                refine pv hF hW (y_move hF rfl) (fun a hF => ?_)
                refine pv hF hW (y_fieldOwn hF rfl fa_46_0) (fun a hF => ?_)
                refine pe (e_store rfl hF hW rfl rfl 5 rfl rfl rfl sz_3 ?_)
                intro wc hW
                refine l_nil ?_
                replace hF := (hF.k 0 rfl (hF.k 1 rfl (hF.k 2 rfl (hF.k 3 rfl (hF.k 4 rfl (hF.k 5 rfl (hF.k 6 rfl (hF.k 7 rfl (hF.k 8 rfl (hF.k 9 rfl (hF.k 10 rfl (hF.k 15 rfl (hF.k 23 rfl (hF.k 47 rfl (hF.k 48 rfl (hF.k 56 rfl (hF.k 63 rfl (hF.k 72 rfl (hF.k 81 rfl (hF.k 94 rfl (hF.k 118 rfl (hF.k 122 rfl (hF.k 128 rfl (hF.k 139 rfl hF.nil))))))))))))))))))))))))
                refine t_n ?_
                refine c_sd mixed_ok hW (((hW.del 3 rfl).del 3 rfl)) ?_
                clear hW; intro wc hW hS
                refine dv 0 rfl hF hS (y_loadAll hF rfl 3 rfl Try.underlying46 rfl sz_46) (fun a hF => ?_)
                refine dv 1 rfl hF hS (y_loadAll hF rfl 0 rfl Try.underlying48 rfl sz_48) (fun a hF => ?_)
                refine d_1 2 (by kernel_rfl) ?_
                refine d_op rfl rfl (e_storeAll rfl hF hW rfl rfl 4 rfl rfl rfl (by kernel_rfl) sz_46 ?_)
                intro wc hW
                refine ⟨((hW.del 3 rfl).del 3 rfl), ?_⟩
                replace hS := ((hW.del 3 rfl).del 3 rfl)
                refine d_1 3 (by kernel_rfl) ?_
                refine d_op rfl rfl (e_storeAll rfl hF hW rfl rfl 3 rfl rfl rfl (by kernel_rfl) sz_48 ?_)
                intro wc hW
                refine ⟨((hW.del 3 rfl).del 3 rfl), ?_⟩
                replace hS := ((hW.del 3 rfl).del 3 rfl)
                clear hS
                refine d_nil (by kernel_rfl) ?_
                replace hF := (hF.k 0 rfl (hF.k 1 rfl (hF.k 2 rfl (hF.k 3 rfl (hF.k 4 rfl (hF.k 5 rfl (hF.k 6 rfl (hF.k 7 rfl (hF.k 8 rfl (hF.k 9 rfl (hF.k 10 rfl (hF.k 15 rfl (hF.k 23 rfl (hF.k 47 rfl (hF.k 48 rfl (hF.k 56 rfl (hF.k 63 rfl (hF.k 72 rfl (hF.k 81 rfl (hF.k 94 rfl (hF.k 118 rfl (hF.k 122 rfl (hF.k 128 rfl (hF.k 139 rfl hF.nil))))))))))))))))))))))))
                refine t_n ?_
                refine wp_ret ?_
                refine ret2 Try.results23 hF (rv_c hF rfl hW 4 rfl Try.underlying46 rfl sz_46) (rv_c hF rfl hW 3 rfl Try.underlying48 rfl sz_48) ?_
                first | rw [if_pos (by assumption), if_pos (by assumption)] | rw [if_neg (by assumption), if_neg (by assumption)]
                exact ⟨_, rfl, ⟨rfl, rfl⟩, hW.row_own 2 rfl, hW.below⟩))

theorem stepR_out0 (at' : Nat) (r0 r1 r2 r3 m0 m1 m2 m3 m4 m5 m6 m7 rd : Int) (l : List Ins) (inp out : List Int) (Ac Ai Ao : Option Addr) (cc ci co : Nat) (w : World)
    (hC : RF w Ac l.length 4 (fun k => [.int .i64 (l.getD k ⟨0, 0, 0, 0⟩).op, .int .i64 (l.getD k ⟨0, 0, 0, 0⟩).a, .int .i64 (l.getD k ⟨0, 0, 0, 0⟩).b, .int .i64 (l.getD k ⟨0, 0, 0, 0⟩).n])) (hlt : at' < l.length) (hl : l.length ≤ 1048576)
    (hi : l.getD at' ⟨0, 0, 0, 0⟩ = ⟨11, 0, 0, 0⟩) (ho : Ints w (.slice Ao out.length co) out) (hol : out.length ≤ 1048576) :
    Calls Try.prog 23 #[.agg #[.slice Ac l.length cc, .slice Ai inp.length ci], .agg #[.int .i64 at', .int .i64 r0, .int .i64 r1, .int .i64 r2, .int .i64 r3, .int .i64 m0, .int .i64 m1, .int .i64 m2, .int .i64 m3, .int .i64 m4, .int .i64 m5, .int .i64 m6, .int .i64 m7, .int .i64 rd, .slice Ao out.length co, .int .i64 0]] w
      (CelWantBack w (⟨at' + 1, [r0, r1, r2, r3], [m0, m1, m2, m3, m4, m5, m6, m7], rd, if out.length < 16 then out ++ [r0] else out, 0⟩, Wnt.zero)) := by
  have hown := fun w1 (hb : Below w.heap.size w w1) => ownCell_abs ⟨at', [r0, r1, r2, r3], [m0, m1, m2, m3, m4, m5, m6, m7], rd, out, 0⟩ (.slice Ao out.length co) ⟨rfl, rfl⟩ w ho hol w1 hb
  refine enter Try.func23 rfl Try.ntmps23 rfl (fun a hF => ?_)
  have hW := Wd.start w NoB
  refine c_sr ?_
  refine pe (e_box hF hW rfl rfl rfl rfl ?_)
  intro b1 a wc hF hW
  refine pe (e_box hF hW rfl rfl rfl rfl ?_)
  intro b2 a wc hF hW
  refine pe (e_alloc hF hW ze_46 rfl rfl rfl ?_)
  intro b3 a wc hF hW
  refine pe (e_alloc hF hW ze_48 rfl rfl rfl ?_)
  intro b4 a wc hF hW
  refine l_nil ?_
  refine t_n ?_
  refine c_sr ?_
  refine pv hF hW (y_loadAll hF rfl 2 rfl Try.underlying46 rfl sz_46) (fun a hF => ?_)
  refine pe (e_call hF rfl rfl en_49 (by rfl) rfl rfl (hown _ hW.below) ?_)
  rintro e w1 ⟨A1, c1, rfl, hown1, hb⟩
  replace hW := hW.got_row (v := .slice A1 out.length c1) (n := out.length) (cs := out.map (.int .i64)) hb hown1
  refine ⟨_, rfl, fun a hF => ?_⟩
  replace hF := Fr.cast (v' := .agg #[.int .i64 at', .int .i64 r0, .int .i64 r1, .int .i64 r2, .int .i64 r3, .int .i64 m0, .int .i64 m1, .int .i64 m2, .int .i64 m3, .int .i64 m4, .int .i64 m5, .int .i64 m6, .int .i64 m7, .int .i64 rd, .slice A1 out.length c1, .int .i64 0]) rfl hF
  refine pe (e_storeAll rfl hF hW rfl rfl 3 rfl rfl rfl (by kernel_rfl) sz_46 ?_)
  intro wc hW
  refine l_nil ?_
  replace hF := (hF.k 0 rfl (hF.k 1 rfl (hF.k 2 rfl (hF.k 3 rfl (hF.k 4 rfl (hF.k 5 rfl hF.nil))))))
  refine t_n ?_
  refine c_s ?_
  refine c_sr ?_
  refine pv hF hW (y_fieldOwn hF rfl fa_46_5) (fun a hF => ?_)
  refine pv hF hW (y_loadOwn hF rfl 3 rfl rfl Try.underlying3 rfl) (fun a hF => ?_)
  refine pv hF hW (y_neq hF rfl rfl) (fun a hF => ?_)
  replace hF := Fr.bool (t := false) (by first | decide | (simp; done) | rfl) hF
  refine l_nil ?_
  replace hF := (hF.k 0 rfl (hF.k 1 rfl (hF.k 2 rfl (hF.k 3 rfl (hF.k 4 rfl (hF.k 5 rfl (hF.k 15 rfl hF.nil)))))))
  refine t_n ?_
  refine c_f hF rfl ?_
  refine wp_skip ?_
  refine t_n ?_
  refine c_s ?_
  refine c_sr ?_
  refine pv hF hW (y_fieldOwn hF rfl fa_46_0) (fun a hF => ?_)
  refine pv hF hW (y_loadOwn hF rfl 3 rfl rfl Try.underlying3 rfl) (fun a hF => ?_)
  refine pv hF hW (y_fieldOwn hF rfl fa_42_0) (fun a hF => ?_)
  refine pv hF hW (y_loadOwn hF rfl 4 rfl rfl Try.underlying40 rfl) (fun a hF => ?_)
  refine pv hF hW (y_len hF rfl Try.underlying40) (fun a hF => ?_)
  refine pv hF hW (y_geq hF rfl rfl) (fun a hF => ?_)
  refine Fr.splitD hF ?_ ?_
  · intro h5 hF
    first
      | (exfalso; omega)
      | (refine l_nil ?_
         replace hF := (hF.k 0 rfl (hF.k 1 rfl (hF.k 2 rfl (hF.k 3 rfl (hF.k 4 rfl (hF.k 5 rfl (hF.k 15 rfl (hF.k 23 rfl hF.nil))))))))
         refine t_n ?_
         refine c_t hF rfl ?_
         refine c_sr ?_
         refine pv hF hW (y_fieldOwn hF rfl fa_46_5) (fun a hF => ?_)
         refine pe (e_store rfl hF hW rfl rfl 3 rfl rfl rfl sz_3 ?_)
         intro wc hW
         refine l_nil ?_
         replace hF := (hF.k 0 rfl (hF.k 1 rfl (hF.k 2 rfl (hF.k 3 rfl (hF.k 4 rfl (hF.k 5 rfl (hF.k 15 rfl (hF.k 23 rfl hF.nil))))))))
         refine t_n ?_
         refine c_sr ?_
         refine pv hF hW (y_loadAll hF rfl 3 rfl Try.underlying46 rfl sz_46) (fun a hF => ?_)
         refine pv hF hW (y_build hF rfl (fun w => bu_CellIO_48_  w)) (fun a hF => ?_)
         refine pe (e_storeAll rfl hF hW rfl rfl 2 rfl rfl rfl (by kernel_rfl) sz_46 ?_)
         intro wc hW
         refine pe (e_storeAll rfl hF hW rfl rfl 1 rfl rfl rfl (by kernel_rfl) sz_48 ?_)
         intro wc hW
         refine l_nil ?_
         replace hF := (hF.k 0 rfl (hF.k 1 rfl (hF.k 2 rfl (hF.k 3 rfl (hF.k 4 rfl (hF.k 5 rfl (hF.k 15 rfl (hF.k 23 rfl hF.nil))))))))
         refine t_n ?_
         refine wp_ret ?_
         refine t_r ?_
         refine ret2 Try.results23 hF (rv_c hF rfl hW 2 rfl Try.underlying46 rfl sz_46) (rv_c hF rfl hW 1 rfl Try.underlying48 rfl sz_48) ?_
         first | rw [if_pos (show out.length < 16 by omega)] | rw [if_neg (show ¬ out.length < 16 by omega)]
         first | exact ⟨_, rfl, ⟨rfl, rfl⟩, hW.row_own 0 rfl, hW.below⟩ | exact ⟨_, rfl, ⟨rfl, rfl⟩, (by have := hW.row_own 0 rfl; rw [OwnAs, List.length_append]; exact this), hW.below⟩)
  · intro h5 hF
    first
      | (exfalso; omega)
      | (refine l_nil ?_
         replace hF := (hF.k 0 rfl (hF.k 1 rfl (hF.k 2 rfl (hF.k 3 rfl (hF.k 4 rfl (hF.k 5 rfl (hF.k 15 rfl (hF.k 23 rfl hF.nil))))))))
         refine t_n ?_
         refine c_f hF rfl ?_
         refine wp_skip ?_
         refine t_n ?_
         refine c_sr ?_
         refine pv hF hW (y_fieldOwn hF rfl fa_42_0) (fun a hF => ?_)
         refine pv hF hW (y_loadOwn hF rfl 4 rfl rfl Try.underlying40 rfl) (fun a hF => ?_)
         refine pv hF hW (y_fieldOwn hF rfl fa_46_0) (fun a hF => ?_)
         refine pv hF hW (y_loadOwn hF rfl 3 rfl rfl Try.underlying3 rfl) (fun a hF => ?_)
         refine pv hF hW (y_indexS hF rfl rfl (by first | omega | decide) Try.underlying40 sz_95 (fun w h => (hC).wd h)) (fun a hF => ?_)
         refine pv hF hW (y_loadRowW hF rfl (fun w h => (hC).wd h) (by first | omega | decide) Try.underlying95 rfl sz_95) (fun a hF => ?_)
         replace hF := Fr.cast (v' := .agg #[.int .i64 11, .int .i64 0, .int .i64 0, .int .i64 0]) (by rw [hi]) hF
         refine pe (e_alloc hF hW ze_95 rfl rfl rfl ?_)
         intro b6 a wc hF hW
         refine pe (e_storeAll rfl hF hW rfl rfl 0 rfl rfl rfl (by kernel_rfl) sz_95 ?_)
         intro wc hW
         refine l_nil ?_
         replace hF := (hF.k 0 rfl (hF.k 1 rfl (hF.k 2 rfl (hF.k 3 rfl (hF.k 4 rfl (hF.k 5 rfl (hF.k 6 rfl (hF.k 15 rfl (hF.k 23 rfl hF.nil)))))))))
         refine t_n ?_
         refine c_sr ?_
         refine pv hF hW (y_fieldOwn hF rfl fa_46_0) (fun a hF => ?_)
         refine pv hF hW (y_loadOwn hF rfl 4 rfl rfl Try.underlying3 rfl) (fun a hF => ?_)
         refine pv hF hW (y_add hF rfl rfl (IntWalk.i64_in _ (by omega))) (fun a hF => ?_)
         refine pv hF hW (y_assign hF rfl) (fun a hF => ?_)
         refine l_nil ?_
         replace hF := (hF.k 0 rfl (hF.k 1 rfl (hF.k 2 rfl (hF.k 3 rfl (hF.k 4 rfl (hF.k 5 rfl (hF.k 6 rfl (hF.k 7 rfl (hF.k 15 rfl (hF.k 23 rfl hF.nil))))))))))
         refine t_n ?_
         refine c_sd mixed_ok hW (hW) ?_
         clear hW; intro wc hW hS
         refine dv 0 rfl hF hS (y_fieldOwn hF rfl fa_95_1) (fun a hF => ?_)
         refine dv 1 rfl hF hS (y_loadOwn hF rfl 0 rfl rfl Try.underlying3 rfl) (fun a hF => ?_)
         refine dv 2 rfl hF hS (y_fieldOwn hF rfl fa_46_1) (fun a hF => ?_)
         refine dv 3 rfl hF hS (y_indexA hF rfl rfl (by first | omega | decide) Try.underlying43 sz_3) (fun a hF => ?_)
         refine dv 4 rfl hF hS (y_loadOwn hF rfl 4 rfl rfl Try.underlying3 rfl) (fun a hF => ?_)
         refine dv 5 rfl hF hS (y_fieldOwn hF rfl fa_95_2) (fun a hF => ?_)
         refine dv 6 rfl hF hS (y_loadOwn hF rfl 0 rfl rfl Try.underlying3 rfl) (fun a hF => ?_)
         refine dv 7 rfl hF hS (y_fieldOwn hF rfl fa_46_1) (fun a hF => ?_)
         refine dv 8 rfl hF hS (y_indexA hF rfl rfl (by first | omega | decide) Try.underlying43 sz_3) (fun a hF => ?_)
         refine dv 9 rfl hF hS (y_loadOwn hF rfl 4 rfl rfl Try.underlying3 rfl) (fun a hF => ?_)
         refine dv 10 rfl hF hS (y_assign hF rfl) (fun a hF => ?_)
         refine dv 11 rfl hF hS (y_assign hF rfl) (fun a hF => ?_)
         clear hS
         refine d_nil (by kernel_rfl) ?_
         replace hF := (hF.k 0 rfl (hF.k 1 rfl (hF.k 2 rfl (hF.k 3 rfl (hF.k 4 rfl (hF.k 5 rfl (hF.k 6 rfl (hF.k 7 rfl (hF.k 8 rfl (hF.k 9 rfl (hF.k 15 rfl (hF.k 23 rfl hF.nil))))))))))))
         refine t_n ?_
         refine c_sr ?_
         refine pe (e_alloc hF hW ze_48 rfl rfl rfl ?_)
         intro b7 a wc hF hW
         refine l_nil ?_
         refine t_n ?_
         refine c_s ?_
         refine c_sr ?_
         refine pv hF hW (y_fieldOwn hF rfl fa_95_0) (fun a hF => ?_)
         refine pv hF hW (y_loadOwn hF rfl 1 rfl rfl Try.underlying3 rfl) (fun a hF => ?_)
         refine l_nil ?_
         replace hF := (hF.k 0 rfl (hF.k 1 rfl (hF.k 2 rfl (hF.k 3 rfl (hF.k 4 rfl (hF.k 5 rfl (hF.k 6 rfl (hF.k 7 rfl (hF.k 8 rfl (hF.k 9 rfl (hF.k 10 rfl (hF.k 15 rfl (hF.k 23 rfl (hF.k 47 rfl hF.nil))))))))))))))
         refine t_n ?_
         refine wp_block ?_
         refine c_sr ?_
         refine pv hF hW (y_eql hF rfl rfl) (fun a hF => ?_)
         replace hF := Fr.bool (t := false) (by first | decide | (simp; done) | rfl) hF
         refine pv hF hW (y_assign hF rfl) (fun a hF => ?_)
         replace hF := Fr.bool (t := false) (by first | decide | (simp; done) | rfl) hF
         refine l_nil ?_
         replace hF := (hF.k 0 rfl (hF.k 1 rfl (hF.k 2 rfl (hF.k 3 rfl (hF.k 4 rfl (hF.k 5 rfl (hF.k 6 rfl (hF.k 7 rfl (hF.k 8 rfl (hF.k 9 rfl (hF.k 10 rfl (hF.k 15 rfl (hF.k 23 rfl (hF.k 47 rfl (hF.k 48 rfl hF.nil)))))))))))))))
         refine t_n ?_
         refine c_f hF rfl ?_
         refine c_sr ?_
         refine pv hF hW (y_eql hF rfl rfl) (fun a hF => ?_)
         replace hF := Fr.bool (t := false) (by first | decide | (simp; done) | rfl) hF
         refine pv hF hW (y_assign hF rfl) (fun a hF => ?_)
         replace hF := Fr.bool (t := false) (by first | decide | (simp; done) | rfl) hF
         refine l_nil ?_
         replace hF := (hF.k 0 rfl (hF.k 1 rfl (hF.k 2 rfl (hF.k 3 rfl (hF.k 4 rfl (hF.k 5 rfl (hF.k 6 rfl (hF.k 7 rfl (hF.k 8 rfl (hF.k 9 rfl (hF.k 10 rfl (hF.k 15 rfl (hF.k 23 rfl (hF.k 47 rfl (hF.k 48 rfl (hF.k 56 rfl hF.nil))))))))))))))))
         refine t_n ?_
         refine c_f hF rfl ?_
         refine c_sr ?_
         refine pv hF hW (y_eql hF rfl rfl) (fun a hF => ?_)
         replace hF := Fr.bool (t := false) (by first | decide | (simp; done) | rfl) hF
         refine pv hF hW (y_assign hF rfl) (fun a hF => ?_)
         replace hF := Fr.bool (t := false) (by first | decide | (simp; done) | rfl) hF
         refine l_nil ?_
         replace hF := (hF.k 0 rfl (hF.k 1 rfl (hF.k 2 rfl (hF.k 3 rfl (hF.k 4 rfl (hF.k 5 rfl (hF.k 6 rfl (hF.k 7 rfl (hF.k 8 rfl (hF.k 9 rfl (hF.k 10 rfl (hF.k 15 rfl (hF.k 23 rfl (hF.k 47 rfl (hF.k 48 rfl (hF.k 56 rfl (hF.k 63 rfl hF.nil)))))))))))))))))
         refine t_n ?_
         refine c_f hF rfl ?_
         refine c_sr ?_
         refine pv hF hW (y_eql hF rfl rfl) (fun a hF => ?_)
         replace hF := Fr.bool (t := false) (by first | decide | (simp; done) | rfl) hF
         refine pv hF hW (y_assign hF rfl) (fun a hF => ?_)
         replace hF := Fr.bool (t := false) (by first | decide | (simp; done) | rfl) hF
         refine l_nil ?_
         replace hF := (hF.k 0 rfl (hF.k 1 rfl (hF.k 2 rfl (hF.k 3 rfl (hF.k 4 rfl (hF.k 5 rfl (hF.k 6 rfl (hF.k 7 rfl (hF.k 8 rfl (hF.k 9 rfl (hF.k 10 rfl (hF.k 15 rfl (hF.k 23 rfl (hF.k 47 rfl (hF.k 48 rfl (hF.k 56 rfl (hF.k 63 rfl (hF.k 72 rfl hF.nil))))))))))))))))))
         refine t_n ?_
         refine c_f hF rfl ?_
         refine c_sr ?_
         refine pv hF hW (y_eql hF rfl rfl) (fun a hF => ?_)
         replace hF := Fr.bool (t := false) (by first | decide | (simp; done) | rfl) hF
         refine pv hF hW (y_assign hF rfl) (fun a hF => ?_)
         replace hF := Fr.bool (t := false) (by first | decide | (simp; done) | rfl) hF
         refine l_nil ?_
         replace hF := (hF.k 0 rfl (hF.k 1 rfl (hF.k 2 rfl (hF.k 3 rfl (hF.k 4 rfl (hF.k 5 rfl (hF.k 6 rfl (hF.k 7 rfl (hF.k 8 rfl (hF.k 9 rfl (hF.k 10 rfl (hF.k 15 rfl (hF.k 23 rfl (hF.k 47 rfl (hF.k 48 rfl (hF.k 56 rfl (hF.k 63 rfl (hF.k 72 rfl (hF.k 81 rfl hF.nil)))))))))))))))))))
         refine t_n ?_
         refine c_f hF rfl ?_
         refine c_s ?_
         refine c_sr ?_
         refine pv hF hW (y_eql hF rfl rfl) (fun a hF => ?_)
         replace hF := Fr.bool (t := false) (by first | decide | (simp; done) | rfl) hF
         refine pv hF hW (y_assign hF rfl) (fun a hF => ?_)
         replace hF := Fr.bool (t := false) (by first | decide | (simp; done) | rfl) hF
         refine l_nil ?_
         replace hF := (hF.k 0 rfl (hF.k 1 rfl (hF.k 2 rfl (hF.k 3 rfl (hF.k 4 rfl (hF.k 5 rfl (hF.k 6 rfl (hF.k 7 rfl (hF.k 8 rfl (hF.k 9 rfl (hF.k 10 rfl (hF.k 15 rfl (hF.k 23 rfl (hF.k 47 rfl (hF.k 48 rfl (hF.k 56 rfl (hF.k 63 rfl (hF.k 72 rfl (hF.k 81 rfl (hF.k 94 rfl hF.nil))))))))))))))))))))
         refine t_n ?_
         refine c_f hF rfl ?_
         refine c_r ?_
         refine pv hF hW (y_eql hF rfl rfl) (fun a hF => ?_)
         replace hF := Fr.bool (t := false) (by first | decide | (simp; done) | rfl) hF
         replace hF := hF.drop 94
         refine pv hF hW (y_assign hF rfl) (fun a hF => ?_)
         replace hF := Fr.bool (t := false) (by first | decide | (simp; done) | rfl) hF
         refine l_nil ?_
         replace hF := (hF.k 0 rfl (hF.k 1 rfl (hF.k 2 rfl (hF.k 3 rfl (hF.k 4 rfl (hF.k 5 rfl (hF.k 6 rfl (hF.k 7 rfl (hF.k 8 rfl (hF.k 9 rfl (hF.k 10 rfl (hF.k 15 rfl (hF.k 23 rfl (hF.k 47 rfl (hF.k 48 rfl (hF.k 56 rfl (hF.k 63 rfl (hF.k 72 rfl (hF.k 81 rfl (hF.k 94 rfl hF.nil))))))))))))))))))))
         refine t_n ?_
         refine c_f hF rfl ?_
         refine c_sr ?_
         refine pv hF hW (y_eql hF rfl rfl) (fun a hF => ?_)
         replace hF := Fr.bool (t := false) (by first | decide | (simp; done) | rfl) hF
         refine pv hF hW (y_assign hF rfl) (fun a hF => ?_)
         replace hF := Fr.bool (t := false) (by first | decide | (simp; done) | rfl) hF
         refine l_nil ?_
         replace hF := (hF.k 0 rfl (hF.k 1 rfl (hF.k 2 rfl (hF.k 3 rfl (hF.k 4 rfl (hF.k 5 rfl (hF.k 6 rfl (hF.k 7 rfl (hF.k 8 rfl (hF.k 9 rfl (hF.k 10 rfl (hF.k 15 rfl (hF.k 23 rfl (hF.k 47 rfl (hF.k 48 rfl (hF.k 56 rfl (hF.k 63 rfl (hF.k 72 rfl (hF.k 81 rfl (hF.k 94 rfl (hF.k 118 rfl hF.nil)))))))))))))))))))))
         refine t_n ?_
         refine c_f hF rfl ?_
         refine c_sr ?_
         refine pv hF hW (y_eql hF rfl rfl) (fun a hF => ?_)
         replace hF := Fr.bool (t := false) (by first | decide | (simp; done) | rfl) hF
         refine pv hF hW (y_assign hF rfl) (fun a hF => ?_)
         replace hF := Fr.bool (t := false) (by first | decide | (simp; done) | rfl) hF
         refine l_nil ?_
         replace hF := (hF.k 0 rfl (hF.k 1 rfl (hF.k 2 rfl (hF.k 3 rfl (hF.k 4 rfl (hF.k 5 rfl (hF.k 6 rfl (hF.k 7 rfl (hF.k 8 rfl (hF.k 9 rfl (hF.k 10 rfl (hF.k 15 rfl (hF.k 23 rfl (hF.k 47 rfl (hF.k 48 rfl (hF.k 56 rfl (hF.k 63 rfl (hF.k 72 rfl (hF.k 81 rfl (hF.k 94 rfl (hF.k 118 rfl (hF.k 122 rfl hF.nil))))))))))))))))))))))
         refine t_n ?_
         refine c_f hF rfl ?_
         refine c_sr ?_
         refine pv hF hW (y_eql hF rfl rfl) (fun a hF => ?_)
         replace hF := Fr.bool (t := false) (by first | decide | (simp; done) | rfl) hF
         refine pv hF hW (y_assign hF rfl) (fun a hF => ?_)
         replace hF := Fr.bool (t := false) (by first | decide | (simp; done) | rfl) hF
         refine l_nil ?_
         replace hF := (hF.k 0 rfl (hF.k 1 rfl (hF.k 2 rfl (hF.k 3 rfl (hF.k 4 rfl (hF.k 5 rfl (hF.k 6 rfl (hF.k 7 rfl (hF.k 8 rfl (hF.k 9 rfl (hF.k 10 rfl (hF.k 15 rfl (hF.k 23 rfl (hF.k 47 rfl (hF.k 48 rfl (hF.k 56 rfl (hF.k 63 rfl (hF.k 72 rfl (hF.k 81 rfl (hF.k 94 rfl (hF.k 118 rfl (hF.k 122 rfl (hF.k 128 rfl hF.nil)))))))))))))))))))))))
         refine t_n ?_
         refine c_f hF rfl ?_
         refine c_sr ?_
         refine pv hF hW (y_eql hF rfl rfl) (fun a hF => ?_)
         replace hF := Fr.bool (t := true) (by first | decide | (simp; done) | rfl) hF
         refine pv hF hW (y_assign hF rfl) (fun a hF => ?_)
         replace hF := Fr.bool (t := true) (by first | decide | (simp; done) | rfl) hF
         refine l_nil ?_
         replace hF := (hF.k 0 rfl (hF.k 1 rfl (hF.k 2 rfl (hF.k 3 rfl (hF.k 4 rfl (hF.k 5 rfl (hF.k 6 rfl (hF.k 7 rfl (hF.k 8 rfl (hF.k 9 rfl (hF.k 10 rfl (hF.k 15 rfl (hF.k 23 rfl (hF.k 47 rfl (hF.k 48 rfl (hF.k 56 rfl (hF.k 63 rfl (hF.k 72 rfl (hF.k 81 rfl (hF.k 94 rfl (hF.k 118 rfl (hF.k 122 rfl (hF.k 128 rfl (hF.k 154 rfl hF.nil))))))))))))))))))))))))
         refine t_n ?_
         refine c_t hF rfl ?_
         refine c_sr ?_
         refine pv hF hW (y_fieldOwn hF rfl fa_46_4) (fun a hF => ?_)
         refine pv hF hW (y_loadOwn hF rfl 5 rfl rfl Try.underlying22 rfl) (fun a hF => ?_)
         refine pv hF hW (y_len hF rfl Try.underlying22) (fun a hF => ?_)
         refine pv hF hW (y_lss hF rfl rfl) (fun a hF => ?_)
         refine Fr.splitD hF ?_ ?_
         · intro h8 hF
           first
             | (exfalso; omega)
             | (refine l_nil ?_
                replace hF := (hF.k 0 rfl (hF.k 1 rfl (hF.k 2 rfl (hF.k 3 rfl (hF.k 4 rfl (hF.k 5 rfl (hF.k 6 rfl (hF.k 7 rfl (hF.k 8 rfl (hF.k 9 rfl (hF.k 10 rfl (hF.k 15 rfl (hF.k 23 rfl (hF.k 47 rfl (hF.k 48 rfl (hF.k 56 rfl (hF.k 63 rfl (hF.k 72 rfl (hF.k 81 rfl (hF.k 94 rfl (hF.k 118 rfl (hF.k 122 rfl (hF.k 128 rfl (hF.k 154 rfl (hF.k 159 rfl hF.nil)))))))))))))))))))))))))
                refine t_n ?_
                refine c_t hF rfl ?_
                refine c_r ?_
                refine pv hF hW (y_fieldOwn hF rfl fa_46_4) (fun a hF => ?_)
                refine pv hF hW (y_loadOwn hF rfl 5 rfl rfl Try.underlying22 rfl) (fun a hF => ?_)
                refine pv hF hW (y_move hF rfl) (fun a hF => ?_)
                refine pe (e_buildSlice hF hW rfl (fun w => bs_CellIO_22_1_0 _ w) rfl rfl rfl ?_)
                intro b9 a wc hF hW
                refine pe (e_append hF hW 3 rfl rfl rfl Try.underlying22 inf_3 rfl (by decide) (rowAt_blk (hW.blk 0 rfl) 1 1 rfl) (by simp [Value.oneCell']) (show _ = out.length + 1 by omega) (show _ = (out ++ [r0]).map (.int .i64) by simp) (by first | omega | (simp; omega)) (by unfold maxLen; first | omega | (simp; omega)) rfl rfl ?_)
                intro A10 c11 a wc hF hW
                refine pv hF hW (y_fieldOwn hF rfl fa_46_4) (fun a hF => ?_)
                refine pe (e_store rfl hF hW rfl rfl 6 rfl rfl rfl sz_22 ?_)
                intro wc hW
                refine l_nil ?_
                replace hF := (hF.k 0 rfl (hF.k 1 rfl (hF.k 2 rfl (hF.k 3 rfl (hF.k 4 rfl (hF.k 5 rfl (hF.k 6 rfl (hF.k 7 rfl (hF.k 8 rfl (hF.k 9 rfl (hF.k 10 rfl (hF.k 15 rfl (hF.k 23 rfl (hF.k 47 rfl (hF.k 48 rfl (hF.k 56 rfl (hF.k 63 rfl (hF.k 72 rfl (hF.k 81 rfl (hF.k 94 rfl (hF.k 118 rfl (hF.k 122 rfl (hF.k 128 rfl (hF.k 154 rfl (hF.k 159 rfl hF.nil)))))))))))))))))))))))))
                refine b_n ?_
                refine t_n ?_
                refine c_sr ?_
                refine pv hF hW (y_move hF rfl) (fun a hF => ?_)
                refine pv hF hW (y_fieldOwn hF rfl fa_46_0) (fun a hF => ?_)
                refine pe (e_store rfl hF hW rfl rfl 6 rfl rfl rfl sz_3 ?_)
                intro wc hW
                refine l_nil ?_
                replace hF := (hF.k 0 rfl (hF.k 1 rfl (hF.k 2 rfl (hF.k 3 rfl (hF.k 4 rfl (hF.k 5 rfl (hF.k 6 rfl (hF.k 7 rfl (hF.k 8 rfl (hF.k 9 rfl (hF.k 10 rfl (hF.k 15 rfl (hF.k 23 rfl (hF.k 47 rfl (hF.k 48 rfl (hF.k 56 rfl (hF.k 63 rfl (hF.k 72 rfl (hF.k 81 rfl (hF.k 94 rfl (hF.k 118 rfl (hF.k 122 rfl (hF.k 128 rfl (hF.k 154 rfl (hF.k 159 rfl hF.nil)))))))))))))))))))))))))
                refine t_n ?_
                refine c_sd mixed_ok hW (((hW.del 4 rfl).del 4 rfl)) ?_
                clear hW; intro wc hW hS
                refine dv 0 rfl hF hS (y_loadAll hF rfl 4 rfl Try.underlying46 rfl sz_46) (fun a hF => ?_)
                refine dv 1 rfl hF hS (y_loadAll hF rfl 1 rfl Try.underlying48 rfl sz_48) (fun a hF => ?_)
                refine d_1 2 (by kernel_rfl) ?_
                refine d_op rfl rfl (e_storeAll rfl hF hW rfl rfl 5 rfl rfl rfl (by kernel_rfl) sz_46 ?_)
                intro wc hW
                refine ⟨((hW.del 4 rfl).del 4 rfl), ?_⟩
                replace hS := ((hW.del 4 rfl).del 4 rfl)
                refine d_1 3 (by kernel_rfl) ?_
                refine d_op rfl rfl (e_storeAll rfl hF hW rfl rfl 4 rfl rfl rfl (by kernel_rfl) sz_48 ?_)
                intro wc hW
                refine ⟨((hW.del 4 rfl).del 4 rfl), ?_⟩
                replace hS := ((hW.del 4 rfl).del 4 rfl)
                clear hS
                refine d_nil (by kernel_rfl) ?_
                replace hF := (hF.k 0 rfl (hF.k 1 rfl (hF.k 2 rfl (hF.k 3 rfl (hF.k 4 rfl (hF.k 5 rfl (hF.k 6 rfl (hF.k 7 rfl (hF.k 8 rfl (hF.k 9 rfl (hF.k 10 rfl (hF.k 15 rfl (hF.k 23 rfl (hF.k 47 rfl (hF.k 48 rfl (hF.k 56 rfl (hF.k 63 rfl (hF.k 72 rfl (hF.k 81 rfl (hF.k 94 rfl (hF.k 118 rfl (hF.k 122 rfl (hF.k 128 rfl (hF.k 154 rfl (hF.k 159 rfl hF.nil)))))))))))))))))))))))))
                refine t_n ?_
                refine wp_ret ?_
                refine ret2 Try.results23 hF (rv_c hF rfl hW 5 rfl Try.underlying46 rfl sz_46) (rv_c hF rfl hW 4 rfl Try.underlying48 rfl sz_48) ?_
                first | rw [if_pos (show out.length < 16 by omega)] | rw [if_neg (show ¬ out.length < 16 by omega)]
                first | exact ⟨_, rfl, ⟨rfl, rfl⟩, hW.row_own 3 rfl, hW.below⟩ | exact ⟨_, rfl, ⟨rfl, rfl⟩, (by have := hW.row_own 3 rfl; rw [OwnAs, List.length_append]; exact this), hW.below⟩)
         · intro h8 hF
           first
             | (exfalso; omega)
             | (refine l_nil ?_
                replace hF := (hF.k 0 rfl (hF.k 1 rfl (hF.k 2 rfl (hF.k 3 rfl (hF.k 4 rfl (hF.k 5 rfl (hF.k 6 rfl (hF.k 7 rfl (hF.k 8 rfl (hF.k 9 rfl (hF.k 10 rfl (hF.k 15 rfl (hF.k 23 rfl (hF.k 47 rfl (hF.k 48 rfl (hF.k 56 rfl (hF.k 63 rfl (hF.k 72 rfl (hF.k 81 rfl (hF.k 94 rfl (hF.k 118 rfl (hF.k 122 rfl (hF.k 128 rfl (hF.k 154 rfl (hF.k 159 rfl hF.nil)))))))))))))))))))))))))
                refine t_n ?_
                refine c_f hF rfl ?_
                refine wp_skip ?_
                refine b_n ?_
                refine t_n ?_
                refine c_sr ?_
                refine pv hF hW (y_move hF rfl) (fun a hF => ?_)
                refine pv hF hW (y_fieldOwn hF rfl fa_46_0) (fun a hF => ?_)
                refine pe (e_store rfl hF hW rfl rfl 5 rfl rfl rfl sz_3 ?_)
                intro wc hW
                refine l_nil ?_
                replace hF := (hF.k 0 rfl (hF.k 1 rfl (hF.k 2 rfl (hF.k 3 rfl (hF.k 4 rfl (hF.k 5 rfl (hF.k 6 rfl (hF.k 7 rfl (hF.k 8 rfl (hF.k 9 rfl (hF.k 10 rfl (hF.k 15 rfl (hF.k 23 rfl (hF.k 47 rfl (hF.k 48 rfl (hF.k 56 rfl (hF.k 63 rfl (hF.k 72 rfl (hF.k 81 rfl (hF.k 94 rfl (hF.k 118 rfl (hF.k 122 rfl (hF.k 128 rfl (hF.k 154 rfl (hF.k 159 rfl hF.nil)))))))))))))))))))))))))
                refine t_n ?_
                refine c_sd mixed_ok hW (((hW.del 3 rfl).del 3 rfl)) ?_
                clear hW; intro wc hW hS
                refine dv 0 rfl hF hS (y_loadAll hF rfl 3 rfl Try.underlying46 rfl sz_46) (fun a hF => ?_)
                refine dv 1 rfl hF hS (y_loadAll hF rfl 0 rfl Try.underlying48 rfl sz_48) (fun a hF => ?_)
                refine d_1 2 (by kernel_rfl) ?_
                refine d_op rfl rfl (e_storeAll rfl hF hW rfl rfl 4 rfl rfl rfl (by kernel_rfl) sz_46 ?_)
                intro wc hW
                refine ⟨((hW.del 3 rfl).del 3 rfl), ?_⟩
                replace hS := ((hW.del 3 rfl).del 3 rfl)
                refine d_1 3 (by kernel_rfl) ?_
                refine d_op rfl rfl (e_storeAll rfl hF hW rfl rfl 3 rfl rfl rfl (by kernel_rfl) sz_48 ?_)
                intro wc hW
                refine ⟨((hW.del 3 rfl).del 3 rfl), ?_⟩
                replace hS := ((hW.del 3 rfl).del 3 rfl)
                clear hS
                refine d_nil (by kernel_rfl) ?_
                replace hF := (hF.k 0 rfl (hF.k 1 rfl (hF.k 2 rfl (hF.k 3 rfl (hF.k 4 rfl (hF.k 5 rfl (hF.k 6 rfl (hF.k 7 rfl (hF.k 8 rfl (hF.k 9 rfl (hF.k 10 rfl (hF.k 15 rfl (hF.k 23 rfl (hF.k 47 rfl (hF.k 48 rfl (hF.k 56 rfl (hF.k 63 rfl (hF.k 72 rfl (hF.k 81 rfl (hF.k 94 rfl (hF.k 118 rfl (hF.k 122 rfl (hF.k 128 rfl (hF.k 154 rfl (hF.k 159 rfl hF.nil)))))))))))))))))))))))))
                refine t_n ?_
                refine wp_ret ?_
                refine ret2 Try.results23 hF (rv_c hF rfl hW 4 rfl Try.underlying46 rfl sz_46) (rv_c hF rfl hW 3 rfl Try.underlying48 rfl sz_48) ?_
                first | rw [if_pos (show out.length < 16 by omega)] | rw [if_neg (show ¬ out.length < 16 by omega)]
                first | exact ⟨_, rfl, ⟨rfl, rfl⟩, hW.row_own 2 rfl, hW.below⟩ | exact ⟨_, rfl, ⟨rfl, rfl⟩, (by have := hW.row_own 2 rfl; rw [OwnAs, List.length_append]; exact this), hW.below⟩))
theorem stepR_out1 (at' : Nat) (r0 r1 r2 r3 m0 m1 m2 m3 m4 m5 m6 m7 rd : Int) (l : List Ins) (inp out : List Int) (Ac Ai Ao : Option Addr) (cc ci co : Nat) (w : World)
    (hC : RF w Ac l.length 4 (fun k => [.int .i64 (l.getD k ⟨0, 0, 0, 0⟩).op, .int .i64 (l.getD k ⟨0, 0, 0, 0⟩).a, .int .i64 (l.getD k ⟨0, 0, 0, 0⟩).b, .int .i64 (l.getD k ⟨0, 0, 0, 0⟩).n])) (hlt : at' < l.length) (hl : l.length ≤ 1048576)
    (hi : l.getD at' ⟨0, 0, 0, 0⟩ = ⟨11, 1, 0, 0⟩) (ho : Ints w (.slice Ao out.length co) out) (hol : out.length ≤ 1048576) :
    Calls Try.prog 23 #[.agg #[.slice Ac l.length cc, .slice Ai inp.length ci], .agg #[.int .i64 at', .int .i64 r0, .int .i64 r1, .int .i64 r2, .int .i64 r3, .int .i64 m0, .int .i64 m1, .int .i64 m2, .int .i64 m3, .int .i64 m4, .int .i64 m5, .int .i64 m6, .int .i64 m7, .int .i64 rd, .slice Ao out.length co, .int .i64 0]] w
      (CelWantBack w (⟨at' + 1, [r0, r1, r2, r3], [m0, m1, m2, m3, m4, m5, m6, m7], rd, if out.length < 16 then out ++ [r1] else out, 0⟩, Wnt.zero)) := by
  have hown := fun w1 (hb : Below w.heap.size w w1) => ownCell_abs ⟨at', [r0, r1, r2, r3], [m0, m1, m2, m3, m4, m5, m6, m7], rd, out, 0⟩ (.slice Ao out.length co) ⟨rfl, rfl⟩ w ho hol w1 hb
  refine enter Try.func23 rfl Try.ntmps23 rfl (fun a hF => ?_)
  have hW := Wd.start w NoB
  refine c_sr ?_
  refine pe (e_box hF hW rfl rfl rfl rfl ?_)
  intro b1 a wc hF hW
  refine pe (e_box hF hW rfl rfl rfl rfl ?_)
  intro b2 a wc hF hW
  refine pe (e_alloc hF hW ze_46 rfl rfl rfl ?_)
  intro b3 a wc hF hW
  refine pe (e_alloc hF hW ze_48 rfl rfl rfl ?_)
  intro b4 a wc hF hW
  refine l_nil ?_
  refine t_n ?_
  refine c_sr ?_
  refine pv hF hW (y_loadAll hF rfl 2 rfl Try.underlying46 rfl sz_46) (fun a hF => ?_)
  refine pe (e_call hF rfl rfl en_49 (by rfl) rfl rfl (hown _ hW.below) ?_)
  rintro e w1 ⟨A1, c1, rfl, hown1, hb⟩
  replace hW := hW.got_row (v := .slice A1 out.length c1) (n := out.length) (cs := out.map (.int .i64)) hb hown1
  refine ⟨_, rfl, fun a hF => ?_⟩
  replace hF := Fr.cast (v' := .agg #[.int .i64 at', .int .i64 r0, .int .i64 r1, .int .i64 r2, .int .i64 r3, .int .i64 m0, .int .i64 m1, .int .i64 m2, .int .i64 m3, .int .i64 m4, .int .i64 m5, .int .i64 m6, .int .i64 m7, .int .i64 rd, .slice A1 out.length c1, .int .i64 0]) rfl hF
  refine pe (e_storeAll rfl hF hW rfl rfl 3 rfl rfl rfl (by kernel_rfl) sz_46 ?_)
  intro wc hW
  refine l_nil ?_
  replace hF := (hF.k 0 rfl (hF.k 1 rfl (hF.k 2 rfl (hF.k 3 rfl (hF.k 4 rfl (hF.k 5 rfl hF.nil))))))
  refine t_n ?_
  refine c_s ?_
  refine c_sr ?_
  refine pv hF hW (y_fieldOwn hF rfl fa_46_5) (fun a hF => ?_)
  refine pv hF hW (y_loadOwn hF rfl 3 rfl rfl Try.underlying3 rfl) (fun a hF => ?_)
  refine pv hF hW (y_neq hF rfl rfl) (fun a hF => ?_)
  replace hF := Fr.bool (t := false) (by first | decide | (simp; done) | rfl) hF
  refine l_nil ?_
  replace hF := (hF.k 0 rfl (hF.k 1 rfl (hF.k 2 rfl (hF.k 3 rfl (hF.k 4 rfl (hF.k 5 rfl (hF.k 15 rfl hF.nil)))))))
  refine t_n ?_
  refine c_f hF rfl ?_
  refine wp_skip ?_
  refine t_n ?_
  refine c_s ?_
  refine c_sr ?_
  refine pv hF hW (y_fieldOwn hF rfl fa_46_0) (fun a hF => ?_)
  refine pv hF hW (y_loadOwn hF rfl 3 rfl rfl Try.underlying3 rfl) (fun a hF => ?_)
  refine pv hF hW (y_fieldOwn hF rfl fa_42_0) (fun a hF => ?_)
  refine pv hF hW (y_loadOwn hF rfl 4 rfl rfl Try.underlying40 rfl) (fun a hF => ?_)
  refine pv hF hW (y_len hF rfl Try.underlying40) (fun a hF => ?_)
  refine pv hF hW (y_geq hF rfl rfl) (fun a hF => ?_)
  refine Fr.splitD hF ?_ ?_
  · intro h5 hF
    first
      | (exfalso; omega)
      | (refine l_nil ?_
         replace hF := (hF.k 0 rfl (hF.k 1 rfl (hF.k 2 rfl (hF.k 3 rfl (hF.k 4 rfl (hF.k 5 rfl (hF.k 15 rfl (hF.k 23 rfl hF.nil))))))))
         refine t_n ?_
         refine c_t hF rfl ?_
         refine c_sr ?_
         refine pv hF hW (y_fieldOwn hF rfl fa_46_5) (fun a hF => ?_)
         refine pe (e_store rfl hF hW rfl rfl 3 rfl rfl rfl sz_3 ?_)
         intro wc hW
         refine l_nil ?_
         replace hF := (hF.k 0 rfl (hF.k 1 rfl (hF.k 2 rfl (hF.k 3 rfl (hF.k 4 rfl (hF.k 5 rfl (hF.k 15 rfl (hF.k 23 rfl hF.nil))))))))
         refine t_n ?_
         refine c_sr ?_
         refine pv hF hW (y_loadAll hF rfl 3 rfl Try.underlying46 rfl sz_46) (fun a hF => ?_)
         refine pv hF hW (y_build hF rfl (fun w => bu_CellIO_48_  w)) (fun a hF => ?_)
         refine pe (e_storeAll rfl hF hW rfl rfl 2 rfl rfl rfl (by kernel_rfl) sz_46 ?_)
         intro wc hW
         refine pe (e_storeAll rfl hF hW rfl rfl 1 rfl rfl rfl (by kernel_rfl) sz_48 ?_)
         intro wc hW
         refine l_nil ?_
         replace hF := (hF.k 0 rfl (hF.k 1 rfl (hF.k 2 rfl (hF.k 3 rfl (hF.k 4 rfl (hF.k 5 rfl (hF.k 15 rfl (hF.k 23 rfl hF.nil))))))))
         refine t_n ?_
         refine wp_ret ?_
         refine t_r ?_
         refine ret2 Try.results23 hF (rv_c hF rfl hW 2 rfl Try.underlying46 rfl sz_46) (rv_c hF rfl hW 1 rfl Try.underlying48 rfl sz_48) ?_
         first | rw [if_pos (show out.length < 16 by omega)] | rw [if_neg (show ¬ out.length < 16 by omega)]
         first | exact ⟨_, rfl, ⟨rfl, rfl⟩, hW.row_own 0 rfl, hW.below⟩ | exact ⟨_, rfl, ⟨rfl, rfl⟩, (by have := hW.row_own 0 rfl; rw [OwnAs, List.length_append]; exact this), hW.below⟩)
  · intro h5 hF
    first
      | (exfalso; omega)
      | (refine l_nil ?_
         replace hF := (hF.k 0 rfl (hF.k 1 rfl (hF.k 2 rfl (hF.k 3 rfl (hF.k 4 rfl (hF.k 5 rfl (hF.k 15 rfl (hF.k 23 rfl hF.nil))))))))
         refine t_n ?_
         refine c_f hF rfl ?_
         refine wp_skip ?_
         refine t_n ?_
         refine c_sr ?_
         refine pv hF hW (y_fieldOwn hF rfl fa_42_0) (fun a hF => ?_)
         refine pv hF hW (y_loadOwn hF rfl 4 rfl rfl Try.underlying40 rfl) (fun a hF => ?_)
         refine pv hF hW (y_fieldOwn hF rfl fa_46_0) (fun a hF => ?_)
         refine pv hF hW (y_loadOwn hF rfl 3 rfl rfl Try.underlying3 rfl) (fun a hF => ?_)
         refine pv hF hW (y_indexS hF rfl rfl (by first | omega | decide) Try.underlying40 sz_95 (fun w h => (hC).wd h)) (fun a hF => ?_)
         refine pv hF hW (y_loadRowW hF rfl (fun w h => (hC).wd h) (by first | omega | decide) Try.underlying95 rfl sz_95) (fun a hF => ?_)
         replace hF := Fr.cast (v' := .agg #[.int .i64 11, .int .i64 1, .int .i64 0, .int .i64 0]) (by rw [hi]) hF
         refine pe (e_alloc hF hW ze_95 rfl rfl rfl ?_)
         intro b6 a wc hF hW
         refine pe (e_storeAll rfl hF hW rfl rfl 0 rfl rfl rfl (by kernel_rfl) sz_95 ?_)
         intro wc hW
         refine l_nil ?_
         replace hF := (hF.k 0 rfl (hF.k 1 rfl (hF.k 2 rfl (hF.k 3 rfl (hF.k 4 rfl (hF.k 5 rfl (hF.k 6 rfl (hF.k 15 rfl (hF.k 23 rfl hF.nil)))))))))
         refine t_n ?_
         refine c_sr ?_
         refine pv hF hW (y_fieldOwn hF rfl fa_46_0) (fun a hF => ?_)
         refine pv hF hW (y_loadOwn hF rfl 4 rfl rfl Try.underlying3 rfl) (fun a hF => ?_)
         refine pv hF hW (y_add hF rfl rfl (IntWalk.i64_in _ (by omega))) (fun a hF => ?_)
         refine pv hF hW (y_assign hF rfl) (fun a hF => ?_)
         refine l_nil ?_
         replace hF := (hF.k 0 rfl (hF.k 1 rfl (hF.k 2 rfl (hF.k 3 rfl (hF.k 4 rfl (hF.k 5 rfl (hF.k 6 rfl (hF.k 7 rfl (hF.k 15 rfl (hF.k 23 rfl hF.nil))))))))))
         refine t_n ?_
         refine c_sd mixed_ok hW (hW) ?_
         clear hW; intro wc hW hS
         refine dv 0 rfl hF hS (y_fieldOwn hF rfl fa_95_1) (fun a hF => ?_)
         refine dv 1 rfl hF hS (y_loadOwn hF rfl 0 rfl rfl Try.underlying3 rfl) (fun a hF => ?_)
         refine dv 2 rfl hF hS (y_fieldOwn hF rfl fa_46_1) (fun a hF => ?_)
         refine dv 3 rfl hF hS (y_indexA hF rfl rfl (by first | omega | decide) Try.underlying43 sz_3) (fun a hF => ?_)
         refine dv 4 rfl hF hS (y_loadOwn hF rfl 4 rfl rfl Try.underlying3 rfl) (fun a hF => ?_)
         refine dv 5 rfl hF hS (y_fieldOwn hF rfl fa_95_2) (fun a hF => ?_)
         refine dv 6 rfl hF hS (y_loadOwn hF rfl 0 rfl rfl Try.underlying3 rfl) (fun a hF => ?_)
         refine dv 7 rfl hF hS (y_fieldOwn hF rfl fa_46_1) (fun a hF => ?_)
         refine dv 8 rfl hF hS (y_indexA hF rfl rfl (by first | omega | decide) Try.underlying43 sz_3) (fun a hF => ?_)
         refine dv 9 rfl hF hS (y_loadOwn hF rfl 4 rfl rfl Try.underlying3 rfl) (fun a hF => ?_)
         refine dv 10 rfl hF hS (y_assign hF rfl) (fun a hF => ?_)
         refine dv 11 rfl hF hS (y_assign hF rfl) (fun a hF => ?_)
         clear hS
         refine d_nil (by kernel_rfl) ?_
         replace hF := (hF.k 0 rfl (hF.k 1 rfl (hF.k 2 rfl (hF.k 3 rfl (hF.k 4 rfl (hF.k 5 rfl (hF.k 6 rfl (hF.k 7 rfl (hF.k 8 rfl (hF.k 9 rfl (hF.k 15 rfl (hF.k 23 rfl hF.nil))))))))))))
         refine t_n ?_
         refine c_sr ?_
         refine pe (e_alloc hF hW ze_48 rfl rfl rfl ?_)
         intro b7 a wc hF hW
         refine l_nil ?_
         refine t_n ?_
         refine c_s ?_
         refine c_sr ?_
         refine pv hF hW (y_fieldOwn hF rfl fa_95_0) (fun a hF => ?_)
         refine pv hF hW (y_loadOwn hF rfl 1 rfl rfl Try.underlying3 rfl) (fun a hF => ?_)
         refine l_nil ?_
         replace hF := (hF.k 0 rfl (hF.k 1 rfl (hF.k 2 rfl (hF.k 3 rfl (hF.k 4 rfl (hF.k 5 rfl (hF.k 6 rfl (hF.k 7 rfl (hF.k 8 rfl (hF.k 9 rfl (hF.k 10 rfl (hF.k 15 rfl (hF.k 23 rfl (hF.k 47 rfl hF.nil))))))))))))))
         refine t_n ?_
         refine wp_block ?_
         refine c_sr ?_
         refine pv hF hW (y_eql hF rfl rfl) (fun a hF => ?_)
         replace hF := Fr.bool (t := false) (by first | decide | (simp; done) | rfl) hF
         refine pv hF hW (y_assign hF rfl) (fun a hF => ?_)
         replace hF := Fr.bool (t := false) (by first | decide | (simp; done) | rfl) hF
         refine l_nil ?_
         replace hF := (hF.k 0 rfl (hF.k 1 rfl (hF.k 2 rfl (hF.k 3 rfl (hF.k 4 rfl (hF.k 5 rfl (hF.k 6 rfl (hF.k 7 rfl (hF.k 8 rfl (hF.k 9 rfl (hF.k 10 rfl (hF.k 15 rfl (hF.k 23 rfl (hF.k 47 rfl (hF.k 48 rfl hF.nil)))))))))))))))
         refine t_n ?_
         refine c_f hF rfl ?_
         refine c_sr ?_
         refine pv hF hW (y_eql hF rfl rfl) (fun a hF => ?_)
         replace hF := Fr.bool (t := false) (by first | decide | (simp; done) | rfl) hF
         refine pv hF hW (y_assign hF rfl) (fun a hF => ?_)
         replace hF := Fr.bool (t := false) (by first | decide | (simp; done) | rfl) hF
         refine l_nil ?_
         replace hF := (hF.k 0 rfl (hF.k 1 rfl (hF.k 2 rfl (hF.k 3 rfl (hF.k 4 rfl (hF.k 5 rfl (hF.k 6 rfl (hF.k 7 rfl (hF.k 8 rfl (hF.k 9 rfl (hF.k 10 rfl (hF.k 15 rfl (hF.k 23 rfl (hF.k 47 rfl (hF.k 48 rfl (hF.k 56 rfl hF.nil))))))))))))))))
         refine t_n ?_
         refine c_f hF rfl ?_
         refine c_sr ?_
         refine pv hF hW (y_eql hF rfl rfl) (fun a hF => ?_)
         replace hF := Fr.bool (t := false) (by first | decide | (simp; done) | rfl) hF
         refine pv hF hW (y_assign hF rfl) (fun a hF => ?_)
         replace hF := Fr.bool (t := false) (by first | decide | (simp; done) | rfl) hF
         refine l_nil ?_
         replace hF := (hF.k 0 rfl (hF.k 1 rfl (hF.k 2 rfl (hF.k 3 rfl (hF.k 4 rfl (hF.k 5 rfl (hF.k 6 rfl (hF.k 7 rfl (hF.k 8 rfl (hF.k 9 rfl (hF.k 10 rfl (hF.k 15 rfl (hF.k 23 rfl (hF.k 47 rfl (hF.k 48 rfl (hF.k 56 rfl (hF.k 63 rfl hF.nil)))))))))))))))))
         refine t_n ?_
         refine c_f hF rfl ?_
         refine c_sr ?_
         refine pv hF hW (y_eql hF rfl rfl) (fun a hF => ?_)
         replace hF := Fr.bool (t := false) (by first | decide | (simp; done) | rfl) hF
         refine pv hF hW (y_assign hF rfl) (fun a hF => ?_)
         replace hF := Fr.bool (t := false) (by first | decide | (simp; done) | rfl) hF
         refine l_nil ?_
         replace hF := (hF.k 0 rfl (hF.k 1 rfl (hF.k 2 rfl (hF.k 3 rfl (hF.k 4 rfl (hF.k 5 rfl (hF.k 6 rfl (hF.k 7 rfl (hF.k 8 rfl (hF.k 9 rfl (hF.k 10 rfl (hF.k 15 rfl (hF.k 23 rfl (hF.k 47 rfl (hF.k 48 rfl (hF.k 56 rfl (hF.k 63 rfl (hF.k 72 rfl hF.nil))))))))))))))))))
         refine t_n ?_
         refine c_f hF rfl ?_
         refine c_sr ?_
         refine pv hF hW (y_eql hF rfl rfl) (fun a hF => ?_)
         replace hF := Fr.bool (t := false) (by first | decide | (simp; done) | rfl) hF
         refine pv hF hW (y_assign hF rfl) (fun a hF => ?_)
         replace hF := Fr.bool (t := false) (by first | decide | (simp; done) | rfl) hF
         refine l_nil ?_
         replace hF := (hF.k 0 rfl (hF.k 1 rfl (hF.k 2 rfl (hF.k 3 rfl (hF.k 4 rfl (hF.k 5 rfl (hF.k 6 rfl (hF.k 7 rfl (hF.k 8 rfl (hF.k 9 rfl (hF.k 10 rfl (hF.k 15 rfl (hF.k 23 rfl (hF.k 47 rfl (hF.k 48 rfl (hF.k 56 rfl (hF.k 63 rfl (hF.k 72 rfl (hF.k 81 rfl hF.nil)))))))))))))))))))
         refine t_n ?_
         refine c_f hF rfl ?_
         refine c_s ?_
         refine c_sr ?_
         refine pv hF hW (y_eql hF rfl rfl) (fun a hF => ?_)
         replace hF := Fr.bool (t := false) (by first | decide | (simp; done) | rfl) hF
         refine pv hF hW (y_assign hF rfl) (fun a hF => ?_)
         replace hF := Fr.bool (t := false) (by first | decide | (simp; done) | rfl) hF
         refine l_nil ?_
         replace hF := (hF.k 0 rfl (hF.k 1 rfl (hF.k 2 rfl (hF.k 3 rfl (hF.k 4 rfl (hF.k 5 rfl (hF.k 6 rfl (hF.k 7 rfl (hF.k 8 rfl (hF.k 9 rfl (hF.k 10 rfl (hF.k 15 rfl (hF.k 23 rfl (hF.k 47 rfl (hF.k 48 rfl (hF.k 56 rfl (hF.k 63 rfl (hF.k 72 rfl (hF.k 81 rfl (hF.k 94 rfl hF.nil))))))))))))))))))))
         refine t_n ?_
         refine c_f hF rfl ?_
         refine c_r ?_
         refine pv hF hW (y_eql hF rfl rfl) (fun a hF => ?_)
         replace hF := Fr.bool (t := false) (by first | decide | (simp; done) | rfl) hF
         replace hF := hF.drop 94
         refine pv hF hW (y_assign hF rfl) (fun a hF => ?_)
         replace hF := Fr.bool (t := false) (by first | decide | (simp; done) | rfl) hF
         refine l_nil ?_
         replace hF := (hF.k 0 rfl (hF.k 1 rfl (hF.k 2 rfl (hF.k 3 rfl (hF.k 4 rfl (hF.k 5 rfl (hF.k 6 rfl (hF.k 7 rfl (hF.k 8 rfl (hF.k 9 rfl (hF.k 10 rfl (hF.k 15 rfl (hF.k 23 rfl (hF.k 47 rfl (hF.k 48 rfl (hF.k 56 rfl (hF.k 63 rfl (hF.k 72 rfl (hF.k 81 rfl (hF.k 94 rfl hF.nil))))))))))))))))))))
         refine t_n ?_
         refine c_f hF rfl ?_
         refine c_sr ?_
         refine pv hF hW (y_eql hF rfl rfl) (fun a hF => ?_)
         replace hF := Fr.bool (t := false) (by first | decide | (simp; done) | rfl) hF
         refine pv hF hW (y_assign hF rfl) (fun a hF => ?_)
         replace hF := Fr.bool (t := false) (by first | decide | (simp; done) | rfl) hF
         refine l_nil ?_
         replace hF := (hF.k 0 rfl (hF.k 1 rfl (hF.k 2 rfl (hF.k 3 rfl (hF.k 4 rfl (hF.k 5 rfl (hF.k 6 rfl (hF.k 7 rfl (hF.k 8 rfl (hF.k 9 rfl (hF.k 10 rfl (hF.k 15 rfl (hF.k 23 rfl (hF.k 47 rfl (hF.k 48 rfl (hF.k 56 rfl (hF.k 63 rfl (hF.k 72 rfl (hF.k 81 rfl (hF.k 94 rfl (hF.k 118 rfl hF.nil)))))))))))))))))))))
         refine t_n ?_
         refine c_f hF rfl ?_
         refine c_sr ?_
         refine pv hF hW (y_eql hF rfl rfl) (fun a hF => ?_)
         replace hF := Fr.bool (t := false) (by first | decide | (simp; done) | rfl) hF
         refine pv hF hW (y_assign hF rfl) (fun a hF => ?_)
         replace hF := Fr.bool (t := false) (by first | decide | (simp; done) | rfl) hF
         refine l_nil ?_
         replace hF := (hF.k 0 rfl (hF.k 1 rfl (hF.k 2 rfl (hF.k 3 rfl (hF.k 4 rfl (hF.k 5 rfl (hF.k 6 rfl (hF.k 7 rfl (hF.k 8 rfl (hF.k 9 rfl (hF.k 10 rfl (hF.k 15 rfl (hF.k 23 rfl (hF.k 47 rfl (hF.k 48 rfl (hF.k 56 rfl (hF.k 63 rfl (hF.k 72 rfl (hF.k 81 rfl (hF.k 94 rfl (hF.k 118 rfl (hF.k 122 rfl hF.nil))))))))))))))))))))))
         refine t_n ?_
         refine c_f hF rfl ?_
         refine c_sr ?_
         refine pv hF hW (y_eql hF rfl rfl) (fun a hF => ?_)
         replace hF := Fr.bool (t := false) (by first | decide | (simp; done) | rfl) hF
         refine pv hF hW (y_assign hF rfl) (fun a hF => ?_)
         replace hF := Fr.bool (t := false) (by first | decide | (simp; done) | rfl) hF
         refine l_nil ?_
         replace hF := (hF.k 0 rfl (hF.k 1 rfl (hF.k 2 rfl (hF.k 3 rfl (hF.k 4 rfl (hF.k 5 rfl (hF.k 6 rfl (hF.k 7 rfl (hF.k 8 rfl (hF.k 9 rfl (hF.k 10 rfl (hF.k 15 rfl (hF.k 23 rfl (hF.k 47 rfl (hF.k 48 rfl (hF.k 56 rfl (hF.k 63 rfl (hF.k 72 rfl (hF.k 81 rfl (hF.k 94 rfl (hF.k 118 rfl (hF.k 122 rfl (hF.k 128 rfl hF.nil)))))))))))))))))))))))
         refine t_n ?_
         refine c_f hF rfl ?_
         refine c_sr ?_
         refine pv hF hW (y_eql hF rfl rfl) (fun a hF => ?_)
         replace hF := Fr.bool (t := true) (by first | decide | (simp; done) | rfl) hF
         refine pv hF hW (y_assign hF rfl) (fun a hF => ?_)
         replace hF := Fr.bool (t := true) (by first | decide | (simp; done) | rfl) hF
         refine l_nil ?_
         replace hF := (hF.k 0 rfl (hF.k 1 rfl (hF.k 2 rfl (hF.k 3 rfl (hF.k 4 rfl (hF.k 5 rfl (hF.k 6 rfl (hF.k 7 rfl (hF.k 8 rfl (hF.k 9 rfl (hF.k 10 rfl (hF.k 15 rfl (hF.k 23 rfl (hF.k 47 rfl (hF.k 48 rfl (hF.k 56 rfl (hF.k 63 rfl (hF.k 72 rfl (hF.k 81 rfl (hF.k 94 rfl (hF.k 118 rfl (hF.k 122 rfl (hF.k 128 rfl (hF.k 154 rfl hF.nil))))))))))))))))))))))))
         refine t_n ?_
         refine c_t hF rfl ?_
         refine c_sr ?_
         refine pv hF hW (y_fieldOwn hF rfl fa_46_4) (fun a hF => ?_)
         refine pv hF hW (y_loadOwn hF rfl 5 rfl rfl Try.underlying22 rfl) (fun a hF => ?_)
         refine pv hF hW (y_len hF rfl Try.underlying22) (fun a hF => ?_)
         refine pv hF hW (y_lss hF rfl rfl) (fun a hF => ?_)
         refine Fr.splitD hF ?_ ?_
         · intro h8 hF
           first
             | (exfalso; omega)
             | (refine l_nil ?_
                replace hF := (hF.k 0 rfl (hF.k 1 rfl (hF.k 2 rfl (hF.k 3 rfl (hF.k 4 rfl (hF.k 5 rfl (hF.k 6 rfl (hF.k 7 rfl (hF.k 8 rfl (hF.k 9 rfl (hF.k 10 rfl (hF.k 15 rfl (hF.k 23 rfl (hF.k 47 rfl (hF.k 48 rfl (hF.k 56 rfl (hF.k 63 rfl (hF.k 72 rfl (hF.k 81 rfl (hF.k 94 rfl (hF.k 118 rfl (hF.k 122 rfl (hF.k 128 rfl (hF.k 154 rfl (hF.k 159 rfl hF.nil)))))))))))))))))))))))))
                refine t_n ?_
                refine c_t hF rfl ?_
                refine c_r ?_
                refine pv hF hW (y_fieldOwn hF rfl fa_46_4) (fun a hF => ?_)
                refine pv hF hW (y_loadOwn hF rfl 5 rfl rfl Try.underlying22 rfl) (fun a hF => ?_)
                refine pv hF hW (y_move hF rfl) (fun a hF => ?_)
                refine pe (e_buildSlice hF hW rfl (fun w => bs_CellIO_22_1_0 _ w) rfl rfl rfl ?_)
                intro b9 a wc hF hW
                refine pe (e_append hF hW 3 rfl rfl rfl Try.underlying22 inf_3 rfl (by decide) (rowAt_blk (hW.blk 0 rfl) 1 1 rfl) (by simp [Value.oneCell']) (show _ = out.length + 1 by omega) (show _ = (out ++ [r1]).map (.int .i64) by simp) (by first | omega | (simp; omega)) (by unfold maxLen; first | omega | (simp; omega)) rfl rfl ?_)
                intro A10 c11 a wc hF hW
                refine pv hF hW (y_fieldOwn hF rfl fa_46_4) (fun a hF => ?_)
                refine pe (e_store rfl hF hW rfl rfl 6 rfl rfl rfl sz_22 ?_)
                intro wc hW
                refine l_nil ?_
                replace hF := (hF.k 0 rfl (hF.k 1 rfl (hF.k 2 rfl (hF.k 3 rfl (hF.k 4 rfl (hF.k 5 rfl (hF.k 6 rfl (hF.k 7 rfl (hF.k 8 rfl (hF.k 9 rfl (hF.k 10 rfl (hF.k 15 rfl (hF.k 23 rfl (hF.k 47 rfl (hF.k 48 rfl (hF.k 56 rfl (hF.k 63 rfl (hF.k 72 rfl (hF.k 81 rfl (hF.k 94 rfl (hF.k 118 rfl (hF.k 122 rfl (hF.k 128 rfl (hF.k 154 rfl (hF.k 159 rfl hF.nil)))))))))))))))))))))))))
                refine b_n ?_
                refine t_n ?_
                refine c_sr ?_
                refine pv hF hW (y_move hF rfl) (fun a hF => ?_)
                refine pv hF hW (y_fieldOwn hF rfl fa_46_0) (fun a hF => ?_)
                refine pe (e_store rfl hF hW rfl rfl 6 rfl rfl rfl sz_3 ?_)
                intro wc hW
                refine l_nil ?_
                replace hF := (hF.k 0 rfl (hF.k 1 rfl (hF.k 2 rfl (hF.k 3 rfl (hF.k 4 rfl (hF.k 5 rfl (hF.k 6 rfl (hF.k 7 rfl (hF.k 8 rfl (hF.k 9 rfl (hF.k 10 rfl (hF.k 15 rfl (hF.k 23 rfl (hF.k 47 rfl (hF.k 48 rfl (hF.k 56 rfl (hF.k 63 rfl (hF.k 72 rfl (hF.k 81 rfl (hF.k 94 rfl (hF.k 118 rfl (hF.k 122 rfl (hF.k 128 rfl (hF.k 154 rfl (hF.k 159 rfl hF.nil)))))))))))))))))))))))))
                refine t_n ?_
                refine c_sd mixed_ok hW (((hW.del 4 rfl).del 4 rfl)) ?_
                clear hW; intro wc hW hS
                refine dv 0 rfl hF hS (y_loadAll hF rfl 4 rfl Try.underlying46 rfl sz_46) (fun a hF => ?_)
                refine dv 1 rfl hF hS (y_loadAll hF rfl 1 rfl Try.underlying48 rfl sz_48) (fun a hF => ?_)
                refine d_1 2 (by kernel_rfl) ?_
                refine d_op rfl rfl (e_storeAll rfl hF hW rfl rfl 5 rfl rfl rfl (by kernel_rfl) sz_46 ?_)
                intro wc hW
                refine ⟨((hW.del 4 rfl).del 4 rfl), ?_⟩
                replace hS := ((hW.del 4 rfl).del 4 rfl)
                refine d_1 3 (by kernel_rfl) ?_
                refine d_op rfl rfl (e_storeAll rfl hF hW rfl rfl 4 rfl rfl rfl (by kernel_rfl) sz_48 ?_)
                intro wc hW
                refine ⟨((hW.del 4 rfl).del 4 rfl), ?_⟩
                replace hS := ((hW.del 4 rfl).del 4 rfl)
                clear hS
                refine d_nil (by kernel_rfl) ?_
                replace hF := (hF.k 0 rfl (hF.k 1 rfl (hF.k 2 rfl (hF.k 3 rfl (hF.k 4 rfl (hF.k 5 rfl (hF.k 6 rfl (hF.k 7 rfl (hF.k 8 rfl (hF.k 9 rfl (hF.k 10 rfl (hF.k 15 rfl (hF.k 23 rfl (hF.k 47 rfl (hF.k 48 rfl (hF.k 56 rfl (hF.k 63 rfl (hF.k 72 rfl (hF.k 81 rfl (hF.k 94 rfl (hF.k 118 rfl (hF.k 122 rfl (hF.k 128 rfl (hF.k 154 rfl (hF.k 159 rfl hF.nil)))))))))))))))))))))))))
                refine t_n ?_
                refine wp_ret ?_
                refine ret2 Try.results23 hF (rv_c hF rfl hW 5 rfl Try.underlying46 rfl sz_46) (rv_c hF rfl hW 4 rfl Try.underlying48 rfl sz_48) ?_
                first | rw [if_pos (show out.length < 16 by omega)] | rw [if_neg (show ¬ out.length < 16 by omega)]
                first | exact ⟨_, rfl, ⟨rfl, rfl⟩, hW.row_own 3 rfl, hW.below⟩ | exact ⟨_, rfl, ⟨rfl, rfl⟩, (by have := hW.row_own 3 rfl; rw [OwnAs, List.length_append]; exact this), hW.below⟩)
         · intro h8 hF
           first
             | (exfalso; omega)
             | (refine l_nil ?_
                replace hF := (hF.k 0 rfl (hF.k 1 rfl (hF.k 2 rfl (hF.k 3 rfl (hF.k 4 rfl (hF.k 5 rfl (hF.k 6 rfl (hF.k 7 rfl (hF.k 8 rfl (hF.k 9 rfl (hF.k 10 rfl (hF.k 15 rfl (hF.k 23 rfl (hF.k 47 rfl (hF.k 48 rfl (hF.k 56 rfl (hF.k 63 rfl (hF.k 72 rfl (hF.k 81 rfl (hF.k 94 rfl (hF.k 118 rfl (hF.k 122 rfl (hF.k 128 rfl (hF.k 154 rfl (hF.k 159 rfl hF.nil)))))))))))))))))))))))))
                refine t_n ?_
                refine c_f hF rfl ?_
                refine wp_skip ?_
                refine b_n ?_
                refine t_n ?_
                refine c_sr ?_
                refine pv hF hW (y_move hF rfl) (fun a hF => ?_)
                refine pv hF hW (y_fieldOwn hF rfl fa_46_0) (fun a hF => ?_)
                refine pe (e_store rfl hF hW rfl rfl 5 rfl rfl rfl sz_3 ?_)
                intro wc hW
                refine l_nil ?_
                replace hF := (hF.k 0 rfl (hF.k 1 rfl (hF.k 2 rfl (hF.k 3 rfl (hF.k 4 rfl (hF.k 5 rfl (hF.k 6 rfl (hF.k 7 rfl (hF.k 8 rfl (hF.k 9 rfl (hF.k 10 rfl (hF.k 15 rfl (hF.k 23 rfl (hF.k 47 rfl (hF.k 48 rfl (hF.k 56 rfl (hF.k 63 rfl (hF.k 72 rfl (hF.k 81 rfl (hF.k 94 rfl (hF.k 118 rfl (hF.k 122 rfl (hF.k 128 rfl (hF.k 154 rfl (hF.k 159 rfl hF.nil)))))))))))))))))))))))))
                refine t_n ?_
                refine c_sd mixed_ok hW (((hW.del 3 rfl).del 3 rfl)) ?_
                clear hW; intro wc hW hS
                refine dv 0 rfl hF hS (y_loadAll hF rfl 3 rfl Try.underlying46 rfl sz_46) (fun a hF => ?_)
                refine dv 1 rfl hF hS (y_loadAll hF rfl 0 rfl Try.underlying48 rfl sz_48) (fun a hF => ?_)
                refine d_1 2 (by kernel_rfl) ?_
                refine d_op rfl rfl (e_storeAll rfl hF hW rfl rfl 4 rfl rfl rfl (by kernel_rfl) sz_46 ?_)
                intro wc hW
                refine ⟨((hW.del 3 rfl).del 3 rfl), ?_⟩
                replace hS := ((hW.del 3 rfl).del 3 rfl)
                refine d_1 3 (by kernel_rfl) ?_
                refine d_op rfl rfl (e_storeAll rfl hF hW rfl rfl 3 rfl rfl rfl (by kernel_rfl) sz_48 ?_)
                intro wc hW
                refine ⟨((hW.del 3 rfl).del 3 rfl), ?_⟩
                replace hS := ((hW.del 3 rfl).del 3 rfl)
                clear hS
                refine d_nil (by kernel_rfl) ?_
                replace hF := (hF.k 0 rfl (hF.k 1 rfl (hF.k 2 rfl (hF.k 3 rfl (hF.k 4 rfl (hF.k 5 rfl (hF.k 6 rfl (hF.k 7 rfl (hF.k 8 rfl (hF.k 9 rfl (hF.k 10 rfl (hF.k 15 rfl (hF.k 23 rfl (hF.k 47 rfl (hF.k 48 rfl (hF.k 56 rfl (hF.k 63 rfl (hF.k 72 rfl (hF.k 81 rfl (hF.k 94 rfl (hF.k 118 rfl (hF.k 122 rfl (hF.k 128 rfl (hF.k 154 rfl (hF.k 159 rfl hF.nil)))))))))))))))))))))))))
                refine t_n ?_
                refine wp_ret ?_
                refine ret2 Try.results23 hF (rv_c hF rfl hW 4 rfl Try.underlying46 rfl sz_46) (rv_c hF rfl hW 3 rfl Try.underlying48 rfl sz_48) ?_
                first | rw [if_pos (show out.length < 16 by omega)] | rw [if_neg (show ¬ out.length < 16 by omega)]
                first | exact ⟨_, rfl, ⟨rfl, rfl⟩, hW.row_own 2 rfl, hW.below⟩ | exact ⟨_, rfl, ⟨rfl, rfl⟩, (by have := hW.row_own 2 rfl; rw [OwnAs, List.length_append]; exact this), hW.below⟩))
theorem stepR_out2 (at' : Nat) (r0 r1 r2 r3 m0 m1 m2 m3 m4 m5 m6 m7 rd : Int) (l : List Ins) (inp out : List Int) (Ac Ai Ao : Option Addr) (cc ci co : Nat) (w : World)
    (hC : RF w Ac l.length 4 (fun k => [.int .i64 (l.getD k ⟨0, 0, 0, 0⟩).op, .int .i64 (l.getD k ⟨0, 0, 0, 0⟩).a, .int .i64 (l.getD k ⟨0, 0, 0, 0⟩).b, .int .i64 (l.getD k ⟨0, 0, 0, 0⟩).n])) (hlt : at' < l.length) (hl : l.length ≤ 1048576)
    (hi : l.getD at' ⟨0, 0, 0, 0⟩ = ⟨11, 2, 0, 0⟩) (ho : Ints w (.slice Ao out.length co) out) (hol : out.length ≤ 1048576) :
    Calls Try.prog 23 #[.agg #[.slice Ac l.length cc, .slice Ai inp.length ci], .agg #[.int .i64 at', .int .i64 r0, .int .i64 r1, .int .i64 r2, .int .i64 r3, .int .i64 m0, .int .i64 m1, .int .i64 m2, .int .i64 m3, .int .i64 m4, .int .i64 m5, .int .i64 m6, .int .i64 m7, .int .i64 rd, .slice Ao out.length co, .int .i64 0]] w
      (CelWantBack w (⟨at' + 1, [r0, r1, r2, r3], [m0, m1, m2, m3, m4, m5, m6, m7], rd, if out.length < 16 then out ++ [r2] else out, 0⟩, Wnt.zero)) := by
  have hown := fun w1 (hb : Below w.heap.size w w1) => ownCell_abs ⟨at', [r0, r1, r2, r3], [m0, m1, m2, m3, m4, m5, m6, m7], rd, out, 0⟩ (.slice Ao out.length co) ⟨rfl, rfl⟩ w ho hol w1 hb
  refine enter Try.func23 rfl Try.ntmps23 rfl (fun a hF => ?_)
  have hW := Wd.start w NoB
  refine c_sr ?_
  refine pe (e_box hF hW rfl rfl rfl rfl ?_)
  intro b1 a wc hF hW
  refine pe (e_box hF hW rfl rfl rfl rfl ?_)
  intro b2 a wc hF hW
  refine pe (e_alloc hF hW ze_46 rfl rfl rfl ?_)
  intro b3 a wc hF hW
  refine pe (e_alloc hF hW ze_48 rfl rfl rfl ?_)
  intro b4 a wc hF hW
  refine l_nil ?_
  refine t_n ?_
  refine c_sr ?_
  refine pv hF hW (y_loadAll hF rfl 2 rfl Try.underlying46 rfl sz_46) (fun a hF => ?_)
  refine pe (e_call hF rfl rfl en_49 (by rfl) rfl rfl (hown _ hW.below) ?_)
  rintro e w1 ⟨A1, c1, rfl, hown1, hb⟩
  replace hW := hW.got_row (v := .slice A1 out.length c1) (n := out.length) (cs := out.map (.int .i64)) hb hown1
  refine ⟨_, rfl, fun a hF => ?_⟩
  replace hF := Fr.cast (v' := .agg #[.int .i64 at', .int .i64 r0, .int .i64 r1, .int .i64 r2, .int .i64 r3, .int .i64 m0, .int .i64 m1, .int .i64 m2, .int .i64 m3, .int .i64 m4, .int .i64 m5, .int .i64 m6, .int .i64 m7, .int .i64 rd, .slice A1 out.length c1, .int .i64 0]) rfl hF
  refine pe (e_storeAll rfl hF hW rfl rfl 3 rfl rfl rfl (by kernel_rfl) sz_46 ?_)
  intro wc hW
  refine l_nil ?_
  replace hF := (hF.k 0 rfl (hF.k 1 rfl (hF.k 2 rfl (hF.k 3 rfl (hF.k 4 rfl (hF.k 5 rfl hF.nil))))))
  refine t_n ?_
  refine c_s ?_
  refine c_sr ?_
  refine pv hF hW (y_fieldOwn hF rfl fa_46_5) (fun a hF => ?_)
  refine pv hF hW (y_loadOwn hF rfl 3 rfl rfl Try.underlying3 rfl) (fun a hF => ?_)
  refine pv hF hW (y_neq hF rfl rfl) (fun a hF => ?_)
  replace hF := Fr.bool (t := false) (by first | decide | (simp; done) | rfl) hF
  refine l_nil ?_
  replace hF := (hF.k 0 rfl (hF.k 1 rfl (hF.k 2 rfl (hF.k 3 rfl (hF.k 4 rfl (hF.k 5 rfl (hF.k 15 rfl hF.nil)))))))
  refine t_n ?_
  refine c_f hF rfl ?_
  refine wp_skip ?_
  refine t_n ?_
  refine c_s ?_
  refine c_sr ?_
  refine pv hF hW (y_fieldOwn hF rfl fa_46_0) (fun a hF => ?_)
  refine pv hF hW (y_loadOwn hF rfl 3 rfl rfl Try.underlying3 rfl) (fun a hF => ?_)
  refine pv hF hW (y_fieldOwn hF rfl fa_42_0) (fun a hF => ?_)
  refine pv hF hW (y_loadOwn hF rfl 4 rfl rfl Try.underlying40 rfl) (fun a hF => ?_)
  refine pv hF hW (y_len hF rfl Try.underlying40) (fun a hF => ?_)
  refine pv hF hW (y_geq hF rfl rfl) (fun a hF => ?_)
  refine Fr.splitD hF ?_ ?_
  · intro h5 hF
    first
      | (exfalso; omega)
      | (refine l_nil ?_
         replace hF := (hF.k 0 rfl (hF.k 1 rfl (hF.k 2 rfl (hF.k 3 rfl (hF.k 4 rfl (hF.k 5 rfl (hF.k 15 rfl (hF.k 23 rfl hF.nil))))))))
         refine t_n ?_
         refine c_t hF rfl ?_
         refine c_sr ?_
         refine pv hF hW (y_fieldOwn hF rfl fa_46_5) (fun a hF => ?_)
         refine pe (e_store rfl hF hW rfl rfl 3 rfl rfl rfl sz_3 ?_)
         intro wc hW
         refine l_nil ?_
         replace hF := (hF.k 0 rfl (hF.k 1 rfl (hF.k 2 rfl (hF.k 3 rfl (hF.k 4 rfl (hF.k 5 rfl (hF.k 15 rfl (hF.k 23 rfl hF.nil))))))))
         refine t_n ?_
         refine c_sr ?_
         refine pv hF hW (y_loadAll hF rfl 3 rfl Try.underlying46 rfl sz_46) (fun a hF => ?_)
         refine pv hF hW (y_build hF rfl (fun w => bu_CellIO_48_  w)) (fun a hF => ?_)
         refine pe (e_storeAll rfl hF hW rfl rfl 2 rfl rfl rfl (by kernel_rfl) sz_46 ?_)
         intro wc hW
         refine pe (e_storeAll rfl hF hW rfl rfl 1 rfl rfl rfl (by kernel_rfl) sz_48 ?_)
         intro wc hW
         refine l_nil ?_
         replace hF := (hF.k 0 rfl (hF.k 1 rfl (hF.k 2 rfl (hF.k 3 rfl (hF.k 4 rfl (hF.k 5 rfl (hF.k 15 rfl (hF.k 23 rfl hF.nil))))))))
         refine t_n ?_
         refine wp_ret ?_
         refine t_r ?_
         refine ret2 Try.results23 hF (rv_c hF rfl hW 2 rfl Try.underlying46 rfl sz_46) (rv_c hF rfl hW 1 rfl Try.underlying48 rfl sz_48) ?_
         first | rw [if_pos (show out.length < 16 by omega)] | rw [if_neg (show ¬ out.length < 16 by omega)]
         first | exact ⟨_, rfl, ⟨rfl, rfl⟩, hW.row_own 0 rfl, hW.below⟩ | exact ⟨_, rfl, ⟨rfl, rfl⟩, (by have := hW.row_own 0 rfl; rw [OwnAs, List.length_append]; exact this), hW.below⟩)
  · intro h5 hF
    first
      | (exfalso; omega)
      | (refine l_nil ?_
         replace hF := (hF.k 0 rfl (hF.k 1 rfl (hF.k 2 rfl (hF.k 3 rfl (hF.k 4 rfl (hF.k 5 rfl (hF.k 15 rfl (hF.k 23 rfl hF.nil))))))))
         refine t_n ?_
         refine c_f hF rfl ?_
         refine wp_skip ?_
         refine t_n ?_
         refine c_sr ?_
         refine pv hF hW (y_fieldOwn hF rfl fa_42_0) (fun a hF => ?_)
         refine pv hF hW (y_loadOwn hF rfl 4 rfl rfl Try.underlying40 rfl) (fun a hF => ?_)
         refine pv hF hW (y_fieldOwn hF rfl fa_46_0) (fun a hF => ?_)
         refine pv hF hW (y_loadOwn hF rfl 3 rfl rfl Try.underlying3 rfl) (fun a hF => ?_)
         refine pv hF hW (y_indexS hF rfl rfl (by first | omega | decide) Try.underlying40 sz_95 (fun w h => (hC).wd h)) (fun a hF => ?_)
         refine pv hF hW (y_loadRowW hF rfl (fun w h => (hC).wd h) (by first | omega | decide) Try.underlying95 rfl sz_95) (fun a hF => ?_)
         replace hF := Fr.cast (v' := .agg #[.int .i64 11, .int .i64 2, .int .i64 0, .int .i64 0]) (by rw [hi]) hF
         refine pe (e_alloc hF hW ze_95 rfl rfl rfl ?_)
         intro b6 a wc hF hW
         refine pe (e_storeAll rfl hF hW rfl rfl 0 rfl rfl rfl (by kernel_rfl) sz_95 ?_)
         intro wc hW
         refine l_nil ?_
         replace hF := (hF.k 0 rfl (hF.k 1 rfl (hF.k 2 rfl (hF.k 3 rfl (hF.k 4 rfl (hF.k 5 rfl (hF.k 6 rfl (hF.k 15 rfl (hF.k 23 rfl hF.nil)))))))))
         refine t_n ?_
         refine c_sr ?_
         refine pv hF hW (y_fieldOwn hF rfl fa_46_0) (fun a hF => ?_)
         refine pv hF hW (y_loadOwn hF rfl 4 rfl rfl Try.underlying3 rfl) (fun a hF => ?_)
         refine pv hF hW (y_add hF rfl rfl (IntWalk.i64_in _ (by omega))) (fun a hF => ?_)
         refine pv hF hW (y_assign hF rfl) (fun a hF => ?_)
         refine l_nil ?_
         replace hF := (hF.k 0 rfl (hF.k 1 rfl (hF.k 2 rfl (hF.k 3 rfl (hF.k 4 rfl (hF.k 5 rfl (hF.k 6 rfl (hF.k 7 rfl (hF.k 15 rfl (hF.k 23 rfl hF.nil))))))))))
         refine t_n ?_
         refine c_sd mixed_ok hW (hW) ?_
         clear hW; intro wc hW hS
         refine dv 0 rfl hF hS (y_fieldOwn hF rfl fa_95_1) (fun a hF => ?_)
         refine dv 1 rfl hF hS (y_loadOwn hF rfl 0 rfl rfl Try.underlying3 rfl) (fun a hF => ?_)
         refine dv 2 rfl hF hS (y_fieldOwn hF rfl fa_46_1) (fun a hF => ?_)
         refine dv 3 rfl hF hS (y_indexA hF rfl rfl (by first | omega | decide) Try.underlying43 sz_3) (fun a hF => ?_)
         refine dv 4 rfl hF hS (y_loadOwn hF rfl 4 rfl rfl Try.underlying3 rfl) (fun a hF => ?_)
         refine dv 5 rfl hF hS (y_fieldOwn hF rfl fa_95_2) (fun a hF => ?_)
         refine dv 6 rfl hF hS (y_loadOwn hF rfl 0 rfl rfl Try.underlying3 rfl) (fun a hF => ?_)
         refine dv 7 rfl hF hS (y_fieldOwn hF rfl fa_46_1) (fun a hF => ?_)
         refine dv 8 rfl hF hS (y_indexA hF rfl rfl (by first | omega | decide) Try.underlying43 sz_3) (fun a hF => ?_)
         refine dv 9 rfl hF hS (y_loadOwn hF rfl 4 rfl rfl Try.underlying3 rfl) (fun a hF => ?_)
         refine dv 10 rfl hF hS (y_assign hF rfl) (fun a hF => ?_)
         refine dv 11 rfl hF hS (y_assign hF rfl) (fun a hF => ?_)
         clear hS
         refine d_nil (by kernel_rfl) ?_
         replace hF := (hF.k 0 rfl (hF.k 1 rfl (hF.k 2 rfl (hF.k 3 rfl (hF.k 4 rfl (hF.k 5 rfl (hF.k 6 rfl (hF.k 7 rfl (hF.k 8 rfl (hF.k 9 rfl (hF.k 15 rfl (hF.k 23 rfl hF.nil))))))))))))
         refine t_n ?_
         refine c_sr ?_
         refine pe (e_alloc hF hW ze_48 rfl rfl rfl ?_)
         intro b7 a wc hF hW
         refine l_nil ?_
         refine t_n ?_
         refine c_s ?_
         refine c_sr ?_
         refine pv hF hW (y_fieldOwn hF rfl fa_95_0) (fun a hF => ?_)
         refine pv hF hW (y_loadOwn hF rfl 1 rfl rfl Try.underlying3 rfl) (fun a hF => ?_)
         refine l_nil ?_
         replace hF := (hF.k 0 rfl (hF.k 1 rfl (hF.k 2 rfl (hF.k 3 rfl (hF.k 4 rfl (hF.k 5 rfl (hF.k 6 rfl (hF.k 7 rfl (hF.k 8 rfl (hF.k 9 rfl (hF.k 10 rfl (hF.k 15 rfl (hF.k 23 rfl (hF.k 47 rfl hF.nil))))))))))))))
         refine t_n ?_
         refine wp_block ?_
         refine c_sr ?_
         refine pv hF hW (y_eql hF rfl rfl) (fun a hF => ?_)
         replace hF := Fr.bool (t := false) (by first | decide | (simp; done) | rfl) hF
         refine pv hF hW (y_assign hF rfl) (fun a hF => ?_)
         replace hF := Fr.bool (t := false) (by first | decide | (simp; done) | rfl) hF
         refine l_nil ?_
         replace hF := (hF.k 0 rfl (hF.k 1 rfl (hF.k 2 rfl (hF.k 3 rfl (hF.k 4 rfl (hF.k 5 rfl (hF.k 6 rfl (hF.k 7 rfl (hF.k 8 rfl (hF.k 9 rfl (hF.k 10 rfl (hF.k 15 rfl (hF.k 23 rfl (hF.k 47 rfl (hF.k 48 rfl hF.nil)))))))))))))))
         refine t_n ?_
         refine c_f hF rfl ?_
         refine c_sr ?_
         refine pv hF hW (y_eql hF rfl rfl) (fun a hF => ?_)
         replace hF := Fr.bool (t := false) (by first | decide | (simp; done) | rfl) hF
         refine pv hF hW (y_assign hF rfl) (fun a hF => ?_)
         replace hF := Fr.bool (t := false) (by first | decide | (simp; done) | rfl) hF
         refine l_nil ?_
         replace hF := (hF.k 0 rfl (hF.k 1 rfl (hF.k 2 rfl (hF.k 3 rfl (hF.k 4 rfl (hF.k 5 rfl (hF.k 6 rfl (hF.k 7 rfl (hF.k 8 rfl (hF.k 9 rfl (hF.k 10 rfl (hF.k 15 rfl (hF.k 23 rfl (hF.k 47 rfl (hF.k 48 rfl (hF.k 56 rfl hF.nil))))))))))))))))
         refine t_n ?_
         refine c_f hF rfl ?_
         refine c_sr ?_
         refine pv hF hW (y_eql hF rfl rfl) (fun a hF => ?_)
         replace hF := Fr.bool (t := false) (by first | decide | (simp; done) | rfl) hF
         refine pv hF hW (y_assign hF rfl) (fun a hF => ?_)
         replace hF := Fr.bool (t := false) (by first | decide | (simp; done) | rfl) hF
         refine l_nil ?_
         replace hF := (hF.k 0 rfl (hF.k 1 rfl (hF.k 2 rfl (hF.k 3 rfl (hF.k 4 rfl (hF.k 5 rfl (hF.k 6 rfl (hF.k 7 rfl (hF.k 8 rfl (hF.k 9 rfl (hF.k 10 rfl (hF.k 15 rfl (hF.k 23 rfl (hF.k 47 rfl (hF.k 48 rfl (hF.k 56 rfl (hF.k 63 rfl hF.nil)))))))))))))))))
         refine t_n ?_
         refine c_f hF rfl ?_
         refine c_sr ?_
         refine pv hF hW (y_eql hF rfl rfl) (fun a hF => ?_)
         replace hF := Fr.bool (t := false) (by first | decide | (simp; done) | rfl) hF
         refine pv hF hW (y_assign hF rfl) (fun a hF => ?_)
         replace hF := Fr.bool (t := false) (by first | decide | (simp; done) | rfl) hF
         refine l_nil ?_
         replace hF := (hF.k 0 rfl (hF.k 1 rfl (hF.k 2 rfl (hF.k 3 rfl (hF.k 4 rfl (hF.k 5 rfl (hF.k 6 rfl (hF.k 7 rfl (hF.k 8 rfl (hF.k 9 rfl (hF.k 10 rfl (hF.k 15 rfl (hF.k 23 rfl (hF.k 47 rfl (hF.k 48 rfl (hF.k 56 rfl (hF.k 63 rfl (hF.k 72 rfl hF.nil))))))))))))))))))
         refine t_n ?_
         refine c_f hF rfl ?_
         refine c_sr ?_
         refine pv hF hW (y_eql hF rfl rfl) (fun a hF => ?_)
         replace hF := Fr.bool (t := false) (by first | decide | (simp; done) | rfl) hF
         refine pv hF hW (y_assign hF rfl) (fun a hF => ?_)
         replace hF := Fr.bool (t := false) (by first | decide | (simp; done) | rfl) hF
         refine l_nil ?_
         replace hF := (hF.k 0 rfl (hF.k 1 rfl (hF.k 2 rfl (hF.k 3 rfl (hF.k 4 rfl (hF.k 5 rfl (hF.k 6 rfl (hF.k 7 rfl (hF.k 8 rfl (hF.k 9 rfl (hF.k 10 rfl (hF.k 15 rfl (hF.k 23 rfl (hF.k 47 rfl (hF.k 48 rfl (hF.k 56 rfl (hF.k 63 rfl (hF.k 72 rfl (hF.k 81 rfl hF.nil)))))))))))))))))))
         refine t_n ?_
         refine c_f hF rfl ?_
         refine c_s ?_
         refine c_sr ?_
         refine pv hF hW (y_eql hF rfl rfl) (fun a hF => ?_)
         replace hF := Fr.bool (t := false) (by first | decide | (simp; done) | rfl) hF
         refine pv hF hW (y_assign hF rfl) (fun a hF => ?_)
         replace hF := Fr.bool (t := false) (by first | decide | (simp; done) | rfl) hF
         refine l_nil ?_
         replace hF := (hF.k 0 rfl (hF.k 1 rfl (hF.k 2 rfl (hF.k 3 rfl (hF.k 4 rfl (hF.k 5 rfl (hF.k 6 rfl (hF.k 7 rfl (hF.k 8 rfl (hF.k 9 rfl (hF.k 10 rfl (hF.k 15 rfl (hF.k 23 rfl (hF.k 47 rfl (hF.k 48 rfl (hF.k 56 rfl (hF.k 63 rfl (hF.k 72 rfl (hF.k 81 rfl (hF.k 94 rfl hF.nil))))))))))))))))))))
         refine t_n ?_
         refine c_f hF rfl ?_
         refine c_r ?_
         refine pv hF hW (y_eql hF rfl rfl) (fun a hF => ?_)
         replace hF := Fr.bool (t := false) (by first | decide | (simp; done) | rfl) hF
         replace hF := hF.drop 94
         refine pv hF hW (y_assign hF rfl) (fun a hF => ?_)
         replace hF := Fr.bool (t := false) (by first | decide | (simp; done) | rfl) hF
         refine l_nil ?_
         replace hF := (hF.k 0 rfl (hF.k 1 rfl (hF.k 2 rfl (hF.k 3 rfl (hF.k 4 rfl (hF.k 5 rfl (hF.k 6 rfl (hF.k 7 rfl (hF.k 8 rfl (hF.k 9 rfl (hF.k 10 rfl (hF.k 15 rfl (hF.k 23 rfl (hF.k 47 rfl (hF.k 48 rfl (hF.k 56 rfl (hF.k 63 rfl (hF.k 72 rfl (hF.k 81 rfl (hF.k 94 rfl hF.nil))))))))))))))))))))
         refine t_n ?_
         refine c_f hF rfl ?_
         refine c_sr ?_
         refine pv hF hW (y_eql hF rfl rfl) (fun a hF => ?_)
         replace hF := Fr.bool (t := false) (by first | decide | (simp; done) | rfl) hF
         refine pv hF hW (y_assign hF rfl) (fun a hF => ?_)
         replace hF := Fr.bool (t := false) (by first | decide | (simp; done) | rfl) hF
         refine l_nil ?_
         replace hF := (hF.k 0 rfl (hF.k 1 rfl (hF.k 2 rfl (hF.k 3 rfl (hF.k 4 rfl (hF.k 5 rfl (hF.k 6 rfl (hF.k 7 rfl (hF.k 8 rfl (hF.k 9 rfl (hF.k 10 rfl (hF.k 15 rfl (hF.k 23 rfl (hF.k 47 rfl (hF.k 48 rfl (hF.k 56 rfl (hF.k 63 rfl (hF.k 72 rfl (hF.k 81 rfl (hF.k 94 rfl (hF.k 118 rfl hF.nil)))))))))))))))))))))
         refine t_n ?_
         refine c_f hF rfl ?_
         refine c_sr ?_
         refine pv hF hW (y_eql hF rfl rfl) (fun a hF => ?_)
         replace hF := Fr.bool (t := false) (by first | decide | (simp; done) | rfl) hF
         refine pv hF hW (y_assign hF rfl) (fun a hF => ?_)
         replace hF := Fr.bool (t := false) (by first | decide | (simp; done) | rfl) hF
         refine l_nil ?_
         replace hF := (hF.k 0 rfl (hF.k 1 rfl (hF.k 2 rfl (hF.k 3 rfl (hF.k 4 rfl (hF.k 5 rfl (hF.k 6 rfl (hF.k 7 rfl (hF.k 8 rfl (hF.k 9 rfl (hF.k 10 rfl (hF.k 15 rfl (hF.k 23 rfl (hF.k 47 rfl (hF.k 48 rfl (hF.k 56 rfl (hF.k 63 rfl (hF.k 72 rfl (hF.k 81 rfl (hF.k 94 rfl (hF.k 118 rfl (hF.k 122 rfl hF.nil))))))))))))))))))))))
         refine t_n ?_
         refine c_f hF rfl ?_
         refine c_sr ?_
         refine pv hF hW (y_eql hF rfl rfl) (fun a hF => ?_)
         replace hF := Fr.bool (t := false) (by first | decide | (simp; done) | rfl) hF
         refine pv hF hW (y_assign hF rfl) (fun a hF => ?_)
         replace hF := Fr.bool (t := false) (by first | decide | (simp; done) | rfl) hF
         refine l_nil ?_
         replace hF := (hF.k 0 rfl (hF.k 1 rfl (hF.k 2 rfl (hF.k 3 rfl (hF.k 4 rfl (hF.k 5 rfl (hF.k 6 rfl (hF.k 7 rfl (hF.k 8 rfl (hF.k 9 rfl (hF.k 10 rfl (hF.k 15 rfl (hF.k 23 rfl (hF.k 47 rfl (hF.k 48 rfl (hF.k 56 rfl (hF.k 63 rfl (hF.k 72 rfl (hF.k 81 rfl (hF.k 94 rfl (hF.k 118 rfl (hF.k 122 rfl (hF.k 128 rfl hF.nil)))))))))))))))))))))))
         refine t_n ?_
         refine c_f hF rfl ?_
         refine c_sr ?_
         refine pv hF hW (y_eql hF rfl rfl) (fun a hF => ?_)
         replace hF := Fr.bool (t := true) (by first | decide | (simp; done) | rfl) hF
         refine pv hF hW (y_assign hF rfl) (fun a hF => ?_)
         replace hF := Fr.bool (t := true) (by first | decide | (simp; done) | rfl) hF
         refine l_nil ?_
         replace hF := (hF.k 0 rfl (hF.k 1 rfl (hF.k 2 rfl (hF.k 3 rfl (hF.k 4 rfl (hF.k 5 rfl (hF.k 6 rfl (hF.k 7 rfl (hF.k 8 rfl (hF.k 9 rfl (hF.k 10 rfl (hF.k 15 rfl (hF.k 23 rfl (hF.k 47 rfl (hF.k 48 rfl (hF.k 56 rfl (hF.k 63 rfl (hF.k 72 rfl (hF.k 81 rfl (hF.k 94 rfl (hF.k 118 rfl (hF.k 122 rfl (hF.k 128 rfl (hF.k 154 rfl hF.nil))))))))))))))))))))))))
         refine t_n ?_
         refine c_t hF rfl ?_
         refine c_sr ?_
         refine pv hF hW (y_fieldOwn hF rfl fa_46_4) (fun a hF => ?_)
         refine pv hF hW (y_loadOwn hF rfl 5 rfl rfl Try.underlying22 rfl) (fun a hF => ?_)
         refine pv hF hW (y_len hF rfl Try.underlying22) (fun a hF => ?_)
         refine pv hF hW (y_lss hF rfl rfl) (fun a hF => ?_)
         refine Fr.splitD hF ?_ ?_
         · intro h8 hF
           first
             | (exfalso; omega)
             | (refine l_nil ?_
                replace hF := (hF.k 0 rfl (hF.k 1 rfl (hF.k 2 rfl (hF.k 3 rfl (hF.k 4 rfl (hF.k 5 rfl (hF.k 6 rfl (hF.k 7 rfl (hF.k 8 rfl (hF.k 9 rfl (hF.k 10 rfl (hF.k 15 rfl (hF.k 23 rfl (hF.k 47 rfl (hF.k 48 rfl (hF.k 56 rfl (hF.k 63 rfl (hF.k 72 rfl (hF.k 81 rfl (hF.k 94 rfl (hF.k 118 rfl (hF.k 122 rfl (hF.k 128 rfl (hF.k 154 rfl (hF.k 159 rfl hF.nil)))))))))))))))))))))))))
                refine t_n ?_
                refine c_t hF rfl ?_
                refine c_r ?_
                refine pv hF hW (y_fieldOwn hF rfl fa_46_4) (fun a hF => ?_)
                refine pv hF hW (y_loadOwn hF rfl 5 rfl rfl Try.underlying22 rfl) (fun a hF => ?_)
                refine pv hF hW (y_move hF rfl) (fun a hF => ?_)
                refine pe (e_buildSlice hF hW rfl (fun w => bs_CellIO_22_1_0 _ w) rfl rfl rfl ?_)
                intro b9 a wc hF hW
                refine pe (e_append hF hW 3 rfl rfl rfl Try.underlying22 inf_3 rfl (by decide) (rowAt_blk (hW.blk 0 rfl) 1 1 rfl) (by simp [Value.oneCell']) (show _ = out.length + 1 by omega) (show _ = (out ++ [r2]).map (.int .i64) by simp) (by first | omega | (simp; omega)) (by unfold maxLen; first | omega | (simp; omega)) rfl rfl ?_)
                intro A10 c11 a wc hF hW
                refine pv hF hW (y_fieldOwn hF rfl fa_46_4) (fun a hF => ?_)
                refine pe (e_store rfl hF hW rfl rfl 6 rfl rfl rfl sz_22 ?_)
                intro wc hW
                refine l_nil ?_
                replace hF := (hF.k 0 rfl (hF.k 1 rfl (hF.k 2 rfl (hF.k 3 rfl (hF.k 4 rfl (hF.k 5 rfl (hF.k 6 rfl (hF.k 7 rfl (hF.k 8 rfl (hF.k 9 rfl (hF.k 10 rfl (hF.k 15 rfl (hF.k 23 rfl (hF.k 47 rfl (hF.k 48 rfl (hF.k 56 rfl (hF.k 63 rfl (hF.k 72 rfl (hF.k 81 rfl (hF.k 94 rfl (hF.k 118 rfl (hF.k 122 rfl (hF.k 128 rfl (hF.k 154 rfl (hF.k 159 rfl hF.nil)))))))))))))))))))))))))
                refine b_n ?_
                refine t_n ?_
                refine c_sr ?_
                refine pv hF hW (y_move hF rfl) (fun a hF => ?_)
                refine pv hF hW (y_fieldOwn hF rfl fa_46_0) (fun a hF => ?_)
                refine pe (e_store rfl hF hW rfl rfl 6 rfl rfl rfl sz_3 ?_)
                intro wc hW
                refine l_nil ?_
                replace hF := (hF.k 0 rfl (hF.k 1 rfl (hF.k 2 rfl (hF.k 3 rfl (hF.k 4 rfl (hF.k 5 rfl (hF.k 6 rfl (hF.k 7 rfl (hF.k 8 rfl (hF.k 9 rfl (hF.k 10 rfl (hF.k 15 rfl (hF.k 23 rfl (hF.k 47 rfl (hF.k 48 rfl (hF.k 56 rfl (hF.k 63 rfl (hF.k 72 rfl (hF.k 81 rfl (hF.k 94 rfl (hF.k 118 rfl (hF.k 122 rfl (hF.k 128 rfl (hF.k 154 rfl (hF.k 159 rfl hF.nil)))))))))))))))))))))))))
                refine t_n ?_
                refine c_sd mixed_ok hW (((hW.del 4 rfl).del 4 rfl)) ?_
                clear hW; intro wc hW hS
                refine dv 0 rfl hF hS (y_loadAll hF rfl 4 rfl Try.underlying46 rfl sz_46) (fun a hF => ?_)
                refine dv 1 rfl hF hS (y_loadAll hF rfl 1 rfl Try.underlying48 rfl sz_48) (fun a hF => ?_)
                refine d_1 2 (by kernel_rfl) ?_
                refine d_op rfl rfl (e_storeAll rfl hF hW rfl rfl 5 rfl rfl rfl (by kernel_rfl) sz_46 ?_)
                intro wc hW
                refine ⟨((hW.del 4 rfl).del 4 rfl), ?_⟩
                replace hS := ((hW.del 4 rfl).del 4 rfl)
                refine d_1 3 (by kernel_rfl) ?_
                refine d_op rfl rfl (e_storeAll rfl hF hW rfl rfl 4 rfl rfl rfl (by kernel_rfl) sz_48 ?_)
                intro wc hW
                refine ⟨((hW.del 4 rfl).del 4 rfl), ?_⟩
                replace hS := ((hW.del 4 rfl).del 4 rfl)
                clear hS
                refine d_nil (by kernel_rfl) ?_
                replace hF := (hF.k 0 rfl (hF.k 1 rfl (hF.k 2 rfl (hF.k 3 rfl (hF.k 4 rfl (hF.k 5 rfl (hF.k 6 rfl (hF.k 7 rfl (hF.k 8 rfl (hF.k 9 rfl (hF.k 10 rfl (hF.k 15 rfl (hF.k 23 rfl (hF.k 47 rfl (hF.k 48 rfl (hF.k 56 rfl (hF.k 63 rfl (hF.k 72 rfl (hF.k 81 rfl (hF.k 94 rfl (hF.k 118 rfl (hF.k 122 rfl (hF.k 128 rfl (hF.k 154 rfl (hF.k 159 rfl hF.nil)))))))))))))))))))))))))
                refine t_n ?_
                refine wp_ret ?_
                refine ret2 Try.results23 hF (rv_c hF rfl hW 5 rfl Try.underlying46 rfl sz_46) (rv_c hF rfl hW 4 rfl Try.underlying48 rfl sz_48) ?_
                first | rw [if_pos (show out.length < 16 by omega)] | rw [if_neg (show ¬ out.length < 16 by omega)]
                first | exact ⟨_, rfl, ⟨rfl, rfl⟩, hW.row_own 3 rfl, hW.below⟩ | exact ⟨_, rfl, ⟨rfl, rfl⟩, (by have := hW.row_own 3 rfl; rw [OwnAs, List.length_append]; exact this), hW.below⟩)
         · intro h8 hF
           first
             | (exfalso; omega)
             | (refine l_nil ?_
                replace hF := (hF.k 0 rfl (hF.k 1 rfl (hF.k 2 rfl (hF.k 3 rfl (hF.k 4 rfl (hF.k 5 rfl (hF.k 6 rfl (hF.k 7 rfl (hF.k 8 rfl (hF.k 9 rfl (hF.k 10 rfl (hF.k 15 rfl (hF.k 23 rfl (hF.k 47 rfl (hF.k 48 rfl (hF.k 56 rfl (hF.k 63 rfl (hF.k 72 rfl (hF.k 81 rfl (hF.k 94 rfl (hF.k 118 rfl (hF.k 122 rfl (hF.k 128 rfl (hF.k 154 rfl (hF.k 159 rfl hF.nil)))))))))))))))))))))))))
                refine t_n ?_
                refine c_f hF rfl ?_
                refine wp_skip ?_
                refine b_n ?_
                refine t_n ?_
                refine c_sr ?_
                refine pv hF hW (y_move hF rfl) (fun a hF => ?_)
                refine pv hF hW (y_fieldOwn hF rfl fa_46_0) (fun a hF => ?_)
                refine pe (e_store rfl hF hW rfl rfl 5 rfl rfl rfl sz_3 ?_)
                intro wc hW
                refine l_nil ?_
                replace hF := (hF.k 0 rfl (hF.k 1 rfl (hF.k 2 rfl (hF.k 3 rfl (hF.k 4 rfl (hF.k 5 rfl (hF.k 6 rfl (hF.k 7 rfl (hF.k 8 rfl (hF.k 9 rfl (hF.k 10 rfl (hF.k 15 rfl (hF.k 23 rfl (hF.k 47 rfl (hF.k 48 rfl (hF.k 56 rfl (hF.k 63 rfl (hF.k 72 rfl (hF.k 81 rfl (hF.k 94 rfl (hF.k 118 rfl (hF.k 122 rfl (hF.k 128 rfl (hF.k 154 rfl (hF.k 159 rfl hF.nil)))))))))))))))))))))))))
                refine t_n ?_
                refine c_sd mixed_ok hW (((hW.del 3 rfl).del 3 rfl)) ?_
                clear hW; intro wc hW hS
                refine dv 0 rfl hF hS (y_loadAll hF rfl 3 rfl Try.underlying46 rfl sz_46) (fun a hF => ?_)
                refine dv 1 rfl hF hS (y_loadAll hF rfl 0 rfl Try.underlying48 rfl sz_48) (fun a hF => ?_)
                refine d_1 2 (by kernel_rfl) ?_
                refine d_op rfl rfl (e_storeAll rfl hF hW rfl rfl 4 rfl rfl rfl (by kernel_rfl) sz_46 ?_)
                intro wc hW
                refine ⟨((hW.del 3 rfl).del 3 rfl), ?_⟩
                replace hS := ((hW.del 3 rfl).del 3 rfl)
                refine d_1 3 (by kernel_rfl) ?_
                refine d_op rfl rfl (e_storeAll rfl hF hW rfl rfl 3 rfl rfl rfl (by kernel_rfl) sz_48 ?_)
                intro wc hW
                refine ⟨((hW.del 3 rfl).del 3 rfl), ?_⟩
                replace hS := ((hW.del 3 rfl).del 3 rfl)
                clear hS
                refine d_nil (by kernel_rfl) ?_
                replace hF := (hF.k 0 rfl (hF.k 1 rfl (hF.k 2 rfl (hF.k 3 rfl (hF.k 4 rfl (hF.k 5 rfl (hF.k 6 rfl (hF.k 7 rfl (hF.k 8 rfl (hF.k 9 rfl (hF.k 10 rfl (hF.k 15 rfl (hF.k 23 rfl (hF.k 47 rfl (hF.k 48 rfl (hF.k 56 rfl (hF.k 63 rfl (hF.k 72 rfl (hF.k 81 rfl (hF.k 94 rfl (hF.k 118 rfl (hF.k 122 rfl (hF.k 128 rfl (hF.k 154 rfl (hF.k 159 rfl hF.nil)))))))))))))))))))))))))
                refine t_n ?_
                refine wp_ret ?_
                refine ret2 Try.results23 hF (rv_c hF rfl hW 4 rfl Try.underlying46 rfl sz_46) (rv_c hF rfl hW 3 rfl Try.underlying48 rfl sz_48) ?_
                first | rw [if_pos (show out.length < 16 by omega)] | rw [if_neg (show ¬ out.length < 16 by omega)]
                first | exact ⟨_, rfl, ⟨rfl, rfl⟩, hW.row_own 2 rfl, hW.below⟩ | exact ⟨_, rfl, ⟨rfl, rfl⟩, (by have := hW.row_own 2 rfl; rw [OwnAs, List.length_append]; exact this), hW.below⟩))
theorem stepR_out3 (at' : Nat) (r0 r1 r2 r3 m0 m1 m2 m3 m4 m5 m6 m7 rd : Int) (l : List Ins) (inp out : List Int) (Ac Ai Ao : Option Addr) (cc ci co : Nat) (w : World)
    (hC : RF w Ac l.length 4 (fun k => [.int .i64 (l.getD k ⟨0, 0, 0, 0⟩).op, .int .i64 (l.getD k ⟨0, 0, 0, 0⟩).a, .int .i64 (l.getD k ⟨0, 0, 0, 0⟩).b, .int .i64 (l.getD k ⟨0, 0, 0, 0⟩).n])) (hlt : at' < l.length) (hl : l.length ≤ 1048576)
    (hi : l.getD at' ⟨0, 0, 0, 0⟩ = ⟨11, 3, 0, 0⟩) (ho : Ints w (.slice Ao out.length co) out) (hol : out.length ≤ 1048576) :
    Calls Try.prog 23 #[.agg #[.slice Ac l.length cc, .slice Ai inp.length ci], .agg #[.int .i64 at', .int .i64 r0, .int .i64 r1, .int .i64 r2, .int .i64 r3, .int .i64 m0, .int .i64 m1, .int .i64 m2, .int .i64 m3, .int .i64 m4, .int .i64 m5, .int .i64 m6, .int .i64 m7, .int .i64 rd, .slice Ao out.length co, .int .i64 0]] w
      (CelWantBack w (⟨at' + 1, [r0, r1, r2, r3], [m0, m1, m2, m3, m4, m5, m6, m7], rd, if out.length < 16 then out ++ [r3] else out, 0⟩, Wnt.zero)) := by
  have hown := fun w1 (hb : Below w.heap.size w w1) => ownCell_abs ⟨at', [r0, r1, r2, r3], [m0, m1, m2, m3, m4, m5, m6, m7], rd, out, 0⟩ (.slice Ao out.length co) ⟨rfl, rfl⟩ w ho hol w1 hb
  refine enter Try.func23 rfl Try.ntmps23 rfl (fun a hF => ?_)
  have hW := Wd.start w NoB
  refine c_sr ?_
  refine pe (e_box hF hW rfl rfl rfl rfl ?_)
  intro b1 a wc hF hW
  refine pe (e_box hF hW rfl rfl rfl rfl ?_)
  intro b2 a wc hF hW
  refine pe (e_alloc hF hW ze_46 rfl rfl rfl ?_)
  intro b3 a wc hF hW
  refine pe (e_alloc hF hW ze_48 rfl rfl rfl ?_)
  intro b4 a wc hF hW
  refine l_nil ?_
  refine t_n ?_
  refine c_sr ?_
  refine pv hF hW (y_loadAll hF rfl 2 rfl Try.underlying46 rfl sz_46) (fun a hF => ?_)
  refine pe (e_call hF rfl rfl en_49 (by rfl) rfl rfl (hown _ hW.below) ?_)
  rintro e w1 ⟨A1, c1, rfl, hown1, hb⟩
  replace hW := hW.got_row (v := .slice A1 out.length c1) (n := out.length) (cs := out.map (.int .i64)) hb hown1
  refine ⟨_, rfl, fun a hF => ?_⟩
  replace hF := Fr.cast (v' := .agg #[.int .i64 at', .int .i64 r0, .int .i64 r1, .int .i64 r2, .int .i64 r3, .int .i64 m0, .int .i64 m1, .int .i64 m2, .int .i64 m3, .int .i64 m4, .int .i64 m5, .int .i64 m6, .int .i64 m7, .int .i64 rd, .slice A1 out.length c1, .int .i64 0]) rfl hF
  refine pe (e_storeAll rfl hF hW rfl rfl 3 rfl rfl rfl (by kernel_rfl) sz_46 ?_)
  intro wc hW
  refine l_nil ?_
  replace hF := (hF.k 0 rfl (hF.k 1 rfl (hF.k 2 rfl (hF.k 3 rfl (hF.k 4 rfl (hF.k 5 rfl hF.nil))))))
  refine t_n ?_
  refine c_s ?_
  refine c_sr ?_
  refine pv hF hW (y_fieldOwn hF rfl fa_46_5) (fun a hF => ?_)
  refine pv hF hW (y_loadOwn hF rfl 3 rfl rfl Try.underlying3 rfl) (fun a hF => ?_)
  refine pv hF hW (y_neq hF rfl rfl) (fun a hF => ?_)
  replace hF := Fr.bool (t := false) (by first | decide | (simp; done) | rfl) hF
  refine l_nil ?_
  replace hF := (hF.k 0 rfl (hF.k 1 rfl (hF.k 2 rfl (hF.k 3 rfl (hF.k 4 rfl (hF.k 5 rfl (hF.k 15 rfl hF.nil)))))))
  refine t_n ?_
  refine c_f hF rfl ?_
  refine wp_skip ?_
  refine t_n ?_
  refine c_s ?_
  refine c_sr ?_
  refine pv hF hW (y_fieldOwn hF rfl fa_46_0) (fun a hF => ?_)
  refine pv hF hW (y_loadOwn hF rfl 3 rfl rfl Try.underlying3 rfl) (fun a hF => ?_)
  refine pv hF hW (y_fieldOwn hF rfl fa_42_0) (fun a hF => ?_)
  refine pv hF hW (y_loadOwn hF rfl 4 rfl rfl Try.underlying40 rfl) (fun a hF => ?_)
  refine pv hF hW (y_len hF rfl Try.underlying40) (fun a hF => ?_)
  refine pv hF hW (y_geq hF rfl rfl) (fun a hF => ?_)
  refine Fr.splitD hF ?_ ?_
  · intro h5 hF
    first
      | (exfalso; omega)
      | (refine l_nil ?_
         replace hF := (hF.k 0 rfl (hF.k 1 rfl (hF.k 2 rfl (hF.k 3 rfl (hF.k 4 rfl (hF.k 5 rfl (hF.k 15 rfl (hF.k 23 rfl hF.nil))))))))
         refine t_n ?_
         refine c_t hF rfl ?_
         refine c_sr ?_
         refine pv hF hW (y_fieldOwn hF rfl fa_46_5) (fun a hF => ?_)
         refine pe (e_store rfl hF hW rfl rfl 3 rfl rfl rfl sz_3 ?_)
         intro wc hW
         refine l_nil ?_
         replace hF := (hF.k 0 rfl (hF.k 1 rfl (hF.k 2 rfl (hF.k 3 rfl (hF.k 4 rfl (hF.k 5 rfl (hF.k 15 rfl (hF.k 23 rfl hF.nil))))))))
         refine t_n ?_
         refine c_sr ?_
         refine pv hF hW (y_loadAll hF rfl 3 rfl Try.underlying46 rfl sz_46) (fun a hF => ?_)
         refine pv hF hW (y_build hF rfl (fun w => bu_CellIO_48_  w)) (fun a hF => ?_)
         refine pe (e_storeAll rfl hF hW rfl rfl 2 rfl rfl rfl (by kernel_rfl) sz_46 ?_)
         intro wc hW
         refine pe (e_storeAll rfl hF hW rfl rfl 1 rfl rfl rfl (by kernel_rfl) sz_48 ?_)
         intro wc hW
         refine l_nil ?_
         replace hF := (hF.k 0 rfl (hF.k 1 rfl (hF.k 2 rfl (hF.k 3 rfl (hF.k 4 rfl (hF.k 5 rfl (hF.k 15 rfl (hF.k 23 rfl hF.nil))))))))
         refine t_n ?_
         refine wp_ret ?_
         refine t_r ?_
         refine ret2 Try.results23 hF (rv_c hF rfl hW 2 rfl Try.underlying46 rfl sz_46) (rv_c hF rfl hW 1 rfl Try.underlying48 rfl sz_48) ?_
         first | rw [if_pos (show out.length < 16 by omega)] | rw [if_neg (show ¬ out.length < 16 by omega)]
         first | exact ⟨_, rfl, ⟨rfl, rfl⟩, hW.row_own 0 rfl, hW.below⟩ | exact ⟨_, rfl, ⟨rfl, rfl⟩, (by have := hW.row_own 0 rfl; rw [OwnAs, List.length_append]; exact this), hW.below⟩)
  · intro h5 hF
    first
      | (exfalso; omega)
      | (refine l_nil ?_
         replace hF := (hF.k 0 rfl (hF.k 1 rfl (hF.k 2 rfl (hF.k 3 rfl (hF.k 4 rfl (hF.k 5 rfl (hF.k 15 rfl (hF.k 23 rfl hF.nil))))))))
         refine t_n ?_
         refine c_f hF rfl ?_
         refine wp_skip ?_
         refine t_n ?_
         refine c_sr ?_
         refine pv hF hW (y_fieldOwn hF rfl fa_42_0) (fun a hF => ?_)
         refine pv hF hW (y_loadOwn hF rfl 4 rfl rfl Try.underlying40 rfl) (fun a hF => ?_)
         refine pv hF hW (y_fieldOwn hF rfl fa_46_0) (fun a hF => ?_)
         refine pv hF hW (y_loadOwn hF rfl 3 rfl rfl Try.underlying3 rfl) (fun a hF => ?_)
         refine pv hF hW (y_indexS hF rfl rfl (by first | omega | decide) Try.underlying40 sz_95 (fun w h => (hC).wd h)) (fun a hF => ?_)
         refine pv hF hW (y_loadRowW hF rfl (fun w h => (hC).wd h) (by first | omega | decide) Try.underlying95 rfl sz_95) (fun a hF => ?_)
         replace hF := Fr.cast (v' := .agg #[.int .i64 11, .int .i64 3, .int .i64 0, .int .i64 0]) (by rw [hi]) hF
         refine pe (e_alloc hF hW ze_95 rfl rfl rfl ?_)
         intro b6 a wc hF hW
         refine pe (e_storeAll rfl hF hW rfl rfl 0 rfl rfl rfl (by kernel_rfl) sz_95 ?_)
         intro wc hW
         refine l_nil ?_
         replace hF := (hF.k 0 rfl (hF.k 1 rfl (hF.k 2 rfl (hF.k 3 rfl (hF.k 4 rfl (hF.k 5 rfl (hF.k 6 rfl (hF.k 15 rfl (hF.k 23 rfl hF.nil)))))))))
         refine t_n ?_
         refine c_sr ?_
         refine pv hF hW (y_fieldOwn hF rfl fa_46_0) (fun a hF => ?_)
         refine pv hF hW (y_loadOwn hF rfl 4 rfl rfl Try.underlying3 rfl) (fun a hF => ?_)
         refine pv hF hW (y_add hF rfl rfl (IntWalk.i64_in _ (by omega))) (fun a hF => ?_)
         refine pv hF hW (y_assign hF rfl) (fun a hF => ?_)
         refine l_nil ?_
         replace hF := (hF.k 0 rfl (hF.k 1 rfl (hF.k 2 rfl (hF.k 3 rfl (hF.k 4 rfl (hF.k 5 rfl (hF.k 6 rfl (hF.k 7 rfl (hF.k 15 rfl (hF.k 23 rfl hF.nil))))))))))
         refine t_n ?_
         refine c_sd mixed_ok hW (hW) ?_
         clear hW; intro wc hW hS
         refine dv 0 rfl hF hS (y_fieldOwn hF rfl fa_95_1) (fun a hF => ?_)
         refine dv 1 rfl hF hS (y_loadOwn hF rfl 0 rfl rfl Try.underlying3 rfl) (fun a hF => ?_)
         refine dv 2 rfl hF hS (y_fieldOwn hF rfl fa_46_1) (fun a hF => ?_)
         refine dv 3 rfl hF hS (y_indexA hF rfl rfl (by first | omega | decide) Try.underlying43 sz_3) (fun a hF => ?_)
         refine dv 4 rfl hF hS (y_loadOwn hF rfl 4 rfl rfl Try.underlying3 rfl) (fun a hF => ?_)
         refine dv 5 rfl hF hS (y_fieldOwn hF rfl fa_95_2) (fun a hF => ?_)
         refine dv 6 rfl hF hS (y_loadOwn hF rfl 0 rfl rfl Try.underlying3 rfl) (fun a hF => ?_)
         refine dv 7 rfl hF hS (y_fieldOwn hF rfl fa_46_1) (fun a hF => ?_)
         refine dv 8 rfl hF hS (y_indexA hF rfl rfl (by first | omega | decide) Try.underlying43 sz_3) (fun a hF => ?_)
         refine dv 9 rfl hF hS (y_loadOwn hF rfl 4 rfl rfl Try.underlying3 rfl) (fun a hF => ?_)
         refine dv 10 rfl hF hS (y_assign hF rfl) (fun a hF => ?_)
         refine dv 11 rfl hF hS (y_assign hF rfl) (fun a hF => ?_)
         clear hS
         refine d_nil (by kernel_rfl) ?_
         replace hF := (hF.k 0 rfl (hF.k 1 rfl (hF.k 2 rfl (hF.k 3 rfl (hF.k 4 rfl (hF.k 5 rfl (hF.k 6 rfl (hF.k 7 rfl (hF.k 8 rfl (hF.k 9 rfl (hF.k 15 rfl (hF.k 23 rfl hF.nil))))))))))))
         refine t_n ?_
         refine c_sr ?_
         refine pe (e_alloc hF hW ze_48 rfl rfl rfl ?_)
         intro b7 a wc hF hW
         refine l_nil ?_
         refine t_n ?_
         refine c_s ?_
         refine c_sr ?_
         refine pv hF hW (y_fieldOwn hF rfl fa_95_0) (fun a hF => ?_)
         refine pv hF hW (y_loadOwn hF rfl 1 rfl rfl Try.underlying3 rfl) (fun a hF => ?_)
         refine l_nil ?_
         replace hF := (hF.k 0 rfl (hF.k 1 rfl (hF.k 2 rfl (hF.k 3 rfl (hF.k 4 rfl (hF.k 5 rfl (hF.k 6 rfl (hF.k 7 rfl (hF.k 8 rfl (hF.k 9 rfl (hF.k 10 rfl (hF.k 15 rfl (hF.k 23 rfl (hF.k 47 rfl hF.nil))))))))))))))
         refine t_n ?_
         refine wp_block ?_
         refine c_sr ?_
         refine pv hF hW (y_eql hF rfl rfl) (fun a hF => ?_)
         replace hF := Fr.bool (t := false) (by first | decide | (simp; done) | rfl) hF
         refine pv hF hW (y_assign hF rfl) (fun a hF => ?_)
         replace hF := Fr.bool (t := false) (by first | decide | (simp; done) | rfl) hF
         refine l_nil ?_
         replace hF := (hF.k 0 rfl (hF.k 1 rfl (hF.k 2 rfl (hF.k 3 rfl (hF.k 4 rfl (hF.k 5 rfl (hF.k 6 rfl (hF.k 7 rfl (hF.k 8 rfl (hF.k 9 rfl (hF.k 10 rfl (hF.k 15 rfl (hF.k 23 rfl (hF.k 47 rfl (hF.k 48 rfl hF.nil)))))))))))))))
         refine t_n ?_
         refine c_f hF rfl ?_
         refine c_sr ?_
         refine pv hF hW (y_eql hF rfl rfl) (fun a hF => ?_)
         replace hF := Fr.bool (t := false) (by first | decide | (simp; done) | rfl) hF
         refine pv hF hW (y_assign hF rfl) (fun a hF => ?_)
         replace hF := Fr.bool (t := false) (by first | decide | (simp; done) | rfl) hF
         refine l_nil ?_
         replace hF := (hF.k 0 rfl (hF.k 1 rfl (hF.k 2 rfl (hF.k 3 rfl (hF.k 4 rfl (hF.k 5 rfl (hF.k 6 rfl (hF.k 7 rfl (hF.k 8 rfl (hF.k 9 rfl (hF.k 10 rfl (hF.k 15 rfl (hF.k 23 rfl (hF.k 47 rfl (hF.k 48 rfl (hF.k 56 rfl hF.nil))))))))))))))))
         refine t_n ?_
         refine c_f hF rfl ?_
         refine c_sr ?_
         refine pv hF hW (y_eql hF rfl rfl) (fun a hF => ?_)
         replace hF := Fr.bool (t := false) (by first | decide | (simp; done) | rfl) hF
         refine pv hF hW (y_assign hF rfl) (fun a hF => ?_)
         replace hF := Fr.bool (t := false) (by first | decide | (simp; done) | rfl) hF
         refine l_nil ?_
         replace hF := (hF.k 0 rfl (hF.k 1 rfl (hF.k 2 rfl (hF.k 3 rfl (hF.k 4 rfl (hF.k 5 rfl (hF.k 6 rfl (hF.k 7 rfl (hF.k 8 rfl (hF.k 9 rfl (hF.k 10 rfl (hF.k 15 rfl (hF.k 23 rfl (hF.k 47 rfl (hF.k 48 rfl (hF.k 56 rfl (hF.k 63 rfl hF.nil)))))))))))))))))
         refine t_n ?_
         refine c_f hF rfl ?_
         refine c_sr ?_
         refine pv hF hW (y_eql hF rfl rfl) (fun a hF => ?_)
         replace hF := Fr.bool (t := false) (by first | decide | (simp; done) | rfl) hF
         refine pv hF hW (y_assign hF rfl) (fun a hF => ?_)
         replace hF := Fr.bool (t := false) (by first | decide | (simp; done) | rfl) hF
         refine l_nil ?_
         replace hF := (hF.k 0 rfl (hF.k 1 rfl (hF.k 2 rfl (hF.k 3 rfl (hF.k 4 rfl (hF.k 5 rfl (hF.k 6 rfl (hF.k 7 rfl (hF.k 8 rfl (hF.k 9 rfl (hF.k 10 rfl (hF.k 15 rfl (hF.k 23 rfl (hF.k 47 rfl (hF.k 48 rfl (hF.k 56 rfl (hF.k 63 rfl (hF.k 72 rfl hF.nil))))))))))))))))))
         refine t_n ?_
         refine c_f hF rfl ?_
         refine c_sr ?_
         refine pv hF hW (y_eql hF rfl rfl) (fun a hF => ?_)
         replace hF := Fr.bool (t := false) (by first | decide | (simp; done) | rfl) hF
         refine pv hF hW (y_assign hF rfl) (fun a hF => ?_)
         replace hF := Fr.bool (t := false) (by first | decide | (simp; done) | rfl) hF
         refine l_nil ?_
         replace hF := (hF.k 0 rfl (hF.k 1 rfl (hF.k 2 rfl (hF.k 3 rfl (hF.k 4 rfl (hF.k 5 rfl (hF.k 6 rfl (hF.k 7 rfl (hF.k 8 rfl (hF.k 9 rfl (hF.k 10 rfl (hF.k 15 rfl (hF.k 23 rfl (hF.k 47 rfl (hF.k 48 rfl (hF.k 56 rfl (hF.k 63 rfl (hF.k 72 rfl (hF.k 81 rfl hF.nil)))))))))))))))))))
         refine t_n ?_
         refine c_f hF rfl ?_
         refine c_s ?_
         refine c_sr ?_
         refine pv hF hW (y_eql hF rfl rfl) (fun a hF => ?_)
         replace hF := Fr.bool (t := false) (by first | decide | (simp; done) | rfl) hF
         refine pv hF hW (y_assign hF rfl) (fun a hF => ?_)
         replace hF := Fr.bool (t := false) (by first | decide | (simp; done) | rfl) hF
         refine l_nil ?_
         replace hF := (hF.k 0 rfl (hF.k 1 rfl (hF.k 2 rfl (hF.k 3 rfl (hF.k 4 rfl (hF.k 5 rfl (hF.k 6 rfl (hF.k 7 rfl (hF.k 8 rfl (hF.k 9 rfl (hF.k 10 rfl (hF.k 15 rfl (hF.k 23 rfl (hF.k 47 rfl (hF.k 48 rfl (hF.k 56 rfl (hF.k 63 rfl (hF.k 72 rfl (hF.k 81 rfl (hF.k 94 rfl hF.nil))))))))))))))))))))
         refine t_n ?_
         refine c_f hF rfl ?_
         refine c_r ?_
         refine pv hF hW (y_eql hF rfl rfl) (fun a hF => ?_)
         replace hF := Fr.bool (t := false) (by first | decide | (simp; done) | rfl) hF
         replace hF := hF.drop 94
         refine pv hF hW (y_assign hF rfl) (fun a hF => ?_)
         replace hF := Fr.bool (t := false) (by first | decide | (simp; done) | rfl) hF
         refine l_nil ?_
         replace hF := (hF.k 0 rfl (hF.k 1 rfl (hF.k 2 rfl (hF.k 3 rfl (hF.k 4 rfl (hF.k 5 rfl (hF.k 6 rfl (hF.k 7 rfl (hF.k 8 rfl (hF.k 9 rfl (hF.k 10 rfl (hF.k 15 rfl (hF.k 23 rfl (hF.k 47 rfl (hF.k 48 rfl (hF.k 56 rfl (hF.k 63 rfl (hF.k 72 rfl (hF.k 81 rfl (hF.k 94 rfl hF.nil))))))))))))))))))))
         refine t_n ?_
         refine c_f hF rfl ?_
         refine c_sr ?_
         refine pv hF hW (y_eql hF rfl rfl) (fun a hF => ?_)
         replace hF := Fr.bool (t := false) (by first | decide | (simp; done) | rfl) hF
         refine pv hF hW (y_assign hF rfl) (fun a hF => ?_)
         replace hF := Fr.bool (t := false) (by first | decide | (simp; done) | rfl) hF
         refine l_nil ?_
         replace hF := (hF.k 0 rfl (hF.k 1 rfl (hF.k 2 rfl (hF.k 3 rfl (hF.k 4 rfl (hF.k 5 rfl (hF.k 6 rfl (hF.k 7 rfl (hF.k 8 rfl (hF.k 9 rfl (hF.k 10 rfl (hF.k 15 rfl (hF.k 23 rfl (hF.k 47 rfl (hF.k 48 rfl (hF.k 56 rfl (hF.k 63 rfl (hF.k 72 rfl (hF.k 81 rfl (hF.k 94 rfl (hF.k 118 rfl hF.nil)))))))))))))))))))))
         refine t_n ?_
         refine c_f hF rfl ?_
         refine c_sr ?_
         refine pv hF hW (y_eql hF rfl rfl) (fun a hF => ?_)
         replace hF := Fr.bool (t := false) (by first | decide | (simp; done) | rfl) hF
         refine pv hF hW (y_assign hF rfl) (fun a hF => ?_)
         replace hF := Fr.bool (t := false) (by first | decide | (simp; done) | rfl) hF
         refine l_nil ?_
         replace hF := (hF.k 0 rfl (hF.k 1 rfl (hF.k 2 rfl (hF.k 3 rfl (hF.k 4 rfl (hF.k 5 rfl (hF.k 6 rfl (hF.k 7 rfl (hF.k 8 rfl (hF.k 9 rfl (hF.k 10 rfl (hF.k 15 rfl (hF.k 23 rfl (hF.k 47 rfl (hF.k 48 rfl (hF.k 56 rfl (hF.k 63 rfl (hF.k 72 rfl (hF.k 81 rfl (hF.k 94 rfl (hF.k 118 rfl (hF.k 122 rfl hF.nil))))))))))))))))))))))
         refine t_n ?_
         refine c_f hF rfl ?_
         refine c_sr ?_
         refine pv hF hW (y_eql hF rfl rfl) (fun a hF => ?_)
         replace hF := Fr.bool (t := false) (by first | decide | (simp; done) | rfl) hF
         refine pv hF hW (y_assign hF rfl) (fun a hF => ?_)
         replace hF := Fr.bool (t := false) (by first | decide | (simp; done) | rfl) hF
         refine l_nil ?_
         replace hF := (hF.k 0 rfl (hF.k 1 rfl (hF.k 2 rfl (hF.k 3 rfl (hF.k 4 rfl (hF.k 5 rfl (hF.k 6 rfl (hF.k 7 rfl (hF.k 8 rfl (hF.k 9 rfl (hF.k 10 rfl (hF.k 15 rfl (hF.k 23 rfl (hF.k 47 rfl (hF.k 48 rfl (hF.k 56 rfl (hF.k 63 rfl (hF.k 72 rfl (hF.k 81 rfl (hF.k 94 rfl (hF.k 118 rfl (hF.k 122 rfl (hF.k 128 rfl hF.nil)))))))))))))))))))))))
         refine t_n ?_
         refine c_f hF rfl ?_
         refine c_sr ?_
         refine pv hF hW (y_eql hF rfl rfl) (fun a hF => ?_)
         replace hF := Fr.bool (t := true) (by first | decide | (simp; done) | rfl) hF
         refine pv hF hW (y_assign hF rfl) (fun a hF => ?_)
         replace hF := Fr.bool (t := true) (by first | decide | (simp; done) | rfl) hF
         refine l_nil ?_
         replace hF := (hF.k 0 rfl (hF.k 1 rfl (hF.k 2 rfl (hF.k 3 rfl (hF.k 4 rfl (hF.k 5 rfl (hF.k 6 rfl (hF.k 7 rfl (hF.k 8 rfl (hF.k 9 rfl (hF.k 10 rfl (hF.k 15 rfl (hF.k 23 rfl (hF.k 47 rfl (hF.k 48 rfl (hF.k 56 rfl (hF.k 63 rfl (hF.k 72 rfl (hF.k 81 rfl (hF.k 94 rfl (hF.k 118 rfl (hF.k 122 rfl (hF.k 128 rfl (hF.k 154 rfl hF.nil))))))))))))))))))))))))
         refine t_n ?_
         refine c_t hF rfl ?_
         refine c_sr ?_
         refine pv hF hW (y_fieldOwn hF rfl fa_46_4) (fun a hF => ?_)
         refine pv hF hW (y_loadOwn hF rfl 5 rfl rfl Try.underlying22 rfl) (fun a hF => ?_)
         refine pv hF hW (y_len hF rfl Try.underlying22) (fun a hF => ?_)
         refine pv hF hW (y_lss hF rfl rfl) (fun a hF => ?_)
         refine Fr.splitD hF ?_ ?_
         · intro h8 hF
           first
             | (exfalso; omega)
             | (refine l_nil ?_
                replace hF := (hF.k 0 rfl (hF.k 1 rfl (hF.k 2 rfl (hF.k 3 rfl (hF.k 4 rfl (hF.k 5 rfl (hF.k 6 rfl (hF.k 7 rfl (hF.k 8 rfl (hF.k 9 rfl (hF.k 10 rfl (hF.k 15 rfl (hF.k 23 rfl (hF.k 47 rfl (hF.k 48 rfl (hF.k 56 rfl (hF.k 63 rfl (hF.k 72 rfl (hF.k 81 rfl (hF.k 94 rfl (hF.k 118 rfl (hF.k 122 rfl (hF.k 128 rfl (hF.k 154 rfl (hF.k 159 rfl hF.nil)))))))))))))))))))))))))
                refine t_n ?_
                refine c_t hF rfl ?_
                refine c_r ?_
                refine pv hF hW (y_fieldOwn hF rfl fa_46_4) (fun a hF => ?_)
                refine pv hF hW (y_loadOwn hF rfl 5 rfl rfl Try.underlying22 rfl) (fun a hF => ?_)
                refine pv hF hW (y_move hF rfl) (fun a hF => ?_)
                refine pe (e_buildSlice hF hW rfl (fun w => bs_CellIO_22_1_0 _ w) rfl rfl rfl ?_)
                intro b9 a wc hF hW
                refine pe (e_append hF hW 3 rfl rfl rfl Try.underlying22 inf_3 rfl (by decide) (rowAt_blk (hW.blk 0 rfl) 1 1 rfl) (by simp [Value.oneCell']) (show _ = out.length + 1 by omega) (show _ = (out ++ [r3]).map (.int .i64) by simp) (by first | omega | (simp; omega)) (by unfold maxLen; first | omega | (simp; omega)) rfl rfl ?_)
                intro A10 c11 a wc hF hW
                refine pv hF hW (y_fieldOwn hF rfl fa_46_4) (fun a hF => ?_)
                refine pe (e_store rfl hF hW rfl rfl 6 rfl rfl rfl sz_22 ?_)
                intro wc hW
                refine l_nil ?_
                replace hF := (hF.k 0 rfl (hF.k 1 rfl (hF.k 2 rfl (hF.k 3 rfl (hF.k 4 rfl (hF.k 5 rfl (hF.k 6 rfl (hF.k 7 rfl (hF.k 8 rfl (hF.k 9 rfl (hF.k 10 rfl (hF.k 15 rfl (hF.k 23 rfl (hF.k 47 rfl (hF.k 48 rfl (hF.k 56 rfl (hF.k 63 rfl (hF.k 72 rfl (hF.k 81 rfl (hF.k 94 rfl (hF.k 118 rfl (hF.k 122 rfl (hF.k 128 rfl (hF.k 154 rfl (hF.k 159 rfl hF.nil)))))))))))))))))))))))))
                refine b_n ?_
                refine t_n ?_
                refine c_sr ?_
                refine pv hF hW (y_move hF rfl) (fun a hF => ?_)
                refine pv hF hW (y_fieldOwn hF rfl fa_46_0) (fun a hF => ?_)
                refine pe (e_store rfl hF hW rfl rfl 6 rfl rfl rfl sz_3 ?_)
                intro wc hW
                refine l_nil ?_
                replace hF := (hF.k 0 rfl (hF.k 1 rfl (hF.k 2 rfl (hF.k 3 rfl (hF.k 4 rfl (hF.k 5 rfl (hF.k 6 rfl (hF.k 7 rfl (hF.k 8 rfl (hF.k 9 rfl (hF.k 10 rfl (hF.k 15 rfl (hF.k 23 rfl (hF.k 47 rfl (hF.k 48 rfl (hF.k 56 rfl (hF.k 63 rfl (hF.k 72 rfl (hF.k 81 rfl (hF.k 94 rfl (hF.k 118 rfl (hF.k 122 rfl (hF.k 128 rfl (hF.k 154 rfl (hF.k 159 rfl hF.nil)))))))))))))))))))))))))
                refine t_n ?_
                refine c_sd mixed_ok hW (((hW.del 4 rfl).del 4 rfl)) ?_
                clear hW; intro wc hW hS
                refine dv 0 rfl hF hS (y_loadAll hF rfl 4 rfl Try.underlying46 rfl sz_46) (fun a hF => ?_)
                refine dv 1 rfl hF hS (y_loadAll hF rfl 1 rfl Try.underlying48 rfl sz_48) (fun a hF => ?_)
                refine d_1 2 (by kernel_rfl) ?_
                refine d_op rfl rfl (e_storeAll rfl hF hW rfl rfl 5 rfl rfl rfl (by kernel_rfl) sz_46 ?_)
                intro wc hW
                refine ⟨((hW.del 4 rfl).del 4 rfl), ?_⟩
                replace hS := ((hW.del 4 rfl).del 4 rfl)
                refine d_1 3 (by kernel_rfl) ?_
                refine d_op rfl rfl (e_storeAll rfl hF hW rfl rfl 4 rfl rfl rfl (by kernel_rfl) sz_48 ?_)
                intro wc hW
                refine ⟨((hW.del 4 rfl).del 4 rfl), ?_⟩
                replace hS := ((hW.del 4 rfl).del 4 rfl)
                clear hS
                refine d_nil (by kernel_rfl) ?_
                replace hF := (hF.k 0 rfl (hF.k 1 rfl (hF.k 2 rfl (hF.k 3 rfl (hF.k 4 rfl (hF.k 5 rfl (hF.k 6 rfl (hF.k 7 rfl (hF.k 8 rfl (hF.k 9 rfl (hF.k 10 rfl (hF.k 15 rfl (hF.k 23 rfl (hF.k 47 rfl (hF.k 48 rfl (hF.k 56 rfl (hF.k 63 rfl (hF.k 72 rfl (hF.k 81 rfl (hF.k 94 rfl (hF.k 118 rfl (hF.k 122 rfl (hF.k 128 rfl (hF.k 154 rfl (hF.k 159 rfl hF.nil)))))))))))))))))))))))))
                refine t_n ?_
                refine wp_ret ?_
                refine ret2 Try.results23 hF (rv_c hF rfl hW 5 rfl Try.underlying46 rfl sz_46) (rv_c hF rfl hW 4 rfl Try.underlying48 rfl sz_48) ?_
                first | rw [if_pos (show out.length < 16 by omega)] | rw [if_neg (show ¬ out.length < 16 by omega)]
                first | exact ⟨_, rfl, ⟨rfl, rfl⟩, hW.row_own 3 rfl, hW.below⟩ | exact ⟨_, rfl, ⟨rfl, rfl⟩, (by have := hW.row_own 3 rfl; rw [OwnAs, List.length_append]; exact this), hW.below⟩)
         · intro h8 hF
           first
             | (exfalso; omega)
             | (refine l_nil ?_
                replace hF := (hF.k 0 rfl (hF.k 1 rfl (hF.k 2 rfl (hF.k 3 rfl (hF.k 4 rfl (hF.k 5 rfl (hF.k 6 rfl (hF.k 7 rfl (hF.k 8 rfl (hF.k 9 rfl (hF.k 10 rfl (hF.k 15 rfl (hF.k 23 rfl (hF.k 47 rfl (hF.k 48 rfl (hF.k 56 rfl (hF.k 63 rfl (hF.k 72 rfl (hF.k 81 rfl (hF.k 94 rfl (hF.k 118 rfl (hF.k 122 rfl (hF.k 128 rfl (hF.k 154 rfl (hF.k 159 rfl hF.nil)))))))))))))))))))))))))
                refine t_n ?_
                refine c_f hF rfl ?_
                refine wp_skip ?_
                refine b_n ?_
                refine t_n ?_
                refine c_sr ?_
                refine pv hF hW (y_move hF rfl) (fun a hF => ?_)
                refine pv hF hW (y_fieldOwn hF rfl fa_46_0) (fun a hF => ?_)
                refine pe (e_store rfl hF hW rfl rfl 5 rfl rfl rfl sz_3 ?_)
                intro wc hW
                refine l_nil ?_
                replace hF := (hF.k 0 rfl (hF.k 1 rfl (hF.k 2 rfl (hF.k 3 rfl (hF.k 4 rfl (hF.k 5 rfl (hF.k 6 rfl (hF.k 7 rfl (hF.k 8 rfl (hF.k 9 rfl (hF.k 10 rfl (hF.k 15 rfl (hF.k 23 rfl (hF.k 47 rfl (hF.k 48 rfl (hF.k 56 rfl (hF.k 63 rfl (hF.k 72 rfl (hF.k 81 rfl (hF.k 94 rfl (hF.k 118 rfl (hF.k 122 rfl (hF.k 128 rfl (hF.k 154 rfl (hF.k 159 rfl hF.nil)))))))))))))))))))))))))
                refine t_n ?_
                refine c_sd mixed_ok hW (((hW.del 3 rfl).del 3 rfl)) ?_
                clear hW; intro wc hW hS
                refine dv 0 rfl hF hS (y_loadAll hF rfl 3 rfl Try.underlying46 rfl sz_46) (fun a hF => ?_)
                refine dv 1 rfl hF hS (y_loadAll hF rfl 0 rfl Try.underlying48 rfl sz_48) (fun a hF => ?_)
                refine d_1 2 (by kernel_rfl) ?_
                refine d_op rfl rfl (e_storeAll rfl hF hW rfl rfl 4 rfl rfl rfl (by kernel_rfl) sz_46 ?_)
                intro wc hW
                refine ⟨((hW.del 3 rfl).del 3 rfl), ?_⟩
                replace hS := ((hW.del 3 rfl).del 3 rfl)
                refine d_1 3 (by kernel_rfl) ?_
                refine d_op rfl rfl (e_storeAll rfl hF hW rfl rfl 3 rfl rfl rfl (by kernel_rfl) sz_48 ?_)
                intro wc hW
                refine ⟨((hW.del 3 rfl).del 3 rfl), ?_⟩
                replace hS := ((hW.del 3 rfl).del 3 rfl)
                clear hS
                refine d_nil (by kernel_rfl) ?_
                replace hF := (hF.k 0 rfl (hF.k 1 rfl (hF.k 2 rfl (hF.k 3 rfl (hF.k 4 rfl (hF.k 5 rfl (hF.k 6 rfl (hF.k 7 rfl (hF.k 8 rfl (hF.k 9 rfl (hF.k 10 rfl (hF.k 15 rfl (hF.k 23 rfl (hF.k 47 rfl (hF.k 48 rfl (hF.k 56 rfl (hF.k 63 rfl (hF.k 72 rfl (hF.k 81 rfl (hF.k 94 rfl (hF.k 118 rfl (hF.k 122 rfl (hF.k 128 rfl (hF.k 154 rfl (hF.k 159 rfl hF.nil)))))))))))))))))))))))))
                refine t_n ?_
                refine wp_ret ?_
                refine ret2 Try.results23 hF (rv_c hF rfl hW 4 rfl Try.underlying46 rfl sz_46) (rv_c hF rfl hW 3 rfl Try.underlying48 rfl sz_48) ?_
                first | rw [if_pos (show out.length < 16 by omega)] | rw [if_neg (show ¬ out.length < 16 by omega)]
                first | exact ⟨_, rfl, ⟨rfl, rfl⟩, hW.row_own 2 rfl, hW.below⟩ | exact ⟨_, rfl, ⟨rfl, rfl⟩, (by have := hW.row_own 2 rfl; rw [OwnAs, List.length_append]; exact this), hW.below⟩))
theorem chk_io {op a b n : Int} (hop : op = 10 ∨ op = 11) (h : chkI op a b n = 0) : (a = 0 ∨ a = 1 ∨ a = 2 ∨ a = 3) ∧ b = 0 ∧ n = 0 := by
  have h4 := (chk_regs h).2.1
  refine ⟨by omega, ?_⟩
  rcases hop with rfl | rfl
  all_goals
    unfold chkI at h
    simp [hasA, hasB, hasN] at h
    split at h
    · cases h
    · split at h
      · cases h
      · omega
theorem firstErr_all : ∀ (l : List Ins), firstErr l = 0 → ∀ i ∈ l, chkIns i = 0
  | [], _, _, h => by cases h
  | x :: r, h0, i, h => by
    unfold firstErr at h0
    by_cases hx : chkIns x = 0
    · rw [if_pos hx] at h0
      rcases List.mem_cons.1 h with rfl | h
      · exact hx
      · exact firstErr_all r h0 i h
    · rw [if_neg hx] at h0
      exact absurd h0 hx
theorem chkCode_all {l : List Ins} (h : chkCode l = 0) : (1 ≤ l.length ∧ l.length ≤ 20) ∧ ∀ i ∈ l, chkIns i = 0 := by
  unfold chkCode at h
  split at h
  · cases h
  · exact ⟨by omega, firstErr_all l h⟩
/-- the reference's StepOf -/
theorem stepR_any (p : Prt) (c : Cel) (cv iv ov : Value) (w : World) (hwf : c.wf) (ho : Ints w ov c.out) (hc : Code_ w cv p.code) (hi : Ints w iv p.inp) (hcode : chkCode p.code = 0) (hf : cellFine c = true) (hrd : c.read ≤ p.inp.length) :
    Calls Try.prog 23 #[.agg #[cv, iv], celV c ov] w (CelWantBack w (stepOf p c)) := by
  have hfine := hf
  unfold cellFine at hfine
  simp only [decide_eq_true_eq] at hfine
  obtain ⟨h0, h20, hr0, hr12, he0, he2, hol⟩ := hfine
  obtain ⟨hlen, hall⟩ := chkCode_all hcode
  by_cases he : c.end_ = 0
  · by_cases hp : (p.code.length : Int) ≤ c.at_
    · exact stepR_past p c cv iv ov w hwf ho (by omega) hc he h0 hp
    · obtain ⟨at', ha⟩ := Int.eq_ofNat_of_zero_le h0
      have hal : at' < p.code.length := by omega
      have hst : stepOf p c = match doOf p.code[at'] c p.inp with
          | none => ({ c with end_ := 2 }, Wnt.zero)
          | some r => r := by
        unfold stepOf
        rw [if_neg (by simp [he]), ha, Int.toNat_natCast, List.getElem?_eq_getElem hal]
        rfl
      have hck := hall _ (List.getElem_mem hal)
      have hget : p.code.getD at' ⟨0, 0, 0, 0⟩ = p.code[at'] := by simp [hal]
      by_cases hio : p.code[at'].op = 10 ∨ p.code[at'].op = 11
      · obtain ⟨ha4, hb, hn⟩ := chk_io hio hck
        obtain ⟨Ac, cc, rfl, _, _, hC⟩ := RF.of_flat Ins.cells_len ⟨0, 0, 0, 0⟩ hc
        obtain ⟨Ai, ci, rfl, _, _, hI⟩ := RF.of_ints hi
        obtain ⟨Ao, co, rfl⟩ := ho.form rfl
        rw [hst]
        clear hst
        generalize p.code[at'] = ins at *
        obtain ⟨op, a, b, n⟩ := ins
        dsimp only at hio ha4 hb hn
        subst hb hn
        obtain ⟨at_, regs, mem, rd, out, en⟩ := c
        obtain ⟨r0, r1, r2, r3, hregs⟩ := len_four hwf.1
        obtain ⟨m0, m1, m2, m3, m4, m5, m6, m7, hmem⟩ := len_eight hwf.2
        dsimp only at hregs hmem
        subst hregs hmem
        clear hwf
        dsimp only at *
        subst ha he
        rcases hio with rfl | rfl
        · have key : ∀ (x : Cel × Wnt) (y : Cel × Wnt), x = y → Calls Try.prog 23 #[.agg #[.slice Ac p.code.length cc, .slice Ai p.inp.length ci], celV ⟨at', [r0, r1, r2, r3], [m0, m1, m2, m3, m4, m5, m6, m7], rd, out, 0⟩ (.slice Ao out.length co)] w (CelWantBack w x) → Calls Try.prog 23 #[.agg #[.slice Ac p.code.length cc, .slice Ai p.inp.length ci], celV ⟨at', [r0, r1, r2, r3], [m0, m1, m2, m3, m4, m5, m6, m7], rd, out, 0⟩ (.slice Ao out.length co)] w (CelWantBack w y) := fun x y e h => e ▸ h
          rcases ha4 with rfl | rfl | rfl | rfl
          · exact key _ _ (by simp only [doOf]; by_cases hlt : rd < p.inp.length <;> simp [hlt]) (stepR_in0 at' r0 r1 r2 r3 m0 m1 m2 m3 m4 m5 m6 m7 rd p.code p.inp out Ac Ai Ao cc ci co w hC hal (by omega) hget hI ho (by omega) hr0 hrd hr12)
          · exact key _ _ (by simp only [doOf]; by_cases hlt : rd < p.inp.length <;> simp [hlt]) (stepR_in1 at' r0 r1 r2 r3 m0 m1 m2 m3 m4 m5 m6 m7 rd p.code p.inp out Ac Ai Ao cc ci co w hC hal (by omega) hget hI ho (by omega) hr0 hrd hr12)
          · exact key _ _ (by simp only [doOf]; by_cases hlt : rd < p.inp.length <;> simp [hlt]) (stepR_in2 at' r0 r1 r2 r3 m0 m1 m2 m3 m4 m5 m6 m7 rd p.code p.inp out Ac Ai Ao cc ci co w hC hal (by omega) hget hI ho (by omega) hr0 hrd hr12)
          · exact key _ _ (by simp only [doOf]; by_cases hlt : rd < p.inp.length <;> simp [hlt]) (stepR_in3 at' r0 r1 r2 r3 m0 m1 m2 m3 m4 m5 m6 m7 rd p.code p.inp out Ac Ai Ao cc ci co w hC hal (by omega) hget hI ho (by omega) hr0 hrd hr12)
        · rcases ha4 with rfl | rfl | rfl | rfl
          · exact stepR_out0 at' r0 r1 r2 r3 m0 m1 m2 m3 m4 m5 m6 m7 rd p.code p.inp out Ac Ai Ao cc ci co w hC hal (by omega) hget ho (by omega)
          · exact stepR_out1 at' r0 r1 r2 r3 m0 m1 m2 m3 m4 m5 m6 m7 rd p.code p.inp out Ac Ai Ao cc ci co w hC hal (by omega) hget ho (by omega)
          · exact stepR_out2 at' r0 r1 r2 r3 m0 m1 m2 m3 m4 m5 m6 m7 rd p.code p.inp out Ac Ai Ao cc ci co w hC hal (by omega) hget ho (by omega)
          · exact stepR_out3 at' r0 r1 r2 r3 m0 m1 m2 m3 m4 m5 m6 m7 rd p.code p.inp out Ac Ai Ao cc ci co w hC hal (by omega) hget ho (by omega)
      · refine stepR_ins p c cv iv ov w hwf ho (by omega) hc hi hall he h0 h20 (by omega) hr0 hrd hr12 fun i hi' => ?_
        rw [ha, Int.toNat_natCast, List.getElem?_eq_getElem hal] at hi'
        injection hi' with hi'
        subst hi'
        omega
  · exact stepR_ended p c cv iv ov w hwf ho (by omega) he
end Go.Proofs.Ytebklpbbglojmaa
