/- The law CellReplies answers true for every input. -/
import Derived.Test.YtebklpbbglojmaaCellOpen
namespace Go.Proofs.Ytebklpbbglojmaa
set_option linter.unusedVariables false
set_option linter.unusedSimpArgs false
open Go.ChangeShapes Go.WideShapes Go.ChangeAt Go.RowKit

set_option maxRecDepth 100000

theorem wntV_eq (a b c d e : Int) : wntV ⟨a, b, c, d, e⟩ = .agg #[.int .i64 a, .int .i64 b, .int .i64 c, .int .i64 d, .int .i64 e] := rfl
/-- a reply that gives this cell, this error -/
theorem replyTo {c d : Cel} {k : Wnt} {kind val : Int} {is : Bool} {E : Int} {ov : Value} {w : World} (ho : Ints w ov c.out) (hwf : c.wf) (h0 : replyErr c k kind = E) (hd : E = 0 → replyOf c k kind val is = d) (hz : E ≠ 0 → d = Cel.zero) :
    Calls Try.prog 28 #[celV c ov, wntV k, .int .i64 kind, .int .i64 val, .bool is] w fun e w' => ∃ A n, e = .returned (.tuple #[celV d (.slice A d.out.length n), .int .i64 E]) ∧ OwnRes w w' (fun u => Ints u (.slice A d.out.length n) d.out) ∧ Below w.heap.size w w' := by
  have := reply_all c k kind val is ov w hwf ho
  rw [h0] at this
  have key : (if E = 0 then replyOf c k kind val is else Cel.zero) = d := by
    by_cases hE : E = 0
    · rw [if_pos hE, hd hE]
    · rw [if_neg hE, hz hE]
  rw [key] at this
  refine this.mono fun e w' ⟨ov', he, _, hown, hb⟩ => ?_
  obtain ⟨A, n, rfl⟩ := hown.form rfl
  exact ⟨A, n, he, OwnRes.ints hown, hb⟩
theorem replyRTo {c d : Cel} {k : Wnt} {kind val : Int} {is : Bool} {ov : Value} {w : World} (ho : Ints w ov c.out) (hwf : c.wf) (h0 : replyErr c k kind = 0) (hd : replyOf c k kind val is = d) :
    Calls Try.prog 30 #[celV c ov, wntV k, .int .i64 kind, .int .i64 val, .bool is] w fun e w' => ∃ A n, e = .returned (celV d (.slice A d.out.length n)) ∧ OwnRes w w' (fun u => Ints u (.slice A d.out.length n) d.out) ∧ Below w.heap.size w w' := by
  have := replyOfR_any c k kind val is ov hwf w ho h0
  rw [hd] at this
  refine this.mono fun e w' ⟨ov', he, _, hown, hb⟩ => ?_
  obtain ⟨A, n, rfl⟩ := hown.form rfl
  exact ⟨A, n, he, OwnRes.ints hown, hb⟩

theorem cellReplies_run (c : Cel) (k : Wnt) (kind val : Int) (is : Bool) (ov : Value) (w : World) (hwf : c.wf) (ho : Ints w ov c.out) :
    Calls Try.prog 6 #[celV c ov, wntV k, .int .i64 kind, .int .i64 val, .bool is] w fun e w' => e = .returned (.bool true) ∧ Below w.heap.size w w' := by
  have herr := fun w1 (hb : Below w.heap.size w w1) => replyError_any c k kind ov hwf w1 (ho.below hb)
  by_cases h0 : replyErr c k kind = 0
  · obtain ⟨d, hd⟩ : ∃ d, replyOf c k kind val is = d := ⟨_, rfl⟩
    have hwd : d.wf := hd ▸ replyOf_wf hwf
    have hrep := fun w1 (hb : Below w.heap.size w w1) => replyTo (val := val) (is := is) (ho.below hb) hwf h0 (fun _ => hd) (fun h => absurd rfl h)
    have hrepR := fun w1 (hb : Below w.heap.size w w1) => replyRTo (ho.below hb) hwf h0 hd
    rw [h0] at herr
    clear h0 hd
    obtain ⟨dat, dregs, dmem, drd, dout, den⟩ := d
    obtain ⟨d0, d1, d2, d3, hd1⟩ := len_four hwd.1
    obtain ⟨e0, e1, e2, e3, e4, e5, e6, e7, hd2⟩ := len_eight hwd.2
    obtain ⟨kk, kc, kr, kf, kv⟩ := k
    obtain ⟨at_, regs, mem, rd, out, en⟩ := c
    obtain ⟨r0, r1, r2, r3, hregs⟩ := len_four hwf.1
    obtain ⟨m0, m1, m2, m3, m4, m5, m6, m7, hmem⟩ := len_eight hwf.2
    dsimp only at hregs hmem
    subst hregs hmem
    clear hwf
    dsimp only at *
    subst hd1 hd2
    rw [celV_eq] at *
    rw [wntV_eq] at *
    refine enter Try.func6 rfl Try.ntmps6 rfl (fun a hF => ?_)
    have hW := Wd.start w NoB
    refine c_sr ?_
    refine pe (e_box hF hW rfl rfl rfl rfl ?_)
    intro b1 a wc hF hW
    refine pe (e_box hF hW rfl rfl rfl rfl ?_)
    intro b2 a wc hF hW
    refine pv hF hW (y_assign hF rfl) (fun a hF => ?_)
    refine l_nil ?_
    refine t_n ?_
    refine c_sr ?_
    refine pv hF hW (y_loadAll hF rfl 1 rfl Try.underlying46 rfl sz_46) (fun a hF => ?_)
    refine pv hF hW (y_loadAll hF rfl 0 rfl Try.underlying48 rfl sz_48) (fun a hF => ?_)
    refine pv hF hW (y_move hF rfl) (fun a hF => ?_)
    refine pv hF hW (y_move hF rfl) (fun a hF => ?_)
    refine pv hF hW (y_move hF rfl) (fun a hF => ?_)
    refine pe (e_call hF rfl rfl en_28 (by rfl) rfl rfl (hrep _ hW.below) ?_)
    rintro e w1 ⟨A1, n1, rfl, hr, hb⟩
    replace hW := hW.gotR hb hr
    refine ⟨_, rfl, fun a hF => ?_⟩
    replace hF := Fr.cast (v' := .tuple #[.agg #[.int .i64 dat, .int .i64 d0, .int .i64 d1, .int .i64 d2, .int .i64 d3, .int .i64 e0, .int .i64 e1, .int .i64 e2, .int .i64 e3, .int .i64 e4, .int .i64 e5, .int .i64 e6, .int .i64 e7, .int .i64 drd, .slice A1 dout.length n1, .int .i64 den], .int .i64 0]) rfl hF
    refine pv hF hW (y_move hF rfl) (fun a hF => ?_)
    refine pv hF hW (y_extract hF rfl rfl) (fun a hF => ?_)
    refine pv hF hW (y_extract hF rfl rfl) (fun a hF => ?_)
    refine pe (e_alloc hF hW ze_46 rfl rfl rfl ?_)
    intro b3 a wc hF hW
    refine pe (e_storeAll rfl hF hW rfl rfl 0 rfl rfl rfl (by kernel_rfl) sz_46 ?_)
    intro wc hW
    refine pv hF hW (y_assign hF rfl) (fun a hF => ?_)
    refine l_nil ?_
    replace hF := (hF.k 0 rfl (hF.k 1 rfl (hF.k 2 rfl (hF.k 3 rfl (hF.k 4 rfl (hF.k 5 rfl (hF.k 6 rfl (hF.k 10 rfl (hF.k 11 rfl (hF.k 12 rfl hF.nil))))))))))
    refine t_n ?_
    refine c_sr ?_
    refine pv hF hW (y_loadAll hF rfl 3 rfl Try.underlying46 rfl sz_46) (fun a hF => ?_)
    refine pv hF hW (y_loadAll hF rfl 2 rfl Try.underlying48 rfl sz_48) (fun a hF => ?_)
    refine pv hF hW (y_move hF rfl) (fun a hF => ?_)
    refine pe (e_call hF rfl rfl en_29 (by rfl) rfl rfl (herr _ hW.below) ?_)
    rintro e w1 ⟨rfl, hb⟩
    replace hW := hW.kept hb
    clear hb
    refine ⟨_, rfl, fun a hF => ?_⟩
    refine pv hF hW (y_assign hF rfl) (fun a hF => ?_)
    refine l_nil ?_
    replace hF := (hF.k 0 rfl (hF.k 1 rfl (hF.k 2 rfl (hF.k 3 rfl (hF.k 4 rfl (hF.k 5 rfl (hF.k 6 rfl (hF.k 10 rfl (hF.k 11 rfl (hF.k 12 rfl (hF.k 13 rfl hF.nil)))))))))))
    refine t_n ?_
    refine c_sr ?_
    refine pe (e_alloc hF hW ze_46 rfl rfl rfl ?_)
    intro b4 a wc hF hW
    refine l_nil ?_
    refine t_n ?_
    refine c_s ?_
    refine c_sr ?_
    refine pv hF hW (y_move hF rfl) (fun a hF => ?_)
    refine pv hF hW (y_eql hF rfl rfl) (fun a hF => ?_)
    replace hF := Fr.bool (t := true) (by first | decide | (simp; done) | rfl) hF
    refine l_nil ?_
    replace hF := (hF.k 0 rfl (hF.k 1 rfl (hF.k 2 rfl (hF.k 3 rfl (hF.k 4 rfl (hF.k 5 rfl (hF.k 6 rfl (hF.k 10 rfl (hF.k 11 rfl (hF.k 12 rfl (hF.k 13 rfl (hF.k 14 rfl (hF.k 29 rfl hF.nil)))))))))))))
    refine t_n ?_
    refine c_t hF rfl ?_
    refine c_r ?_
    refine pv hF hW (y_loadAll hF rfl 4 rfl Try.underlying46 rfl sz_46) (fun a hF => ?_)
    refine pv hF hW (y_loadAll hF rfl 3 rfl Try.underlying48 rfl sz_48) (fun a hF => ?_)
    refine pv hF hW (y_move hF rfl) (fun a hF => ?_)
    refine pv hF hW (y_move hF rfl) (fun a hF => ?_)
    refine pv hF hW (y_move hF rfl) (fun a hF => ?_)
    refine pe (e_call hF rfl rfl en_30 (by rfl) rfl rfl (hrepR _ hW.below) ?_)
    rintro e w1 ⟨A2, n2, rfl, hr, hb⟩
    replace hW := hW.gotR hb hr
    refine ⟨_, rfl, fun a hF => ?_⟩
    replace hF := Fr.cast (v' := .agg #[.int .i64 dat, .int .i64 d0, .int .i64 d1, .int .i64 d2, .int .i64 d3, .int .i64 e0, .int .i64 e1, .int .i64 e2, .int .i64 e3, .int .i64 e4, .int .i64 e5, .int .i64 e6, .int .i64 e7, .int .i64 drd, .slice A2 dout.length n2, .int .i64 den]) rfl hF
    refine pe (e_storeAll rfl hF hW rfl rfl 1 rfl rfl rfl (by kernel_rfl) sz_46 ?_)
    intro wc hW
    refine l_nil ?_
    replace hF := (hF.k 0 rfl (hF.k 1 rfl (hF.k 2 rfl (hF.k 3 rfl (hF.k 4 rfl (hF.k 5 rfl (hF.k 6 rfl (hF.k 10 rfl (hF.k 11 rfl (hF.k 12 rfl (hF.k 13 rfl (hF.k 14 rfl (hF.k 29 rfl hF.nil)))))))))))))
    refine t_n ?_
    refine c_sr ?_
    refine pe (e_call hF rfl rfl en_24 (by rfl) rfl rfl (cellBegun_any _) ?_)
    rintro e w1 ⟨rfl, hb⟩
    replace hW := hW.kept hb
    clear hb
    refine ⟨_, rfl, fun a hF => ?_⟩
    refine pv hF hW (y_move hF rfl) (fun a hF => ?_)
    refine pv hF hW (y_move hF rfl) (fun a hF => ?_) (ws hF rfl rfl)
    refine pv hF hW (y_move hF rfl) (fun a hF => ?_) (ws hF rfl rfl)
    refine pv hF hW (y_eql hF rfl rfl) (fun a hF => ?_) (ws hF rfl rfl)
    replace hF := Fr.bool (t := true) (by first | decide | (simp; done) | rfl) hF
    refine pv hF hW (y_pick hF rfl rfl) (fun a hF => ?_)
    replace hF := Fr.bool (t := true) (by first | decide | (simp; done) | rfl) hF
    refine pv hF hW (y_move hF rfl) (fun a hF => ?_)
    replace hF := Fr.bool (t := true) (by first | decide | (simp; done) | rfl) hF
    refine pv hF hW (y_loadAll hF rfl 2 rfl Try.underlying46 rfl sz_46) (fun a hF => ?_) (ws hF rfl rfl)
    refine pv hF hW (y_loadAll hF rfl 1 rfl Try.underlying46 rfl sz_46) (fun a hF => ?_) (ws hF rfl rfl)
    refine pe (e_call hF rfl rfl en_27 (by rfl) rfl rfl (sameCells_self ⟨dat, [d0, d1, d2, d3], [e0, e1, e2, e3, e4, e5, e6, e7], drd, dout, den⟩ _ _ hwd _ (hW.res 3 rfl) (hW.res 0 rfl)) ?_) (ws hF rfl rfl)
    rintro e w1 ⟨rfl, hb⟩
    replace hW := hW.kept hb
    clear hb
    refine ⟨_, rfl, fun a hF => ?_⟩
    refine pv hF hW (y_pick hF rfl rfl) (fun a hF => ?_)
    replace hF := hF.drop 10
    refine pv hF hW (y_assign hF rfl) (fun a hF => ?_)
    refine l_nil ?_
    replace hF := (hF.k 0 rfl (hF.k 1 rfl (hF.k 2 rfl (hF.k 3 rfl (hF.k 4 rfl (hF.k 5 rfl (hF.k 6 rfl (hF.k 10 rfl (hF.k 11 rfl (hF.k 12 rfl (hF.k 13 rfl (hF.k 14 rfl (hF.k 29 rfl hF.nil)))))))))))))
    refine t_n ?_
    refine wp_ret ?_
    refine ret1 Try.results6 hF (rv_t hF rfl) ?_
    exact ⟨rfl, hW.below⟩
  · have hrep := fun w1 (hb : Below w.heap.size w w1) => replyTo (d := Cel.zero) (val := val) (is := is) (ho.below hb) hwf rfl (fun h => absurd h h0) (fun _ => rfl)
    generalize replyErr c k kind = E at *
    obtain ⟨kk, kc, kr, kf, kv⟩ := k
    obtain ⟨at_, regs, mem, rd, out, en⟩ := c
    obtain ⟨r0, r1, r2, r3, hregs⟩ := len_four hwf.1
    obtain ⟨m0, m1, m2, m3, m4, m5, m6, m7, hmem⟩ := len_eight hwf.2
    dsimp only at hregs hmem
    subst hregs hmem
    clear hwf
    dsimp only at *
    rw [celV_eq] at *
    rw [wntV_eq] at *
    refine enter Try.func6 rfl Try.ntmps6 rfl (fun a hF => ?_)
    have hW := Wd.start w NoB
    refine c_sr ?_
    refine pe (e_box hF hW rfl rfl rfl rfl ?_)
    intro b1 a wc hF hW
    refine pe (e_box hF hW rfl rfl rfl rfl ?_)
    intro b2 a wc hF hW
    refine pv hF hW (y_assign hF rfl) (fun a hF => ?_)
    refine l_nil ?_
    refine t_n ?_
    refine c_sr ?_
    refine pv hF hW (y_loadAll hF rfl 1 rfl Try.underlying46 rfl sz_46) (fun a hF => ?_)
    refine pv hF hW (y_loadAll hF rfl 0 rfl Try.underlying48 rfl sz_48) (fun a hF => ?_)
    refine pv hF hW (y_move hF rfl) (fun a hF => ?_)
    refine pv hF hW (y_move hF rfl) (fun a hF => ?_)
    refine pv hF hW (y_move hF rfl) (fun a hF => ?_)
    refine pe (e_call hF rfl rfl en_28 (by rfl) rfl rfl (hrep _ hW.below) ?_)
    rintro e w1 ⟨A1, n1, rfl, hr, hb⟩
    replace hW := hW.gotR hb hr
    refine ⟨_, rfl, fun a hF => ?_⟩
    replace hF := Fr.cast (v' := .tuple #[.agg #[.int .i64 0, .int .i64 0, .int .i64 0, .int .i64 0, .int .i64 0, .int .i64 0, .int .i64 0, .int .i64 0, .int .i64 0, .int .i64 0, .int .i64 0, .int .i64 0, .int .i64 0, .int .i64 0, .slice A1 0 n1, .int .i64 0], .int .i64 E]) rfl hF
    refine pv hF hW (y_move hF rfl) (fun a hF => ?_)
    refine pv hF hW (y_extract hF rfl rfl) (fun a hF => ?_)
    refine pv hF hW (y_extract hF rfl rfl) (fun a hF => ?_)
    refine pe (e_alloc hF hW ze_46 rfl rfl rfl ?_)
    intro b3 a wc hF hW
    refine pe (e_storeAll rfl hF hW rfl rfl 0 rfl rfl rfl (by kernel_rfl) sz_46 ?_)
    intro wc hW
    refine pv hF hW (y_assign hF rfl) (fun a hF => ?_)
    refine l_nil ?_
    replace hF := (hF.k 0 rfl (hF.k 1 rfl (hF.k 2 rfl (hF.k 3 rfl (hF.k 4 rfl (hF.k 5 rfl (hF.k 6 rfl (hF.k 10 rfl (hF.k 11 rfl (hF.k 12 rfl hF.nil))))))))))
    refine t_n ?_
    refine c_sr ?_
    refine pv hF hW (y_loadAll hF rfl 3 rfl Try.underlying46 rfl sz_46) (fun a hF => ?_)
    refine pv hF hW (y_loadAll hF rfl 2 rfl Try.underlying48 rfl sz_48) (fun a hF => ?_)
    refine pv hF hW (y_move hF rfl) (fun a hF => ?_)
    refine pe (e_call hF rfl rfl en_29 (by rfl) rfl rfl (herr _ hW.below) ?_)
    rintro e w1 ⟨rfl, hb⟩
    replace hW := hW.kept hb
    clear hb
    refine ⟨_, rfl, fun a hF => ?_⟩
    refine pv hF hW (y_assign hF rfl) (fun a hF => ?_)
    refine l_nil ?_
    replace hF := (hF.k 0 rfl (hF.k 1 rfl (hF.k 2 rfl (hF.k 3 rfl (hF.k 4 rfl (hF.k 5 rfl (hF.k 6 rfl (hF.k 10 rfl (hF.k 11 rfl (hF.k 12 rfl (hF.k 13 rfl hF.nil)))))))))))
    refine t_n ?_
    refine c_sr ?_
    refine pe (e_alloc hF hW ze_46 rfl rfl rfl ?_)
    intro b4 a wc hF hW
    refine l_nil ?_
    refine t_n ?_
    refine c_s ?_
    refine c_sr ?_
    refine pv hF hW (y_move hF rfl) (fun a hF => ?_)
    refine pv hF hW (y_eql hF rfl rfl) (fun a hF => ?_)
    refine Fr.splitD hF ?_ ?_
    · intro h5 hF
      exfalso
      omega
    · intro h5 hF
      first
        | (exfalso; first | omega | (simp_all; done))
        | (refine l_nil ?_
           replace hF := (hF.k 0 rfl (hF.k 1 rfl (hF.k 2 rfl (hF.k 3 rfl (hF.k 4 rfl (hF.k 5 rfl (hF.k 6 rfl (hF.k 10 rfl (hF.k 11 rfl (hF.k 12 rfl (hF.k 13 rfl (hF.k 14 rfl (hF.k 29 rfl hF.nil)))))))))))))
           refine t_n ?_
           refine c_f hF rfl ?_
           refine wp_skip ?_
           refine t_n ?_
           refine c_sr ?_
           refine pe (e_call hF rfl rfl en_24 (by rfl) rfl rfl (cellBegun_any _) ?_)
           rintro e w1 ⟨rfl, hb⟩
           replace hW := hW.kept hb
           clear hb
           refine ⟨_, rfl, fun a hF => ?_⟩
           refine pv hF hW (y_move hF rfl) (fun a hF => ?_)
           refine pv hF hW (y_move hF rfl) (fun a hF => ?_) (ws hF rfl rfl)
           refine pv hF hW (y_move hF rfl) (fun a hF => ?_) (ws hF rfl rfl)
           refine pv hF hW (y_eql hF rfl rfl) (fun a hF => ?_) (ws hF rfl rfl)
           refine Fr.splitD hF ?_ ?_
           · intro h6 hF
             first
               | (exfalso; first | omega | (simp_all; done))
               | (refine pv hF hW (y_pick hF rfl rfl) (fun a hF => ?_)
                  refine pv hF hW (y_move hF rfl) (fun a hF => ?_)
                  refine pv hF hW (y_loadAll hF rfl 1 rfl Try.underlying46 rfl sz_46) (fun a hF => ?_) (ws hF rfl rfl)
                  refine pv hF hW (y_loadAll hF rfl 0 rfl Try.underlying46 rfl sz_46) (fun a hF => ?_) (ws hF rfl rfl)
                  refine pe (e_call hF rfl rfl en_27 (by rfl) rfl rfl (sameCells_self Cel.zero _ _ Cel.zero_wf _ (hW.res 2 rfl) Ints.nil_) ?_) (ws hF rfl rfl)
                  rintro e w1 ⟨rfl, hb⟩
                  replace hW := hW.kept hb
                  clear hb
                  refine ⟨_, rfl, fun a hF => ?_⟩
                  refine pv hF hW (y_pick hF rfl rfl) (fun a hF => ?_)
                  replace hF := hF.drop 10
                  refine pv hF hW (y_assign hF rfl) (fun a hF => ?_)
                  refine l_nil ?_
                  replace hF := (hF.k 0 rfl (hF.k 1 rfl (hF.k 2 rfl (hF.k 3 rfl (hF.k 4 rfl (hF.k 5 rfl (hF.k 6 rfl (hF.k 10 rfl (hF.k 11 rfl (hF.k 12 rfl (hF.k 13 rfl (hF.k 14 rfl (hF.k 29 rfl hF.nil)))))))))))))
                  refine t_n ?_
                  refine wp_ret ?_
                  refine ret1 Try.results6 hF (rv_t hF rfl) ?_
                  exact ⟨rfl, hW.below⟩)
           · intro h6 hF
             first
               | (exfalso; first | omega | (simp_all; done))
               | (refine pv hF hW (y_pick hF rfl rfl) (fun a hF => ?_)
                  refine pv hF hW (y_move hF rfl) (fun a hF => ?_)
                  refine p_skip hF (wn hF rfl rfl rfl) rfl rfl (fun a hF => ?_)
                  refine p_skip hF (wn hF rfl rfl rfl) rfl rfl (fun a hF => ?_)
                  refine p_skip hF (wn hF rfl rfl rfl) rfl rfl (fun a hF => ?_)
                  refine pv hF hW (y_pick hF rfl rfl) (fun a hF => ?_)
                  replace hF := hF.drop 10
                  refine pv hF hW (y_assign hF rfl) (fun a hF => ?_)
                  refine l_nil ?_
                  replace hF := (hF.k 0 rfl (hF.k 1 rfl (hF.k 2 rfl (hF.k 3 rfl (hF.k 4 rfl (hF.k 5 rfl (hF.k 6 rfl (hF.k 10 rfl (hF.k 11 rfl (hF.k 12 rfl (hF.k 13 rfl (hF.k 14 rfl (hF.k 29 rfl hF.nil)))))))))))))
                  refine t_n ?_
                  refine wp_ret ?_
                  refine ret1 Try.results6 hF (rv_t hF rfl) ?_
                  exact ⟨rfl, hW.below⟩))

set_option maxRecDepth 100000 in
theorem cellReplies_contract (H : Type) (enc : TypeId × Value → H) (W : World) (base : Nat) (args : Array Value) (ds gs : List (DataW H)) (before : List MemPlace)
    (hval : ∀ (j : Nat) t v, Try.f6.params[j]? = some t → args[j]? = some v → Value.okWide Try.prog W .any base t v)
    (hW : DataW.Whole enc Try.prog Try.f6.params.toList Rows.cellRepliesSpec.vars false W args.toList ds gs before) :
    Calls Try.prog 6 args W fun e W' => ∃ v, e = .returned v ∧ Rows.cellRepliesSpec.post enc Try.prog Try.f6 false true false false W args v W' := by
  have hW' := hW
  obtain ⟨p, q, hA0, hV, rfl, hfz, hnd⟩ := hW
  have hA : DataW.TrodAll enc Try.prog W 0 (fun _ => true) true Try.f6.params.toList args.toList ds p := hA0
  rw [Try.params6] at hA hval
  obtain ⟨v0, v1, v2, v3, v4, d0, d1, d2, d3, d4, p0, p1, p2, p3, p4, rfl, rfl, rfl, h0, h1, h2, h3, h4⟩ := trodAll_five hA
  obtain ⟨c, ov, rfl, hwf, ho⟩ := cell_open (hval 0 46 v0 rfl rfl) h0
  obtain ⟨k, rfl⟩ := want_open (hval 1 48 v1 rfl rfl) h1
  obtain ⟨kind, rfl, rfl, rfl, wk2⟩ := open_int Try.underlying3 (hval 2 3 v2 rfl rfl) h2
  obtain ⟨val, rfl, rfl, rfl, wk3⟩ := open_int Try.underlying3 (hval 3 3 v3 rfl rfl) h3
  obtain ⟨is, rfl, rfl, rfl⟩ := open_bool Try.underlying4 (hval 4 4 v4 rfl rfl) h4
  refine (cellReplies_run c k kind val is ov W hwf ho).mono fun e W' ⟨he, hb⟩ => ?_
  subst he
  exact ⟨_, rfl, law_post Try.laidOut hW' hb rfl (by kernel_rfl) Try.underlying4 (by kernel_rfl) rfl⟩

set_option maxRecDepth 100000 in
theorem cellReplies_lifted (os : Os) (started : os.Started) (H : Type) (enc : TypeId × Value → H) :
    ReturnsInHanded {} Try.checked os 6 .any (Rows.cellRepliesSpec.pre6 enc Try.prog Try.f6 Rows.cellRepliesRow.domain false) (Rows.cellRepliesSpec.post enc Try.prog Try.f6 false true false false) := by
  refine returnsInHanded_of_change (C := Try.checked) Try.own started (by kernel_rfl) Try.func6
    (ChangeSpec.witness6 (enc := enc) (C := Try.checked) false ⟨#[], #[.agg #[.int .i64 0, .int .i64 0, .int .i64 0, .int .i64 0, .int .i64 0, .int .i64 0, .int .i64 0, .int .i64 0, .int .i64 0, .int .i64 0, .int .i64 0, .int .i64 0, .int .i64 0, .int .i64 0, .slice none 0 0, .int .i64 0], .agg #[.int .i64 0, .int .i64 0, .int .i64 0, .int .i64 0, .int .i64 0], .int .i64 0, .int .i64 0, .bool false], []⟩ 8 (by kernel_rfl) (by kernel_rfl) (by kernel_rfl) (by kernel_rfl)) ?_
  intro W base args ds gs before hval hW _ _
  exact cellReplies_contract H enc W base args ds gs before hval hW

theorem cellReplies_holds : Rows.CellRepliesSaid :=
  OpenClaim.holds_of_wide 6 Try.f6 rfl rfl rfl rfl rfl rfl rfl ⟨rfl, rfl, rfl, rfl, rfl⟩ rfl rfl rfl rfl rfl (by kernel_rfl) Try.func6 (by kernel_rfl)
    (of_decide_eq_true (by kernel_rfl)) (by unfold Func.isWrapper; first | (rw [if_pos (by decide +kernel)]; kernel_rfl) | (rw [if_neg (by decide +kernel)]; exact ⟨rfl, rfl⟩))
    (fun os started H enc _ => cellReplies_lifted os started H enc)
end Go.Proofs.Ytebklpbbglojmaa
