/- conf.Calm: what it gives. -/
import Derived.Test.YtebklpbbglojmaaConfD
namespace Go.Proofs.Ytebklpbbglojmaa
set_option linter.unusedVariables false
set_option linter.unusedSimpArgs false
open Go.ChangeShapes Go.WideShapes Go.ChangeAt Go.RowKit
theorem bu_ConfE_68_  (w : World) : (Instr.build 68 #[]).run Try.prog w = .ok (.agg #[(.slice none 0 0), (.slice none 0 0), (.slice none 0 0)]) w := by kernel_rfl
set_option maxRecDepth 100000

theorem calm1_any {q0 : PP} {w w1 : World} {b3 : Nat} {T3 : TypeId} {k : Nat} {p : Int} (hq : q0.At w) (hb : Below w.heap.size w w1) (hB : Blk w1 b3 T3 [.int .i64 p]) :
    Calls Try.prog 58 #[.int .i64 k, .agg (encP q0).toArray, .pointer (some ⟨b3, 0, none⟩)] w1 fun e w' =>
      ∃ q : PP, e = .returned (.agg (encP q).toArray) ∧ q.1 = (if (k : Int) = p then calmP else q0.1) ∧ Below w1.heap.size w1 w' ∧ OwnRes w1 w' (fun u => Below w.heap.size w u → q.At u) := by
  change Calls _ _ #[.int .i64 k, .agg #[.slice q0.2.ca q0.1.code.length q0.2.cc, .slice q0.2.ia q0.1.inp.length q0.2.ic], _] _ _
  refine enter Try.func58 rfl Try.ntmps58 rfl (fun a hF => ?_)
  have hW := Wd.start w1 NoB
  refine c_sr ?_
  refine pe (e_box hF hW rfl rfl rfl rfl ?_)
  intro b1 a wc hF hW
  refine pe (e_alloc hF hW ze_42 rfl rfl rfl ?_)
  intro b2 a wc hF hW
  refine l_nil ?_
  refine t_n ?_
  refine c_s ?_
  refine c_sr ?_
  refine pv hF hW (y_move hF rfl) (fun a hF => ?_)
  refine pv hF hW (y_loadB hF rfl (hB) rfl Try.underlying3 rfl) (fun a hF => ?_)
  refine pv hF hW (y_eql hF rfl rfl) (fun a hF => ?_)
  refine Fr.splitD hF ?_ ?_
  · intro h3 hF
    refine l_nil ?_
    replace hF := (hF.k 0 rfl (hF.k 1 rfl (hF.k 2 rfl (hF.k 4 rfl (hF.k 5 rfl (hF.k 8 rfl hF.nil))))))
    refine t_n ?_
    refine c_t hF rfl ?_
    refine c_sr ?_
    refine pe (e_call hF rfl rfl en_59 (by rfl) rfl rfl (still_any _) ?_)
    rintro e w1 ⟨q, rfl, hqc, hb2, hr⟩
    replace hW := hW.gotR hb2 hr
    refine ⟨_, rfl, fun a hF => ?_⟩
    replace hF := Fr.cast (v' := .agg #[.slice q.2.ca q.1.code.length q.2.cc, .slice q.2.ia q.1.inp.length q.2.ic]) rfl hF
    refine pe (e_storeAll rfl hF hW rfl rfl 1 rfl rfl rfl (by kernel_rfl) sz_42 ?_)
    intro wc hW
    refine l_nil ?_
    replace hF := (hF.k 0 rfl (hF.k 1 rfl (hF.k 2 rfl (hF.k 4 rfl (hF.k 5 rfl (hF.k 8 rfl hF.nil))))))
    refine t_n ?_
    refine wp_ret ?_
    refine t_r ?_
    refine ret1 Try.results58 hF (rv_c hF rfl hW 1 rfl Try.underlying42 rfl sz_42) ?_
    exact ⟨q, rfl, by rw [if_pos (by assumption), hqc], hW.below, (hW.res_res 0 rfl).mono fun u h _ => h⟩
  · intro h3 hF
    refine l_nil ?_
    replace hF := (hF.k 0 rfl (hF.k 1 rfl (hF.k 2 rfl (hF.k 4 rfl (hF.k 5 rfl (hF.k 8 rfl hF.nil))))))
    refine t_n ?_
    refine c_f hF rfl ?_
    refine wp_skip ?_
    refine t_n ?_
    refine c_sr ?_
    refine pv hF hW (y_loadAll hF rfl 1 rfl Try.underlying42 rfl sz_42) (fun a hF => ?_)
    refine pe (e_storeAll rfl hF hW rfl rfl 0 rfl rfl rfl (by kernel_rfl) sz_42 ?_)
    intro wc hW
    refine l_nil ?_
    replace hF := (hF.k 0 rfl (hF.k 1 rfl (hF.k 2 rfl (hF.k 4 rfl (hF.k 5 rfl (hF.k 8 rfl hF.nil))))))
    refine t_n ?_
    refine wp_ret ?_
    refine ret1 Try.results58 hF (rv_c hF rfl hW 0 rfl Try.underlying42 rfl sz_42) ?_
    exact ⟨q0, rfl, by rw [if_neg (by assumption)], hW.below, fun u _ hbu => hq.below hbu⟩
theorem turnCalm {x : SysD} {w : World} {b3 : Nat} {T3 : TypeId} {p : Int} (hx : x.At w) (hB : Blk w b3 T3 [.int .i64 p]) :
    Turns w x 58 #[.pointer (some ⟨b3, 0, none⟩)] (fun k : Nat => if (k : Int) = p then calmP else (x.parts.getD k P0).1) := fun k w1 hk hb => calm1_any (hx.part hk) hb (hB.kept hb)

def calmOr (s : Sys) (p : Int) : Sys := if thereErr s p = 0 then calmSys s p.toNat else Sys.zero
theorem calmOr_ok {s : Sys} {p : Int} (h : thereErr s p = 0) : calmOr s p = calmSys s p.toNat := if_pos h
theorem calmOr_no {s : Sys} {p : Int} (h : thereErr s p ≠ 0) : calmOr s p = Sys.zero := if_neg h
theorem calm_range {x : SysD} {p : Int} (hp : 0 ≤ p ∧ p < x.parts.length) : (⟨(List.range x.parts.length).map (fun k : Nat => if (k : Int) = p then calmP else (x.parts.getD k P0).1), x.chans, x.slots⟩ : Sys) = calmSys x.sys p.toNat := by
  have e : (List.range x.parts.length).map (fun k : Nat => if (k : Int) = p then calmP else (x.parts.getD k P0).1) = (x.parts.map Prod.fst).set p.toNat calmP := by
    apply List.ext_getElem
    · simp
    · intro i h1 h2
      simp only [List.length_map, List.length_range] at h1
      simp only [List.getElem_map, List.getElem_range, List.getElem_set]
      by_cases hi : (i : Int) = p
      · rw [if_pos hi, if_pos (by omega)]
      · rw [if_neg hi, if_neg (by omega), List.getD, List.getElem?_eq_getElem h1]
        rfl
  simp only [calmSys, SysD.sys, e]
theorem calm_lens {x : SysD} {p : Int} (hfc : firstCode x.sys.parts = 0) (h6 : ∀ k, k < x.parts.length → (x.parts.getD k P0).1.inp.length ≤ 12) : ∀ k, k < x.parts.length → (if (k : Int) = p then calmP else (x.parts.getD k P0).1).code.length * 32 ≤ 140737488355328 ∧ (if (k : Int) = p then calmP else (x.parts.getD k P0).1).inp.length * 8 ≤ 140737488355328 := fun k hk => by
  have h1 := code_le hfc hk
  have h2 := h6 k hk
  split
  · exact ⟨by decide, by decide⟩
  · omega
/-- a system comes back in memory of its own, and an error -/
def SysErr (w : World) (s : Sys) (x : Int) (e : Ending) (w' : World) : Prop :=
  ∃ y : SysD, e = .returned (.tuple #[y.val, .int .i64 x]) ∧ y.sys = s ∧ Below w.heap.size w w' ∧ OwnRes w w' y.At
theorem confCalm_any {x : SysD} {w : World} (hx : x.At w) (p : Int) :
    Calls Try.prog 31 #[x.val, .int .i64 p] w (SysErr w (calmOr x.sys p) (thereErr x.sys p)) := by
  have hx' := hx
  rw [x.val_eq]
  refine enter Try.func31 rfl Try.ntmps31 rfl (fun a hF => ?_)
  have hW := Wd.start w NoB
  refine c_sr ?_
  refine pe (e_box hF hW rfl rfl rfl rfl ?_)
  intro b1 a wc hF hW
  refine pe (e_box hF hW rfl rfl rfl rfl ?_)
  intro b2 a wc hF hW
  refine pe (e_alloc hF hW ze_68 rfl rfl rfl ?_)
  intro b3 a wc hF hW
  refine pv hF hW (y_assign hF rfl) (fun a hF => ?_)
  refine l_nil ?_
  refine t_n ?_
  refine c_s ?_
  refine c_sr ?_
  refine pv hF hW (y_loadAll hF rfl 2 rfl Try.underlying68 rfl sz_68) (fun a hF => ?_)
  refine pv hF hW (y_loadOwn hF rfl 1 rfl rfl Try.underlying3 rfl) (fun a hF => ?_)
  refine pe (e_call hF rfl rfl en_56 (by rfl) rfl rfl (confThere_any (hx.below hW.below) p) ?_)
  rintro e w1 ⟨rfl, hb⟩
  replace hW := hW.kept hb
  clear hb
  refine ⟨_, rfl, fun a hF => ?_⟩
  refine pv hF hW (y_assign hF rfl) (fun a hF => ?_)
  refine l_nil ?_
  replace hF := (hF.k 0 rfl (hF.k 1 rfl (hF.k 2 rfl (hF.k 3 rfl (hF.k 4 rfl (hF.k 5 rfl (hF.k 6 rfl hF.nil)))))))
  refine t_n ?_
  refine c_sr ?_
  refine pv hF hW (y_move hF rfl) (fun a hF => ?_)
  refine pv hF hW (y_neq hF rfl rfl) (fun a hF => ?_)
  refine Fr.splitD hF ?_ ?_
  · intro h4 hF
    refine l_nil ?_
    replace hF := (hF.k 0 rfl (hF.k 1 rfl (hF.k 2 rfl (hF.k 3 rfl (hF.k 4 rfl (hF.k 5 rfl (hF.k 6 rfl (hF.k 11 rfl hF.nil))))))))
    refine t_n ?_
    refine c_t hF rfl ?_
    refine c_sr ?_
    refine pv hF hW (y_build hF rfl (fun w => bu_ConfE_68_  w)) (fun a hF => ?_)
    refine pv hF hW (y_move hF rfl) (fun a hF => ?_)
    refine pe (e_storeAll rfl hF hW rfl rfl 0 rfl rfl rfl (by kernel_rfl) sz_68 ?_)
    intro wc hW
    replace hF := hF.drop 5
    refine pv hF hW (y_assign hF rfl) (fun a hF => ?_)
    refine l_nil ?_
    replace hF := (hF.k 0 rfl (hF.k 1 rfl (hF.k 2 rfl (hF.k 3 rfl (hF.k 4 rfl (hF.k 5 rfl (hF.k 6 rfl (hF.k 11 rfl hF.nil))))))))
    refine t_n ?_
    refine wp_ret ?_
    refine t_r ?_
    refine ret2 Try.results31 hF (rv_c hF rfl hW 0 rfl Try.underlying68 rfl sz_68) (rv_t hF rfl) ?_
    exact ⟨SysD.zero, rfl, by rw [calmOr_no (by assumption)]; rfl, hW.below, fun u _ => SysD.zero_at u⟩
  · intro h4 hF
    refine l_nil ?_
    replace hF := (hF.k 0 rfl (hF.k 1 rfl (hF.k 2 rfl (hF.k 3 rfl (hF.k 4 rfl (hF.k 5 rfl (hF.k 6 rfl (hF.k 11 rfl hF.nil))))))))
    refine t_n ?_
    refine c_f hF rfl ?_
    refine wp_skip ?_
    refine t_n ?_
    have h0 : thereErr x.sys p = 0 := (by omega)
    obtain ⟨hk, hpp⟩ := there_zero h0
    obtain ⟨hz, hfc, -⟩ := chkSys_zero hk
    obtain ⟨⟨hz1, hz2⟩, hz3, ⟨hz4, hz5⟩, hz6⟩ := sizes_get hz
    have hpp' := part_len hpp
    have hlens := calm_lens (p := p) hfc hz6
    refine c_sr ?_
    refine pv hF hW (y_loadAll hF rfl 2 rfl Try.underlying68 rfl sz_68) (fun a hF => ?_)
    refine pv hF hW (y_makeFunc hF rfl) (fun a hF => ?_)
    refine pe (e_call hF rfl rfl en_57 (by rfl) rfl rfl (confOwn_any (hx.below hW.below) en_58 (turnCalm (hx.below hW.below) (hW.blk 1 rfl)) (by omega) (by omega) (by omega) hlens) ?_)
    rintro e w1 ⟨y, rfl, hsys, hb, hr⟩
    replace hW := hW.gotR hb hr
    refine ⟨_, rfl, fun a hF => ?_⟩
    replace hF := Fr.cast (v' := .agg #[.slice y.pa y.parts.length y.pc, .slice y.ha y.chans.length y.hc, .slice y.sa y.slots.length y.sc]) rfl hF
    refine pe (e_storeAll rfl hF hW rfl rfl 1 rfl rfl rfl (by kernel_rfl) sz_68 ?_)
    intro wc hW
    replace hF := hF.drop 5
    refine pv hF hW (y_assign hF rfl) (fun a hF => ?_)
    refine l_nil ?_
    replace hF := (hF.k 0 rfl (hF.k 1 rfl (hF.k 2 rfl (hF.k 3 rfl (hF.k 4 rfl (hF.k 5 rfl (hF.k 6 rfl (hF.k 11 rfl hF.nil))))))))
    refine t_n ?_
    refine wp_ret ?_
    refine ret2 Try.results31 hF (rv_c hF rfl hW 1 rfl Try.underlying68 rfl sz_68) (rv_t hF rfl) ?_
    exact ⟨y, by rw [h0]; rfl, by rw [calmOr_ok h0, hsys, calm_range hpp'], hW.below, hW.res_res 0 rfl⟩
end Go.Proofs.Ytebklpbbglojmaa
