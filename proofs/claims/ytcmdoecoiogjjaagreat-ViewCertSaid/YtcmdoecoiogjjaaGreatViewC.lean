/- view.Other. -/
import Derived.Test.YtcmdoecoiogjjaaGreatViewB
namespace Go.Proofs.YtcmdoecoiogjjaaGreat
set_option linter.unusedVariables false
set_option linter.unusedSimpArgs false
open Go.ChangeShapes Go.WideShapes Go.ChangeAt Go.RowKit
theorem bu_ViewC_26_  (w : World) : (Instr.build 26 #[]).run Tryz.prog w = .ok (.agg #[(.slice none 0 0), (.slice none 0 0), (.slice none 0 0)]) w := by kernel_rfl
set_option maxRecDepth 100000

def otherSys (s : Sys) (p : Nat) (q : Prt) : Sys := ⟨s.parts.set p q, s.chans, s.slots⟩
def otherErr (s : Sys) (p : Int) (q : Prt) : Int := if thereErr s p = 0 then chkSys (otherSys s p.toNat q) else thereErr s p
def otherOr (s : Sys) (p : Int) (q : Prt) : Sys := if otherErr s p q = 0 then otherSys s p.toNat q else Sys.zero
theorem otherErr_t {s : Sys} {p : Int} {q : Prt} (h : thereErr s p ≠ 0) : otherErr s p q = thereErr s p := if_neg h
theorem otherErr_c {s : Sys} {p : Int} {q : Prt} (h : thereErr s p = 0) : otherErr s p q = chkSys (otherSys s p.toNat q) := if_pos h
theorem other_range {x : SysD} {p : Nat} {q : Prt} : (⟨(List.range x.parts.length).map (fun k : Nat => if (k : Int) = (p : Int) then q else (x.parts.getD k P0).1), x.chans, x.slots⟩ : Sys) = otherSys x.sys p q := by
  have e : (List.range x.parts.length).map (fun k : Nat => if (k : Int) = (p : Int) then q else (x.parts.getD k P0).1) = (x.parts.map Prod.fst).set p q := by
    apply List.ext_getElem
    · simp
    · intro i h1 h2
      simp only [List.length_map, List.length_range] at h1
      simp only [List.getElem_map, List.getElem_range, List.getElem_set]
      by_cases hi : (i : Int) = p
      · rw [if_pos hi, if_pos (by omega)]
      · rw [if_neg hi, if_neg (by omega), List.getD, List.getElem?_eq_getElem h1]
        rfl
  simp only [otherSys, SysD.sys, e]
theorem other_lens {x : SysD} {p : Nat} {q : Prt} (hfc : firstCode x.sys.parts = 0) (h6 : ∀ k, k < x.parts.length → (x.parts.getD k P0).1.inp.length ≤ 12) (hq : q.code.length * 32 ≤ 140737488355328 ∧ q.inp.length * 8 ≤ 140737488355328) : ∀ k, k < x.parts.length → (if (k : Int) = (p : Int) then q else (x.parts.getD k P0).1).code.length * 32 ≤ 140737488355328 ∧ (if (k : Int) = (p : Int) then q else (x.parts.getD k P0).1).inp.length * 8 ≤ 140737488355328 := fun k hk => by
  have h1 := code_le hfc hk
  have h2 := h6 k hk
  split
  · exact hq
  · omega
theorem other1_any {q0 qx : PP} {w w1 : World} {b4 b5 : Nat} {T4 T5 : TypeId} {k : Nat} {p : Int} (hq : q0.At w) (hx : qx.At w) (hb : Below w.heap.size w w1) (hB4 : Blk w1 b4 T4 [.int .i64 p]) (hB5 : Blk w1 b5 T5 (encP qx)) :
    Calls Tryz.prog 79 #[.int .i64 k, .agg (encP q0).toArray, .pointer (some ⟨b4, 0, none⟩), .pointer (some ⟨b5, 0, none⟩)] w1 fun e w' =>
      ∃ q : PP, e = .returned (.agg (encP q).toArray) ∧ q.1 = (if (k : Int) = p then qx.1 else q0.1) ∧ Below w1.heap.size w1 w' ∧ OwnRes w1 w' (fun u => Below w.heap.size w u → q.At u) := by
  change Calls _ _ #[.int .i64 k, .agg #[.slice q0.2.ca q0.1.code.length q0.2.cc, .slice q0.2.ia q0.1.inp.length q0.2.ic], _, _] _ _
  change Blk w1 b5 T5 [.slice qx.2.ca qx.1.code.length qx.2.cc, .slice qx.2.ia qx.1.inp.length qx.2.ic] at hB5
  refine enter Tryz.func79 rfl Tryz.ntmps79 rfl fun a hF => ?_
  have hW := Wd.start w1 NoB
  refine c_sr ?_; refine pe (e_box hF hW rfl rfl rfl rfl ?_); intro b1 a wc hF hW; refine pe (e_alloc hF hW ze_49 rfl rfl rfl ?_); intro b2 a wc hF hW; refine l_nil <| t_n <| c_s <| c_sr <| pv hF hW (y_move hF rfl) fun a hF => pv hF hW (y_loadB hF rfl (hB4) rfl Tryz.underlying3 rfl) fun a hF => pv hF hW (y_eql hF rfl rfl) fun a hF => ?_; refine Fr.splitD hF ?_ ?_
  · intro h3 hF; refine l_nil ?_; replace hF := hF.ks [0, 1, 2, 3, 5, 6, 9] rfl; refine t_n <| c_t hF rfl <| c_sr <| pv hF hW (y_loadBN hF rfl (hB5) Tryz.underlying49 rfl sz_49 rfl) fun a hF => ?_; refine pe (e_storeAll rfl hF hW rfl rfl 0 rfl rfl rfl (by kernel_rfl) sz_49 ?_); intro wc hW; refine l_nil ?_; replace hF := hF.ks [0, 1, 2, 3, 5, 6, 9] rfl; refine t_n <| wp_ret <| t_r <| ret1 Tryz.results79 hF (rv_c hF rfl hW 0 rfl Tryz.underlying49 rfl sz_49) ?_
    exact ⟨qx, rfl, by rw [if_pos (by assumption)], hW.below, fun u _ hbu => hx.below hbu⟩
  · intro h3 hF; refine l_nil ?_; replace hF := hF.ks [0, 1, 2, 3, 5, 6, 9] rfl; refine t_n <| c_f hF rfl <| wp_skip <| t_n <| c_sr <| pv hF hW (y_loadAll hF rfl 1 rfl Tryz.underlying49 rfl sz_49) fun a hF => ?_; refine pe (e_storeAll rfl hF hW rfl rfl 0 rfl rfl rfl (by kernel_rfl) sz_49 ?_); intro wc hW; refine l_nil ?_; replace hF := hF.ks [0, 1, 2, 3, 5, 6, 9] rfl; refine t_n <| wp_ret <| ret1 Tryz.results79 hF (rv_c hF rfl hW 0 rfl Tryz.underlying49 rfl sz_49) ?_
    exact ⟨q0, rfl, by rw [if_neg (by assumption)], hW.below, fun u _ hbu => hq.below hbu⟩
theorem turnOther {x : SysD} {qx : PP} {w : World} {b4 b5 : Nat} {T4 T5 : TypeId} {p : Int} (hx : x.At w) (hq : qx.At w) (hB4 : Blk w b4 T4 [.int .i64 p]) (hB5 : Blk w b5 T5 (encP qx)) :
    Turns w x 79 #[.pointer (some ⟨b4, 0, none⟩), .pointer (some ⟨b5, 0, none⟩)] (fun k : Nat => if (k : Int) = p then qx.1 else (x.parts.getD k P0).1) := fun k w1 hk hb => other1_any (hx.part hk) hq hb (hB4.kept hb) (hB5.kept hb)
theorem viewOther_any {x : SysD} {qx : PP} {w : World} (hx : x.At w) (hq : qx.At w) (p : Int) (hl : qx.1.code.length * 32 ≤ 140737488355328 ∧ qx.1.inp.length * 8 ≤ 140737488355328) :
    Calls Tryz.prog 31 #[x.val, .int .i64 p, .agg (encP qx).toArray] w (SysErr w (otherOr x.sys p qx.1) (otherErr x.sys p qx.1)) := by
  have ht := fun w1 (hb : Below w.heap.size w w1) => confThere_any (hx.below hb) p
  change Calls _ _ #[_, _, .agg #[.slice qx.2.ca qx.1.code.length qx.2.cc, .slice qx.2.ia qx.1.inp.length qx.2.ic]] _ _
  by_cases h0 : thereErr x.sys p = 0
  · obtain ⟨hk, hpp⟩ := there_zero h0
    obtain ⟨hz, hfc, -⟩ := chkSys_zero hk
    obtain ⟨⟨hz1, hz2⟩, hz3, ⟨hz4, hz5⟩, hz6⟩ := sizes_get hz
    obtain ⟨hp0, hp1⟩ := part_len hpp
    obtain ⟨p, rfl⟩ := Int.eq_ofNat_of_zero_le hp0
    have hlens := other_lens (p := p) hfc hz6 hl
    have hE : otherErr x.sys p qx.1 = chkSys (otherSys x.sys p qx.1) := (otherErr_c h0).trans (by rw [Int.toNat_natCast])
    have hO : otherErr x.sys p qx.1 = 0 → otherOr x.sys p qx.1 = otherSys x.sys p qx.1 := fun h => (if_pos h).trans (by rw [Int.toNat_natCast])
    have hN : otherErr x.sys p qx.1 ≠ 0 → otherOr x.sys p qx.1 = Sys.zero := fun h => if_neg h
    rw [h0] at ht
    generalize otherErr x.sys p qx.1 = E at *
    generalize otherOr x.sys p qx.1 = O at *
    clear h0 hpp
    have hx' := hx
    rw [x.val_eq] at *
    refine enter Tryz.func31 rfl Tryz.ntmps31 rfl fun a hF => ?_
    have hW := Wd.start w NoB
    refine c_sr ?_; refine pe (e_box hF hW rfl rfl rfl rfl ?_); intro b1 a wc hF hW; refine pe (e_box hF hW rfl rfl rfl rfl ?_); intro b2 a wc hF hW; refine pe (e_box hF hW rfl rfl rfl rfl ?_); intro b3 a wc hF hW; refine pe (e_alloc hF hW ze_26 rfl rfl rfl ?_); intro b4 a wc hF hW; refine pv hF hW (y_assign hF rfl) fun a hF => l_nil <| t_n <| c_s <| c_sr <| pv hF hW (y_loadAll hF rfl 3 rfl Tryz.underlying26 rfl sz_26) fun a hF => pv hF hW (y_loadOwn hF rfl 2 rfl rfl Tryz.underlying3 rfl) fun a hF => ?_; refine pe (e_call hF rfl rfl en_44 (by rfl) rfl rfl (ht _ hW.below) ?_); rintro e w1 ⟨rfl, hb⟩; replace hW := hW.kept hb; clear hb; refine ⟨_, rfl, fun a hF => ?_⟩; refine pv hF hW (y_assign hF rfl) fun a hF => l_nil ?_; replace hF := hF.ks [0, 1, 2, 3, 4, 5, 6, 7, 8] rfl; refine t_n <| c_sr <| pv hF hW (y_move hF rfl) fun a hF => pv hF hW (y_neq hF rfl rfl) fun a hF => ?_; replace hF := hF.ff; refine l_nil ?_; replace hF := hF.ks [0, 1, 2, 3, 4, 5, 6, 7, 8, 15] rfl; refine t_n <| c_f hF rfl <| wp_skip <| t_n <| c_sr <| pv hF hW (y_loadAll hF rfl 3 rfl Tryz.underlying26 rfl sz_26) fun a hF => pv hF hW (y_makeFunc hF rfl) fun a hF => ?_; refine pe (e_call hF rfl rfl en_46 (by rfl) rfl rfl (confOwn_any (hx.below hW.below) en_79 (turnOther (hx.below hW.below) (hq.below hW.below) (hW.blk 2 rfl) (hW.blk 1 rfl)) (by omega) (by omega) (by omega) hlens) ?_); rintro e w1 ⟨y, rfl, hsys, hb, hr⟩; replace hW := hW.gotR hb hr
    replace hsys := hsys.trans other_range
    refine ⟨_, rfl, fun a hF => ?_⟩; replace hF := Fr.cast (v' := .agg #[.slice y.pa y.parts.length y.pc, .slice y.ha y.chans.length y.hc, .slice y.sa y.slots.length y.sc]) rfl hF; refine pe (e_alloc hF hW ze_26 rfl rfl rfl ?_); intro b5 a wc hF hW; refine pe (e_storeAll rfl hF hW rfl rfl 0 rfl rfl rfl (by kernel_rfl) sz_26 ?_); intro wc hW; refine l_nil ?_; replace hF := hF.ks [0, 1, 2, 3, 4, 5, 6, 7, 8, 9, 15] rfl; refine t_n <| c_s <| c_sr <| pv hF hW (y_loadAll hF rfl 0 rfl Tryz.underlying26 rfl sz_26) fun a hF => ?_; refine pe (e_call hF rfl rfl en_65 (by rfl) rfl rfl (confCheck_any (hW.res 1 rfl)) ?_); rintro e w1 ⟨rfl, hb⟩; replace hW := hW.kept hb; clear hb; refine ⟨_, rfl, fun a hF => ?_⟩; refine pv hF hW (y_assign hF rfl) fun a hF => l_nil ?_; replace hF := hF.ks [0, 1, 2, 3, 4, 5, 6, 7, 8, 9, 10, 15] rfl; refine t_n <| c_sr <| pv hF hW (y_move hF rfl) fun a hF => pv hF hW (y_neq hF rfl rfl) fun a hF => ?_; refine Fr.splitD hF ?_ ?_
    · intro h6 hF; refine l_nil ?_; replace hF := hF.ks [0, 1, 2, 3, 4, 5, 6, 7, 8, 9, 10, 15, 24] rfl; refine t_n <| c_t hF rfl <| c_sr <| pv hF hW (y_build hF rfl (fun w => bu_ViewC_26_  w)) fun a hF => pv hF hW (y_move hF rfl) fun a hF => ?_; refine pe (e_storeAll rfl hF hW rfl rfl 2 rfl rfl rfl (by kernel_rfl) sz_26 ?_); intro wc hW; replace hF := hF.drop 7; refine pv hF hW (y_assign hF rfl) fun a hF => l_nil ?_; replace hF := hF.ks [0, 1, 2, 3, 4, 5, 6, 7, 8, 9, 10, 15, 24] rfl; refine t_n <| wp_ret <| t_r <| ret2 Tryz.results31 hF (rv_c hF rfl hW 2 rfl Tryz.underlying26 rfl sz_26) (rv_t hF rfl) ?_
      exact ⟨SysD.zero, by rw [hE, ← hsys]; rfl, by rw [hN (by rw [hE, ← hsys]; assumption)]; rfl, hW.below, fun u _ => SysD.zero_at u⟩
    · intro h6 hF; refine l_nil ?_; replace hF := hF.ks [0, 1, 2, 3, 4, 5, 6, 7, 8, 9, 10, 15, 24] rfl; refine t_n <| c_f hF rfl <| wp_skip <| t_n <| c_sr <| pv hF hW (y_loadAll hF rfl 0 rfl Tryz.underlying26 rfl sz_26) fun a hF => ?_; refine pe (e_storeAll rfl hF hW rfl rfl 2 rfl rfl rfl (by kernel_rfl) sz_26 ?_); intro wc hW; replace hF := hF.drop 7; refine pv hF hW (y_assign hF rfl) fun a hF => l_nil ?_; replace hF := hF.ks [0, 1, 2, 3, 4, 5, 6, 7, 8, 9, 10, 15, 24] rfl; refine t_n <| wp_ret <| ret2 Tryz.results31 hF (rv_c hF rfl hW 2 rfl Tryz.underlying26 rfl sz_26) (rv_t hF rfl) ?_
      exact ⟨y, by rw [hE, ← hsys, show chkSys y.sys = 0 by omega]; rfl, by rw [hO (by rw [hE, ← hsys]; omega)]; exact hsys, hW.below, hW.res_res 1 rfl⟩
  · rw [show otherOr x.sys p qx.1 = Sys.zero from if_neg (by rw [otherErr_t h0]; exact h0), otherErr_t h0]
    rw [x.val_eq] at *
    generalize thereErr x.sys p = E at *
    refine enter Tryz.func31 rfl Tryz.ntmps31 rfl fun a hF => ?_
    have hW := Wd.start w NoB
    refine c_sr ?_; refine pe (e_box hF hW rfl rfl rfl rfl ?_); intro b1 a wc hF hW; refine pe (e_box hF hW rfl rfl rfl rfl ?_); intro b2 a wc hF hW; refine pe (e_box hF hW rfl rfl rfl rfl ?_); intro b3 a wc hF hW; refine pe (e_alloc hF hW ze_26 rfl rfl rfl ?_); intro b4 a wc hF hW; refine pv hF hW (y_assign hF rfl) fun a hF => l_nil <| t_n <| c_s <| c_sr <| pv hF hW (y_loadAll hF rfl 3 rfl Tryz.underlying26 rfl sz_26) fun a hF => pv hF hW (y_loadOwn hF rfl 2 rfl rfl Tryz.underlying3 rfl) fun a hF => ?_; refine pe (e_call hF rfl rfl en_44 (by rfl) rfl rfl (ht _ hW.below) ?_); rintro e w1 ⟨rfl, hb⟩; replace hW := hW.kept hb; clear hb; refine ⟨_, rfl, fun a hF => ?_⟩; refine pv hF hW (y_assign hF rfl) fun a hF => l_nil ?_; replace hF := hF.ks [0, 1, 2, 3, 4, 5, 6, 7, 8] rfl; refine t_n <| c_sr <| pv hF hW (y_move hF rfl) fun a hF => pv hF hW (y_neq hF rfl rfl) fun a hF => ?_; refine Fr.splitD hF ?_ ?_
    · intro h5 hF; refine l_nil ?_; replace hF := hF.ks [0, 1, 2, 3, 4, 5, 6, 7, 8, 15] rfl; refine t_n <| c_t hF rfl <| c_sr <| pv hF hW (y_build hF rfl (fun w => bu_ViewC_26_  w)) fun a hF => pv hF hW (y_move hF rfl) fun a hF => ?_; refine pe (e_storeAll rfl hF hW rfl rfl 0 rfl rfl rfl (by kernel_rfl) sz_26 ?_); intro wc hW; replace hF := hF.drop 7; refine pv hF hW (y_assign hF rfl) fun a hF => l_nil ?_; replace hF := hF.ks [0, 1, 2, 3, 4, 5, 6, 7, 8, 15] rfl; refine t_n <| wp_ret <| t_r <| ret2 Tryz.results31 hF (rv_c hF rfl hW 0 rfl Tryz.underlying26 rfl sz_26) (rv_t hF rfl) ?_
      exact ⟨SysD.zero, rfl, rfl, hW.below, fun u _ => SysD.zero_at u⟩
    · intro h5 hF; exfalso
      omega
end Go.Proofs.YtcmdoecoiogjjaaGreat
