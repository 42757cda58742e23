/- kernBegun answers true. -/
import Derived.Test.YtoecpblabajlmaaKernR
import Derived.Test.YtoecpblabajlmaaConfD1
namespace Go.Proofs.Ytoecpblabajlmaa
set_option linter.unusedVariables false
set_option linter.unusedSimpArgs false
open Go.ChangeShapes Go.WideShapes Go.ChangeAt Go.RowKit
theorem bs_KernBg_46_1_0 (x0 : Int) (w : World) : (Instr.buildSlice 46 1 #[(0, (.int .i64 x0))]).run Try.prog w = .ok (.slice (some ⟨w.heap.size, 0, none⟩) 1 1) (w.alloc (.cells #[(.int .i64 x0)] 3)) := by kernel_rfl
theorem bu_KernBg_30_  (w : World) : (Instr.build 30 #[]).run Try.prog w = .ok (.agg #[(.int .i64 0), (.slice none 0 0), (.slice none 0 0)]) w := by kernel_rfl
set_option maxRecDepth 100000

def relaySys : Sys := ⟨relayP, relayC, relayS⟩
theorem relaySys_ok : chkSys relaySys = 0 := by kernel_rfl
section
variable {L : List PP} {pa sa : Option Addr} {b : Nat} {T : TypeId} {u : World} {y : WD}
theorem relay_begin (hL : L.map Prod.fst = relayP) (hB : Blk u b T (relayC.flatMap Chn.cells)) (h : RelayR L pa sa u) :
    Calls Try.prog 9 #[.agg #[.slice pa 4 4, .slice (some ⟨b, 0, none⟩) 2 2, .slice sa 4 4]] u (WrlErr u (beginW relaySys) 0) := by
  have := kernBegin_any (relay_at hL rfl hB h)
  rw [relay_val hL rfl, relay_sys hL] at this
  change Calls _ _ _ _ (WrlErr u (beginOr relaySys) (chkSys relaySys)) at this
  rwa [relaySys_ok, show beginOr relaySys = beginW relaySys from if_pos relaySys_ok] at this
theorem relay_run (hL : L.map Prod.fst = relayP) (hB : Blk u b T (relayC.flatMap Chn.cells)) (h : RelayR L pa sa u) (n : Nat) (hn : n ≤ 300) :
    Calls Try.prog 16 #[.agg #[.slice pa 4 4, .slice (some ⟨b, 0, none⟩) 2 2, .slice sa 4 4], .int .i64 n] u (WrlErr u (runW relaySys n) 0) := by
  have := kernRun_any (relay_at hL rfl hB h) n
  rw [relay_val hL rfl, relay_sys hL] at this
  change Calls _ _ _ _ (WrlErr u (runOr relaySys n) (runErr relaySys n)) at this
  have h0 : runErr relaySys n = 0 := runErr_0 relaySys_ok (by omega)
  rwa [h0, show runOr relaySys n = runW relaySys n from if_pos h0] at this
theorem relay_step (hL : L.map Prod.fst = relayP) (hB : Blk u b T (relayC.flatMap Chn.cells)) (h : RelayR L pa sa u) (hy : y.At u) (hyw : y.wrl = beginW relaySys) :
    Calls Try.prog 18 #[.agg #[.slice pa 4 4, .slice (some ⟨b, 0, none⟩) 2 2, .slice sa 4 4], y.val] u (WrlErr u (stepW relaySys (beginW relaySys)) 0) := by
  have := kernStep_any (relay_at hL rfl hB h) hy
  rw [relay_val hL rfl, relay_sys hL] at this
  change Calls _ _ _ _ (WrlErr u (stepOrW relaySys y.wrl) (stepErrW relaySys y.wrl)) at this
  have h0 : stepErrW relaySys y.wrl = 0 := by rw [hyw]; kernel_rfl
  rwa [h0, show stepOrW relaySys y.wrl = stepW relaySys y.wrl from if_pos h0, hyw] at this
theorem relay_world (hL : L.map Prod.fst = relayP) (hB : Blk u b T (relayC.flatMap Chn.cells)) (h : RelayR L pa sa u) (hy : y.At u) (E : Int) (hE : chkWorld relaySys y.wrl = E) :
    Calls Try.prog 13 #[.agg #[.slice pa 4 4, .slice (some ⟨b, 0, none⟩) 2 2, .slice sa 4 4], y.val] u fun e w' => e = .returned (.int .i64 E) ∧ Below u.heap.size u w' := by
  have := kernCheck_any (relay_at hL rfl hB h) hy
  rw [relay_val hL rfl, relay_sys hL] at this
  rw [← hE]
  exact this
end
theorem wrl_cell {y : WD} {W : Wrl} (h : y.wrl = W) (k : Nat) : (y.cells.getD k CD0).c = W.cells.getD k Cel.zero := by rw [← h, getD_mapC]
theorem wrl_len {y : WD} {W : Wrl} (h : y.wrl = W) : y.cells.length = W.cells.length := by rw [← h]; simp [WD.wrl]
theorem relay12 {y : WD} (h : y.wrl = runW relaySys 12) : y.cells.length = 4 ∧ (y.cells.getD 0 CD0).c.end_ = 1 ∧ (y.cells.getD 1 CD0).c.out = [6] ∧ (y.cells.getD 2 CD0).c.out = [6] ∧ (y.cells.getD 2 CD0).c.end_ = 1 ∧ (y.cells.getD 3 CD0).c.out = [0] :=
  ⟨(wrl_len h).trans (by kernel_rfl), by rw [wrl_cell h]; kernel_rfl, by rw [wrl_cell h]; kernel_rfl, by rw [wrl_cell h]; kernel_rfl, by rw [wrl_cell h]; kernel_rfl, by rw [wrl_cell h]; kernel_rfl⟩
theorem relay1 {y : WD} (h : y.wrl = stepW relaySys (beginW relaySys)) : y.cells.length = 4 ∧ (y.cells.getD 0 CD0).c.read = 1 ∧ y.tick = 1 :=
  ⟨(wrl_len h).trans (by kernel_rfl), by rw [wrl_cell h]; kernel_rfl, (congrArg Wrl.tick h).trans (by kernel_rfl)⟩
theorem encC_end (q : CD) : (encC q)[15]? = some (.int .i64 q.c.end_) := cell_end q.wf
theorem encC_read (q : CD) : (encC q)[13]? = some (.int .i64 q.c.read) := by
  obtain ⟨⟨at_, regs, mem, rd, out, en⟩, hwf, a, k⟩ := q
  obtain ⟨r0, r1, r2, r3, hregs⟩ := len_four hwf.1
  obtain ⟨m0, m1, m2, m3, m4, m5, m6, m7, hmem⟩ := len_eight hwf.2
  dsimp only at hregs hmem
  subst hregs hmem
  rfl
theorem encC_out (q : CD) : (encC q)[14]? = some (.slice q.a q.c.out.length q.k) := by
  obtain ⟨⟨at_, regs, mem, rd, out, en⟩, hwf, a, k⟩ := q
  obtain ⟨r0, r1, r2, r3, hregs⟩ := len_four hwf.1
  obtain ⟨m0, m1, m2, m3, m4, m5, m6, m7, hmem⟩ := len_eight hwf.2
  dsimp only at hregs hmem
  subst hregs hmem
  rfl
theorem same_ints {w : World} {u v : Value} {l m : List Int} (hu : Ints w u l) (hv : Ints w v m) (h : l = m) :
    Calls Try.prog 19 #[u, v] w fun e w' => e = .returned (.bool true) ∧ Below w.heap.size w w' := by
  have := sameIntsB hu hv
  rwa [decide_eq_true h] at this

set_option maxHeartbeats 4000000 in
theorem kernBegun_any (w : World) : Calls Try.prog 12 #[] w fun e w' => e = .returned (.bool true) ∧ Below w.heap.size w w' := by
  refine enter Try.func12 rfl Try.ntmps12 rfl (fun a hF => ?_)
  have hW := Wd.start w NoB
  refine c_sr ?_; refine pv hF hW (y_assign hF rfl) (fun a hF => ?_); refine l_nil ?_; refine t_n ?_; refine c_sr ?_; refine pe (e_call hF rfl rfl en_35 (by rfl) rfl rfl (relay_any _) ?_); rintro e w1 ⟨L1, pa1, b1, sa1, rfl, hL1, hN⟩; replace hW := hW.comb2 hN; refine ⟨_, rfl, fun a hF => ?_⟩; refine pe (e_call hF rfl rfl en_9 (by rfl) rfl rfl (relay_begin hL1 (hW.blk 1 rfl) (hW.res 0 rfl)) ?_); rintro e w1 ⟨y1, rfl, hy1, hN⟩; replace hW := hW.comb3 hN; replace hW := hW.own_world; refine ⟨_, rfl, fun a hF => ?_⟩; replace hF := Fr.cast (v' := .tuple #[.agg #[.int .i64 y1.tick, .slice y1.ca y1.cells.length y1.cc, .slice y1.la y1.lines.length y1.lc], .int .i64 0]) rfl hF; refine pv hF hW (y_move hF rfl) (fun a hF => ?_); refine pv hF hW (y_extract hF rfl rfl) (fun a hF => ?_); refine pv hF hW (y_extract hF rfl rfl) (fun a hF => ?_); refine pe (e_alloc hF hW ze_30 rfl rfl rfl ?_)
  intro b1 a wc hF hW; refine pe (e_storeAll rfl hF hW rfl rfl 0 rfl rfl rfl (by kernel_rfl) sz_30 ?_); intro wc hW; refine pv hF hW (y_assign hF rfl) (fun a hF => ?_); refine l_nil ?_; replace hF := hF.ks [0, 1, 2] rfl; refine t_n ?_; refine c_sr ?_; refine pe (e_call hF rfl rfl en_35 (by rfl) rfl rfl (relay_any _) ?_); rintro e w1 ⟨L2, pa2, b2, sa2, rfl, hL2, hN⟩; replace hW := hW.comb2 hN; refine ⟨_, rfl, fun a hF => ?_⟩; refine pe (e_call hF rfl rfl en_16 (by rfl) rfl rfl (relay_run hL2 (hW.blk 1 rfl) (hW.res 0 rfl) 12 (by decide)) ?_); rintro e w1 ⟨y2, rfl, hy2, hN⟩; replace hW := hW.comb3 hN; replace hW := hW.own_world; refine ⟨_, rfl, fun a hF => ?_⟩; replace hF := Fr.cast (v' := .tuple #[.agg #[.int .i64 y2.tick, .slice y2.ca y2.cells.length y2.cc, .slice y2.la y2.lines.length y2.lc], .int .i64 0]) rfl hF; refine pv hF hW (y_move hF rfl) (fun a hF => ?_)
  refine pv hF hW (y_extract hF rfl rfl) (fun a hF => ?_); refine pv hF hW (y_extract hF rfl rfl) (fun a hF => ?_); refine pe (e_alloc hF hW ze_30 rfl rfl rfl ?_); intro b2 a wc hF hW; refine pe (e_storeAll rfl hF hW rfl rfl 0 rfl rfl rfl (by kernel_rfl) sz_30 ?_); intro wc hW; refine pv hF hW (y_assign hF rfl) (fun a hF => ?_); refine l_nil ?_; replace hF := hF.ks [0, 1, 2, 3, 4] rfl; refine t_n ?_
  refine c_cut (G := Nat × WD) (fun (gq : Nat × WD) => match gq with | ⟨b5, y3⟩ => [(5, .pointer (some ⟨b5, 0, none⟩)), (6, .int .i64 0)]) (fun (gq : Nat × WD) => match gq with | ⟨b5, y3⟩ => [.res y3.At, .blk b5 30 [.int .i64 y3.tick, .slice y3.ca y3.cells.length y3.cc, .slice y3.la y3.lines.length y3.lc]]) (fun (gq : Nat × WD) => match gq with | ⟨b5, y3⟩ => y3.wrl = stepW relaySys (beginW relaySys)) (Fr.cons hF (t := 0) rfl rfl (Fr.cons hF (t := 1) rfl rfl (Fr.cons hF (t := 2) rfl rfl (Fr.cons hF (t := 3) rfl rfl (Fr.cons hF (t := 4) rfl rfl (Fr.nil hF)))))) hW ?_ ?_
  · refine c_d mixed_ok hW (hW) ?_
    clear hW; intro wc hW hS
    refine dv 1 rfl hF hS (y_loadAll hF rfl 4 rfl Try.underlying30 rfl sz_30) (fun a hF => ?_); refine d_2 0 6 (by kernel_rfl) ?_ ?_
    · refine d_op rfl rfl (e_call hF rfl rfl en_35 (by rfl) rfl rfl (relay_any _) ?_); rintro e w1 ⟨L3, pa3, b3, sa3, rfl, hL3, hN⟩; replace hW := hW.comb2 hN; refine ⟨_, rfl, fun a hF => ?_⟩; refine ⟨((hW.del 0 rfl).del 0 rfl), ?_⟩; replace hS := ((hW.del 0 rfl).del 0 rfl); refine d_2 2 6 (by kernel_rfl) ?_ ?_
      · refine d_op rfl rfl (e_call hF rfl rfl en_18 (by rfl) rfl rfl (relay_step hL3 (hW.blk 1 rfl) (hW.res 0 rfl) (hW.res 7 rfl) hy1) ?_); rintro e w1 ⟨y3, rfl, hy3, hN⟩; replace hW := hW.comb3 hN; replace hW := hW.own_world; refine ⟨_, rfl, fun a hF => ?_⟩; replace hF := Fr.cast (v' := .tuple #[.agg #[.int .i64 y3.tick, .slice y3.ca y3.cells.length y3.cc, .slice y3.la y3.lines.length y3.lc], .int .i64 0]) rfl hF; refine ⟨(((hW.del 0 rfl).del 0 rfl).del 0 rfl), ?_⟩; replace hS := (((hW.del 0 rfl).del 0 rfl).del 0 rfl); refine dv 3 rfl hF hS (y_move hF rfl) (fun a hF => ?_); refine dv 4 rfl hF hS (y_extract hF rfl rfl) (fun a hF => ?_); refine dv 5 rfl hF hS (y_extract hF rfl rfl) (fun a hF => ?_); refine d_1 6 (by kernel_rfl) ?_; refine d_op rfl rfl (e_alloc hF hW ze_30 rfl rfl rfl ?_); intro b3 a wc hF hW; refine ⟨((((hW.del 0 rfl).del 0 rfl).del 0 rfl).del 0 rfl), ?_⟩
        replace hS := ((((hW.del 0 rfl).del 0 rfl).del 0 rfl).del 0 rfl); refine d_1 7 (by kernel_rfl) ?_; refine d_op rfl rfl (e_storeAll rfl hF hW rfl rfl 0 rfl rfl rfl (by kernel_rfl) sz_30 ?_); intro wc hW; refine ⟨((((hW.del 0 rfl).del 0 rfl).del 0 rfl).del 0 rfl), ?_⟩; replace hS := ((((hW.del 0 rfl).del 0 rfl).del 0 rfl).del 0 rfl); refine dv 8 rfl hF hS (y_assign hF rfl) (fun a hF => ?_); clear hS; refine d_nil (by kernel_rfl) ?_; replace hF := hF.ks [0, 1, 2, 3, 4, 5, 6] rfl; replace hW := hW.del 2 rfl; replace hW := hW.del 2 rfl; replace hW := hW.front 9 rfl rfl; replace hW := hW.front 9 rfl rfl; replace hW := hW.front 9 rfl rfl; replace hW := hW.front 9 rfl rfl; replace hW := hW.front 9 rfl rfl; replace hW := hW.front 9 rfl rfl; replace hW := hW.front 9 rfl rfl; replace hW := hW.front 9 rfl rfl; replace hW := hW.front 8 rfl rfl; replace hW := hW.front 9 rfl rfl; refine t_n ?_
        refine ⟨(b3, y3), ?_, ?_, ?_⟩
        · exact Fr.app (Fr.cons hF (t := 5) rfl rfl (Fr.cons hF (t := 6) rfl rfl (Fr.nil hF))) (Fr.cons hF (t := 0) rfl rfl (Fr.cons hF (t := 1) rfl rfl (Fr.cons hF (t := 2) rfl rfl (Fr.cons hF (t := 3) rfl rfl (Fr.cons hF (t := 4) rfl rfl (Fr.nil hF))))))
        · exact hW
        · exact hy3
      · refine d_op rfl rfl (e_alloc hF hW ze_30 rfl rfl rfl ?_); intro b4 a wc hF hW; refine ⟨(((hW.del 0 rfl).del 0 rfl).del 0 rfl), ?_⟩; replace hS := (((hW.del 0 rfl).del 0 rfl).del 0 rfl); refine d_1 2 (by kernel_rfl) ?_; refine d_op rfl rfl (e_call hF rfl rfl en_18 (by rfl) rfl rfl (relay_step hL3 (hW.blk 2 rfl) (hW.res 1 rfl) (hW.res 8 rfl) hy1) ?_); rintro e w1 ⟨y3, rfl, hy3, hN⟩; replace hW := hW.comb3 hN; replace hW := hW.own_world; refine ⟨_, rfl, fun a hF => ?_⟩; replace hF := Fr.cast (v' := .tuple #[.agg #[.int .i64 y3.tick, .slice y3.ca y3.cells.length y3.cc, .slice y3.la y3.lines.length y3.lc], .int .i64 0]) rfl hF; refine ⟨((((hW.del 0 rfl).del 0 rfl).del 0 rfl).del 0 rfl), ?_⟩; replace hS := ((((hW.del 0 rfl).del 0 rfl).del 0 rfl).del 0 rfl); refine dv 3 rfl hF hS (y_move hF rfl) (fun a hF => ?_); refine dv 4 rfl hF hS (y_extract hF rfl rfl) (fun a hF => ?_)
        refine dv 5 rfl hF hS (y_extract hF rfl rfl) (fun a hF => ?_); refine d_1 7 (by kernel_rfl) ?_; refine d_op rfl rfl (e_storeAll rfl hF hW rfl rfl 1 rfl rfl rfl (by kernel_rfl) sz_30 ?_); intro wc hW; refine ⟨((((hW.del 0 rfl).del 0 rfl).del 0 rfl).del 0 rfl), ?_⟩; replace hS := ((((hW.del 0 rfl).del 0 rfl).del 0 rfl).del 0 rfl); refine dv 8 rfl hF hS (y_assign hF rfl) (fun a hF => ?_); clear hS; refine d_nil (by kernel_rfl) ?_; replace hF := hF.ks [0, 1, 2, 3, 4, 5, 6] rfl; replace hW := hW.del 2 rfl; replace hW := hW.del 2 rfl; refine t_n ?_; refine ⟨(b4, y3), ?_, ?_, ?_⟩
        · exact Fr.app (Fr.cons hF (t := 5) rfl rfl (Fr.cons hF (t := 6) rfl rfl (Fr.nil hF))) (Fr.cons hF (t := 0) rfl rfl (Fr.cons hF (t := 1) rfl rfl (Fr.cons hF (t := 2) rfl rfl (Fr.cons hF (t := 3) rfl rfl (Fr.cons hF (t := 4) rfl rfl (Fr.nil hF))))))
        · exact hW
        · exact hy3
    · refine d_op rfl rfl (e_alloc hF hW ze_30 rfl rfl rfl ?_); intro b5 a wc hF hW; refine ⟨(hW.del 0 rfl), ?_⟩; replace hS := (hW.del 0 rfl); refine d_1 0 (by kernel_rfl) ?_; refine d_op rfl rfl (e_call hF rfl rfl en_35 (by rfl) rfl rfl (relay_any _) ?_); rintro e w1 ⟨L3, pa3, b3, sa3, rfl, hL3, hN⟩; replace hW := hW.comb2 hN; refine ⟨_, rfl, fun a hF => ?_⟩; refine ⟨(((hW.del 0 rfl).del 0 rfl).del 0 rfl), ?_⟩; replace hS := (((hW.del 0 rfl).del 0 rfl).del 0 rfl); refine d_1 2 (by kernel_rfl) ?_; refine d_op rfl rfl (e_call hF rfl rfl en_18 (by rfl) rfl rfl (relay_step hL3 (hW.blk 1 rfl) (hW.res 0 rfl) (hW.res 8 rfl) hy1) ?_); rintro e w1 ⟨y3, rfl, hy3, hN⟩; replace hW := hW.comb3 hN; replace hW := hW.own_world; refine ⟨_, rfl, fun a hF => ?_⟩
      replace hF := Fr.cast (v' := .tuple #[.agg #[.int .i64 y3.tick, .slice y3.ca y3.cells.length y3.cc, .slice y3.la y3.lines.length y3.lc], .int .i64 0]) rfl hF; refine ⟨((((hW.del 0 rfl).del 0 rfl).del 0 rfl).del 0 rfl), ?_⟩; replace hS := ((((hW.del 0 rfl).del 0 rfl).del 0 rfl).del 0 rfl); refine dv 3 rfl hF hS (y_move hF rfl) (fun a hF => ?_); refine dv 4 rfl hF hS (y_extract hF rfl rfl) (fun a hF => ?_); refine dv 5 rfl hF hS (y_extract hF rfl rfl) (fun a hF => ?_); refine d_1 7 (by kernel_rfl) ?_; refine d_op rfl rfl (e_storeAll rfl hF hW rfl rfl 3 rfl rfl rfl (by kernel_rfl) sz_30 ?_); intro wc hW; refine ⟨((((hW.del 0 rfl).del 0 rfl).del 0 rfl).del 0 rfl), ?_⟩; replace hS := ((((hW.del 0 rfl).del 0 rfl).del 0 rfl).del 0 rfl); refine dv 8 rfl hF hS (y_assign hF rfl) (fun a hF => ?_); clear hS; refine d_nil (by kernel_rfl) ?_; replace hF := hF.ks [0, 1, 2, 3, 4, 5, 6] rfl
      replace hW := hW.del 1 rfl; replace hW := hW.del 1 rfl; refine t_n ?_; refine ⟨(b5, y3), ?_, ?_, ?_⟩
      · exact Fr.app (Fr.cons hF (t := 5) rfl rfl (Fr.cons hF (t := 6) rfl rfl (Fr.nil hF))) (Fr.cons hF (t := 0) rfl rfl (Fr.cons hF (t := 1) rfl rfl (Fr.cons hF (t := 2) rfl rfl (Fr.cons hF (t := 3) rfl rfl (Fr.cons hF (t := 4) rfl rfl (Fr.nil hF))))))
      · exact hW
      · exact hy3
  · clear hF hW
    try clear a
    intro gq a wc hC hF hW
    obtain ⟨b5, y3⟩ := gq
    dsimp only at hC
    have hy3 := hC
    obtain ⟨l12, e0, o1, o2, e2, o3⟩ := relay12 hy2
    obtain ⟨l1, rd1, tk1⟩ := relay1 hy3
    have i0 : 0 < y2.cells.length := (by omega)
    have i1 : 1 < y2.cells.length := (by omega)
    have i2 : 2 < y2.cells.length := (by omega)
    have i3 : 3 < y2.cells.length := (by omega)
    have j0 : 0 < y3.cells.length := (by omega)
    refine c_sd mixed_ok hW (hW) ?_
    clear hW; intro wc hW hS
    refine dv 1 rfl hF hS (y_loadAll hF rfl 6 rfl Try.underlying30 rfl sz_30) (fun a hF => ?_); refine d_1 0 (by kernel_rfl) ?_; refine d_op rfl rfl (e_call hF rfl rfl en_35 (by rfl) rfl rfl (relay_any _) ?_); rintro e w1 ⟨L4, pa4, b4, sa4, rfl, hL4, hN⟩; replace hW := hW.comb2 hN; refine ⟨_, rfl, fun a hF => ?_⟩; refine ⟨((hW.del 0 rfl).del 0 rfl), ?_⟩; replace hS := ((hW.del 0 rfl).del 0 rfl); refine d_1 2 (by kernel_rfl) ?_; refine d_op rfl rfl (e_call hF rfl rfl en_13 (by rfl) rfl rfl (relay_world hL4 (hW.blk 1 rfl) (hW.res 0 rfl) (hW.res 9 rfl) 0 (by rw [hy1]; kernel_rfl)) ?_); rintro e w1 ⟨rfl, hb⟩; replace hW := hW.kept hb; clear hb; refine ⟨_, rfl, fun a hF => ?_⟩; refine ⟨((hW.del 0 rfl).del 0 rfl), ?_⟩; replace hS := ((hW.del 0 rfl).del 0 rfl); refine dv 3 rfl hF hS (y_eql hF rfl rfl) (fun a hF => ?_); replace hF := hF.tt; refine dv 4 rfl hF hS (y_move hF rfl) (fun a hF => ?_)
    replace hF := hF.tt; refine dv 6 rfl hF hS (y_build hF rfl (fun w => bu_KernBg_30_  w)) (fun a hF => ?_) (ws hF rfl rfl); refine d_1 5 (by kernel_rfl) ?_; refine d_op rfl (ws hF rfl rfl) (e_call hF rfl rfl en_35 (by rfl) rfl rfl (relay_any _) ?_); rintro e w1 ⟨L5, pa5, b5, sa5, rfl, hL5, hN⟩; replace hW := hW.comb2 hN; refine ⟨_, rfl, fun a hF => ?_⟩; refine ⟨((((hW.del 0 rfl).del 0 rfl).del 0 rfl).del 0 rfl), ?_⟩; replace hS := ((((hW.del 0 rfl).del 0 rfl).del 0 rfl).del 0 rfl); refine d_1 7 (by kernel_rfl) ?_; refine d_op rfl (ws hF rfl rfl) (e_call hF rfl rfl en_13 (by rfl) rfl rfl (relay_world (y := WD.zero) hL5 (hW.blk 1 rfl) (hW.res 0 rfl) (WD.zero_at _) 1 (by kernel_rfl)) ?_); rintro e w1 ⟨rfl, hb⟩; replace hW := hW.kept hb; clear hb; refine ⟨_, rfl, fun a hF => ?_⟩; refine ⟨((((hW.del 0 rfl).del 0 rfl).del 0 rfl).del 0 rfl), ?_⟩
    replace hS := ((((hW.del 0 rfl).del 0 rfl).del 0 rfl).del 0 rfl); refine dv 8 rfl hF hS (y_eql hF rfl rfl) (fun a hF => ?_) (ws hF rfl rfl); replace hF := hF.tt; refine dv 9 rfl hF hS (y_pick hF rfl rfl) (fun a hF => ?_); replace hF := hF.tt; refine dv 10 rfl hF hS (y_move hF rfl) (fun a hF => ?_); replace hF := hF.tt; refine dv 11 rfl hF hS (y_move hF rfl) (fun a hF => ?_) (ws hF rfl rfl); refine dv 12 rfl hF hS (y_eql hF rfl rfl) (fun a hF => ?_) (ws hF rfl rfl); replace hF := hF.tt; refine dv 13 rfl hF hS (y_pick hF rfl rfl) (fun a hF => ?_); replace hF := hF.tt; refine dv 14 rfl hF hS (y_move hF rfl) (fun a hF => ?_); replace hF := hF.tt; refine dv 15 rfl hF hS (y_move hF rfl) (fun a hF => ?_) (ws hF rfl rfl); refine dv 16 rfl hF hS (y_eql hF rfl rfl) (fun a hF => ?_) (ws hF rfl rfl); replace hF := hF.tt; refine dv 17 rfl hF hS (y_pick hF rfl rfl) (fun a hF => ?_)
    replace hF := hF.tt; refine dv 18 rfl hF hS (y_move hF rfl) (fun a hF => ?_); replace hF := hF.tt; refine dv 19 rfl hF hS (y_move hF rfl) (fun a hF => ?_) (ws hF rfl rfl); refine dv 20 rfl hF hS (y_eql hF rfl rfl) (fun a hF => ?_) (ws hF rfl rfl); replace hF := hF.tt; refine dv 21 rfl hF hS (y_pick hF rfl rfl) (fun a hF => ?_); replace hF := hF.tt; refine dv 22 rfl hF hS (y_move hF rfl) (fun a hF => ?_); replace hF := hF.tt; refine dv 23 rfl hF hS (y_fieldOwn hF rfl fa_30_1) (fun a hF => ?_) (ws hF rfl rfl); refine dv 24 rfl hF hS (y_loadOwn hF rfl 2 rfl rfl Try.underlying27 rfl) (fun a hF => ?_) (ws hF rfl rfl); refine dv 25 rfl hF hS (y_len hF rfl Try.underlying27) (fun a hF => ?_) (ws hF rfl rfl); refine dv 26 rfl hF hS (y_eql hF rfl rfl) (fun a hF => ?_) (ws hF rfl rfl); refine Fr.splitD hF ?_ ?_
    · intro h6 hF; refine dv 27 rfl hF hS (y_pick hF rfl rfl) (fun a hF => ?_); refine dv 28 rfl hF hS (y_move hF rfl) (fun a hF => ?_); refine dv 29 rfl hF hS (y_fieldOwn hF rfl fa_30_1) (fun a hF => ?_) (ws hF rfl rfl); refine dv 30 rfl hF hS (y_loadOwn hF rfl 2 rfl rfl Try.underlying27 rfl) (fun a hF => ?_) (ws hF rfl rfl); refine dv 31 rfl hF hS (y_indexS hF rfl rfl (by exact i0) Try.underlying27 sz_48 (fun w h => (h.res 3 rfl).cellsR)) (fun a hF => ?_) (ws hF rfl rfl); refine dv 32 rfl hF hS (y_fieldRow hF rfl fa_48_5) (fun a hF => ?_) (ws hF rfl rfl); refine dv 33 rfl hF hS (y_loadRow hF rfl (fun w h => (h.res 3 rfl).cellsR) (by exact i0) (encC_end _) Try.underlying3 rfl) (fun a hF => ?_) (ws hF rfl rfl); refine dv 34 rfl hF hS (y_eql hF rfl rfl) (fun a hF => ?_) (ws hF rfl rfl); refine Fr.splitD hF ?_ ?_
      · intro h7 hF; refine dv 35 rfl hF hS (y_pick hF rfl rfl) (fun a hF => ?_); refine dv 36 rfl hF hS (y_move hF rfl) (fun a hF => ?_); refine dv 37 rfl hF hS (y_fieldOwn hF rfl fa_30_1) (fun a hF => ?_) (ws hF rfl rfl); refine dv 38 rfl hF hS (y_loadOwn hF rfl 2 rfl rfl Try.underlying27 rfl) (fun a hF => ?_) (ws hF rfl rfl); refine dv 39 rfl hF hS (y_indexS hF rfl rfl (by exact i1) Try.underlying27 sz_48 (fun w h => (h.res 3 rfl).cellsR)) (fun a hF => ?_) (ws hF rfl rfl); refine dv 40 rfl hF hS (y_fieldRow hF rfl fa_48_4) (fun a hF => ?_) (ws hF rfl rfl); refine dv 41 rfl hF hS (y_loadRow hF rfl (fun w h => (h.res 3 rfl).cellsR) (by exact i1) (encC_out _) Try.underlying46 rfl) (fun a hF => ?_) (ws hF rfl rfl); refine d_1 42 (by kernel_rfl) ?_; refine d_op rfl (ws hF rfl rfl) (e_buildSlice hF hW rfl (fun w => bs_KernBg_46_1_0 _ w) rfl rfl rfl ?_); intro b8 a wc hF hW
        refine ⟨(((((hW.del 0 rfl).del 0 rfl).del 0 rfl).del 0 rfl).del 0 rfl), ?_⟩; replace hS := (((((hW.del 0 rfl).del 0 rfl).del 0 rfl).del 0 rfl).del 0 rfl); refine d_1 43 (by kernel_rfl) ?_; refine d_op rfl (ws hF rfl rfl) (e_call hF rfl rfl en_19 (by rfl) rfl rfl (same_ints ((hW.res 8 rfl).cell (k := 1) (by omega)) (ints_blk (hW.blk 0 rfl) (xs := [6]) rfl rfl (by decide)) o1) ?_); rintro e w1 ⟨rfl, hb⟩; replace hW := hW.kept hb; clear hb; refine ⟨_, rfl, fun a hF => ?_⟩; refine ⟨(((((hW.del 0 rfl).del 0 rfl).del 0 rfl).del 0 rfl).del 0 rfl), ?_⟩; replace hS := (((((hW.del 0 rfl).del 0 rfl).del 0 rfl).del 0 rfl).del 0 rfl); refine dv 44 rfl hF hS (y_pick hF rfl rfl) (fun a hF => ?_); refine dv 45 rfl hF hS (y_move hF rfl) (fun a hF => ?_); refine dv 46 rfl hF hS (y_fieldOwn hF rfl fa_30_1) (fun a hF => ?_) (ws hF rfl rfl)
        refine dv 47 rfl hF hS (y_loadOwn hF rfl 2 rfl rfl Try.underlying27 rfl) (fun a hF => ?_) (ws hF rfl rfl); refine dv 48 rfl hF hS (y_indexS hF rfl rfl (by exact i2) Try.underlying27 sz_48 (fun w h => (h.res 3 rfl).cellsR)) (fun a hF => ?_) (ws hF rfl rfl); refine dv 49 rfl hF hS (y_fieldRow hF rfl fa_48_4) (fun a hF => ?_) (ws hF rfl rfl); refine dv 50 rfl hF hS (y_loadRow hF rfl (fun w h => (h.res 3 rfl).cellsR) (by exact i2) (encC_out _) Try.underlying46 rfl) (fun a hF => ?_) (ws hF rfl rfl); refine d_1 51 (by kernel_rfl) ?_; refine d_op rfl (ws hF rfl rfl) (e_buildSlice hF hW rfl (fun w => bs_KernBg_46_1_0 _ w) rfl rfl rfl ?_); intro b9 a wc hF hW; refine ⟨((((((hW.del 0 rfl).del 0 rfl).del 0 rfl).del 0 rfl).del 0 rfl).del 0 rfl), ?_⟩; replace hS := ((((((hW.del 0 rfl).del 0 rfl).del 0 rfl).del 0 rfl).del 0 rfl).del 0 rfl); refine d_1 52 (by kernel_rfl) ?_
        refine d_op rfl (ws hF rfl rfl) (e_call hF rfl rfl en_19 (by rfl) rfl rfl (same_ints ((hW.res 9 rfl).cell (k := 2) (by omega)) (ints_blk (hW.blk 0 rfl) (xs := [6]) rfl rfl (by decide)) o2) ?_); rintro e w1 ⟨rfl, hb⟩; replace hW := hW.kept hb; clear hb; refine ⟨_, rfl, fun a hF => ?_⟩; refine ⟨((((((hW.del 0 rfl).del 0 rfl).del 0 rfl).del 0 rfl).del 0 rfl).del 0 rfl), ?_⟩; replace hS := ((((((hW.del 0 rfl).del 0 rfl).del 0 rfl).del 0 rfl).del 0 rfl).del 0 rfl); refine dv 53 rfl hF hS (y_pick hF rfl rfl) (fun a hF => ?_); refine dv 54 rfl hF hS (y_move hF rfl) (fun a hF => ?_); refine dv 55 rfl hF hS (y_fieldOwn hF rfl fa_30_1) (fun a hF => ?_) (ws hF rfl rfl); refine dv 56 rfl hF hS (y_loadOwn hF rfl 2 rfl rfl Try.underlying27 rfl) (fun a hF => ?_) (ws hF rfl rfl)
        refine dv 57 rfl hF hS (y_indexS hF rfl rfl (by exact i2) Try.underlying27 sz_48 (fun w h => (h.res 3 rfl).cellsR)) (fun a hF => ?_) (ws hF rfl rfl); refine dv 58 rfl hF hS (y_fieldRow hF rfl fa_48_5) (fun a hF => ?_) (ws hF rfl rfl); refine dv 59 rfl hF hS (y_loadRow hF rfl (fun w h => (h.res 3 rfl).cellsR) (by exact i2) (encC_end _) Try.underlying3 rfl) (fun a hF => ?_) (ws hF rfl rfl); refine dv 60 rfl hF hS (y_eql hF rfl rfl) (fun a hF => ?_) (ws hF rfl rfl); refine Fr.splitD hF ?_ ?_
        · intro h10 hF; refine dv 61 rfl hF hS (y_pick hF rfl rfl) (fun a hF => ?_); refine dv 62 rfl hF hS (y_move hF rfl) (fun a hF => ?_); refine dv 63 rfl hF hS (y_fieldOwn hF rfl fa_30_1) (fun a hF => ?_) (ws hF rfl rfl); refine dv 64 rfl hF hS (y_loadOwn hF rfl 2 rfl rfl Try.underlying27 rfl) (fun a hF => ?_) (ws hF rfl rfl); refine dv 65 rfl hF hS (y_indexS hF rfl rfl (by exact i3) Try.underlying27 sz_48 (fun w h => (h.res 3 rfl).cellsR)) (fun a hF => ?_) (ws hF rfl rfl); refine dv 66 rfl hF hS (y_fieldRow hF rfl fa_48_4) (fun a hF => ?_) (ws hF rfl rfl); refine dv 67 rfl hF hS (y_loadRow hF rfl (fun w h => (h.res 3 rfl).cellsR) (by exact i3) (encC_out _) Try.underlying46 rfl) (fun a hF => ?_) (ws hF rfl rfl); refine d_1 68 (by kernel_rfl) ?_; refine d_op rfl (ws hF rfl rfl) (e_buildSlice hF hW rfl (fun w => bs_KernBg_46_1_0 _ w) rfl rfl rfl ?_); intro b11 a wc hF hW
          refine ⟨(((((((hW.del 0 rfl).del 0 rfl).del 0 rfl).del 0 rfl).del 0 rfl).del 0 rfl).del 0 rfl), ?_⟩; replace hS := (((((((hW.del 0 rfl).del 0 rfl).del 0 rfl).del 0 rfl).del 0 rfl).del 0 rfl).del 0 rfl); refine d_1 69 (by kernel_rfl) ?_; refine d_op rfl (ws hF rfl rfl) (e_call hF rfl rfl en_19 (by rfl) rfl rfl (same_ints ((hW.res 10 rfl).cell (k := 3) (by omega)) (ints_blk (hW.blk 0 rfl) (xs := [0]) rfl rfl (by decide)) o3) ?_); rintro e w1 ⟨rfl, hb⟩; replace hW := hW.kept hb; clear hb; refine ⟨_, rfl, fun a hF => ?_⟩; refine ⟨(((((((hW.del 0 rfl).del 0 rfl).del 0 rfl).del 0 rfl).del 0 rfl).del 0 rfl).del 0 rfl), ?_⟩; replace hS := (((((((hW.del 0 rfl).del 0 rfl).del 0 rfl).del 0 rfl).del 0 rfl).del 0 rfl).del 0 rfl); refine dv 70 rfl hF hS (y_pick hF rfl rfl) (fun a hF => ?_); refine dv 71 rfl hF hS (y_move hF rfl) (fun a hF => ?_)
          refine dv 72 rfl hF hS (y_fieldOwn hF rfl fa_30_0) (fun a hF => ?_) (ws hF rfl rfl); refine dv 73 rfl hF hS (y_loadOwn hF rfl 1 rfl rfl Try.underlying3 rfl) (fun a hF => ?_) (ws hF rfl rfl); refine dv 74 rfl hF hS (y_eql hF rfl rfl) (fun a hF => ?_) (ws hF rfl rfl); refine Fr.splitD hF ?_ ?_
          · intro h12 hF; refine dv 75 rfl hF hS (y_pick hF rfl rfl) (fun a hF => ?_); refine dv 76 rfl hF hS (y_move hF rfl) (fun a hF => ?_); refine dv 77 rfl hF hS (y_fieldOwn hF rfl fa_30_1) (fun a hF => ?_) (ws hF rfl rfl); refine dv 78 rfl hF hS (y_loadOwn hF rfl 1 rfl rfl Try.underlying27 rfl) (fun a hF => ?_) (ws hF rfl rfl); refine dv 79 rfl hF hS (y_indexS hF rfl rfl (by exact j0) Try.underlying27 sz_48 (fun w h => (h.res 0 rfl).cellsR)) (fun a hF => ?_) (ws hF rfl rfl); refine dv 80 rfl hF hS (y_fieldRow hF rfl fa_48_3) (fun a hF => ?_) (ws hF rfl rfl); refine dv 81 rfl hF hS (y_loadRow hF rfl (fun w h => (h.res 0 rfl).cellsR) (by exact j0) (encC_read _) Try.underlying3 rfl) (fun a hF => ?_) (ws hF rfl rfl); refine dv 82 rfl hF hS (y_eql hF rfl rfl) (fun a hF => ?_) (ws hF rfl rfl); refine Fr.splitD hF ?_ ?_
            · intro h13 hF; refine dv 83 rfl hF hS (y_pick hF rfl rfl) (fun a hF => ?_); replace hF := hF.drop 0; refine dv 84 rfl hF hS (y_assign hF rfl) (fun a hF => ?_); clear hS; refine d_nil (by kernel_rfl) ?_; replace hF := hF.ks [0, 1, 2, 3, 4, 5, 6] rfl; refine t_n ?_; refine wp_ret ?_; refine ret1 Try.results12 hF (rv_t hF rfl) ?_
              exact ⟨rfl, hW.below⟩
            · intro h13 hF; exfalso
              exact h13 rd1
          · intro h12 hF; exfalso
            exact h12 tk1
        · intro h10 hF; exfalso
          exact h10 e2
      · intro h7 hF; exfalso
        exact h7 e0
    · intro h6 hF; exfalso
      exact h6 (by rw [l12]; rfl)
end Go.Proofs.Ytoecpblabajlmaa
