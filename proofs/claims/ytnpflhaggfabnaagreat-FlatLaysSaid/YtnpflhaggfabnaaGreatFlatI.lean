/- flatBegun answers true. -/
import Derived.Test.YtnpflhaggfabnaaGreatFlatF
import Derived.Test.YtnpflhaggfabnaaGreatFlatH
import Derived.Test.YtnpflhaggfabnaaGreatKernO
namespace Go.Proofs.YtnpflhaggfabnaaGreat
set_option linter.unusedVariables false
set_option linter.unusedSimpArgs false
open Go.ChangeShapes Go.WideShapes Go.ChangeAt Go.RowKit

set_option maxRecDepth 100000

/-- what was laid of a right world is lifted as it was -/
theorem lift_lay {x : SysD} {y : WD} (h : chkWorld x.sys y.wrl = 0) : liftOf x.sys (rowL y.wrl) = some y.wrl := by
  obtain ⟨-, hcl, hll, hco, hlv⟩ := world_small h
  have e1 : x.sys.parts.length = y.wrl.cells.length := by rw [sysP_len', ← hcl]; simp [WD.wrl]
  have e2 : x.sys.chans.length = y.wrl.lines.length := by rw [show x.sys.chans.length = x.chans.length from rfl, ← hll]; simp [WD.wrl]
  have e3 := lift_row (w := y.wrl) (fun c hc => by obtain ⟨q, hq, rfl⟩ := List.mem_map.1 hc; exact ⟨q.wf, hco q hq⟩) (fun l hl => by obtain ⟨q, hq, rfl⟩ := List.mem_map.1 hl; exact hlv q hq)
  unfold liftOf
  rw [e1, e2, e3, Option.bind_some, if_pos h]
def row7 : List Int := rowL (runW relaySys 7)
def own1 : List Bool := ownL relaySys 1
theorem row7_len : row7.length = 137 := by kernel_rfl
theorem row7_0 : row7.getD 0 0 = 7 := by kernel_rfl
theorem own1_len : own1.length = 137 := by kernel_rfl
theorem own1_0 : own1.getD 0 false = true := by kernel_rfl
theorem own1_1 : own1.getD 1 false = false := by kernel_rfl
theorem own1_33 : own1.getD 33 false = true := by kernel_rfl
theorem own1_65 : own1.getD 65 false = false := by kernel_rfl
theorem own1_129 : own1.getD 129 false = true := by kernel_rfl
theorem chk7 : chkWorld relaySys (runW relaySys 7) = 0 := by kernel_rfl
section
variable {L : List PP} {pa sa : Option Addr} {b : Nat} {T : TypeId} {u : World} {y : WD}
theorem relay_lay (hL : L.map Prod.fst = relayP) (hB : Blk u b T (relayC.flatMap Chn.cells)) (h : RelayR L pa sa u) (hy : y.At u) (hyw : y.wrl = runW relaySys 7) :
    Calls Tryz.prog 6 #[.agg #[.slice pa 4 4, .slice (some ⟨b, 0, none⟩) 2 2, .slice sa 4 4], y.val] u fun e w' => ∃ A c, e = .returned (.tuple #[.slice A row7.length c, .int .i64 0]) ∧ Below u.heap.size u w' ∧ OwnRes u w' (fun v => Ints v (.slice A row7.length c) row7) := by
  have := flatLay_any (relay_at hL rfl hB h) hy
  rw [relay_val hL rfl] at this
  refine this.mono ?_
  rintro e w' ⟨R, A, c, rfl, hR, hb, hr⟩
  have e1 : (relayD L pa b sa relayC).sys = relaySys := relay_sys hL
  have e2 : R = row7 := by rw [hR, e1, hyw]; exact if_pos chk7
  have e3 : chkWorld (relayD L pa b sa relayC).sys y.wrl = 0 := by rw [e1, hyw]; exact chk7
  rw [e3]
  subst e2
  exact ⟨A, c, rfl, hb, hr⟩
theorem relay_lift {A : Option Addr} {c : Nat} (hL : L.map Prod.fst = relayP) (hB : Blk u b T (relayC.flatMap Chn.cells)) (h : RelayR L pa sa u) (hy : y.wrl = runW relaySys 7) (hI : Ints u (.slice A row7.length c) row7) :
    Calls Tryz.prog 9 #[.agg #[.slice pa 4 4, .slice (some ⟨b, 0, none⟩) 2 2, .slice sa 4 4], .slice A row7.length c] u fun e w' => ∃ z : WD, e = .returned (.tuple #[z.val, .int .i64 0]) ∧ z.wrl = runW relaySys 7 ∧ Below u.heap.size u w' ∧ OwnRes u w' z.At := by
  have := flatLift_any (relay_at hL rfl hB h) hI
  rw [relay_val hL rfl] at this
  refine this.mono ?_
  rintro e w' ⟨z, rfl, hz, hb, hr⟩
  have e1 : (relayD L pa b sa relayC).sys = relaySys := relay_sys hL
  have e2 : liftOf (relayD L pa b sa relayC).sys row7 = some (runW relaySys 7) := by
    have := lift_lay (x := relayD L pa b sa relayC) (y := y) (by rw [e1, hy]; exact chk7)
    rwa [hy] at this
  have e0 : chkSys (relayD L pa b sa relayC).sys = 0 := by rw [e1]; exact relaySys_ok
  have e3 : liftErr (relayD L pa b sa relayC).sys row7 = 0 := by unfold liftErr; rw [if_pos e0, e2]; rfl
  have e4 : liftTo (relayD L pa b sa relayC).sys row7 = runW relaySys 7 := by unfold liftTo; rw [if_pos e0, e2]; rfl
  rw [e3]
  exact ⟨z, rfl, hz.trans e4, hb, hr⟩
theorem relay_own (hL : L.map Prod.fst = relayP) (hB : Blk u b T (relayC.flatMap Chn.cells)) (h : RelayR L pa sa u) :
    Calls Tryz.prog 15 #[.agg #[.slice pa 4 4, .slice (some ⟨b, 0, none⟩) 2 2, .slice sa 4 4], .int .i64 1] u fun e w' => ∃ A c, e = .returned (.tuple #[.slice A own1.length c, .int .i64 0]) ∧ Below u.heap.size u w' ∧ OwnRes u w' (fun v => Flat encB 1 v (.slice A own1.length c) own1) := by
  have := flatOwn_any (relay_at hL rfl hB h) 1
  rw [relay_val hL rfl] at this
  refine this.mono ?_
  rintro e w' ⟨R, A, c, rfl, hR, hb, hr⟩
  have e1 : (relayD L pa b sa relayC).sys = relaySys := relay_sys hL
  have e0 : thereErr relaySys 1 = 0 := by kernel_rfl
  have e2 : R = own1 := by rw [hR, e1]; exact if_pos e0
  rw [e1, e0]
  subst e2
  exact ⟨A, c, rfl, hb, hr⟩
end
theorem own_rf {u : World} {A : Option Addr} {n c : Nat} {l : List Bool} (h : Flat encB 1 u (.slice A n c) l) : RF u A n 1 (fun k => [.bool (l.getD k false)]) := h.rf encB_len false
set_option maxHeartbeats 8000000 in
theorem flatBegun_any (w : World) : Calls Tryz.prog 12 #[] w fun e w' => e = .returned (.bool true) ∧ Below w.heap.size w w' := by
  refine enter Tryz.func12 rfl Tryz.ntmps12 rfl fun a hF => ?_
  have hW := Wd.start w NoB
  refine c_sr <| pv hF hW (y_assign hF rfl) fun a hF => l_nil <| t_n <| c_sr ?_; refine pe (e_call hF rfl rfl en_45 (by rfl) rfl rfl (relay_any _) ?_); rintro e w1 ⟨L1, pa1, b1, sa1, rfl, hL1, hN⟩; replace hW := hW.comb2 hN; refine ⟨_, rfl, fun a hF => ?_⟩; refine pe (e_call hF rfl rfl en_44 (by rfl) rfl rfl (relay_run hL1 (hW.blk 1 rfl) (hW.res 0 rfl) 7 (by decide)) ?_); rintro e w1 ⟨y1, rfl, hy1, hN⟩; replace hW := hW.comb3 hN; replace hW := hW.own_world; refine ⟨_, rfl, fun a hF => ?_⟩; replace hF := Fr.cast (v' := .tuple #[.agg #[.int .i64 y1.tick, .slice y1.ca y1.cells.length y1.cc, .slice y1.la y1.lines.length y1.lc], .int .i64 0]) rfl hF; refine pv hF hW (y_move hF rfl) fun a hF => pv hF hW (y_extract hF rfl rfl) fun a hF => pv hF hW (y_extract hF rfl rfl) fun a hF => ?_; refine pe (e_alloc hF hW ze_30 rfl rfl rfl ?_); intro b1 a wc hF hW; refine pe (e_storeAll rfl hF hW rfl rfl 0 rfl rfl rfl (by kernel_rfl) sz_30 ?_); intro wc hW; refine pv hF hW (y_assign hF rfl) fun a hF => l_nil ?_; replace hF := hF.ks [0, 1, 2] rfl; refine t_n <| c_sd mixed_ok hW (hW) ?_
  clear hW; intro wc hW hS
  refine dv 1 rfl hF hS (y_loadAll hF rfl 0 rfl Tryz.underlying30 rfl sz_30) fun a hF => d_1 0 (by kernel_rfl) ?_; refine d_op rfl rfl (e_call hF rfl rfl en_45 (by rfl) rfl rfl (relay_any _) ?_); rintro e w1 ⟨L2, pa2, b2, sa2, rfl, hL2, hN⟩; replace hW := hW.comb2 hN; refine ⟨_, rfl, fun a hF => ?_⟩; replace hS := ((hW.del 0 rfl).del 0 rfl); refine ⟨hS, ?_⟩; refine d_1 2 (by kernel_rfl) ?_; refine d_op rfl rfl (e_call hF rfl rfl en_6 (by rfl) rfl rfl (relay_lay hL2 (hW.blk 1 rfl) (hW.res 0 rfl) (hW.res 3 rfl) hy1) ?_); rintro e w1 ⟨Al, cl, rfl, hb, hr⟩; replace hW := hW.gotR hb hr; refine ⟨_, rfl, fun a hF => ?_⟩; replace hS := (((hW.del 0 rfl).del 0 rfl).del 0 rfl); refine ⟨hS, ?_⟩; refine dv 3 rfl hF hS (y_move hF rfl) fun a hF => dv 4 rfl hF hS (y_extract hF rfl rfl) fun a hF => dv 5 rfl hF hS (y_extract hF rfl rfl) fun a hF => dv 6 rfl hF hS (y_assign hF rfl) fun a hF => dv 7 rfl hF hS (y_assign hF rfl) fun a hF => ?_; clear hS; refine d_nil (by kernel_rfl) ?_; replace hF := hF.ks [0, 1, 2, 3, 4] rfl; refine t_n <| c_sr ?_; refine pe (e_call hF rfl rfl en_45 (by rfl) rfl rfl (relay_any _) ?_); rintro e w1 ⟨L3, pa3, b3, sa3, rfl, hL3, hN⟩; replace hW := hW.comb2 hN; refine ⟨_, rfl, fun a hF => ?_⟩; refine pv hF hW (y_move hF rfl) fun a hF => ?_; refine pe (e_call hF rfl rfl en_9 (by rfl) rfl rfl (relay_lift hL3 (hW.blk 1 rfl) (hW.res 0 rfl) hy1 (hW.res 2 rfl)) ?_); rintro e w1 ⟨y2, rfl, hy2, hb, hr⟩; replace hW := hW.gotR hb hr; refine ⟨_, rfl, fun a hF => ?_⟩; replace hF := Fr.cast (v' := .tuple #[.agg #[.int .i64 y2.tick, .slice y2.ca y2.cells.length y2.cc, .slice y2.la y2.lines.length y2.lc], .int .i64 0]) rfl hF; refine pv hF hW (y_move hF rfl) fun a hF => pv hF hW (y_extract hF rfl rfl) fun a hF => pv hF hW (y_extract hF rfl rfl) fun a hF => ?_; refine pe (e_alloc hF hW ze_30 rfl rfl rfl ?_); intro b2 a wc hF hW; refine pe (e_storeAll rfl hF hW rfl rfl 0 rfl rfl rfl (by kernel_rfl) sz_30 ?_); intro wc hW; refine pv hF hW (y_assign hF rfl) fun a hF => l_nil ?_; replace hF := hF.ks [0, 1, 2, 3, 4, 5, 6] rfl; refine t_n <| c_sr ?_; refine pe (e_call hF rfl rfl en_45 (by rfl) rfl rfl (relay_any _) ?_); rintro e w1 ⟨L4, pa4, b4, sa4, rfl, hL4, hN⟩; replace hW := hW.comb2 hN; refine ⟨_, rfl, fun a hF => ?_⟩; refine pe (e_call hF rfl rfl en_15 (by rfl) rfl rfl (relay_own hL4 (hW.blk 1 rfl) (hW.res 0 rfl)) ?_); rintro e w1 ⟨Ao, co, rfl, hb, hr⟩; replace hW := hW.gotR hb hr; refine ⟨_, rfl, fun a hF => ?_⟩; refine pv hF hW (y_move hF rfl) fun a hF => pv hF hW (y_extract hF rfl rfl) fun a hF => pv hF hW (y_extract hF rfl rfl) fun a hF => pv hF hW (y_assign hF rfl) fun a hF => pv hF hW (y_assign hF rfl) fun a hF => l_nil ?_; replace hF := hF.ks [0, 1, 2, 3, 4, 5, 6, 7, 8] rfl; refine t_n <| c_sr <| pv hF hW (y_move hF rfl) fun a hF => ?_
  refine pv hF hW (y_eql hF rfl rfl) fun a hF => ?_; replace hF := hF.tt; refine pv hF hW (y_move hF rfl) fun a hF => ?_; replace hF := hF.tt; refine pvg hF hW (y_move hF rfl) (ws hF rfl rfl) fun a hF => pvg hF hW (y_eql hF rfl rfl) (ws hF rfl rfl) fun a hF => ?_; replace hF := hF.tt; refine pv hF hW (y_pick hF rfl rfl) fun a hF => ?_; replace hF := hF.tt; refine pv hF hW (y_move hF rfl) fun a hF => ?_; replace hF := hF.tt; refine pvg hF hW (y_move hF rfl) (ws hF rfl rfl) fun a hF => pvg hF hW (y_eql hF rfl rfl) (ws hF rfl rfl) fun a hF => ?_; replace hF := hF.tt; refine pv hF hW (y_pick hF rfl rfl) fun a hF => ?_; replace hF := hF.tt; refine pv hF hW (y_move hF rfl) fun a hF => ?_; replace hF := hF.tt; refine pvg hF hW (y_move hF rfl) (ws hF rfl rfl) fun a hF => pvg hF hW (y_eql hF rfl rfl) (ws hF rfl rfl) fun a hF => ?_; replace hF := hF.tt; refine pv hF hW (y_pick hF rfl rfl) fun a hF => ?_; replace hF := hF.tt; refine pv hF hW (y_move hF rfl) fun a hF => ?_; replace hF := hF.tt; refine pvg hF hW (y_move hF rfl) (ws hF rfl rfl) fun a hF => pvg hF hW (y_len hF rfl Tryz.underlying31) (ws hF rfl rfl) fun a hF => pvg hF hW (y_eql hF rfl rfl) (ws hF rfl rfl) fun a hF => ?_; refine Fr.splitD hF ?_ ?_
  · intro h3 hF; refine pv hF hW (y_pick hF rfl rfl) fun a hF => pv hF hW (y_move hF rfl) fun a hF => pvg hF hW (y_move hF rfl) (ws hF rfl rfl) fun a hF => pvg hF hW (y_indexS hF rfl rfl (by rw [row7_len]; decide) Tryz.underlying31 sz_3 (fun w h => (h.res 7 rfl).rf)) (ws hF rfl rfl) fun a hF => pvg hF hW (y_loadRow hF rfl (fun w h => (h.res 7 rfl).rf) (by rw [row7_len]; decide) rfl Tryz.underlying3 rfl) (ws hF rfl rfl) fun a hF => pvg hF hW (y_eql hF rfl rfl) (ws hF rfl rfl) fun a hF => ?_; refine Fr.splitD hF ?_ ?_
    · intro h4 hF; refine pv hF hW (y_pick hF rfl rfl) fun a hF => pv hF hW (y_move hF rfl) fun a hF => pvg hF hW (y_loadAll hF rfl 3 rfl Tryz.underlying30 rfl sz_30) (ws hF rfl rfl) fun a hF => pvg hF hW (y_loadAll hF rfl 10 rfl Tryz.underlying30 rfl sz_30) (ws hF rfl rfl) fun a hF => ?_; refine pe (e_call hF rfl rfl en_14 (by rfl) rfl rfl (same_worlds (hW.res 4 rfl) (hW.res 11 rfl) (hy2.trans hy1.symm)) ?_) (ws hF rfl rfl); rintro e w1 ⟨rfl, hb⟩; replace hW := hW.kept hb; clear hb; refine ⟨_, rfl, fun a hF => ?_⟩; refine pv hF hW (y_pick hF rfl rfl) fun a hF => pv hF hW (y_move hF rfl) fun a hF => pvg hF hW (y_move hF rfl) (ws hF rfl rfl) fun a hF => pvg hF hW (y_len hF rfl Tryz.underlying46) (ws hF rfl rfl) fun a hF => pvg hF hW (y_eql hF rfl rfl) (ws hF rfl rfl) fun a hF => ?_; refine Fr.splitD hF ?_ ?_
      · intro h5 hF; refine pv hF hW (y_pick hF rfl rfl) fun a hF => pv hF hW (y_move hF rfl) fun a hF => pvg hF hW (y_move hF rfl) (ws hF rfl rfl) fun a hF => pvg hF hW (y_indexS hF rfl rfl (by rw [own1_len]; decide) Tryz.underlying46 sz_4 (fun w h => (h.res 0 rfl)|> own_rf)) (ws hF rfl rfl) fun a hF => pvg hF hW (y_loadRow hF rfl (fun w h => (h.res 0 rfl)|> own_rf) (by rw [own1_len]; decide) rfl Tryz.underlying4 rfl) (ws hF rfl rfl) fun a hF => ?_; replace hF := Fr.cast (v' := .bool true) (by rw [own1_0]) hF; refine pv hF hW (y_pick hF rfl rfl) fun a hF => pv hF hW (y_move hF rfl) fun a hF => pvg hF hW (y_move hF rfl) (ws hF rfl rfl) fun a hF => pvg hF hW (y_indexS hF rfl rfl (by rw [own1_len]; decide) Tryz.underlying46 sz_4 (fun w h => (h.res 0 rfl)|> own_rf)) (ws hF rfl rfl) fun a hF => pvg hF hW (y_loadRow hF rfl (fun w h => (h.res 0 rfl)|> own_rf) (by rw [own1_len]; decide) rfl Tryz.underlying4 rfl) (ws hF rfl rfl) fun a hF => ?_; replace hF := Fr.cast (v' := .bool false) (by rw [own1_1]) hF; refine pvg hF hW (y_not hF rfl) (ws hF rfl rfl) fun a hF => ?_; replace hF := hF.tt; refine pv hF hW (y_pick hF rfl rfl) fun a hF => ?_; replace hF := hF.tt; refine pv hF hW (y_move hF rfl) fun a hF => ?_; replace hF := hF.tt; refine pvg hF hW (y_move hF rfl) (ws hF rfl rfl) fun a hF => pvg hF hW (y_indexS hF rfl rfl (by rw [own1_len]; decide) Tryz.underlying46 sz_4 (fun w h => (h.res 0 rfl)|> own_rf)) (ws hF rfl rfl) fun a hF => pvg hF hW (y_loadRow hF rfl (fun w h => (h.res 0 rfl)|> own_rf) (by rw [own1_len]; decide) rfl Tryz.underlying4 rfl) (ws hF rfl rfl) fun a hF => ?_; replace hF := Fr.cast (v' := .bool true) (by rw [own1_33]) hF; refine pv hF hW (y_pick hF rfl rfl) fun a hF => pv hF hW (y_move hF rfl) fun a hF => pvg hF hW (y_move hF rfl) (ws hF rfl rfl) fun a hF => pvg hF hW (y_indexS hF rfl rfl (by rw [own1_len]; decide) Tryz.underlying46 sz_4 (fun w h => (h.res 0 rfl)|> own_rf)) (ws hF rfl rfl) fun a hF => pvg hF hW (y_loadRow hF rfl (fun w h => (h.res 0 rfl)|> own_rf) (by rw [own1_len]; decide) rfl Tryz.underlying4 rfl) (ws hF rfl rfl) fun a hF => ?_; replace hF := Fr.cast (v' := .bool false) (by rw [own1_65]) hF; refine pvg hF hW (y_not hF rfl) (ws hF rfl rfl) fun a hF => ?_; replace hF := hF.tt; refine pv hF hW (y_pick hF rfl rfl) fun a hF => ?_; replace hF := hF.tt; refine pv hF hW (y_move hF rfl) fun a hF => ?_; replace hF := hF.tt; refine pvg hF hW (y_move hF rfl) (ws hF rfl rfl) fun a hF => pvg hF hW (y_indexS hF rfl rfl (by rw [own1_len]; decide) Tryz.underlying46 sz_4 (fun w h => (h.res 0 rfl)|> own_rf)) (ws hF rfl rfl) fun a hF => pvg hF hW (y_loadRow hF rfl (fun w h => (h.res 0 rfl)|> own_rf) (by rw [own1_len]; decide) rfl Tryz.underlying4 rfl) (ws hF rfl rfl) fun a hF => ?_
        replace hF := Fr.cast (v' := .bool true) (by rw [own1_129]) hF; refine pv hF hW (y_pick hF rfl rfl) fun a hF => ?_; replace hF := hF.drop 0; refine pv hF hW (y_assign hF rfl) fun a hF => l_nil ?_; replace hF := hF.ks [0, 1, 2, 3, 4, 5, 6, 7, 8] rfl; refine t_n <| wp_ret <| ret1 Tryz.results12 hF (rv_t hF rfl) ?_
        exact ⟨rfl, hW.below⟩
      · intro h5 hF; exfalso
        exact h5 (by rw [own1_len]; rfl)
    · intro h4 hF; exfalso
      exact h4 row7_0
  · intro h3 hF; exfalso
    exact h3 (by rw [row7_len]; rfl)
end Go.Proofs.YtnpflhaggfabnaaGreat
