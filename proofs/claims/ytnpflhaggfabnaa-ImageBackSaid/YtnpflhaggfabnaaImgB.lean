/- imageBegun answers true; systems among a law's arguments, whose numbers are ints; strings among them. -/
import Derived.ChangeMaps5
import Derived.Test.YtnpflhaggfabnaaImgF
import Derived.Test.YtnpflhaggfabnaaConfD1
import Derived.Test.YtnpflhaggfabnaaSameSys
namespace Go.Proofs.Ytnpflhaggfabnaa
set_option linter.unusedVariables false
set_option linter.unusedSimpArgs false
open Go.ChangeShapes Go.WideShapes Go.ChangeAt Go.RowKit

set_option maxRecDepth 100000

section
variable {H : Type} {enc : TypeId × Value → H} {w : World} {base base' : Nat} {r : Reach} {spare : Nat → Bool} {held : Bool} {v : Value} {d : DataW H} {p : List MemPlace}
theorem wf_I64 {n : Int} (h : (Lit.int .i64 n).wf = true) : I64 n := by
  simp [Lit.wf, IntKind.min, IntKind.max, IntKind.signed, IntKind.bits] at h
  unfold I64
  omega
theorem intR_rd {u : World} {n : Nat} {cs : List Value} (h : Rd Try.prog u (n + 1) 3 cs) : ∃ m : Int, cs = encI m ∧ I64 m := by
  obtain ⟨m, e, hw⟩ := h.int Try.underlying3
  exact ⟨m, e, wf_I64 hw⟩
theorem insR_rd {u : World} {n : Nat} {cs : List Value} (h : Rd Try.prog u (n + 2) 49 cs) : ∃ i : Ins, cs = i.cells ∧ I64 i.n := by
  obtain ⟨i, rfl⟩ := ins_rd h
  have h1 : Try.prog.cellsOf 3 = 1 := by kernel_rfl
  have g := h.fld Try.underlying49 3 rfl rfl rfl h1 rfl
  obtain ⟨m, e, hm⟩ := intR_rd g
  have e2 : [Value.int .i64 i.n] = [Value.int .i64 m] := e
  obtain rfl : i.n = m := by simpa using e2
  exact ⟨i, rfl, hm⟩
theorem encI_len (n : Int) : (encI n).length = 1 := rfl
theorem flat_ints {u : World} {v : Value} {l : List Int} (h : Flat encI 1 u v l) : Ints u v l := by
  obtain ⟨A, c, e, h1, h2, h3⟩ := h
  rw [encI_map] at h3
  exact ⟨A, c, e, h1, h2, h3⟩
def PrtR (p : Prt) : Prop := (∀ i, i ∈ p.code → I64 i.n) ∧ ∀ n, n ∈ p.inp → I64 n
theorem partR_rd {u : World} {n : Nat} {cs : List Value} (h : Rd Try.prog u (n + 4) 47 cs) : ∃ q : {q : PP // q.At u}, cs = encP q.1 ∧ PrtR q.1.1 := by
  obtain ⟨hl, -⟩ := h.struct Try.underlying47
  have h2 : Try.prog.cellsOf 47 = 2 := by kernel_rfl
  have h1 : Try.prog.cellsOf 45 = 1 := by kernel_rfl
  have h1' : Try.prog.cellsOf 44 = 1 := by kernel_rfl
  rw [h2] at hl
  match cs, hl with
  | [a, b], _ =>
    have g0 := h.fld Try.underlying47 0 rfl rfl rfl h1' rfl
    have g1 := h.fld Try.underlying47 1 rfl rfl rfl h1 rfl
    obtain ⟨v0, l0, e0, k0, q0⟩ := Rd.flatQ Try.underlying44 (by kernel_rfl) Ins.cells_len (fun _ h => insR_rd h) g0
    obtain ⟨v1, l1, e1, k1, q1⟩ := Rd.flatQ Try.underlying45 (by kernel_rfl) encI_len (fun _ h => intR_rd h) g1
    obtain rfl : a = v0 := by simpa using e0
    obtain rfl : b = v1 := by simpa using e1
    obtain ⟨A, c, rfl⟩ := k0.form rfl
    have k2 := flat_ints k1
    obtain ⟨A2, c2, rfl⟩ := k2.form rfl
    exact ⟨⟨(⟨l0, l1⟩, ⟨A, c, A2, c2⟩), k0, k2⟩, rfl, q0, q1⟩
theorem sysR_rd {u : World} {n : Nat} {cs : List Value} (h : Rd Try.prog u (n + 6) 26 cs) : ∃ x : SysD, cs = [.slice x.pa x.parts.length x.pc, .slice x.ha x.chans.length x.hc, .slice x.sa x.slots.length x.sc] ∧ x.At u ∧ SysR x.sys := by
  obtain ⟨hl, -⟩ := h.struct Try.underlying26
  have h3 : Try.prog.cellsOf 26 = 3 := by kernel_rfl
  have h1 : Try.prog.cellsOf 22 = 1 := by kernel_rfl
  have h1' : Try.prog.cellsOf 23 = 1 := by kernel_rfl
  have h1'' : Try.prog.cellsOf 24 = 1 := by kernel_rfl
  rw [h3] at hl
  match cs, hl with
  | [a, b, c], _ =>
    have g0 := h.fld Try.underlying26 0 rfl rfl rfl h1 rfl
    have g1 := h.fld Try.underlying26 1 rfl rfl rfl h1' rfl
    have g2 := h.fld Try.underlying26 2 rfl rfl rfl h1'' rfl
    obtain ⟨v0, l0, e0, k0, q0⟩ := Rd.flatQ (enc := encP) (Q := fun q : PP => q.At u ∧ PrtR q.1) Try.underlying22 (by kernel_rfl) encP_len (fun _ h => by obtain ⟨⟨q, h1⟩, h2, h3⟩ := partR_rd h; exact ⟨q, h2, h1, h3⟩) g0
    obtain ⟨v1, l1, e1, k1⟩ := Rd.flatS Try.underlying23 (by kernel_rfl) Chn.cells_len (fun _ h => chn_rd h) g1
    obtain ⟨v2, l2, e2, k2⟩ := Rd.flatS Try.underlying24 (by kernel_rfl) Slt.cells_len (fun _ h => slt_rd h) g2
    obtain rfl : a = v0 := by simpa using e0
    obtain rfl : b = v1 := by simpa using e1
    obtain rfl : c = v2 := by simpa using e2
    obtain ⟨A0, c0, rfl⟩ := k0.form rfl
    obtain ⟨A1, c1, rfl⟩ := k1.form rfl
    obtain ⟨A2, c2, rfl⟩ := k2.form rfl
    refine ⟨⟨l0, A0, c0, l1, A1, c1, l2, A2, c2⟩, rfl, ⟨k0, fun q hq => (q0 q hq).1, k1, k2⟩, fun p hp => ?_⟩
    obtain ⟨q, hq, rfl⟩ := List.mem_map.1 hp
    exact (q0 q hq).2
theorem sysR_open (hv : Value.okWide Try.prog w r base' 26 v) (h : DataW.Trod enc Try.prog w base spare held 26 v d p) : ∃ x : SysD, v = x.val ∧ x.At w ∧ SysR x.sys := by
  obtain ⟨cs, rfl, _⟩ := okWide_struct Try.underlying26 hv
  obtain ⟨x, e, h1⟩ := sysR_rd (n := 0) (rd_of 6 h)
  exact ⟨x, agg_toList e, h1⟩
theorem str_open (hv : Value.okWide Try.prog w r base' 9 v) (h : DataW.Trod enc Try.prog w base spare held 9 v d p) : ∃ l : List UInt8, v = .string (bstr l) := by
  obtain ⟨s, rfl, -⟩ := Go.ChangeMaps.open_string Try.underlying9 hv h
  exact ⟨s.data.toList, rfl⟩
end
def relaySysI : Sys := ⟨relayP, relayC, relayS⟩
theorem relayI_ok : chkSys relaySysI = 0 := by kernel_rfl
theorem relayI_read : (readL (imgL relaySysI)).isSome = true := by kernel_rfl
theorem relayI_len : (imgL relaySysI).length = 187 := by kernel_rfl
theorem relayI_R : SysR relaySysI := by
  cases h : readL (imgL relaySysI) with
  | none =>
    have := relayI_read
    rw [h] at this
    cases this
  | some s =>
    obtain ⟨h1, h2, h3⟩ := img_read h
    intro p hp
    simp only [relaySysI, relayP, tellerL, List.mem_cons, List.not_mem_nil, or_false] at hp
    unfold I64
    rcases hp with rfl | rfl | rfl | rfl <;>
    · refine ⟨fun i hi => ?_, fun n hn => ?_⟩
      · simp only [List.mem_cons, List.not_mem_nil, or_false] at hi
        rcases hi with rfl | rfl | rfl | rfl | rfl <;> decide
      · simp only [List.mem_cons, List.not_mem_nil, or_false] at hn <;> (subst hn; decide)
section
variable {L : List PP} {pa sa : Option Addr} {b : Nat} {T : TypeId} {u : World}
theorem relay_write (hL : L.map Prod.fst = relayP) (hB : Blk u b T (relayC.flatMap Chn.cells)) (h : RelayR L pa sa u) :
    Calls Try.prog 5 #[.agg #[.slice pa 4 4, .slice (some ⟨b, 0, none⟩) 2 2, .slice sa 4 4]] u fun e w' => e = .returned (.tuple #[.string (bstr (imgL relaySysI)), .int .i64 0]) ∧ Below u.heap.size u w' := by
  have := imageWrite_any (relay_at hL rfl hB h)
  rw [relay_val hL rfl, relay_sys hL] at this
  unfold imgOr at this
  rwa [show (⟨relayP, relayC, relayS⟩ : Sys) = relaySysI from rfl, relayI_ok, if_pos rfl] at this
end
theorem relay_same {L : List PP} {pa sa : Option Addr} {b : Nat} {T : TypeId} {u : World} {y : SysD} (hy : y.At u) (hL : L.map Prod.fst = relayP) (hB : Blk u b T (relayC.flatMap Chn.cells)) (h : RelayR L pa sa u) (hys : y.sys = relaySysI) :
    Calls Try.prog 10 #[.agg #[.slice y.pa y.parts.length y.pc, .slice y.ha y.chans.length y.hc, .slice y.sa y.slots.length y.sc], .agg #[.slice pa 4 4, .slice (some ⟨b, 0, none⟩) 2 2, .slice sa 4 4]] u fun e w' => e = .returned (.bool true) ∧ Below u.heap.size u w' := by
  have := sameSystems_any hy (relay_at hL rfl hB h)
  rw [relay_val hL rfl, relay_sys hL, y.val_eq] at this
  rwa [decide_eq_true (show y.sys = ⟨relayP, relayC, relayS⟩ from hys)] at this
theorem read_of {s : Sys} (h : chkSys s = 0) (hr : SysR s) (hl : (imgL s).length ≤ 8192) : readTo (imgL s) = s ∧ readErr (imgL s) = 0 := by
  unfold readTo readErr
  rw [if_neg (by omega), if_neg (by omega), read_img h hr]
  exact ⟨rfl, rfl⟩
theorem read_of2 {s : Sys} {r : List UInt8} (h : chkSys s = 0) (hr : SysR s) (hl : (imgL s ++ r).length ≤ 8192) (h0 : r ≠ []) : readErr (imgL s ++ r) = 1 := by
  unfold readErr
  rw [if_neg (by omega), read_more h hr h0]
  rfl
set_option maxHeartbeats 4000000 in
theorem imageBegun_any (w : World) : Calls Try.prog 9 #[] w fun e w' => e = .returned (.bool true) ∧ Below w.heap.size w w' := by
  have hlen := relayI_len
  have hro := read_of relayI_ok relayI_R (by omega)
  have hre := imageRead_any (w := w) (l := imgL relaySysI)
  have hread : ∀ w1, Calls Try.prog 8 #[.string (bstr (imgL relaySysI))] w1 (SysErr w1 relaySysI 0) := fun w1 => by
    have := imageRead_any (w := w1) (l := imgL relaySysI)
    rwa [hro.1, hro.2] at this
  have hread2 : ∀ w1, Calls Try.prog 8 #[.string (bstr (imgL relaySysI ++ [120]))] w1 (SysErr w1 (readTo (imgL relaySysI ++ [120])) 1) := fun w1 => by
    have := imageRead_any (w := w1) (l := imgL relaySysI ++ [120])
    rwa [read_of2 relayI_ok relayI_R (by rw [List.length_append, hlen]; decide) (by decide)] at this
  refine enter Try.func9 rfl Try.ntmps9 rfl fun a hF => ?_
  have hW := Wd.start w NoB
  refine c_sr <| pv hF hW (y_assign hF rfl) fun a hF => l_nil <| t_n <| c_sr ?_; refine pe (e_call hF rfl rfl en_32 (by rfl) rfl rfl (relay_any _) ?_); rintro e w1 ⟨L1, pa1, b1, sa1, rfl, hL1, hN⟩; replace hW := hW.comb2 hN; refine ⟨_, rfl, fun a hF => ?_⟩; refine pe (e_call hF rfl rfl en_5 (by rfl) rfl rfl (relay_write hL1 (hW.blk 1 rfl) (hW.res 0 rfl)) ?_); rintro e w1 ⟨rfl, hb⟩; replace hW := hW.kept hb; clear hb; refine ⟨_, rfl, fun a hF => ?_⟩; refine pv hF hW (y_move hF rfl) fun a hF => pv hF hW (y_extract hF rfl rfl) fun a hF => pv hF hW (y_extract hF rfl rfl) fun a hF => pv hF hW (y_assign hF rfl) fun a hF => pv hF hW (y_assign hF rfl) fun a hF => l_nil ?_; replace hF := hF.ks [0, 1, 2] rfl; refine t_n <| c_sr <| pv hF hW (y_move hF rfl) fun a hF => ?_; refine pe (e_call hF rfl rfl en_8 (by rfl) rfl rfl (hread _) ?_); rintro e w1 ⟨y1, rfl, hy1, hb, hr⟩; replace hW := hW.gotR hb hr; refine ⟨_, rfl, fun a hF => ?_⟩; replace hF := Fr.cast (v' := .tuple #[.agg #[.slice y1.pa y1.parts.length y1.pc, .slice y1.ha y1.chans.length y1.hc, .slice y1.sa y1.slots.length y1.sc], .int .i64 0]) rfl hF; refine pv hF hW (y_move hF rfl) fun a hF => pv hF hW (y_extract hF rfl rfl) fun a hF => pv hF hW (y_extract hF rfl rfl) fun a hF => ?_; refine pe (e_alloc hF hW ze_26 rfl rfl rfl ?_); intro b1 a wc hF hW; refine pe (e_storeAll rfl hF hW rfl rfl 0 rfl rfl rfl (by kernel_rfl) sz_26 ?_); intro wc hW; refine pv hF hW (y_assign hF rfl) fun a hF => l_nil ?_; replace hF := hF.ks [0, 1, 2, 3, 4] rfl; refine t_n <| c_sr <| pv hF hW (y_move hF rfl) fun a hF => pv hF hW (y_catB hF rfl rfl (by unfold maxLen; rw [hlen]; decide)) fun a hF => ?_; refine pe (e_call hF rfl rfl en_8 (by rfl) rfl rfl (hread2 _) ?_); rintro e w1 ⟨y2, rfl, hy2, hb, hr⟩; replace hW := hW.gotR hb hr; refine ⟨_, rfl, fun a hF => ?_⟩; replace hF := Fr.cast (v' := .tuple #[.agg #[.slice y2.pa y2.parts.length y2.pc, .slice y2.ha y2.chans.length y2.hc, .slice y2.sa y2.slots.length y2.sc], .int .i64 1]) rfl hF; refine pv hF hW (y_move hF rfl) fun a hF => pv hF hW (y_extract hF rfl rfl) fun a hF => pv hF hW (y_extract hF rfl rfl) fun a hF => ?_; refine pe (e_alloc hF hW ze_26 rfl rfl rfl ?_); intro b2 a wc hF hW; refine pe (e_storeAll rfl hF hW rfl rfl 0 rfl rfl rfl (by kernel_rfl) sz_26 ?_); intro wc hW; refine pv hF hW (y_assign hF rfl) fun a hF => l_nil ?_; replace hF := hF.ks [0, 1, 2, 3, 4, 6] rfl; refine t_n <| c_sd mixed_ok hW (hW) ?_
  clear hW; intro wc hW hS
  refine dv 0 rfl hF hS (y_move hF rfl) fun a hF => dv 1 rfl hF hS (y_eql hF rfl rfl) fun a hF => ?_; replace hF := hF.tt; refine dv 2 rfl hF hS (y_move hF rfl) fun a hF => ?_; replace hF := hF.tt; refine dvg 3 rfl hF hS (y_move hF rfl) (ws hF rfl rfl) fun a hF => dvg 4 rfl hF hS (y_eql hF rfl rfl) (ws hF rfl rfl) fun a hF => ?_; replace hF := hF.tt; refine dv 5 rfl hF hS (y_pick hF rfl rfl) fun a hF => ?_; replace hF := hF.tt; refine dv 6 rfl hF hS (y_move hF rfl) fun a hF => ?_; replace hF := hF.tt; refine dvg 7 rfl hF hS (y_move hF rfl) (ws hF rfl rfl) fun a hF => dvg 8 rfl hF hS (y_eql hF rfl rfl) (ws hF rfl rfl) fun a hF => ?_; replace hF := hF.tt; refine dv 9 rfl hF hS (y_pick hF rfl rfl) fun a hF => ?_; replace hF := hF.tt; refine dv 10 rfl hF hS (y_move hF rfl) fun a hF => ?_; replace hF := hF.tt; refine dvg 11 rfl hF hS (y_move hF rfl) (ws hF rfl rfl) fun a hF => dvg 12 rfl hF hS (y_lenB hF rfl Try.underlying9) (ws hF rfl rfl) fun a hF => ?_; replace hF := Fr.cast (v' := .int .i64 187) (by rw [hlen]; rfl) hF; refine dvg 13 rfl hF hS (y_eql hF rfl rfl) (ws hF rfl rfl) fun a hF => ?_; replace hF := hF.tt; refine dv 14 rfl hF hS (y_pick hF rfl rfl) fun a hF => ?_; replace hF := hF.tt; refine dv 15 rfl hF hS (y_move hF rfl) fun a hF => ?_; replace hF := hF.tt; refine dvg 16 rfl hF hS (y_loadAll hF rfl 2 rfl Try.underlying26 rfl sz_26) (ws hF rfl rfl) fun a hF => d_1 17 (by kernel_rfl) ?_; refine d_op rfl (ws hF rfl rfl) (e_call hF rfl rfl en_32 (by rfl) rfl rfl (relay_any _) ?_); rintro e w1 ⟨L2, pa2, b2, sa2, rfl, hL2, hN⟩; replace hW := hW.comb2 hN; refine ⟨_, rfl, fun a hF => ?_⟩; replace hS := ((hW.del 0 rfl).del 0 rfl); refine ⟨hS, ?_⟩; refine d_1 18 (by kernel_rfl) ?_; refine d_op rfl (ws hF rfl rfl) (e_call hF rfl rfl en_10 (by rfl) rfl rfl (relay_same (hW.res 5 rfl) hL2 (hW.blk 1 rfl) (hW.res 0 rfl) hy1) ?_); rintro e w1 ⟨rfl, hb⟩; replace hW := hW.kept hb; clear hb; refine ⟨_, rfl, fun a hF => ?_⟩; replace hS := ((hW.del 0 rfl).del 0 rfl); refine ⟨hS, ?_⟩; refine dv 19 rfl hF hS (y_pick hF rfl rfl) fun a hF => ?_; replace hF := hF.drop 0; refine dv 20 rfl hF hS (y_assign hF rfl) fun a hF => ?_; clear hS; refine d_nil (by kernel_rfl) ?_; replace hF := hF.ks [0, 1, 2, 3, 4, 6] rfl; refine t_n <| wp_ret <| ret1 Try.results9 hF (rv_t hF rfl) ?_
  exact ⟨rfl, hW.below⟩
end Go.Proofs.Ytnpflhaggfabnaa
