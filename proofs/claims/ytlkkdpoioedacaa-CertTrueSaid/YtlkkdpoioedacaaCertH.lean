/- Policies and certificates among a law's arguments; certBegun answers true. -/
import Derived.Test.YtlkkdpoioedacaaCertG
import Derived.Test.YtlkkdpoioedacaaFlowG
namespace Go.Proofs.Ytlkkdpoioedacaa
set_option linter.unusedVariables false
set_option linter.unusedSimpArgs false
open Go.ChangeShapes Go.WideShapes Go.ChangeAt Go.RowKit
theorem bs_CertH_27_3_0_1_2 (x0 : Int) (x1 : Int) (x2 : Int) (x3 : Int) (x4 : Int) (x5 : Int) (w : World) : (Instr.buildSlice 27 3 #[(0, (.agg #[(.int .i64 x0), (.int .i64 x1)])), (1, (.agg #[(.int .i64 x2), (.int .i64 x3)])), (2, (.agg #[(.int .i64 x4), (.int .i64 x5)]))]).run Try.prog w = .ok (.slice (some ⟨w.heap.size, 0, none⟩) 3 3) (w.alloc (.cells #[(.int .i64 x0), (.int .i64 x1), (.int .i64 x2), (.int .i64 x3), (.int .i64 x4), (.int .i64 x5)] 37)) := by kernel_rfl
theorem bs_CertH_27_4_0_1_2_3 (x0 : Int) (x1 : Int) (x2 : Int) (x3 : Int) (x4 : Int) (x5 : Int) (x6 : Int) (x7 : Int) (w : World) : (Instr.buildSlice 27 4 #[(0, (.agg #[(.int .i64 x0), (.int .i64 x1)])), (1, (.agg #[(.int .i64 x2), (.int .i64 x3)])), (2, (.agg #[(.int .i64 x4), (.int .i64 x5)])), (3, (.agg #[(.int .i64 x6), (.int .i64 x7)]))]).run Try.prog w = .ok (.slice (some ⟨w.heap.size, 0, none⟩) 4 4) (w.alloc (.cells #[(.int .i64 x0), (.int .i64 x1), (.int .i64 x2), (.int .i64 x3), (.int .i64 x4), (.int .i64 x5), (.int .i64 x6), (.int .i64 x7)] 37)) := by kernel_rfl
theorem bs_CertH_42_3_0_1_2 (x0 : Int) (x1 : Int) (x2 : Int) (w : World) : (Instr.buildSlice 42 3 #[(0, (.int .i64 x0)), (1, (.int .i64 x1)), (2, (.int .i64 x2))]).run Try.prog w = .ok (.slice (some ⟨w.heap.size, 0, none⟩) 3 3) (w.alloc (.cells #[(.int .i64 x0), (.int .i64 x1), (.int .i64 x2)] 3)) := by kernel_rfl
theorem bu_CertH_37_0_1 (x0 : Int) (x1 : Int) (w : World) : (Instr.build 37 #[(0, (.int .i64 x0)), (1, (.int .i64 x1))]).run Try.prog w = .ok (.agg #[(.int .i64 x0), (.int .i64 x1)]) w := by kernel_rfl
theorem bu_CertH_52_0 (x0 : Option Addr) (x0n x0c : Nat) (w : World) : (Instr.build 52 #[(0, (.slice x0 x0n x0c))]).run Try.prog w = .ok (.agg #[(.slice x0 x0n x0c)]) w := by kernel_rfl
set_option maxRecDepth 100000

section
variable {H : Type} {enc : TypeId × Value → H} {w : World} {base base' : Nat} {r : Reach} {spare : Nat → Bool} {held : Bool} {v : Value} {d : DataW H} {p : List MemPlace}
theorem edge_rd {u : World} {n : Nat} {cs : List Value} (h : Rd Try.prog u (n + 2) 37 cs) : ∃ i : Edg, cs = i.cells := by
  obtain ⟨l, rfl, hl⟩ := h.ints_of_fields Try.underlying37 (by kernel_rfl) (by kernel_rfl) (by kernel_rfl)
  match l, hl with
  | [a, b], _ => exact ⟨⟨a, b⟩, rfl⟩
theorem pol_rd {u : World} {n : Nat} {cs : List Value} (h : Rd Try.prog u (n + 4) 52 cs) : ∃ (l : List Edg) (A : Option Addr) (c : Nat), cs = [.slice A l.length c] ∧ May_ u A c l := by
  obtain ⟨hl, -⟩ := h.struct Try.underlying52
  have h2 : Try.prog.cellsOf 52 = 1 := by kernel_rfl
  have h1 : Try.prog.cellsOf 27 = 1 := by kernel_rfl
  rw [h2] at hl
  match cs, hl with
  | [a], _ =>
    have g0 := h.fld Try.underlying52 0 rfl rfl rfl h1 rfl
    obtain ⟨v0, l0, e0, k0⟩ := Rd.flatS Try.underlying27 (by kernel_rfl) Edg.cells_len (fun _ h => edge_rd h) g0
    obtain rfl : a = v0 := by simpa using e0
    obtain ⟨A0, c0, rfl⟩ := k0.form rfl
    exact ⟨l0, A0, c0, rfl, k0⟩
theorem pol_open (hv : Value.okWide Try.prog w r base' 52 v) (h : DataW.Trod enc Try.prog w base spare held 52 v d p) : ∃ (l : List Edg) (A : Option Addr) (c : Nat), v = .agg #[.slice A l.length c] ∧ May_ w A c l := by
  obtain ⟨cs, rfl, _⟩ := okWide_struct Try.underlying52 hv
  obtain ⟨l, A, c, e, h1⟩ := pol_rd (n := 0) (rd_of 4 h)
  exact ⟨l, A, c, agg_toList e, h1⟩
theorem ir_rd {u : World} {n : Nat} {cs : List Value} (h : Rd Try.prog u (n + 2) 42 cs) : ∃ q : IR, cs = q.cells ∧ q.At u := by
  obtain ⟨v, l, rfl, hI⟩ := Rd.intsS Try.underlying42 Try.underlying3 (by kernel_rfl) h
  obtain ⟨A, c, e, h1, h2, h3⟩ := hI
  subst e
  exact ⟨⟨l, A, c⟩, rfl, ⟨A, c, rfl, h1, h2, h3⟩⟩
theorem crt_rd {u : World} {n : Nat} {cs : List Value} (h : Rd Try.prog u (n + 4) 55 cs) : ∃ (qs : List IR) (A : Option Addr) (c : Nat), cs = [.slice A qs.length c] ∧ Sets_ u A c qs := by
  obtain ⟨hl, -⟩ := h.struct Try.underlying55
  have h2 : Try.prog.cellsOf 55 = 1 := by kernel_rfl
  have h1 : Try.prog.cellsOf 53 = 1 := by kernel_rfl
  rw [h2] at hl
  match cs, hl with
  | [a], _ =>
    have g0 := h.fld Try.underlying55 0 rfl rfl rfl h1 rfl
    obtain ⟨v0, l0, e0, k0, q0⟩ := Rd.flatQ (size := 1) Try.underlying53 (by kernel_rfl) IR.cells_len (fun _ h => ir_rd h) g0
    obtain rfl : a = v0 := by simpa using e0
    obtain ⟨A0, c0, rfl⟩ := k0.form rfl
    exact ⟨l0, A0, c0, rfl, k0, q0⟩
theorem crt_open (hv : Value.okWide Try.prog w r base' 55 v) (h : DataW.Trod enc Try.prog w base spare held 55 v d p) : ∃ (qs : List IR) (A : Option Addr) (c : Nat), v = .agg #[.slice A qs.length c] ∧ Sets_ w A c qs := by
  obtain ⟨cs, rfl, _⟩ := okWide_struct Try.underlying55 hv
  obtain ⟨l, A, c, e, h1⟩ := crt_rd (n := 0) (rd_of 4 h)
  exact ⟨l, A, c, agg_toList e, h1⟩
end
theorem May_.len {w : World} {A : Option Addr} {c : Nat} {l : List Edg} (h : May_ w A c l) : l.length ≤ maxLen := Nat.le_trans (Flat.len h).2.1 (Flat.len h).2.2

/-! ### relay -/
def wideP : List Edg := [⟨0, 1⟩, ⟨0, 2⟩, ⟨1, 0⟩, ⟨1, 2⟩]
def leakP : List Edg := [⟨0, 1⟩, ⟨1, 0⟩, ⟨1, 2⟩]
theorem wide_is : CertIs relayC 4 wideP true [] [[0, 1], [0, 1], [0, 1, 2], [3]] := by
  have h : ((List.range 4).all fun u => (List.range 4).all fun v => !badB relayC 4 wideP u v) = true := by kernel_rfl
  refine .inl ⟨rfl, fun u v hu hv => ?_, rfl, by kernel_rfl⟩
  simpa using all_iff.1 (all_iff.1 h u hu) v hv
theorem leak_is : CertIs relayC 4 leakP false [0, 1, 2] [] := by
  refine .inr ⟨rfl, 0, 2, by decide, by decide, by kernel_rfl, fun u v hu hv h => ?_, by kernel_rfl, rfl⟩
  have h1 : badB relayC 4 leakP 0 0 = false := by kernel_rfl
  have h2 : badB relayC 4 leakP 0 1 = false := by kernel_rfl
  obtain rfl : u = 0 := by omega
  rcases (show v = 0 ∨ v = 1 by omega) with rfl | rfl
  · exact h1
  · exact h2
section
variable {L : List PP} {pa sa : Option Addr} {b : Nat} {T : TypeId} {u : World} {P : List Edg} {A : Option Addr} {c : Nat}
theorem relay_certify (hL : L.map Prod.fst = relayP) (hB : Blk u b T (relayC.flatMap Chn.cells)) (h : RelayR L pa sa u) (hm : May_ u A c P) (hE : certErr relayY P = 0) {is : Bool} {M : List Int} {S : List (List Int)} (hI : CertIs relayC 4 P is M S) :
    Calls Try.prog 24 #[.agg #[.slice pa 4 4, .slice (some ⟨b, 0, none⟩) 2 2, .slice sa 4 4], .agg #[.slice A P.length c]] u fun e w' => ∃ (qs : List IR) (B : Option Addr) (d : Nat) (A' : Option Addr) (c' : Nat), e = .returned (.tuple #[.agg #[.slice B S.length d], .slice A' M.length c', .bool is, .int .i64 0]) ∧ qs.map IR.l = S ∧ Below u.heap.size u w' ∧ OwnRes u w' (fun v => Sets_ v B d qs ∧ Ints v (.slice A' M.length c') M) := by
  have := certify_any (relay_at hL rfl hB h) hm hm.len
  rw [relay_val hL rfl] at this
  refine this.mono ?_
  rintro e w' ⟨qs, B, d, M', A', c', is', rfl, h1, -, hb, hr⟩
  rw [relay_sys hL, hE] at h1
  have h2 := h1 rfl
  have hl : (relayD L pa b sa relayC).parts.length = 4 := relay_len hL
  rw [hl] at h2
  obtain ⟨rfl, rfl, hS⟩ := h2.uniq hI
  subst hS
  rw [relay_sys hL, hE]
  exact ⟨qs, B, d, A', c', by rw [List.length_map], rfl, hb, hr⟩
theorem relay_verify (hL : L.map Prod.fst = relayP) (hB : Blk u b T (relayC.flatMap Chn.cells)) (h : RelayR L pa sa u) (hm : May_ u A c P) (hE : certErr relayY P = 0) {qs : List IR} {B : Option Addr} {d : Nat} (hs : Sets_ u B d qs) (hV : verB 4 P (edgesTo relayC 4 4) (qs.map IR.l) = true) :
    Calls Try.prog 30 #[.agg #[.slice pa 4 4, .slice (some ⟨b, 0, none⟩) 2 2, .slice sa 4 4], .agg #[.slice A P.length c], .agg #[.slice B qs.length d]] u fun e w' => e = .returned (.tuple #[.bool true, .int .i64 0]) ∧ Below u.heap.size u w' := by
  have := certVerify_any (relay_at hL rfl hB h) hm hm.len hs
  have hl : (relayD L pa b sa relayC).parts.length = 4 := relay_len hL
  rw [relay_val hL rfl, relay_sys hL, hE, hl] at this
  refine this.mono ?_
  rintro e w' ⟨rfl, hb⟩
  exact ⟨by rw [show (relayD L pa b sa relayC).chans = relayC from rfl, hV]; rfl, hb⟩
theorem relay_policy (hL : L.map Prod.fst = relayP) (hB : Blk u b T (relayC.flatMap Chn.cells)) (h : RelayR L pa sa u) (hm : May_ u A c P) (hE : certErr relayY P = 0) :
    Calls Try.prog 28 #[.agg #[.slice pa 4 4, .slice (some ⟨b, 0, none⟩) 2 2, .slice sa 4 4], .agg #[.slice A P.length c]] u fun e w' => e = .returned (.int .i64 0) ∧ Below u.heap.size u w' := by
  have := certChk_any (relay_at hL rfl hB h) hm hm.len
  rwa [relay_val hL rfl, relay_sys hL, hE] at this
end
theorem wide_any (w : World) : Calls Try.prog 60 #[] w fun e w' => ∃ A c, e = .returned (.agg #[.slice A 4 c]) ∧ Below w.heap.size w w' ∧ OwnRes w w' (fun u => May_ u A c wideP) := by
  refine enter Try.func60 rfl Try.ntmps60 rfl fun a hF => ?_
  have hW := Wd.start w NoB
  refine c_sr ?_; refine pe (e_alloc hF hW ze_52 rfl rfl rfl ?_); intro b1 a wc hF hW; refine l_nil <| t_n <| c_sr <| pv hF hW (y_build hF rfl (fun w => bu_CertH_37_0_1 _ _ w)) fun a hF => pv hF hW (y_build hF rfl (fun w => bu_CertH_37_0_1 _ _ w)) fun a hF => pv hF hW (y_build hF rfl (fun w => bu_CertH_37_0_1 _ _ w)) fun a hF => pv hF hW (y_build hF rfl (fun w => bu_CertH_37_0_1 _ _ w)) fun a hF => ?_; refine pe (e_buildSlice hF hW rfl (fun w => bs_CertH_27_4_0_1_2_3 _ _ _ _ _ _ _ _ w) rfl rfl rfl ?_); intro b2 a wc hF hW; refine pv hF hW (y_build hF rfl (fun w => bu_CertH_52_0 _ _ _ w)) fun a hF => ?_; refine pe (e_storeAll rfl hF hW rfl rfl 1 rfl rfl rfl (by kernel_rfl) sz_52 ?_); intro wc hW; refine l_nil ?_; replace hF := hF.ks [0] rfl; refine t_n <| wp_ret <| ret1 Try.results60 hF (rv_c hF rfl hW 1 rfl Try.underlying52 rfl sz_52) ?_; replace hW := hW.del 1 rfl
  exact ⟨_, _, rfl, hW.below, ((hW.blk_res 0 rfl).res_res 0 rfl).mono fun u h => flat_blk h rfl rfl rfl (show 4 ≤ maxLen by decide)⟩
set_option maxHeartbeats 4000000 in
theorem certBegun_any (w : World) : Calls Try.prog 27 #[] w fun e w' => e = .returned (.bool true) ∧ Below w.heap.size w w' := by
  refine enter Try.func27 rfl Try.ntmps27 rfl fun a hF => ?_
  have hW := Wd.start w NoB
  refine c_sr <| pv hF hW (y_assign hF rfl) fun a hF => l_nil <| t_n <| c_sr ?_; refine pe (e_call hF rfl rfl en_52 (by rfl) rfl rfl (relay_any _) ?_); rintro e w1 ⟨L1, pa1, b1, sa1, rfl, hL1, hN⟩; replace hW := hW.comb2 hN; refine ⟨_, rfl, fun a hF => ?_⟩; refine pe (e_call hF rfl rfl en_60 (by rfl) rfl rfl (wide_any _) ?_); rintro e w1 ⟨A1, c1, rfl, hb, hr⟩; replace hW := hW.gotR hb hr; refine ⟨_, rfl, fun a hF => ?_⟩; refine pe (e_call hF rfl rfl en_24 (by rfl) rfl rfl (relay_certify (P := wideP) hL1 (hW.blk 2 rfl) (hW.res 1 rfl) (hW.res 0 rfl) (by kernel_rfl) wide_is) ?_); rintro e w1 ⟨qs, B, d, A2, c2, rfl, hSq, hb, hr⟩; replace hW := hW.gotR hb hr; refine ⟨_, rfl, fun a hF => ?_⟩
  have hq4 : qs.length = 4 := (by have := congrArg List.length hSq; simpa using this); have hq2 : (qs.getD 2 IR0).l = [0, 1, 2] := (by rw [← sets_get, hSq]; rfl); have hq5 : 2 < qs.length := (by omega)
  refine pv hF hW (y_move hF rfl) fun a hF => pv hF hW (y_extract hF rfl rfl) fun a hF => pv hF hW (y_extract hF rfl rfl) fun a hF => pv hF hW (y_extract hF rfl rfl) fun a hF => pv hF hW (y_extract hF rfl rfl) fun a hF => ?_; refine pe (e_alloc hF hW ze_55 rfl rfl rfl ?_); intro b1 a wc hF hW; refine pe (e_storeAll rfl hF hW rfl rfl 0 rfl rfl rfl (by kernel_rfl) sz_55 ?_); intro wc hW; refine pv hF hW (y_assign hF rfl) fun a hF => pv hF hW (y_assign hF rfl) fun a hF => pv hF hW (y_assign hF rfl) fun a hF => l_nil ?_; replace hF := hF.ks [0, 1, 3, 4] rfl; refine t_n <| c_sr ?_; refine pe (e_call hF rfl rfl en_52 (by rfl) rfl rfl (relay_any _) ?_); rintro e w1 ⟨L2, pa2, b2, sa2, rfl, hL2, hN⟩; replace hW := hW.comb2 hN; refine ⟨_, rfl, fun a hF => ?_⟩; refine pv hF hW (y_build hF rfl (fun w => bu_CertH_37_0_1 _ _ w)) fun a hF => pv hF hW (y_build hF rfl (fun w => bu_CertH_37_0_1 _ _ w)) fun a hF => pv hF hW (y_build hF rfl (fun w => bu_CertH_37_0_1 _ _ w)) fun a hF => ?_; refine pe (e_buildSlice hF hW rfl (fun w => bs_CertH_27_3_0_1_2 _ _ _ _ _ _ w) rfl rfl rfl ?_); intro b2 a wc hF hW; refine pv hF hW (y_build hF rfl (fun w => bu_CertH_52_0 _ _ _ w)) fun a hF => ?_; refine pe (e_call hF rfl rfl en_24 (by rfl) rfl rfl (relay_certify (P := leakP) hL2 (hW.blk 2 rfl) (hW.res 1 rfl) (flat_blk (hW.blk 0 rfl) rfl rfl rfl (show 3 ≤ maxLen by decide)) (by kernel_rfl) leak_is) ?_); rintro e w1 ⟨rs, B2, d2, A5, c5, rfl, hS2, hb, hr⟩; replace hW := hW.gotR hb hr; refine ⟨_, rfl, fun a hF => ?_⟩; refine pv hF hW (y_move hF rfl) fun a hF => pv hF hW (y_extract hF rfl rfl) fun a hF => pv hF hW (y_extract hF rfl rfl) fun a hF => pv hF hW (y_extract hF rfl rfl) fun a hF => pv hF hW (y_extract hF rfl rfl) fun a hF => ?_; refine pe (e_alloc hF hW ze_55 rfl rfl rfl ?_); intro b3 a wc hF hW; refine pe (e_storeAll rfl hF hW rfl rfl 0 rfl rfl rfl (by kernel_rfl) sz_55 ?_); intro wc hW; refine pv hF hW (y_assign hF rfl) fun a hF => pv hF hW (y_assign hF rfl) fun a hF => pv hF hW (y_assign hF rfl) fun a hF => l_nil ?_; replace hF := hF.ks [0, 1, 3, 4, 6, 7, 8] rfl; refine t_n <| c_sd mixed_ok hW (hW) ?_
  clear hW; intro wc hW hS
  refine dv 2 rfl hF hS (y_loadAll hF rfl 5 rfl Try.underlying55 rfl sz_55) fun a hF => d_1 0 (by kernel_rfl) ?_; refine d_op rfl rfl (e_call hF rfl rfl en_52 (by rfl) rfl rfl (relay_any _) ?_); rintro e w1 ⟨L3, pa3, b3, sa3, rfl, hL3, hN⟩; replace hW := hW.comb2 hN; refine ⟨_, rfl, fun a hF => ?_⟩; replace hS := ((hW.del 0 rfl).del 0 rfl); refine ⟨hS, ?_⟩; refine d_1 1 (by kernel_rfl) ?_; refine d_op rfl rfl (e_call hF rfl rfl en_60 (by rfl) rfl rfl (wide_any _) ?_); rintro e w1 ⟨A3, c3, rfl, hb, hr⟩; replace hW := hW.gotR hb hr; refine ⟨_, rfl, fun a hF => ?_⟩; replace hS := (((hW.del 0 rfl).del 0 rfl).del 0 rfl); refine ⟨hS, ?_⟩; refine d_1 3 (by kernel_rfl) ?_; refine d_op rfl rfl (e_call hF rfl rfl en_30 (by rfl) rfl rfl (hq4 ▸ relay_verify (P := wideP) hL3 (hW.blk 2 rfl) (hW.res 1 rfl) (hW.res 0 rfl) (by kernel_rfl) (hW.res 9 rfl).1 (by rw [hSq]; kernel_rfl)) ?_); rintro e w1 ⟨rfl, hb⟩; replace hW := hW.kept hb; clear hb; refine ⟨_, rfl, fun a hF => ?_⟩; replace hS := (((hW.del 0 rfl).del 0 rfl).del 0 rfl); refine ⟨hS, ?_⟩; refine dv 4 rfl hF hS (y_move hF rfl) fun a hF => dv 5 rfl hF hS (y_extract hF rfl rfl) fun a hF => dv 6 rfl hF hS (y_extract hF rfl rfl) fun a hF => dv 7 rfl hF hS (y_assign hF rfl) fun a hF => dv 8 rfl hF hS (y_assign hF rfl) fun a hF => ?_; clear hS; refine d_nil (by kernel_rfl) ?_; replace hF := hF.ks [0, 1, 3, 4, 6, 7, 8, 9, 10] rfl; refine t_n <| c_sr ?_; refine pe (e_call hF rfl rfl en_52 (by rfl) rfl rfl (relay_any _) ?_); rintro e w1 ⟨L4, pa4, b4, sa4, rfl, hL4, hN⟩; replace hW := hW.comb2 hN; refine ⟨_, rfl, fun a hF => ?_⟩; refine pe (e_call hF rfl rfl en_60 (by rfl) rfl rfl (wide_any _) ?_); rintro e w1 ⟨A4, c4, rfl, hb, hr⟩; replace hW := hW.gotR hb hr; refine ⟨_, rfl, fun a hF => ?_⟩; refine pe (e_call hF rfl rfl en_28 (by rfl) rfl rfl (relay_policy (P := wideP) hL4 (hW.blk 2 rfl) (hW.res 1 rfl) (hW.res 0 rfl) (by kernel_rfl)) ?_); rintro e w1 ⟨rfl, hb⟩; replace hW := hW.kept hb; clear hb; refine ⟨_, rfl, fun a hF => ?_⟩; refine pv hF hW (y_eql hF rfl rfl) fun a hF => ?_; replace hF := hF.tt; refine pv hF hW (y_move hF rfl) fun a hF => ?_; replace hF := hF.tt; refine pvg hF hW (y_move hF rfl) (ws hF rfl rfl) fun a hF => pvg hF hW (y_eql hF rfl rfl) (ws hF rfl rfl) fun a hF => ?_; replace hF := hF.tt; refine pv hF hW (y_pick hF rfl rfl) fun a hF => ?_; replace hF := hF.tt; refine pv hF hW (y_move hF rfl) fun a hF => ?_; replace hF := hF.tt; refine pvg hF hW (y_move hF rfl) (ws hF rfl rfl) fun a hF => pvg hF hW (y_eql hF rfl rfl) (ws hF rfl rfl) fun a hF => ?_; replace hF := hF.tt; refine pv hF hW (y_pick hF rfl rfl) fun a hF => ?_; replace hF := hF.tt; refine pv hF hW (y_move hF rfl) fun a hF => ?_; replace hF := hF.tt; refine pvg hF hW (y_move hF rfl) (ws hF rfl rfl) fun a hF => pvg hF hW (y_eql hF rfl rfl) (ws hF rfl rfl) fun a hF => ?_; replace hF := hF.tt
  refine pv hF hW (y_pick hF rfl rfl) fun a hF => ?_; replace hF := hF.tt; refine pv hF hW (y_move hF rfl) fun a hF => ?_; replace hF := hF.tt; refine pvg hF hW (y_move hF rfl) (ws hF rfl rfl) fun a hF => pv hF hW (y_pick hF rfl rfl) fun a hF => pv hF hW (y_move hF rfl) fun a hF => pvg hF hW (y_move hF rfl) (ws hF rfl rfl) fun a hF => pvg hF hW (y_not hF rfl) (ws hF rfl rfl) fun a hF => ?_; replace hF := hF.tt; refine pv hF hW (y_pick hF rfl rfl) fun a hF => ?_; replace hF := hF.tt; refine pv hF hW (y_move hF rfl) fun a hF => ?_; replace hF := hF.tt; refine pvg hF hW (y_move hF rfl) (ws hF rfl rfl) fun a hF => pv hF hW (y_pick hF rfl rfl) fun a hF => pv hF hW (y_move hF rfl) fun a hF => pvg hF hW (y_fieldOwn hF rfl fa_55_0) (ws hF rfl rfl) fun a hF => pvg hF hW (y_loadOwn hF rfl 11 rfl rfl Try.underlying53 rfl) (ws hF rfl rfl) fun a hF => pvg hF hW (y_len hF rfl Try.underlying53) (ws hF rfl rfl) fun a hF => ?_; replace hF := Fr.cast (v' := .int .i64 4) (by rfl) hF; refine pvg hF hW (y_eql hF rfl rfl) (ws hF rfl rfl) fun a hF => ?_; replace hF := hF.tt; refine pv hF hW (y_pick hF rfl rfl) fun a hF => ?_; replace hF := hF.tt; refine pv hF hW (y_move hF rfl) fun a hF => ?_; replace hF := hF.tt; refine pvg hF hW (y_fieldOwn hF rfl fa_55_0) (ws hF rfl rfl) fun a hF => pvg hF hW (y_loadOwn hF rfl 11 rfl rfl Try.underlying53 rfl) (ws hF rfl rfl) fun a hF => pvg hF hW (y_indexS hF rfl rfl (by decide) Try.underlying53 sz_42 (fun w h => (h.res 12 rfl).1.row |> fun h => hq4 ▸ h)) (ws hF rfl rfl) fun a hF => pvg hF hW (y_loadRow hF rfl (fun w h => (h.res 12 rfl).1.row |> fun h => hq4 ▸ h) (by decide) rfl Try.underlying42 rfl) (ws hF rfl rfl) fun a hF => ?_; replace hF := Fr.cast (v' := .slice (qs.getD 2 IR0).a (qs.getD 2 IR0).l.length (qs.getD 2 IR0).k) (by rfl) hF; refine pe (e_buildSlice hF hW rfl (fun w => bs_CertH_42_3_0_1_2 _ _ _ w) rfl rfl rfl ?_) (ws hF rfl rfl); intro b4 a wc hF hW; refine pe (e_call hF rfl rfl en_22 (by rfl) rfl rfl (same_ints ((hW.res 13 rfl).1.each _ (mem_getD IR0 hq5)) (ints_blk (hW.blk 0 rfl) (xs := [0, 1, 2]) rfl rfl (by decide)) hq2) ?_) (ws hF rfl rfl); rintro e w1 ⟨rfl, hb⟩; replace hW := hW.kept hb; clear hb; refine ⟨_, rfl, fun a hF => ?_⟩; refine pv hF hW (y_pick hF rfl rfl) fun a hF => pv hF hW (y_move hF rfl) fun a hF => pvg hF hW (y_move hF rfl) (ws hF rfl rfl) fun a hF => ?_; refine pe (e_buildSlice hF hW rfl (fun w => bs_CertH_42_3_0_1_2 _ _ _ w) rfl rfl rfl ?_) (ws hF rfl rfl); intro b5 a wc hF hW; refine pe (e_call hF rfl rfl en_22 (by rfl) rfl rfl (same_ints (hW.res 9 rfl).2 (ints_blk (hW.blk 0 rfl) (xs := [0, 1, 2]) rfl rfl (by decide)) rfl) ?_) (ws hF rfl rfl); rintro e w1 ⟨rfl, hb⟩; replace hW := hW.kept hb; clear hb; refine ⟨_, rfl, fun a hF => ?_⟩; refine pv hF hW (y_pick hF rfl rfl) fun a hF => ?_
  replace hF := hF.drop 0; refine pv hF hW (y_assign hF rfl) fun a hF => l_nil ?_; replace hF := hF.ks [0, 1, 3, 4, 6, 7, 8, 9, 10] rfl; refine t_n <| wp_ret <| ret1 Try.results27 hF (rv_t hF rfl) ?_
  exact ⟨rfl, hW.below⟩
end Go.Proofs.Ytlkkdpoioedacaa
