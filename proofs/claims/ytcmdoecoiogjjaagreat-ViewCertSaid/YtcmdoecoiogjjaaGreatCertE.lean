/- cert.Verify and the reference's VerifyOf. -/
import Derived.Test.YtcmdoecoiogjjaaGreatCertD
namespace Go.Proofs.YtcmdoecoiogjjaaGreat
set_option linter.unusedVariables false
set_option linter.unusedSimpArgs false
open Go.ChangeShapes Go.WideShapes Go.ChangeAt Go.RowKit

set_option maxRecDepth 100000

/-- a certificate's sets, where they lie -/
structure Sets_ (w : World) (A : Option Addr) (c : Nat) (qs : List IR) : Prop where
  m : Flat IR.cells 1 w (.slice A qs.length c) qs
  each : ∀ q, q ∈ qs → q.At w
theorem Sets_.below {w w' : World} {A : Option Addr} {c : Nat} {qs : List IR} (h : Sets_ w A c qs) (hb : Below w.heap.size w w') : Sets_ w' A c qs := ⟨h.m.below hb, fun q hq => Ints.below (h.each q hq) hb⟩
theorem Sets_.row {w : World} {A : Option Addr} {c : Nat} {qs : List IR} (h : Sets_ w A c qs) : RF w A qs.length 1 (fun k => IR.cells (qs.getD k IR0)) := h.m.rf IR.cells_len IR0
def verAt (n : Nat) (P L : List Edg) (ss : List (List Int)) (j : Nat) : Bool := !decide (j < n) || setOK n P L j (ss.getD j [])
def verB (n : Nat) (P L : List Edg) (ss : List (List Int)) : Bool := (List.range ss.length).all (verAt n P L ss) && decide (ss.length = n)
theorem sets_get (qs : List IR) (j : Nat) : (qs.map IR.l).getD j [] = (qs.getD j IR0).l := getD_map IR.l j IR0
set_option maxHeartbeats 8000000 in
theorem certVerify_any {x : SysD} {w : World} (hx : x.At w) {P : List Edg} {A : Option Addr} {c : Nat} (hm : May_ w A c P) (hlm : P.length ≤ maxLen) {qs : List IR} {B : Option Addr} {d : Nat} (hs : Sets_ w B d qs) :
    Calls Tryz.prog 28 #[x.val, .agg #[.slice A P.length c], .agg #[.slice B qs.length d]] w fun e w' => e = .returned (.tuple #[.bool (decide (certErr x.sys P = 0) && verB x.parts.length P (edgesTo x.chans x.parts.length x.parts.length) (qs.map IR.l)), .int .i64 (certErr x.sys P)]) ∧ Below w.heap.size w w' := by
  have hck := fun w1 (hb : Below w.heap.size w w1) => certChk_any (hx.below hb) (Flat.below hm hb) hlm
  have hed := fun w1 (hb : Below w.heap.size w w1) => flowEdges_any (hx.below hb)
  have hof := fun w1 (hb : Below w.heap.size w w1) => certOf_any (Flat.below hm hb) hlm
  have hlen := hs.m.len
  unfold maxLen at hlen
  by_cases h0 : certErr x.sys P = 0
  · obtain ⟨hk, -⟩ := certErr_zero h0
    obtain ⟨⟨hp1, hp2⟩, hc6, -⟩ := sizes_get (chkSys_zero hk).1
    rw [hk] at hed
    rw [h0] at hck ⊢
    rw [show (decide ((0 : Int) = 0)) = true from rfl, Bool.true_and]
    rw [x.val_eq] at *
    refine enter Tryz.func28 rfl Tryz.ntmps28 rfl fun a hF => ?_
    have hW := Wd.start w NoB
    refine c_sr ?_; refine pe (e_box hF hW rfl rfl rfl rfl ?_); intro b1 a wc hF hW; refine pe (e_box hF hW rfl rfl rfl rfl ?_); intro b2 a wc hF hW; refine pe (e_box hF hW rfl rfl rfl rfl ?_); intro b3 a wc hF hW; refine pv hF hW (y_assign hF rfl) fun a hF => pv hF hW (y_assign hF rfl) fun a hF => l_nil <| t_n <| c_s <| c_sr <| pv hF hW (y_loadAll hF rfl 2 rfl Tryz.underlying26 rfl sz_26) fun a hF => pv hF hW (y_loadAll hF rfl 1 rfl Tryz.underlying78 rfl sz_78) fun a hF => ?_; refine pe (e_call hF rfl rfl en_75 (by rfl) rfl rfl (hck _ hW.below) ?_); rintro e w1 ⟨rfl, hb⟩; replace hW := hW.kept hb; clear hb; refine ⟨_, rfl, fun a hF => ?_⟩; refine pv hF hW (y_assign hF rfl) fun a hF => l_nil ?_; replace hF := hF.ks [0, 1, 2, 3, 4, 5, 6, 7, 8] rfl; refine t_n <| c_sr <| pv hF hW (y_move hF rfl) fun a hF => pv hF hW (y_neq hF rfl rfl) fun a hF => ?_; replace hF := hF.ff; refine l_nil ?_; replace hF := hF.ks [0, 1, 2, 3, 4, 5, 6, 7, 8, 18] rfl; refine t_n <| c_f hF rfl <| wp_skip <| t_n <| c_sr <| pv hF hW (y_loadAll hF rfl 2 rfl Tryz.underlying26 rfl sz_26) fun a hF => ?_; refine pe (e_call hF rfl rfl en_76 (by rfl) rfl rfl (hed _ hW.below) ?_); rintro e w1 ⟨L, A1, c1, rfl, hL, hb, hr⟩; replace hW := hW.gotR hb hr; refine ⟨_, rfl, fun a hF => ?_⟩
    rw [if_pos rfl] at hL; rw [← hL]
    refine pv hF hW (y_move hF rfl) fun a hF => pv hF hW (y_extract hF rfl rfl) fun a hF => pv hF hW (y_extract hF rfl rfl) fun a hF => pv hF hW (y_assign hF rfl) fun a hF => pv hF hW (y_assign hF rfl) fun a hF => l_nil ?_; replace hF := hF.ks [0, 1, 2, 3, 4, 5, 6, 7, 8, 9, 18] rfl; refine t_n <| c_sr <| pv hF hW (y_loadAll hF rfl 2 rfl Tryz.underlying78 rfl sz_78) fun a hF => ?_; refine pe (e_call hF rfl rfl en_77 (by rfl) rfl rfl (hof _ hW.below) ?_); rintro e w1 ⟨bm, ks, rfl, hMo, hN⟩; replace hW := hW.comb1 hN; refine ⟨_, rfl, fun a hF => ?_⟩; refine pv hF hW (y_assign hF rfl) fun a hF => l_nil ?_; replace hF := hF.ks [0, 1, 2, 3, 4, 5, 6, 7, 8, 9, 11, 18] rfl; refine t_n <| c_s <| c_sr <| pv hF hW (y_fieldOwn hF rfl fa_81_0) fun a hF => pv hF hW (y_loadOwn hF rfl 2 rfl rfl Tryz.underlying79 rfl) fun a hF => pv hF hW (y_len hF rfl Tryz.underlying79) fun a hF => pv hF hW (y_move hF rfl) fun a hF => l_nil ?_; replace hF := hF.ks [0, 1, 2, 3, 4, 5, 6, 7, 8, 9, 11, 18, 28, 29, 30] rfl; refine t_n <| wp_block ?_; refine c_loop (G := Nat) (fun u : Nat => [(30, .int .i64 (u : Int))]) (fun u : Nat => []) (fun u : Nat => u ≤ qs.length ∧ (List.range u).all (verAt x.parts.length P L (qs.map IR.l)) = true) (fun u : Nat => qs.length - u) 0 (hF.ks [0, 1, 2, 3, 4, 5, 8, 9, 11, 18, 28, 29] rfl) (Fr.cons hF (t := 30) rfl (by first | rfl | (simp; done)) (Fr.nil hF)) (hW) ?_ ?_
    · exact ⟨by omega, rfl⟩
    clear hF hW
    try clear a
    intro u a wc hC hF hW
    obtain ⟨hul, hall⟩ := hC
    refine c_sr <| pv hF hW (y_lss hF rfl rfl) fun a hF => ?_; refine Fr.splitD hF ?_ ?_
    · intro h4 hF; refine l_nil <| t_n <| c_s <| c_t hF rfl <| wp_skip <| t_n <| c_s <| wp_block ?_
      have hul2 : u < qs.length := (by omega)
      obtain ⟨q, hq⟩ : ∃ p, qs.getD u IR0 = p := ⟨_, rfl⟩
      have hqm : q ∈ qs := (by rw [← hq]; exact mem_getD IR0 hul2)
      refine c_sr <| pv hF hW (y_move hF rfl) fun a hF => pv hF hW (y_indexS hF rfl rfl (by exact hul2) Tryz.underlying79 sz_40 (fun w h => (hs.row).wd h)) fun a hF => pv hF hW (y_loadRow hF rfl (fun w h => (hs.row).wd h) (by exact hul2) rfl Tryz.underlying40 rfl) fun a hF => ?_; replace hF := Fr.cast (v' := .slice q.a q.l.length q.k) (by rw [hq]; rfl) hF; refine pv hF hW (y_assign hF rfl) fun a hF => pv hF hW (y_assign hF rfl) fun a hF => l_nil ?_; replace hF := hF.ks [0, 1, 2, 3, 4, 5, 8, 9, 11, 12, 13, 18, 28, 29, 30, 31] rfl; refine t_n <| c_sr <| pv hF hW (y_move hF rfl) fun a hF => pv hF hW (y_fieldOwn hF rfl fa_26_0) fun a hF => pv hF hW (y_loadOwn hF rfl 4 rfl rfl Tryz.underlying22 rfl) fun a hF => pv hF hW (y_len hF rfl Tryz.underlying22) fun a hF => pv hF hW (y_lss hF rfl rfl) fun a hF => ?_; refine Fr.splitD hF ?_ ?_
      · intro h5 hF; refine pv hF hW (y_move hF rfl) fun a hF => pvg hF hW (y_move hF rfl) (ws hF rfl rfl) fun a hF => pvg hF hW (y_move hF rfl) (ws hF rfl rfl) fun a hF => pvg hF hW (y_fieldOwn hF rfl fa_26_0) (ws hF rfl rfl) fun a hF => pvg hF hW (y_loadOwn hF rfl 4 rfl rfl Tryz.underlying22 rfl) (ws hF rfl rfl) fun a hF => pvg hF hW (y_len hF rfl Tryz.underlying22) (ws hF rfl rfl) fun a hF => pvg hF hW (y_move hF rfl) (ws hF rfl rfl) fun a hF => pvg hF hW (y_move hF rfl) (ws hF rfl rfl) fun a hF => ?_; refine pe (e_call hF rfl rfl en_78 (by rfl) rfl rfl (set_any (hW.cmap 0 rfl) hMo (hW.res 1 rfl) (Ints.below (hs.each q hqm) hW.below) u) ?_) (ws hF rfl rfl); rintro e w1 ⟨rfl, hb⟩; replace hW := hW.kept hb; clear hb; refine ⟨_, rfl, fun a hF => ?_⟩; refine Fr.splitB hF ?_ ?_
        · intro h6 hF; refine pvg hF hW (y_not hF rfl) (ws hF rfl rfl) fun a hF => ?_; replace hF := hF.ff; refine pv hF hW (y_pick hF rfl rfl) fun a hF => ?_; replace hF := hF.ff; refine l_nil ?_; replace hF := hF.ks [0, 1, 2, 3, 4, 5, 8, 9, 11, 12, 13, 18, 28, 29, 30, 31, 50] rfl; refine t_n <| c_f hF rfl <| wp_skip <| b_n <| t_n <| c_r <| pv hF hW (y_add hF rfl rfl (IntWalk.i64_in _ (by omega))) fun a hF => ?_; replace hF := hF.drop 30; refine pv hF hW (y_move hF rfl) fun a hF => l_nil ?_; replace hF := hF.ks [0, 1, 2, 3, 4, 5, 8, 9, 11, 12, 13, 18, 28, 29, 30, 31, 50] rfl; refine t_n ?_; refine ⟨(u + 1), ?_, ?_, ?_, ?_⟩
          · exact ⟨by omega, all_snoc hall (by unfold verAt; rw [sets_get]; first | (rw [decide_eq_false (by omega)]; rfl) | (rw [hq, (by assumption : setOK x.parts.length P L u q.l = true)]; simp))⟩
          · first | omega | (dsimp only; omega)
          · exact Fr.app (Fr.cons hF (t := 30) rfl (by first | rfl | (simp; done) | omega) (Fr.nil hF)) (hF.ks [0, 1, 2, 3, 4, 5, 8, 9, 11, 18, 28, 29] rfl)
          · exact hW
        · intro h6 hF; refine pvg hF hW (y_not hF rfl) (ws hF rfl rfl) fun a hF => ?_; replace hF := hF.tt; refine pv hF hW (y_pick hF rfl rfl) fun a hF => ?_; replace hF := hF.tt; refine l_nil ?_; replace hF := hF.ks [0, 1, 2, 3, 4, 5, 8, 9, 11, 12, 13, 18, 28, 29, 30, 31, 50] rfl; refine t_n <| c_t hF rfl <| c_sr <| pv hF hW (y_assign hF rfl) fun a hF => pv hF hW (y_assign hF rfl) fun a hF => l_nil <| t_n <| wp_ret <| b_r <| t_r <| t_r <| b_r <| t_r <| ret2 Tryz.results28 hF (rv_t hF rfl) (rv_t hF rfl) ?_
          first
          | exact ⟨by unfold verB; rw [all_no (k := u) (by rw [List.length_map]; omega) (by unfold verAt; rw [sets_get, hq, decide_eq_true (by omega), (by assumption : setOK x.parts.length P L u q.l = false)]; rfl), Bool.false_and], hW.below⟩
          | exact ⟨by unfold verB; rw [List.length_map, decide_eq_true (by omega), show qs.length = u by omega, hall, Bool.true_and], hW.below⟩
          | exact ⟨by unfold verB; rw [List.length_map, decide_eq_false (by omega), Bool.and_false], hW.below⟩
      · intro h5 hF; refine pv hF hW (y_move hF rfl) fun a hF => pk hF (wn hF rfl rfl rfl) fun a hF => pk hF (wn hF rfl rfl rfl) fun a hF => pk hF (wn hF rfl rfl rfl) fun a hF => pk hF (wn hF rfl rfl rfl) fun a hF => pk hF (wn hF rfl rfl rfl) fun a hF => pk hF (wn hF rfl rfl rfl) fun a hF => pk hF (wn hF rfl rfl rfl) fun a hF => pk hF (wn hF rfl rfl rfl) fun a hF => pk hF (wn hF rfl rfl rfl) fun a hF => pv hF hW (y_pick hF rfl rfl) fun a hF => l_nil ?_; replace hF := hF.ks [0, 1, 2, 3, 4, 5, 8, 9, 11, 12, 13, 18, 28, 29, 30, 31, 50] rfl; refine t_n <| c_f hF rfl <| wp_skip <| b_n <| t_n <| c_r <| pv hF hW (y_add hF rfl rfl (IntWalk.i64_in _ (by omega))) fun a hF => ?_; replace hF := hF.drop 30; refine pv hF hW (y_move hF rfl) fun a hF => l_nil ?_; replace hF := hF.ks [0, 1, 2, 3, 4, 5, 8, 9, 11, 12, 13, 18, 28, 29, 30, 31, 50] rfl; refine t_n ?_; refine ⟨(u + 1), ?_, ?_, ?_, ?_⟩
        · exact ⟨by omega, all_snoc hall (by unfold verAt; rw [sets_get]; first | (rw [decide_eq_false (by omega)]; rfl) | (rw [hq, (by assumption : setOK x.parts.length P L u q.l = true)]; simp))⟩
        · first | omega | (dsimp only; omega)
        · exact Fr.app (Fr.cons hF (t := 30) rfl (by first | rfl | (simp; done) | omega) (Fr.nil hF)) (hF.ks [0, 1, 2, 3, 4, 5, 8, 9, 11, 18, 28, 29] rfl)
        · exact hW
    · intro h4 hF; refine l_nil <| t_n <| c_s <| c_f hF rfl <| wp_exit <| t_x <| t_x <| b_h <| t_n <| c_sr <| pv hF hW (y_fieldOwn hF rfl fa_81_0) fun a hF => pv hF hW (y_loadOwn hF rfl 2 rfl rfl Tryz.underlying79 rfl) fun a hF => pv hF hW (y_len hF rfl Tryz.underlying79) fun a hF => pv hF hW (y_fieldOwn hF rfl fa_26_0) fun a hF => pv hF hW (y_loadOwn hF rfl 4 rfl rfl Tryz.underlying22 rfl) fun a hF => pv hF hW (y_len hF rfl Tryz.underlying22) fun a hF => pv hF hW (y_eql hF rfl rfl) fun a hF => ?_; refine Fr.splitD hF ?_ ?_
      · intro h7 hF; refine pv hF hW (y_assign hF rfl) fun a hF => pv hF hW (y_assign hF rfl) fun a hF => l_nil ?_; replace hF := hF.ks [0, 1, 2, 3, 4, 5, 6, 7, 8, 9, 11, 18, 28, 29, 30, 31] rfl; refine t_n <| wp_ret <| ret2 Tryz.results28 hF (rv_t hF rfl) (rv_t hF rfl) ?_
        first
        | exact ⟨by unfold verB; rw [all_no (k := u) (by rw [List.length_map]; omega) (by unfold verAt; rw [sets_get, hq, decide_eq_true (by omega), (by assumption : setOK x.parts.length P L u q.l = false)]; rfl), Bool.false_and], hW.below⟩
        | exact ⟨by unfold verB; rw [List.length_map, decide_eq_true (by omega), show qs.length = u by omega, hall, Bool.true_and], hW.below⟩
        | exact ⟨by unfold verB; rw [List.length_map, decide_eq_false (by omega), Bool.and_false], hW.below⟩
      · intro h7 hF; refine pv hF hW (y_assign hF rfl) fun a hF => pv hF hW (y_assign hF rfl) fun a hF => l_nil ?_; replace hF := hF.ks [0, 1, 2, 3, 4, 5, 6, 7, 8, 9, 11, 18, 28, 29, 30, 31] rfl; refine t_n <| wp_ret <| ret2 Tryz.results28 hF (rv_t hF rfl) (rv_t hF rfl) ?_
        first
        | exact ⟨by unfold verB; rw [all_no (k := u) (by rw [List.length_map]; omega) (by unfold verAt; rw [sets_get, hq, decide_eq_true (by omega), (by assumption : setOK x.parts.length P L u q.l = false)]; rfl), Bool.false_and], hW.below⟩
        | exact ⟨by unfold verB; rw [List.length_map, decide_eq_true (by omega), show qs.length = u by omega, hall, Bool.true_and], hW.below⟩
        | exact ⟨by unfold verB; rw [List.length_map, decide_eq_false (by omega), Bool.and_false], hW.below⟩
  · rw [decide_eq_false h0]
    generalize certErr x.sys P = E at *
    rw [x.val_eq] at *
    refine enter Tryz.func28 rfl Tryz.ntmps28 rfl fun a hF => ?_
    have hW := Wd.start w NoB
    refine c_sr ?_; refine pe (e_box hF hW rfl rfl rfl rfl ?_); intro b1 a wc hF hW; refine pe (e_box hF hW rfl rfl rfl rfl ?_); intro b2 a wc hF hW; refine pe (e_box hF hW rfl rfl rfl rfl ?_); intro b3 a wc hF hW; refine pv hF hW (y_assign hF rfl) fun a hF => pv hF hW (y_assign hF rfl) fun a hF => l_nil <| t_n <| c_s <| c_sr <| pv hF hW (y_loadAll hF rfl 2 rfl Tryz.underlying26 rfl sz_26) fun a hF => pv hF hW (y_loadAll hF rfl 1 rfl Tryz.underlying78 rfl sz_78) fun a hF => ?_; refine pe (e_call hF rfl rfl en_75 (by rfl) rfl rfl (hck _ hW.below) ?_); rintro e w1 ⟨rfl, hb⟩; replace hW := hW.kept hb; clear hb; refine ⟨_, rfl, fun a hF => ?_⟩; refine pv hF hW (y_assign hF rfl) fun a hF => l_nil ?_; replace hF := hF.ks [0, 1, 2, 3, 4, 5, 6, 7, 8] rfl; refine t_n <| c_sr <| pv hF hW (y_move hF rfl) fun a hF => pv hF hW (y_neq hF rfl rfl) fun a hF => ?_; refine Fr.splitD hF ?_ ?_
    · intro h4 hF; refine l_nil ?_; replace hF := hF.ks [0, 1, 2, 3, 4, 5, 6, 7, 8, 18] rfl; refine t_n <| c_t hF rfl <| c_sr <| pv hF hW (y_move hF rfl) fun a hF => ?_; replace hF := hF.drop 6; refine pv hF hW (y_assign hF rfl) fun a hF => ?_; replace hF := hF.drop 7; refine pv hF hW (y_assign hF rfl) fun a hF => l_nil ?_; replace hF := hF.ks [0, 1, 2, 3, 4, 5, 6, 7, 8, 18] rfl; refine t_n <| wp_ret <| t_r <| ret2 Tryz.results28 hF (rv_t hF rfl) (rv_t hF rfl) ?_
      exact ⟨rfl, hW.below⟩
    · intro h4 hF; exfalso
      exact h4 h0

/-! ### the reference's words -/
def inAll (cs : List Chn) (l : List Int) (n : Nat) (v : Int) (k : Nat) : Bool := (List.range k).all fun u => !leadsB cs u v.toNat || decide ((u : Int) ∈ l)
def itemR (cs : List Chn) (n : Nat) (P : List Edg) (u : Int) (l : List Int) (k : Nat) : Bool := (decide (0 ≤ l.getD k 0 ∧ l.getD k 0 < n) && (k == 0 || decide (l.getD (k - 1) 0 < l.getD k 0)) && mayB P (l.getD k 0) u) && inAll cs l n (l.getD k 0) n
def refOK (cs : List Chn) (n : Nat) (P : List Edg) (u : Int) (l : List Int) : Bool := decide (u ∈ l) && (List.range l.length).all (itemR cs n P u l)
def refVer (cs : List Chn) (n : Nat) (P : List Edg) (ss : List (List Int)) : Bool := decide (ss.length = n) && (List.range ss.length).all fun j => refOK cs n P j (ss.getD j [])
theorem all_iff {n : Nat} {P : Nat → Bool} : (List.range n).all P = true ↔ ∀ k, k < n → P k = true := by
  rw [List.all_eq_true]
  exact ⟨fun h k hk => h k (List.mem_range.2 hk), fun h k hk => h k (List.mem_range.1 hk)⟩
theorem mem_edges_iff {cs : List Chn} {n : Nat} {e : Edg} : e ∈ edgesTo cs n n ↔ ∃ u v : Nat, u < n ∧ v < n ∧ leadsB cs u v = true ∧ e = ⟨u, v⟩ := by
  unfold edgesTo
  constructor
  · intro h
    obtain ⟨u, hu, h⟩ := List.mem_flatMap.1 h
    obtain ⟨m, hm, rfl⟩ := List.mem_map.1 h
    obtain ⟨v, rfl, hv, hl⟩ := tl_lt hm
    exact ⟨u, v, List.mem_range.1 hu, hv, hl, rfl⟩
  · rintro ⟨u, v, hu, hv, hl, rfl⟩
    exact List.mem_flatMap.2 ⟨u, List.mem_range.2 hu, List.mem_map.2 ⟨v, mem_tl.2 ⟨hv, hl⟩, rfl⟩⟩
theorem any_out {L : List Edg} {l : List Int} : ((List.range L.length).any fun k => outB l (L.getD k E0)) = false ↔ ∀ e, e ∈ L → e.to_ ∈ l → e.from_ ∈ l := by
  constructor
  · intro h e he h1
    refine Classical.byContradiction fun h2 => ?_
    obtain ⟨k, hk, hke⟩ := List.mem_iff_getElem.1 he
    have := List.any_eq_false.1 h k (List.mem_range.2 hk)
    rw [List.getD, List.getElem?_eq_getElem hk, Option.getD_some, hke] at this
    simp [outB, h1, h2] at this
  · intro h
    refine List.any_eq_false.2 fun k hk => ?_
    have := h _ (mem_getD E0 (List.mem_range.1 hk))
    unfold outB
    simp only [Bool.and_eq_true, decide_eq_true_eq, Bool.not_eq_true', decide_eq_false_iff_not, not_and, Classical.not_not]
    exact this
theorem getD_mem_iff {l : List Int} {v : Int} : v ∈ l ↔ ∃ k, k < l.length ∧ l.getD k 0 = v := by
  constructor
  · intro h
    obtain ⟨k, hk, e⟩ := List.mem_iff_getElem.1 h
    exact ⟨k, hk, by rw [List.getD, List.getElem?_eq_getElem hk]; exact e⟩
  · rintro ⟨k, hk, rfl⟩
    exact mem_getD 0 hk
/-- a set of a certificate, in plain words -/
structure IsSet (cs : List Chn) (n : Nat) (P : List Edg) (u : Int) (l : List Int) : Prop where
  self : u ∈ l
  low : ∀ k, k < l.length → 0 ≤ l.getD k 0 ∧ l.getD k 0 < n
  up : ∀ k, 0 < k → k < l.length → l.getD (k - 1) 0 < l.getD k 0
  may : ∀ k, k < l.length → mayB P (l.getD k 0) u = true
  shut : ∀ u v : Nat, u < n → v < n → leadsB cs u v = true → (v : Int) ∈ l → (u : Int) ∈ l
theorem setOK_iff {cs : List Chn} {n : Nat} {P : List Edg} {u : Int} {l : List Int} : setOK n P (edgesTo cs n n) u l = true ↔ IsSet cs n P u l := by
  unfold setOK
  simp only [Bool.and_eq_true, all_iff, decide_eq_true_eq, Bool.not_eq_true', any_out]
  constructor
  · rintro ⟨h1, h2, h3⟩
    have h4 : ∀ k, k < l.length → (if k = 0 then -1 else l.getD (k - 1) 0) < l.getD k 0 ∧ l.getD k 0 < n ∧ mayB P (l.getD k 0) u = true := fun k hk => by
      have := h1 k hk
      unfold setAt at this
      simp only [Bool.and_eq_true, decide_eq_true_eq] at this
      exact ⟨this.1.1, this.1.2, this.2⟩
    have h5 : ∀ k, k < l.length → 0 ≤ l.getD k 0 := by
      intro k
      induction k with
      | zero => intro hk; have := (h4 0 hk).1; rw [if_pos rfl] at this; omega
      | succ k ih => intro hk; have := (h4 (k + 1) hk).1; rw [if_neg (by omega), Nat.add_sub_cancel] at this; have := ih (by omega); omega
    refine ⟨h2, fun k hk => ⟨h5 k hk, (h4 k hk).2.1⟩, fun k h0 hk => by have := (h4 k hk).1; rwa [if_neg (by omega)] at this, fun k hk => (h4 k hk).2.2, fun a v ha hv hl hvl => ?_⟩
    exact h3 ⟨a, v⟩ (mem_edges_iff.2 ⟨a, v, ha, hv, hl, rfl⟩) hvl
  · intro h
    refine ⟨fun k hk => ?_, h.self, fun e he h1 => ?_⟩
    · unfold setAt
      simp only [Bool.and_eq_true, decide_eq_true_eq]
      refine ⟨⟨?_, (h.low k hk).2⟩, h.may k hk⟩
      split
      · have := (h.low k hk).1; omega
      · exact h.up k (by omega) hk
    · obtain ⟨a, v, ha, hv, hl, rfl⟩ := mem_edges_iff.1 he
      exact h.shut a v ha hv hl h1
theorem refOK_iff {cs : List Chn} {n : Nat} {P : List Edg} {u : Int} {l : List Int} : refOK cs n P u l = true ↔ IsSet cs n P u l := by
  unfold refOK
  simp only [Bool.and_eq_true, all_iff, decide_eq_true_eq]
  have key : ∀ k, itemR cs n P u l k = true ↔ ((0 ≤ l.getD k 0 ∧ l.getD k 0 < n) ∧ (k = 0 ∨ l.getD (k - 1) 0 < l.getD k 0) ∧ mayB P (l.getD k 0) u = true) ∧ ∀ v, v < n → leadsB cs v (l.getD k 0).toNat = true → (v : Int) ∈ l := fun k => by
    unfold itemR inAll
    simp only [Bool.and_eq_true, all_iff, decide_eq_true_eq, Bool.or_eq_true, beq_iff_eq, Bool.not_eq_true', and_assoc]
    refine and_congr_right fun _ => and_congr_right fun _ => and_congr_right fun _ => and_congr_right fun _ => ?_
    refine forall_congr' fun v => imp_congr_right fun _ => ?_
    cases leadsB cs v (l.getD k 0).toNat <;> simp
  constructor
  · rintro ⟨h1, h2⟩
    have h3 := fun k hk => (key k).1 (h2 k hk)
    refine ⟨h1, fun k hk => (h3 k hk).1.1, fun k h0 hk => (h3 k hk).1.2.1.resolve_left (by omega), fun k hk => (h3 k hk).1.2.2, fun a v ha hv hl hvl => ?_⟩
    obtain ⟨k, hk, e⟩ := getD_mem_iff.1 hvl
    exact (h3 k hk).2 a ha (by rw [e]; exact hl)
  · intro h
    refine ⟨h.self, fun k hk => (key k).2 ⟨⟨h.low k hk, ?_, h.may k hk⟩, fun a ha hl => ?_⟩⟩
    · by_cases h0 : k = 0
      · exact .inl h0
      · exact .inr (h.up k (by omega) hk)
    · have h1 := h.low k hk
      refine h.shut a (l.getD k 0).toNat ha (by omega) hl ?_
      rw [Int.toNat_of_nonneg h1.1]
      exact mem_getD 0 hk
theorem refVer_eq {cs : List Chn} {n : Nat} {P : List Edg} {ss : List (List Int)} : refVer cs n P ss = verB n P (edgesTo cs n n) ss := by
  rw [Bool.eq_iff_iff]
  unfold refVer verB
  simp only [Bool.and_eq_true, all_iff, decide_eq_true_eq]
  constructor
  · rintro ⟨h1, h2⟩
    refine ⟨fun k hk => ?_, h1⟩
    unfold verAt
    rw [(setOK_iff (cs := cs)).2 (refOK_iff.1 (h2 k hk))]
    simp
  · rintro ⟨h1, h2⟩
    refine ⟨h2, fun k hk => refOK_iff.2 ((setOK_iff (cs := cs)).1 ?_)⟩
    have := h1 k hk
    unfold verAt at this
    rw [decide_eq_true (by omega)] at this
    simpa using this
end Go.Proofs.YtcmdoecoiogjjaaGreat
