/- The law CertTrue answers true for every input. -/
import Derived.Test.YtlkkdpoioedacaaCertH
namespace Go.Proofs.Ytlkkdpoioedacaa
set_option linter.unusedVariables false
set_option linter.unusedSimpArgs false
open Go.ChangeShapes Go.WideShapes Go.ChangeAt Go.RowKit
theorem bu_CertTrue_37_0_1 (x0 : Int) (x1 : Int) (w : World) : (Instr.build 37 #[(0, (.int .i64 x0)), (1, (.int .i64 x1))]).run Try.prog w = .ok (.agg #[(.int .i64 x0), (.int .i64 x1)]) w := by kernel_rfl
set_option maxRecDepth 100000

section
variable {cs : List Chn} {n : Nat} {P : List Edg}
theorem mem_setOf {u v : Nat} : (u : Int) ∈ setOf cs n v ↔ u < n ∧ rch cs n u v = true := mem_tl
theorem setOf_isSet (h : ∀ u v, u < n → v < n → badB cs n P u v = false) {v : Nat} (hv : v < n) : IsSet cs n P v (setOf cs n v) where
  self := mem_setOf.2 ⟨hv, rchBy_self n v⟩
  low := fun k hk => by
    obtain ⟨u, e, hu, _⟩ := tl_lt (mem_getD (l := setOf cs n v) 0 hk)
    rw [e]
    omega
  up := fun k h0 hk => by
    have := List.pairwise_iff_getElem.1 (tl_strict n (fun u => rch cs n u v)) (k - 1) k (by unfold setOf at hk; omega) hk (by omega)
    rw [List.getD, List.getD, List.getElem?_eq_getElem hk, List.getElem?_eq_getElem (by omega)]
    exact this
  may := fun k hk => by
    obtain ⟨u, e, hu, hr⟩ := tl_lt (mem_getD (l := setOf cs n v) 0 hk)
    rw [e]
    have := h u v hu hv
    unfold badB at this
    rw [hr] at this
    simpa using this
  shut := fun u y hu hy hl hm => by
    have h2 := (mem_setOf.1 hm).2
    exact mem_setOf.2 ⟨hu, (rch_iff hu hv).2 (.step hl hy ((rch_iff hy hv).1 h2))⟩
theorem setOf_ver (h : ∀ u v, u < n → v < n → badB cs n P u v = false) : verB n P (edgesTo cs n n) ((List.range n).map (setOf cs n)) = true := by
  unfold verB
  rw [Bool.and_eq_true, all_iff]
  refine ⟨fun k hk => ?_, by simp⟩
  have hk' : k < n := by simpa using hk
  unfold verAt
  rw [show ((List.range n).map (setOf cs n)).getD k [] = setOf cs n k by simp [List.getD, hk'], (setOK_iff (cs := cs)).2 (setOf_isSet h hk')]
  simp
theorem IsSet.reach {v : Nat} {l : List Int} (h : IsSet cs n P v l) {u : Nat} (hr : Rch cs n u v) : u < n → (u : Int) ∈ l := by
  induction hr with
  | refl => exact fun _ => h.self
  | step h1 h2 _ ih => exact fun hu => h.shut _ _ hu h2 h1 (ih h h2)
theorem IsSet.mayAll {v : Nat} {l : List Int} (h : IsSet cs n P v l) {u : Nat} (hu : (u : Int) ∈ l) : mayB P u v = true := by
  obtain ⟨k, hk, e⟩ := getD_mem_iff.1 hu
  rw [← e]
  exact h.may k hk
theorem ver_clean {ss : List (List Int)} (h : verB n P (edgesTo cs n n) ss = true) {u v : Nat} (hu : u < n) (hv : v < n) : badB cs n P u v = false := by
  unfold verB at h
  rw [Bool.and_eq_true, all_iff, decide_eq_true_eq] at h
  have h1 := h.1 v (by omega)
  unfold verAt at h1
  rw [decide_eq_true hv] at h1
  have hs := (setOK_iff (cs := cs)).1 (by simpa using h1)
  unfold badB
  cases hr : rch cs n u v
  · rfl
  · rw [hs.mayAll (hs.reach ((rch_iff hu hv).1 hr) hu)]
    rfl
end
theorem certify_clean {x : SysD} {w : World} (hx : x.At w) {P : List Edg} {A : Option Addr} {c : Nat} (hm : May_ w A c P) (h0 : certErr x.sys P = 0) (hc : ∀ u v, u < x.parts.length → v < x.parts.length → badB x.chans x.parts.length P u v = false) :
    Calls Try.prog 24 #[x.val, .agg #[.slice A P.length c]] w fun e w' => ∃ (qs : List IR) (B : Option Addr) (d : Nat) (A' : Option Addr) (c' : Nat), e = .returned (.tuple #[.agg #[.slice B qs.length d], .slice A' 0 c', .bool true, .int .i64 0]) ∧ qs.map IR.l = (List.range x.parts.length).map (setOf x.chans x.parts.length) ∧ Below w.heap.size w w' ∧ OwnRes w w' (fun u => Sets_ u B d qs) := by
  refine (certify_any hx hm hm.len).mono ?_
  rintro e w' ⟨qs, B, d, L, A', c', is, rfl, hI, -, hb, hr⟩
  rcases hI h0 with ⟨rfl, -, rfl, hS⟩ | ⟨rfl, u, v, hu, hv, hbad, -⟩
  · rw [h0]
    exact ⟨qs, B, d, A', c', rfl, hS, hb, hr.mono fun _ h => h.1⟩
  · rw [hc u v hu hv] at hbad
    cases hbad
/-- a path from one to another that it may not have a say in -/
structure Leak (x : SysD) (P : List Edg) (L : List Int) (u v : Nat) : Prop where
  hu : u < x.parts.length
  hv : v < x.parts.length
  reach : rch x.chans x.parts.length u v = true
  ne : u ≠ v
  no : edgeIn P u v = false
  two : 2 ≤ L.length
  few : L.length ≤ x.parts.length
  first : L.getD 0 0 = u
  last : L.getD (L.length - 1) 0 = v
theorem certify_leak {x : SysD} {w : World} (hx : x.At w) {P : List Edg} {A : Option Addr} {c : Nat} (hm : May_ w A c P) (h0 : certErr x.sys P = 0) (hc : ¬ ∀ u v, u < x.parts.length → v < x.parts.length → badB x.chans x.parts.length P u v = false) :
    Calls Try.prog 24 #[x.val, .agg #[.slice A P.length c]] w fun e w' => ∃ (B : Option Addr) (m d : Nat) (L : List Int) (A' : Option Addr) (c' u v : Nat), e = .returned (.tuple #[.agg #[.slice B m d], .slice A' L.length c', .bool false, .int .i64 0]) ∧ Leak x P L u v ∧ Below w.heap.size w w' ∧ OwnRes w w' (fun u => Ints u (.slice A' L.length c') L) := by
  refine (certify_any hx hm hm.len).mono ?_
  rintro e w' ⟨qs, B, d, L, A', c', is, rfl, hI, -, hb, hr⟩
  rcases hI h0 with ⟨rfl, hno, -⟩ | ⟨rfl, u, v, hu, hv, hbad, -, hL, -⟩
  · exact absurd hno hc
  · rw [h0]
    refine ⟨_, _, _, L, A', c', u, v, rfl, ?_, hb, hr.mono fun _ h => h.2⟩
    unfold badB at hbad
    rw [Bool.and_eq_true, Bool.not_eq_true'] at hbad
    obtain ⟨h1, h2⟩ := hbad
    unfold mayB at h2
    rw [Bool.or_eq_false_iff, decide_eq_false_iff_not] at h2
    obtain ⟨R, hR⟩ := Option.isSome_iff_exists.1 ((pathOf_iff hu hv).trans h1)
    have hRd := (pathOf_some hR).1
    rw [hR, Option.getD_some] at hL
    have hne : u ≠ v := fun e => h2.1 (by rw [e])
    have hlen : L.length = R.length := by rw [hL, List.length_map]
    have hval : ∀ k, k < R.length → L.getD k 0 = ((R.getD k 0 : Nat) : Int) := fun k hk => by rw [hL]; simp [List.getD, hk]
    have hpos := hRd.pos
    have h2R : 2 ≤ R.length := by
      cases hRd with
      | one => exact absurd rfl hne
      | step _ _ h3 => have := h3.pos; simp only [List.length_cons]; omega
    refine ⟨hu, hv, h1, hne, h2.2, by omega, by rw [hlen]; exact pathOf_len hR, ?_, ?_⟩
    · rw [hval 0 hpos]
      obtain ⟨t, rfl⟩ := hRd.head
      rfl
    · rw [hlen, hval _ (by omega), hRd.last]
set_option maxHeartbeats 8000000 in
theorem certTrue_run (x : SysD) (P : List Edg) (A : Option Addr) (c : Nat) (qs : List IR) (B : Option Addr) (d : Nat) (w : World) (hx : x.At w) (hm : May_ w A c P) (hs : Sets_ w B d qs) :
    Calls Try.prog 8 #[x.val, .agg #[.slice A P.length c], .agg #[.slice B qs.length d]] w fun e w' => e = .returned (.bool true) ∧ Below w.heap.size w w' := by
  have hve := fun w1 (hb : Below w.heap.size w w1) {rs : List IR} {B2 : Option Addr} {d2 : Nat} (hs2 : Sets_ w1 B2 d2 rs) => certVerify_any (hx.below hb) (Flat.below hm hb) hm.len hs2
  by_cases h0 : certErr x.sys P = 0
  · obtain ⟨hk, -⟩ := certErr_zero h0
    obtain ⟨⟨hp1, hp2⟩, -⟩ := sizes_get (chkSys_zero hk).1
    rw [h0, show (decide ((0 : Int) = 0)) = true from rfl] at hve
    by_cases hcl : ∀ u v, u < x.parts.length → v < x.parts.length → badB x.chans x.parts.length P u v = false
    · have hce := fun w1 (hb : Below w.heap.size w w1) => certify_clean (hx.below hb) (Flat.below hm hb) h0 hcl
      have hgood := setOf_ver hcl
      rw [x.val_eq] at *
      refine enter Try.func8 rfl Try.ntmps8 rfl fun a hF => ?_
      have hW := Wd.start w NoB
      refine c_sr ?_; refine pe (e_box hF hW rfl rfl rfl rfl ?_); intro b1 a wc hF hW; refine pe (e_box hF hW rfl rfl rfl rfl ?_); intro b2 a wc hF hW; refine pe (e_box hF hW rfl rfl rfl rfl ?_); intro b3 a wc hF hW; refine pv hF hW (y_assign hF rfl) fun a hF => l_nil <| t_n <| c_sr <| pv hF hW (y_loadAll hF rfl 2 rfl Try.underlying26 rfl sz_26) fun a hF => pv hF hW (y_loadAll hF rfl 1 rfl Try.underlying52 rfl sz_52) fun a hF => ?_; refine pe (e_call hF rfl rfl en_24 (by rfl) rfl rfl (hce _ hW.below) ?_); rintro e w1 ⟨rs, B2, d2, A1, c1, rfl, hS, hb, hr⟩; replace hW := hW.gotR hb hr; refine ⟨_, rfl, fun a hF => ?_⟩; refine pv hF hW (y_move hF rfl) fun a hF => pv hF hW (y_extract hF rfl rfl) fun a hF => pv hF hW (y_extract hF rfl rfl) fun a hF => pv hF hW (y_extract hF rfl rfl) fun a hF => pv hF hW (y_extract hF rfl rfl) fun a hF => ?_; refine pe (e_alloc hF hW ze_55 rfl rfl rfl ?_); intro b4 a wc hF hW; refine pe (e_storeAll rfl hF hW rfl rfl 0 rfl rfl rfl (by kernel_rfl) sz_55 ?_); intro wc hW; refine pv hF hW (y_assign hF rfl) fun a hF => pv hF hW (y_assign hF rfl) fun a hF => pv hF hW (y_assign hF rfl) fun a hF => l_nil ?_; replace hF := hF.ks [0, 1, 2, 3, 4, 5, 6, 7, 8, 9, 10] rfl; refine t_n <| c_sr <| pv hF hW (y_loadAll hF rfl 4 rfl Try.underlying26 rfl sz_26) fun a hF => pv hF hW (y_loadAll hF rfl 3 rfl Try.underlying52 rfl sz_52) fun a hF => pv hF hW (y_loadAll hF rfl 2 rfl Try.underlying55 rfl sz_55) fun a hF => ?_; refine pe (e_call hF rfl rfl en_30 (by rfl) rfl rfl (hve _ hW.below (hs.below hW.below)) ?_); rintro e w1 ⟨rfl, hb⟩; replace hW := hW.kept hb; clear hb; refine ⟨_, rfl, fun a hF => ?_⟩; refine pv hF hW (y_move hF rfl) fun a hF => pv hF hW (y_extract hF rfl rfl) fun a hF => pv hF hW (y_extract hF rfl rfl) fun a hF => pv hF hW (y_assign hF rfl) fun a hF => pv hF hW (y_assign hF rfl) fun a hF => l_nil ?_; replace hF := hF.ks [0, 1, 2, 3, 4, 5, 6, 7, 8, 9, 10, 11, 12] rfl; refine t_n <| c_s <| c_sr <| pv hF hW (y_move hF rfl) fun a hF => pv hF hW (y_neq hF rfl rfl) fun a hF => ?_; replace hF := hF.ff; refine pv hF hW (y_move hF rfl) fun a hF => ?_; replace hF := hF.ff; refine pvg hF hW (y_move hF rfl) (ws hF rfl rfl) fun a hF => pvg hF hW (y_neq hF rfl rfl) (ws hF rfl rfl) fun a hF => ?_; replace hF := hF.ff; refine pv hF hW (y_pick hF rfl rfl) fun a hF => ?_; replace hF := hF.ff; refine l_nil ?_; replace hF := hF.ks [0, 1, 2, 3, 4, 5, 6, 7, 8, 9, 10, 11, 12, 40] rfl; refine t_n <| c_f hF rfl <| wp_skip <| t_n <| c_s <| c_sr <| pv hF hW (y_move hF rfl) fun a hF => ?_; refine Fr.splitB hF ?_ ?_
      · intro h5 hF; refine pv hF hW (y_move hF rfl) fun a hF => pvg hF hW (y_move hF rfl) (ws hF rfl rfl) fun a hF => pvg hF hW (y_not hF rfl) (ws hF rfl rfl) fun a hF => ?_; replace hF := hF.ff; refine pv hF hW (y_pick hF rfl rfl) fun a hF => ?_; replace hF := hF.ff; refine l_nil ?_; replace hF := hF.ks [0, 1, 2, 3, 4, 5, 6, 7, 8, 9, 10, 11, 12, 40, 46] rfl; refine t_n <| c_f hF rfl <| wp_skip <| t_n <| c_s <| c_sr <| pv hF hW (y_move hF rfl) fun a hF => l_nil <| t_n <| c_t hF rfl <| c_sr <| pv hF hW (y_loadAll hF rfl 4 rfl Try.underlying26 rfl sz_26) fun a hF => pv hF hW (y_loadAll hF rfl 3 rfl Try.underlying52 rfl sz_52) fun a hF => pv hF hW (y_loadAll hF rfl 0 rfl Try.underlying55 rfl sz_55) fun a hF => ?_; refine pe (e_call hF rfl rfl en_30 (by rfl) rfl rfl (hve _ hW.below (hW.res 1 rfl)) ?_); rintro e w1 ⟨rfl, hb⟩; replace hW := hW.kept hb; clear hb; refine ⟨_, rfl, fun a hF => ?_⟩
        rw [hS, hgood] at hF
        refine pv hF hW (y_move hF rfl) fun a hF => pv hF hW (y_extract hF rfl rfl) fun a hF => pv hF hW (y_extract hF rfl rfl) fun a hF => pv hF hW (y_assign hF rfl) fun a hF => pv hF hW (y_assign hF rfl) fun a hF => l_nil ?_; replace hF := hF.ks [0, 1, 2, 3, 4, 5, 6, 7, 8, 9, 10, 11, 12, 13, 14, 40, 46, 47] rfl; refine t_n <| c_sr ?_; refine pe (e_call hF rfl rfl en_27 (by rfl) rfl rfl (certBegun_any _) ?_); rintro e w1 ⟨rfl, hb⟩; replace hW := hW.kept hb; clear hb; refine ⟨_, rfl, fun a hF => ?_⟩; refine pv hF hW (y_move hF rfl) fun a hF => pvg hF hW (y_move hF rfl) (ws hF rfl rfl) fun a hF => pvg hF hW (y_eql hF rfl rfl) (ws hF rfl rfl) fun a hF => ?_; replace hF := hF.tt; refine pv hF hW (y_pick hF rfl rfl) fun a hF => ?_; replace hF := hF.tt; refine pv hF hW (y_move hF rfl) fun a hF => ?_; replace hF := hF.tt; refine pvg hF hW (y_move hF rfl) (ws hF rfl rfl) fun a hF => pv hF hW (y_pick hF rfl rfl) fun a hF => ?_; replace hF := hF.drop 6; refine pv hF hW (y_assign hF rfl) fun a hF => l_nil ?_; replace hF := hF.ks [0, 1, 2, 3, 4, 5, 6, 7, 8, 9, 10, 11, 12, 13, 14, 40, 46, 47] rfl; refine t_n <| wp_ret <| t_r <| ret1 Try.results8 hF (rv_t hF rfl) ?_
        exact ⟨rfl, hW.below⟩
      · intro h5 hF; refine pv hF hW (y_move hF rfl) fun a hF => pk hF (wn hF rfl rfl rfl) fun a hF => pk hF (wn hF rfl rfl rfl) fun a hF => pv hF hW (y_pick hF rfl rfl) fun a hF => l_nil ?_; replace hF := hF.ks [0, 1, 2, 3, 4, 5, 6, 7, 8, 9, 10, 11, 12, 40, 46] rfl; refine t_n <| c_f hF rfl <| wp_skip <| t_n <| c_s <| c_sr <| pv hF hW (y_move hF rfl) fun a hF => l_nil <| t_n <| c_t hF rfl <| c_sr <| pv hF hW (y_loadAll hF rfl 4 rfl Try.underlying26 rfl sz_26) fun a hF => pv hF hW (y_loadAll hF rfl 3 rfl Try.underlying52 rfl sz_52) fun a hF => pv hF hW (y_loadAll hF rfl 0 rfl Try.underlying55 rfl sz_55) fun a hF => ?_; refine pe (e_call hF rfl rfl en_30 (by rfl) rfl rfl (hve _ hW.below (hW.res 1 rfl)) ?_); rintro e w1 ⟨rfl, hb⟩; replace hW := hW.kept hb; clear hb; refine ⟨_, rfl, fun a hF => ?_⟩
        rw [hS, hgood] at hF
        refine pv hF hW (y_move hF rfl) fun a hF => pv hF hW (y_extract hF rfl rfl) fun a hF => pv hF hW (y_extract hF rfl rfl) fun a hF => pv hF hW (y_assign hF rfl) fun a hF => pv hF hW (y_assign hF rfl) fun a hF => l_nil ?_; replace hF := hF.ks [0, 1, 2, 3, 4, 5, 6, 7, 8, 9, 10, 11, 12, 13, 14, 40, 46, 47] rfl; refine t_n <| c_sr ?_; refine pe (e_call hF rfl rfl en_27 (by rfl) rfl rfl (certBegun_any _) ?_); rintro e w1 ⟨rfl, hb⟩; replace hW := hW.kept hb; clear hb; refine ⟨_, rfl, fun a hF => ?_⟩; refine pv hF hW (y_move hF rfl) fun a hF => pvg hF hW (y_move hF rfl) (ws hF rfl rfl) fun a hF => pvg hF hW (y_eql hF rfl rfl) (ws hF rfl rfl) fun a hF => ?_; replace hF := hF.tt; refine pv hF hW (y_pick hF rfl rfl) fun a hF => ?_; replace hF := hF.tt; refine pv hF hW (y_move hF rfl) fun a hF => ?_; replace hF := hF.tt; refine pvg hF hW (y_move hF rfl) (ws hF rfl rfl) fun a hF => pv hF hW (y_pick hF rfl rfl) fun a hF => ?_; replace hF := hF.drop 6; refine pv hF hW (y_assign hF rfl) fun a hF => l_nil ?_; replace hF := hF.ks [0, 1, 2, 3, 4, 5, 6, 7, 8, 9, 10, 11, 12, 13, 14, 40, 46, 47] rfl; refine t_n <| wp_ret <| t_r <| ret1 Try.results8 hF (rv_t hF rfl) ?_
        exact ⟨rfl, hW.below⟩
    · have hce := fun w1 (hb : Below w.heap.size w w1) => certify_leak (hx.below hb) (Flat.below hm hb) h0 hcl
      have hbad : verB x.parts.length P (edgesTo x.chans x.parts.length x.parts.length) (qs.map IR.l) = false := Bool.eq_false_iff.2 fun h => hcl fun u v hu hv => ver_clean h hu hv
      have hv2 := fun w1 (hb : Below w.heap.size w w1) => hve w1 hb (hs.below hb)
      rw [hbad] at hv2
      have hrc := fun w1 (hb : Below w.heap.size w w1) => flowReach_any (hx.below hb)
      have hM : RF w A P.length 2 (fun k => Edg.cells (P.getD k E0)) := Flat.rf Edg.cells_len E0 hm
      have hPl := hm.len
      unfold maxLen at hPl
      rw [hk] at hrc
      clear hve hbad
      rw [x.val_eq] at *
      refine enter Try.func8 rfl Try.ntmps8 rfl fun a hF => ?_
      have hW := Wd.start w NoB
      refine c_sr ?_; refine pe (e_box hF hW rfl rfl rfl rfl ?_); intro b1 a wc hF hW; refine pe (e_box hF hW rfl rfl rfl rfl ?_); intro b2 a wc hF hW; refine pe (e_box hF hW rfl rfl rfl rfl ?_); intro b3 a wc hF hW; refine pv hF hW (y_assign hF rfl) fun a hF => l_nil <| t_n <| c_sr <| pv hF hW (y_loadAll hF rfl 2 rfl Try.underlying26 rfl sz_26) fun a hF => pv hF hW (y_loadAll hF rfl 1 rfl Try.underlying52 rfl sz_52) fun a hF => ?_; refine pe (e_call hF rfl rfl en_24 (by rfl) rfl rfl (hce _ hW.below) ?_); rintro e w1 ⟨B2, m2, d2, L, A1, c1, u, v, rfl, hK, hb, hr⟩; replace hW := hW.gotR hb hr; refine ⟨_, rfl, fun a hF => ?_⟩
      have k2 := hK.two; have kfew := hK.few; have kL0 : 0 < L.length := (by omega); have kL1 : L.length - 1 < L.length := (by omega); have kf := hK.first; have kl := hK.last; have kne := hK.ne; have kno := hK.no; have ku := hK.hu; have kv := hK.hv
      refine pv hF hW (y_move hF rfl) fun a hF => pv hF hW (y_extract hF rfl rfl) fun a hF => pv hF hW (y_extract hF rfl rfl) fun a hF => pv hF hW (y_extract hF rfl rfl) fun a hF => pv hF hW (y_extract hF rfl rfl) fun a hF => ?_; refine pe (e_alloc hF hW ze_55 rfl rfl rfl ?_); intro b4 a wc hF hW; refine pe (e_storeAll rfl hF hW rfl rfl 0 rfl rfl rfl (by kernel_rfl) sz_55 ?_); intro wc hW; refine pv hF hW (y_assign hF rfl) fun a hF => pv hF hW (y_assign hF rfl) fun a hF => pv hF hW (y_assign hF rfl) fun a hF => l_nil ?_; replace hF := hF.ks [0, 1, 2, 3, 4, 5, 6, 7, 8, 9, 10] rfl; refine t_n <| c_sr <| pv hF hW (y_loadAll hF rfl 4 rfl Try.underlying26 rfl sz_26) fun a hF => pv hF hW (y_loadAll hF rfl 3 rfl Try.underlying52 rfl sz_52) fun a hF => pv hF hW (y_loadAll hF rfl 2 rfl Try.underlying55 rfl sz_55) fun a hF => ?_; refine pe (e_call hF rfl rfl en_30 (by rfl) rfl rfl (hv2 _ hW.below) ?_); rintro e w1 ⟨rfl, hb⟩; replace hW := hW.kept hb; clear hb; refine ⟨_, rfl, fun a hF => ?_⟩; refine pv hF hW (y_move hF rfl) fun a hF => pv hF hW (y_extract hF rfl rfl) fun a hF => pv hF hW (y_extract hF rfl rfl) fun a hF => pv hF hW (y_assign hF rfl) fun a hF => pv hF hW (y_assign hF rfl) fun a hF => l_nil ?_; replace hF := hF.ks [0, 1, 2, 3, 4, 5, 6, 7, 8, 9, 10, 11, 12] rfl; refine t_n <| c_s <| c_sr <| pv hF hW (y_move hF rfl) fun a hF => pv hF hW (y_neq hF rfl rfl) fun a hF => ?_; replace hF := hF.ff; refine pv hF hW (y_move hF rfl) fun a hF => ?_; replace hF := hF.ff; refine pvg hF hW (y_move hF rfl) (ws hF rfl rfl) fun a hF => pvg hF hW (y_neq hF rfl rfl) (ws hF rfl rfl) fun a hF => ?_; replace hF := hF.ff; refine pv hF hW (y_pick hF rfl rfl) fun a hF => ?_; replace hF := hF.ff; refine l_nil ?_; replace hF := hF.ks [0, 1, 2, 3, 4, 5, 6, 7, 8, 9, 10, 11, 12, 40] rfl; refine t_n <| c_f hF rfl <| wp_skip <| t_n <| c_s <| c_sr <| pv hF hW (y_move hF rfl) fun a hF => pv hF hW (y_move hF rfl) fun a hF => pk hF (wn hF rfl rfl rfl) fun a hF => pk hF (wn hF rfl rfl rfl) fun a hF => pv hF hW (y_pick hF rfl rfl) fun a hF => l_nil ?_; replace hF := hF.ks [0, 1, 2, 3, 4, 5, 6, 7, 8, 9, 10, 11, 12, 40, 46] rfl; refine t_n <| c_f hF rfl <| wp_skip <| t_n <| c_s <| c_sr <| pv hF hW (y_move hF rfl) fun a hF => l_nil <| t_n <| c_f hF rfl <| wp_skip <| t_n <| c_sr <| pv hF hW (y_loadAll hF rfl 4 rfl Try.underlying26 rfl sz_26) fun a hF => ?_; refine pe (e_call hF rfl rfl en_14 (by rfl) rfl rfl (hrc _ hW.below) ?_); rintro e w1 ⟨D, Ad, cd, rfl, hD, hb, hr⟩
      replace hW := hW.gotR hb (hr.mono fun u h => RM.mk h.1 h.2)
      replace hD := IsReach.of (hD.trans (if_pos rfl))
      have hDl := hD.len
      refine ⟨_, rfl, fun a hF => ?_⟩
      have huD : u < D.length := (by omega); have huv : v < (D.getD u BR0).l.length := (by rw [hD.each u ku]; exact kv); have hval := (hD.val u v ku kv).trans hK.reach
      refine pv hF hW (y_move hF rfl) fun a hF => pv hF hW (y_extract hF rfl rfl) fun a hF => pv hF hW (y_extract hF rfl rfl) fun a hF => pv hF hW (y_assign hF rfl) fun a hF => pv hF hW (y_assign hF rfl) fun a hF => l_nil ?_; replace hF := hF.ks [0, 1, 2, 3, 4, 5, 6, 7, 8, 9, 10, 11, 12, 15, 16, 40, 46, 47] rfl; refine t_n <| c_s <| c_sr <| pv hF hW (y_move hF rfl) fun a hF => pv hF hW (y_neq hF rfl rfl) fun a hF => ?_; replace hF := hF.ff; refine pv hF hW (y_move hF rfl) fun a hF => ?_; replace hF := hF.ff; refine pvg hF hW (y_move hF rfl) (ws hF rfl rfl) fun a hF => pvg hF hW (y_len hF rfl Try.underlying42) (ws hF rfl rfl) fun a hF => pvg hF hW (y_lss hF rfl rfl) (ws hF rfl rfl) fun a hF => ?_; refine Fr.splitD hF ?_ ?_
      · intro h5 hF; exfalso
        omega
      · intro h5 hF; refine pv hF hW (y_pick hF rfl rfl) fun a hF => l_nil ?_; replace hF := hF.ks [0, 1, 2, 3, 4, 5, 6, 7, 8, 9, 10, 11, 12, 15, 16, 40, 46, 47, 74] rfl; refine t_n <| c_f hF rfl <| wp_skip <| t_n <| c_sd mixed_ok hW (hW) ?_
        clear hW; intro wc hW hS
        refine dv 0 rfl hF hS (y_move hF rfl) fun a hF => dv 1 rfl hF hS (y_indexS hF rfl rfl (by exact kL0) Try.underlying42 sz_3 (fun w h => (h.res 2 rfl)|> ints_rf)) fun a hF => dv 2 rfl hF hS (y_loadRow hF rfl (fun w h => (h.res 2 rfl)|> ints_rf) (by exact kL0) rfl Try.underlying3 rfl) fun a hF => ?_; replace hF := Fr.cast (v' := .int .i64 (u : Int)) (by rw [kf]) hF; refine dv 3 rfl hF hS (y_move hF rfl) fun a hF => dv 4 rfl hF hS (y_move hF rfl) fun a hF => dv 5 rfl hF hS (y_len hF rfl Try.underlying42) fun a hF => dv 6 rfl hF hS (y_sub hF rfl rfl (IntWalk.i64_in _ (by omega))) fun a hF => ?_; replace hF := Fr.cast (v' := .int .i64 ((L.length - 1 : Nat) : Int)) (by congr 1; omega) hF; refine dv 7 rfl hF hS (y_indexS hF rfl rfl (by exact kL1) Try.underlying42 sz_3 (fun w h => (h.res 2 rfl)|> ints_rf)) fun a hF => dv 8 rfl hF hS (y_loadRow hF rfl (fun w h => (h.res 2 rfl)|> ints_rf) (by exact kL1) rfl Try.underlying3 rfl) fun a hF => ?_; replace hF := Fr.cast (v' := .int .i64 (v : Int)) (by rw [kl]) hF; refine dv 9 rfl hF hS (y_assign hF rfl) fun a hF => dv 10 rfl hF hS (y_assign hF rfl) fun a hF => ?_; clear hS; refine d_nil (by kernel_rfl) ?_; replace hF := hF.ks [0, 1, 2, 3, 4, 5, 6, 7, 8, 9, 10, 11, 12, 15, 16, 17, 18, 40, 46, 47, 74] rfl; refine t_n <| c_s <| c_sr <| pv hF hW (y_move hF rfl) fun a hF => pv hF hW (y_lss hF rfl rfl) fun a hF => ?_; refine Fr.splitD hF ?_ ?_
        · intro h6 hF; exfalso
          omega
        · intro h6 hF; refine pv hF hW (y_move hF rfl) fun a hF => pvg hF hW (y_move hF rfl) (ws hF rfl rfl) fun a hF => pvg hF hW (y_move hF rfl) (ws hF rfl rfl) fun a hF => pvg hF hW (y_len hF rfl Try.underlying31) (ws hF rfl rfl) fun a hF => pvg hF hW (y_geq hF rfl rfl) (ws hF rfl rfl) fun a hF => ?_; refine Fr.splitD hF ?_ ?_
          · intro h7 hF; exfalso
            omega
          · intro h7 hF; refine pv hF hW (y_pick hF rfl rfl) fun a hF => pv hF hW (y_move hF rfl) fun a hF => pvg hF hW (y_move hF rfl) (ws hF rfl rfl) fun a hF => pvg hF hW (y_lss hF rfl rfl) (ws hF rfl rfl) fun a hF => ?_; refine Fr.splitD hF ?_ ?_
            · intro h8 hF; exfalso
              omega
            · intro h8 hF; refine pv hF hW (y_pick hF rfl rfl) fun a hF => pv hF hW (y_move hF rfl) fun a hF => pvg hF hW (y_move hF rfl) (ws hF rfl rfl) fun a hF => pvg hF hW (y_move hF rfl) (ws hF rfl rfl) fun a hF => pvg hF hW (y_move hF rfl) (ws hF rfl rfl) fun a hF => pvg hF hW (y_indexS hF rfl rfl (by exact huD) Try.underlying31 sz_38 (fun w h => (h.res 0 rfl).row)) (ws hF rfl rfl) fun a hF => pvg hF hW (y_loadRow hF rfl (fun w h => (h.res 0 rfl).row) (by exact huD) rfl Try.underlying38 rfl) (ws hF rfl rfl) fun a hF => ?_; replace hF := Fr.cast (v' := .slice (D.getD u BR0).a (D.getD u BR0).l.length (D.getD u BR0).k) (by rfl) hF; refine pvg hF hW (y_len hF rfl Try.underlying38) (ws hF rfl rfl) fun a hF => pvg hF hW (y_geq hF rfl rfl) (ws hF rfl rfl) fun a hF => ?_; refine Fr.splitD hF ?_ ?_
              · intro h9 hF; exfalso
                omega
              · intro h9 hF; refine pv hF hW (y_pick hF rfl rfl) fun a hF => pv hF hW (y_move hF rfl) fun a hF => pvg hF hW (y_move hF rfl) (ws hF rfl rfl) fun a hF => pvg hF hW (y_move hF rfl) (ws hF rfl rfl) fun a hF => pvg hF hW (y_indexS hF rfl rfl (by exact huD) Try.underlying31 sz_38 (fun w h => (h.res 0 rfl).row)) (ws hF rfl rfl) fun a hF => pvg hF hW (y_loadRow hF rfl (fun w h => (h.res 0 rfl).row) (by exact huD) rfl Try.underlying38 rfl) (ws hF rfl rfl) fun a hF => ?_; replace hF := Fr.cast (v' := .slice (D.getD u BR0).a (D.getD u BR0).l.length (D.getD u BR0).k) (by rfl) hF; refine pvg hF hW (y_move hF rfl) (ws hF rfl rfl) fun a hF => pvg hF hW (y_indexS hF rfl rfl (by exact huv) Try.underlying38 sz_4 (fun w h => (h.res 0 rfl).inner (k := u) huD)) (ws hF rfl rfl) fun a hF => pvg hF hW (y_loadRow hF rfl (fun w h => (h.res 0 rfl).inner (k := u) huD) (by exact huv) rfl Try.underlying4 rfl) (ws hF rfl rfl) fun a hF => ?_; replace hF := Fr.cast (v' := .bool true) (by rw [hval]) hF; refine pvg hF hW (y_not hF rfl) (ws hF rfl rfl) fun a hF => ?_; replace hF := hF.ff; refine pv hF hW (y_pick hF rfl rfl) fun a hF => ?_; replace hF := hF.ff; refine pv hF hW (y_move hF rfl) fun a hF => ?_; replace hF := hF.ff; refine pvg hF hW (y_move hF rfl) (ws hF rfl rfl) fun a hF => pvg hF hW (y_move hF rfl) (ws hF rfl rfl) fun a hF => pvg hF hW (y_eql hF rfl rfl) (ws hF rfl rfl) fun a hF => ?_; refine Fr.splitD hF ?_ ?_
                · intro h10 hF; exfalso
                  omega
                · intro h10 hF; refine pv hF hW (y_pick hF rfl rfl) fun a hF => l_nil ?_; replace hF := hF.ks [0, 1, 2, 3, 4, 5, 6, 7, 8, 9, 10, 11, 12, 15, 16, 17, 18, 40, 46, 47, 74, 119] rfl; refine t_n <| c_f hF rfl <| wp_skip <| t_n <| c_s <| c_sr <| pv hF hW (y_assign hF rfl) fun a hF => l_nil <| t_n <| wp_block ?_; refine c_loop (G := Nat) (fun k : Nat => [(19, .int .i64 (k : Int))]) (fun k : Nat => []) (fun k : Nat => k ≤ P.length) (fun k : Nat => P.length - k) 0 (hF.ks [0, 1, 2, 3, 4, 5, 7, 8, 9, 10, 11, 12, 15, 16, 17, 18, 40, 46, 47, 74, 119] rfl) (Fr.cons hF (t := 19) rfl (by first | rfl | (simp; done)) (Fr.nil hF)) (hW) ?_ ?_
                  · omega
                  clear hF hW
                  try clear a
                  intro k a wc hC hF hW
                  have hkl := hC
                  refine c_s <| c_sr <| pv hF hW (y_move hF rfl) fun a hF => pv hF hW (y_fieldOwn hF rfl fa_52_0) fun a hF => pv hF hW (y_loadOwn hF rfl 4 rfl rfl Try.underlying27 rfl) fun a hF => pv hF hW (y_len hF rfl Try.underlying27) fun a hF => pv hF hW (y_lss hF rfl rfl) fun a hF => ?_; refine Fr.splitD hF ?_ ?_
                  · intro h11 hF; refine l_nil ?_; replace hF := hF.ks [0, 1, 2, 3, 4, 5, 7, 8, 9, 10, 11, 12, 15, 16, 17, 18, 19, 40, 46, 47, 74, 119, 124] rfl; refine t_n <| c_t hF rfl <| wp_skip <| t_n <| c_s <| wp_block ?_
                    obtain ⟨z, hz⟩ : ∃ q, P.getD k E0 = q := ⟨_, rfl⟩
                    obtain ⟨fr, tt⟩ := z
                    have hkl2 : k < P.length := (by omega)
                    refine c_sr <| pv hF hW (y_fieldOwn hF rfl fa_52_0) fun a hF => pv hF hW (y_loadOwn hF rfl 4 rfl rfl Try.underlying27 rfl) fun a hF => pv hF hW (y_move hF rfl) fun a hF => pv hF hW (y_indexS hF rfl rfl (by exact hkl2) Try.underlying27 sz_37 (fun w h => (hM).wd h)) fun a hF => pv hF hW (y_loadRowW hF rfl (fun w h => (hM).wd h) (by exact hkl2) Try.underlying37 rfl (by rw [hz]; exact sz_37)) fun a hF => ?_; replace hF := Fr.cast (v' := .agg #[.int .i64 fr, .int .i64 tt]) (by rw [hz]; rfl) hF; refine pv hF hW (y_move hF rfl) fun a hF => pv hF hW (y_move hF rfl) fun a hF => pv hF hW (y_build hF rfl (fun w => bu_CertTrue_37_0_1 _ _ w)) fun a hF => pv hF hW (y_bin hF rfl rfl (fun w => eqt_37 _ _ _ _ _ _ w)) fun a hF => ?_; refine Fr.splitD hF ?_ ?_
                    · intro h12 hF; exfalso
                      (have q1 := List.any_eq_false.1 kno _ (mem_getD (l := P) E0 hkl2); rw [hz] at q1; exact q1 (decide_eq_true h12))
                    · intro h12 hF; refine l_nil ?_; replace hF := hF.ks [0, 1, 2, 3, 4, 5, 7, 8, 9, 10, 11, 12, 15, 16, 17, 18, 19, 40, 46, 47, 74, 119, 124, 135] rfl; refine t_n <| c_f hF rfl <| wp_skip <| b_n <| t_n <| c_r <| pv hF hW (y_move hF rfl) fun a hF => pv hF hW (y_add hF rfl rfl (IntWalk.i64_in _ (by omega))) fun a hF => ?_; replace hF := hF.drop 19; refine pv hF hW (y_assign hF rfl) fun a hF => l_nil ?_; replace hF := hF.ks [0, 1, 2, 3, 4, 5, 7, 8, 9, 10, 11, 12, 15, 16, 17, 18, 19, 40, 46, 47, 74, 119, 124, 135] rfl; refine t_n ?_; refine ⟨(k + 1), ?_, ?_, ?_, ?_⟩
                      · omega
                      · first | omega | (dsimp only; omega)
                      · exact Fr.app (Fr.cons hF (t := 19) rfl (by first | rfl | (simp; done) | omega) (Fr.nil hF)) (hF.ks [0, 1, 2, 3, 4, 5, 7, 8, 9, 10, 11, 12, 15, 16, 17, 18, 40, 46, 47, 74, 119] rfl)
                      · exact hW
                  · intro h11 hF; refine l_nil ?_; replace hF := hF.ks [0, 1, 2, 3, 4, 5, 7, 8, 9, 10, 11, 12, 15, 16, 17, 18, 19, 40, 46, 47, 74, 119, 124] rfl; refine t_n <| c_f hF rfl <| wp_exit <| t_x <| t_x <| b_h <| t_n <| c_sr ?_; refine pe (e_call hF rfl rfl en_27 (by rfl) rfl rfl (certBegun_any _) ?_); rintro e w1 ⟨rfl, hb⟩; replace hW := hW.kept hb; clear hb; refine ⟨_, rfl, fun a hF => ?_⟩; refine pv hF hW (y_assign hF rfl) fun a hF => l_nil ?_; replace hF := hF.ks [0, 1, 2, 3, 4, 5, 6, 7, 8, 9, 10, 11, 12, 15, 16, 17, 18, 19, 40, 46, 47, 74, 119, 124] rfl; refine t_n <| wp_ret <| ret1 Try.results8 hF (rv_t hF rfl) ?_
                    exact ⟨rfl, hW.below⟩
  · have hce := fun w1 (hb : Below w.heap.size w w1) => certify_any (hx.below hb) (Flat.below hm hb) hm.len
    have hv2 := fun w1 (hb : Below w.heap.size w w1) => hve w1 hb (hs.below hb)
    unfold CertBack at hce
    clear hve
    rw [decide_eq_false h0, Bool.false_and] at hv2
    generalize certErr x.sys P = E at *
    rw [x.val_eq] at *
    refine enter Try.func8 rfl Try.ntmps8 rfl fun a hF => ?_
    have hW := Wd.start w NoB
    refine c_sr ?_; refine pe (e_box hF hW rfl rfl rfl rfl ?_); intro b1 a wc hF hW; refine pe (e_box hF hW rfl rfl rfl rfl ?_); intro b2 a wc hF hW; refine pe (e_box hF hW rfl rfl rfl rfl ?_); intro b3 a wc hF hW; refine pv hF hW (y_assign hF rfl) fun a hF => l_nil <| t_n <| c_sr <| pv hF hW (y_loadAll hF rfl 2 rfl Try.underlying26 rfl sz_26) fun a hF => pv hF hW (y_loadAll hF rfl 1 rfl Try.underlying52 rfl sz_52) fun a hF => ?_; refine pe (e_call hF rfl rfl en_24 (by rfl) rfl rfl (hce _ hW.below) ?_); rintro e w1 ⟨rs, B2, d2, L, A1, c1, is, rfl, -, hI, hb, hr⟩; replace hW := hW.gotR hb hr; refine ⟨_, rfl, fun a hF => ?_⟩; refine pv hF hW (y_move hF rfl) fun a hF => pv hF hW (y_extract hF rfl rfl) fun a hF => pv hF hW (y_extract hF rfl rfl) fun a hF => pv hF hW (y_extract hF rfl rfl) fun a hF => pv hF hW (y_extract hF rfl rfl) fun a hF => ?_; refine pe (e_alloc hF hW ze_55 rfl rfl rfl ?_); intro b4 a wc hF hW; refine pe (e_storeAll rfl hF hW rfl rfl 0 rfl rfl rfl (by kernel_rfl) sz_55 ?_); intro wc hW; refine pv hF hW (y_assign hF rfl) fun a hF => pv hF hW (y_assign hF rfl) fun a hF => pv hF hW (y_assign hF rfl) fun a hF => l_nil ?_; replace hF := hF.ks [0, 1, 2, 3, 4, 5, 6, 7, 8, 9, 10] rfl; refine t_n <| c_sr <| pv hF hW (y_loadAll hF rfl 4 rfl Try.underlying26 rfl sz_26) fun a hF => pv hF hW (y_loadAll hF rfl 3 rfl Try.underlying52 rfl sz_52) fun a hF => pv hF hW (y_loadAll hF rfl 2 rfl Try.underlying55 rfl sz_55) fun a hF => ?_; refine pe (e_call hF rfl rfl en_30 (by rfl) rfl rfl (hv2 _ hW.below) ?_); rintro e w1 ⟨rfl, hb⟩; replace hW := hW.kept hb; clear hb; refine ⟨_, rfl, fun a hF => ?_⟩; refine pv hF hW (y_move hF rfl) fun a hF => pv hF hW (y_extract hF rfl rfl) fun a hF => pv hF hW (y_extract hF rfl rfl) fun a hF => pv hF hW (y_assign hF rfl) fun a hF => pv hF hW (y_assign hF rfl) fun a hF => l_nil ?_; replace hF := hF.ks [0, 1, 2, 3, 4, 5, 6, 7, 8, 9, 10, 11, 12] rfl; refine t_n <| c_s <| c_sr <| pv hF hW (y_move hF rfl) fun a hF => pv hF hW (y_neq hF rfl rfl) fun a hF => ?_; refine Fr.splitD hF ?_ ?_
    · intro h5 hF; refine pv hF hW (y_move hF rfl) fun a hF => pk hF (wn hF rfl rfl rfl) fun a hF => pk hF (wn hF rfl rfl rfl) fun a hF => pv hF hW (y_pick hF rfl rfl) fun a hF => l_nil ?_; replace hF := hF.ks [0, 1, 2, 3, 4, 5, 6, 7, 8, 9, 10, 11, 12, 40] rfl; refine t_n <| c_t hF rfl <| c_sr ?_; refine pe (e_call hF rfl rfl en_27 (by rfl) rfl rfl (certBegun_any _) ?_); rintro e w1 ⟨rfl, hb⟩; replace hW := hW.kept hb; clear hb; refine ⟨_, rfl, fun a hF => ?_⟩; replace hF := hF.drop 6; refine pv hF hW (y_assign hF rfl) fun a hF => l_nil ?_; replace hF := hF.ks [0, 1, 2, 3, 4, 5, 6, 7, 8, 9, 10, 11, 12, 40] rfl; refine t_n <| wp_ret <| t_r <| ret1 Try.results8 hF (rv_t hF rfl) ?_
      exact ⟨rfl, hW.below⟩
    · intro h5 hF; exfalso
      exact h5 h0

set_option maxRecDepth 100000 in
theorem certTrue_contract (H : Type) (enc : TypeId × Value → H) (W : World) (base : Nat) (args : Array Value) (ds gs : List (DataW H)) (before : List MemPlace)
    (hval : ∀ (j : Nat) t v, Try.f8.params[j]? = some t → args[j]? = some v → Value.okWide Try.prog W .any base t v)
    (hW : DataW.Whole enc Try.prog Try.f8.params.toList Rows.certTrueSpec.vars false W args.toList ds gs before) :
    Calls Try.prog 8 args W fun e W' => ∃ v, e = .returned v ∧ Rows.certTrueSpec.post enc Try.prog Try.f8 false true false false W args v W' := by
  have hW' := hW
  obtain ⟨p, q, hA0, hV, rfl, hfz, hnd⟩ := hW
  have hA : DataW.TrodAll enc Try.prog W 0 (fun _ => true) true Try.f8.params.toList args.toList ds p := hA0
  rw [Try.params8] at hA hval
  obtain ⟨v0, v1, v2, d0, d1, d2, p0, p1, p2, rfl, rfl, rfl, h0, h1, h2⟩ := trodAll_three hA
  obtain ⟨x, rfl, hx⟩ := sys_open (hval 0 26 v0 rfl rfl) h0
  obtain ⟨P, A, c, rfl, hm⟩ := pol_open (hval 1 52 v1 rfl rfl) h1
  obtain ⟨qs, B, d, rfl, hs⟩ := crt_open (hval 2 55 v2 rfl rfl) h2
  refine (certTrue_run x P A c qs B d W hx hm hs).mono fun e W' ⟨he, hb⟩ => ?_
  subst he
  exact ⟨_, rfl, law_post Try.laidOut hW' hb rfl (by kernel_rfl) Try.underlying4 (by kernel_rfl) rfl⟩

set_option maxRecDepth 100000 in
theorem certTrue_lifted (os : Os) (started : os.Started) (H : Type) (enc : TypeId × Value → H) :
    ReturnsInHanded {} Try.checked os 8 .any (Rows.certTrueSpec.pre6 enc Try.prog Try.f8 Rows.certTrueRow.domain false) (Rows.certTrueSpec.post enc Try.prog Try.f8 false true false false) := by
  refine returnsInHanded_of_change (C := Try.checked) Try.own started (by kernel_rfl) Try.func8
    (ChangeSpec.witness6 (enc := enc) (C := Try.checked) false ⟨#[], #[.agg #[.slice none 0 0, .slice none 0 0, .slice none 0 0], .agg #[.slice none 0 0], .agg #[.slice none 0 0]], []⟩ 8 (by kernel_rfl) (by kernel_rfl) (by kernel_rfl) (by kernel_rfl)) ?_
  intro W base args ds gs before hval hW _ _
  exact certTrue_contract H enc W base args ds gs before hval hW

theorem certTrue_holds : Rows.CertTrueSaid :=
  OpenClaim.holds_of_wide 8 Try.f8 rfl rfl rfl rfl rfl rfl rfl ⟨rfl, rfl, rfl, rfl, rfl⟩ rfl rfl rfl rfl rfl (by kernel_rfl) Try.func8 (by kernel_rfl)
    (of_decide_eq_true (by kernel_rfl)) (by unfold Func.isWrapper; first | (rw [if_pos (by decide +kernel)]; kernel_rfl) | (rw [if_neg (by decide +kernel)]; exact ⟨rfl, rfl⟩))
    (fun os started H enc _ => certTrue_lifted os started H enc)
end Go.Proofs.Ytlkkdpoioedacaa
