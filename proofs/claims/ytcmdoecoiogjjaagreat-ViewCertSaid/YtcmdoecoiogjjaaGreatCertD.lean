/- Rules: who may have a say in whom; sets of certificates. -/
import Derived.Test.YtcmdoecoiogjjaaGreatCertC
import Derived.Test.YtcmdoecoiogjjaaGreatViewR
namespace Go.Proofs.YtcmdoecoiogjjaaGreat
set_option linter.unusedVariables false
set_option linter.unusedSimpArgs false
open Go.ChangeShapes Go.WideShapes Go.ChangeAt Go.RowKit
theorem bu_CertD_86_0_1 (x0 : Int) (x1 : Int) (w : World) : (Instr.build 86 #[(0, (.int .i64 x0)), (1, (.int .i64 x1))]).run Tryz.prog w = .ok (.agg #[(.int .i64 x0), (.int .i64 x1)]) w := by kernel_rfl
set_option maxRecDepth 100000

theorem kok_86 : KeyOk Tryz.prog 86 encPair := keyOk_pair (by kernel_rfl) (by kernel_rfl) (by kernel_rfl) (by kernel_rfl) (fun _ _ _ _ => by kernel_rfl)
def edgeIn (l : List Edg) (u v : Int) : Bool := l.any fun e => decide (e.from_ = u ∧ e.to_ = v)
def mayB (l : List Edg) (u v : Int) : Bool := decide (u = v) || edgeIn l u v
theorem edgeIn_snoc {l : List Edg} {k : Nat} (hk : k < l.length) (u v : Int) : edgeIn (l.take (k + 1)) u v = (edgeIn (l.take k) u v || decide ((l.getD k E0).from_ = u ∧ (l.getD k E0).to_ = v)) := by
  unfold edgeIn
  rw [List.take_add_one, List.getElem?_eq_getElem hk, List.any_append, List.getD, List.getElem?_eq_getElem hk]
  simp
/-- the map says which edges there are -/
structure MapOf (l : List Edg) (ks : List ((Int × Int) × Int)) : Prop where
  is : ∀ u v, decide (0 < cget (u, v) ks) = edgeIn l u v
  few : ∀ p, 0 ≤ cget p ks ∧ cget p ks ≤ l.length
theorem MapOf.start : MapOf [] [] := ⟨fun u v => by simp [cget_nil, edgeIn], fun p => by simp [cget_nil]⟩
theorem MapOf.next {l : List Edg} {ks : List ((Int × Int) × Int)} {k : Nat} {fr tt c : Int} (h : MapOf (l.take k) ks) (hk : k < l.length) (hz : l.getD k E0 = ⟨fr, tt⟩) (hc : c = cget (fr, tt) ks + 1) (ks' : List ((Int × Int) × Int)) (hks : ∀ p, cget p ks' = if p = (fr, tt) then c else cget p ks) : MapOf (l.take (k + 1)) ks' := by
  have h0 := h.few (fr, tt)
  refine ⟨fun u v => ?_, fun p => ?_⟩
  · rw [edgeIn_snoc hk, hz, ← h.is, hks]
    by_cases e : (u, v) = (fr, tt)
    · rw [if_pos e]
      obtain ⟨rfl, rfl⟩ := Prod.mk.inj e
      have : 0 < c := by omega
      simp [this]
    · rw [if_neg e]
      have : ¬ (fr = u ∧ tt = v) := fun h => e (by rw [h.1, h.2])
      simp [this]
  · have hp := h.few p
    have e1 : (l.take k).length = k := by rw [List.length_take]; omega
    have e2 : (l.take (k + 1)).length = k + 1 := by rw [List.length_take]; omega
    rw [e1] at hp h0
    rw [hks, e2]
    split <;> omega
set_option maxHeartbeats 4000000 in
theorem certOf_any {l : List Edg} {A : Option Addr} {c : Nat} {w : World} (hm : May_ w A c l) (hlm : l.length ≤ maxLen) :
    Calls Tryz.prog 77 #[.agg #[.slice A l.length c]] w fun e w' => ∃ (b : Nat) (ks : List ((Int × Int) × Int)), e = .returned (.map (some b)) ∧ MapOf l ks ∧ Wd w NoB [.cmap b encPair ks] w' := by
  have hM : RF w A l.length 2 (fun k => Edg.cells (l.getD k E0)) := Flat.rf Edg.cells_len E0 hm
  unfold maxLen at hlm
  refine enter Tryz.func77 rfl Tryz.ntmps77 rfl fun a hF => ?_
  have hW := Wd.start w NoB
  refine c_sr ?_; refine pe (e_box hF hW rfl rfl rfl rfl ?_); intro b1 a wc hF hW; refine pv hF hW (y_assign hF rfl) fun a hF => l_nil <| t_n <| c_sr ?_; refine pe (e_makeMap hF hW encPair rfl rfl ?_); intro b2 a wc hF hW; refine pv hF hW (y_assign hF rfl) fun a hF => l_nil ?_; replace hF := hF.ks [0, 1, 2, 3] rfl; refine t_n <| c_s <| c_sr <| pv hF hW (y_fieldOwn hF rfl fa_78_0) fun a hF => pv hF hW (y_loadOwn hF rfl 1 rfl rfl Tryz.underlying76 rfl) fun a hF => pv hF hW (y_len hF rfl Tryz.underlying76) fun a hF => pv hF hW (y_move hF rfl) fun a hF => l_nil ?_; replace hF := hF.ks [0, 1, 2, 3, 8, 9, 10] rfl; refine t_n <| wp_block ?_; refine c_loop (G := Nat × List ((Int × Int) × Int)) (fun (gq : Nat × List ((Int × Int) × Int)) => match gq with | ⟨k, ks⟩ => [(10, .int .i64 (k : Int))]) (fun (gq : Nat × List ((Int × Int) × Int)) => match gq with | ⟨k, ks⟩ => [.cmap b2 encPair ks]) (fun (gq : Nat × List ((Int × Int) × Int)) => match gq with | ⟨k, ks⟩ => k ≤ l.length ∧ MapOf (l.take k) ks) (fun (gq : Nat × List ((Int × Int) × Int)) => match gq with | ⟨k, ks⟩ => l.length - k) (0, []) (hF.ks [0, 1, 2, 3, 8, 9] rfl) (Fr.cons hF (t := 10) rfl (by first | rfl | (simp; done)) (Fr.nil hF)) (hW) ?_ ?_
  · exact ⟨by omega, MapOf.start⟩
  clear hF hW
  try clear a
  intro gq a wc hC hF hW
  obtain ⟨k, ks⟩ := gq
  dsimp only at hC
  obtain ⟨hkl, hMo⟩ := hC
  refine c_sr <| pv hF hW (y_lss hF rfl rfl) fun a hF => ?_; refine Fr.splitD hF ?_ ?_
  · intro h3 hF; refine l_nil <| t_n <| c_s <| c_t hF rfl <| wp_skip <| t_n <| c_s <| wp_block ?_
    obtain ⟨z, hz⟩ : ∃ q, l.getD k E0 = q := ⟨_, rfl⟩
    obtain ⟨fr, tt⟩ := z
    have hkl2 : k < l.length := (by omega)
    have hft := hMo.few (fr, tt)
    rw [List.length_take] at hft
    have hft2 := cget_centry (fr, tt) (fr, tt) ks
    refine c_sr <| pv hF hW (y_indexS hF rfl rfl (by exact hkl2) Tryz.underlying76 sz_86 (fun w h => (hM).wd h)) fun a hF => pv hF hW (y_loadRowW hF rfl (fun w h => (hM).wd h) (by exact hkl2) Tryz.underlying86 rfl (by rw [hz]; exact sz_86)) fun a hF => ?_; replace hF := Fr.cast (v' := .agg #[.int .i64 fr, .int .i64 tt]) (by rw [hz]; rfl) hF; refine pe (e_alloc hF hW ze_86 rfl rfl rfl ?_); intro b4 a wc hF hW; refine pe (e_storeAll rfl hF hW rfl rfl 0 rfl rfl rfl (by kernel_rfl) sz_86 ?_); intro wc hW; refine l_nil ?_; replace hF := hF.ks [0, 1, 2, 3, 5, 8, 9, 10, 11] rfl; refine t_n <| c_d mixed_ok hW ((hW.del 1 rfl)) ?_
    clear hW; intro wc hW hS
    refine dv 0 rfl hF hS (y_move hF rfl) fun a hF => dv 1 rfl hF hS (y_loadAll hF rfl 0 rfl Tryz.underlying86 rfl sz_86) fun a hF => ?_; refine d_2 2 4 (by kernel_rfl) ?_ ?_
    · refine d_opval rfl hF rfl hW (y_lookup (k := (fr, tt)) kok_86 hF rfl rfl 1 rfl Tryz.underlying147 ze_3) rfl rfl fun a hF => ?_; replace hS := (hW.del 1 rfl); refine ⟨hS, ?_⟩; refine dv 3 rfl hF hS (y_add hF rfl rfl (IntWalk.i64_in _ (by omega))) fun a hF => d_1 4 (by kernel_rfl) ?_; refine d_op rfl rfl (e_mapEntry (k := (fr, tt)) kok_86 hF hW rfl rfl 1 rfl Tryz.underlying147 ze_3 rfl rfl ?_); intro a wc hF hW; replace hS := (hW.del 1 rfl); refine ⟨hS, ?_⟩; refine dv 5 rfl hF hS (y_extract hF rfl rfl) fun a hF => d_1 6 (by kernel_rfl) ?_; refine d_op rfl rfl (e_entryStore rfl hF hW rfl rfl rfl 1 rfl (by exact centry_lt _ _) ?_); intro wc hW; replace hS := (hW.del 1 rfl); refine ⟨hS, ?_⟩; clear hS; refine d_nil (by kernel_rfl) ?_; replace hF := hF.ks [0, 1, 2, 3, 5, 8, 9, 10, 11] rfl; refine b_n <| t_n <| c_r <| pv hF hW (y_add hF rfl rfl (IntWalk.i64_in _ (by omega))) fun a hF => ?_; replace hF := hF.drop 10; refine pv hF hW (y_move hF rfl) fun a hF => l_nil ?_; replace hF := hF.ks [0, 1, 2, 3, 5, 8, 9, 10, 11] rfl; replace hW := hW.del 0 rfl; refine t_n ?_; refine ⟨(k + 1, cmod (centry (fr, tt) ks).2 (cget (fr, tt) ks + 1) (centry (fr, tt) ks).1), ?_, ?_, ?_, ?_⟩
      · exact ⟨by omega, hMo.next hkl2 hz rfl _ fun p => cget_add p (fr, tt) _ ks⟩
      · first | omega | (dsimp only; omega)
      · exact Fr.app (Fr.cons hF (t := 10) rfl (by first | rfl | (simp; done) | omega) (Fr.nil hF)) (hF.ks [0, 1, 2, 3, 8, 9] rfl)
      · exact hW
    · refine d_op rfl rfl (e_mapEntry (k := (fr, tt)) kok_86 hF hW rfl rfl 1 rfl Tryz.underlying147 ze_3 rfl rfl ?_); intro a wc hF hW; replace hS := (hW.del 1 rfl); refine ⟨hS, ?_⟩; refine dv 5 rfl hF hS (y_extract hF rfl rfl) fun a hF => d_1 2 (by kernel_rfl) <| d_opval rfl hF rfl hW (y_lookup (k := (fr, tt)) kok_86 hF rfl rfl 1 rfl Tryz.underlying147 ze_3) rfl rfl fun a hF => ?_; replace hS := (hW.del 1 rfl); refine ⟨hS, ?_⟩; refine dv 3 rfl hF hS (y_add hF rfl rfl (IntWalk.i64_in _ (by omega))) fun a hF => d_1 6 (by kernel_rfl) ?_; refine d_op rfl rfl (e_entryStore rfl hF hW rfl rfl rfl 1 rfl (by exact centry_lt _ _) ?_); intro wc hW; replace hS := (hW.del 1 rfl); refine ⟨hS, ?_⟩; clear hS; refine d_nil (by kernel_rfl) ?_; replace hF := hF.ks [0, 1, 2, 3, 5, 8, 9, 10, 11] rfl; refine b_n <| t_n <| c_r <| pv hF hW (y_add hF rfl rfl (IntWalk.i64_in _ (by omega))) fun a hF => ?_; replace hF := hF.drop 10; refine pv hF hW (y_move hF rfl) fun a hF => l_nil ?_; replace hF := hF.ks [0, 1, 2, 3, 5, 8, 9, 10, 11] rfl; replace hW := hW.del 0 rfl; refine t_n ?_; refine ⟨(k + 1, cmod (centry (fr, tt) ks).2 (cget (fr, tt) (centry (fr, tt) ks).1 + 1) (centry (fr, tt) ks).1), ?_, ?_, ?_, ?_⟩
      · exact ⟨by omega, hMo.next hkl2 hz rfl _ fun p => by rw [cget_centry]; exact cget_add p (fr, tt) _ ks⟩
      · first | omega | (dsimp only; omega)
      · exact Fr.app (Fr.cons hF (t := 10) rfl (by first | rfl | (simp; done) | omega) (Fr.nil hF)) (hF.ks [0, 1, 2, 3, 8, 9] rfl)
      · exact hW
  · intro h3 hF; refine l_nil <| t_n <| c_s <| c_f hF rfl <| wp_exit <| t_x <| t_x <| b_h <| t_n <| c_sr <| pv hF hW (y_move hF rfl) fun a hF => ?_; replace hF := hF.drop 2; refine pv hF hW (y_assign hF rfl) fun a hF => l_nil ?_; replace hF := hF.ks [0, 1, 2, 3, 8, 9, 10, 11] rfl; refine t_n <| wp_ret <| ret1 Tryz.results77 hF (rv_t hF rfl) ?_; replace hW := hW.del 1 rfl
    have hkl3 : k = l.length := (by omega)
    subst hkl3
    rw [List.take_length] at hMo
    exact ⟨_, ks, rfl, hMo, hW⟩
theorem may_any {l : List Edg} {ks : List ((Int × Int) × Int)} {b : Nat} {w : World} (hb : w.heap[b]? = some (.map (cents encPair ks 0).toArray ks.length)) (hk : MapOf l ks) (u v : Int) :
    Calls Tryz.prog 116 #[.map (some b), .int .i64 u, .int .i64 v] w fun e w' => e = .returned (.bool (mayB l u v)) ∧ Below w.heap.size w w' := by
  refine enter Tryz.func116 rfl Tryz.ntmps116 rfl fun a hF => ?_
  have hW := Wd.start w NoB
  refine c_sr <| pv hF hW (y_assign hF rfl) fun a hF => l_nil <| t_n <| c_sr <| pv hF hW (y_move hF rfl) fun a hF => pv hF hW (y_move hF rfl) fun a hF => pv hF hW (y_eql hF rfl rfl) fun a hF => ?_; refine Fr.splitD hF ?_ ?_
  · intro h1 hF; refine pv hF hW (y_move hF rfl) fun a hF => pk hF (wn hF rfl rfl rfl) fun a hF => pk hF (wn hF rfl rfl rfl) fun a hF => pk hF (wn hF rfl rfl rfl) fun a hF => pk hF (wn hF rfl rfl rfl) fun a hF => pk hF (wn hF rfl rfl rfl) fun a hF => pk hF (wn hF rfl rfl rfl) fun a hF => pv hF hW (y_pick hF rfl rfl) fun a hF => ?_; replace hF := hF.drop 6; refine pv hF hW (y_assign hF rfl) fun a hF => l_nil ?_; replace hF := hF.ks [0, 1, 2, 6] rfl; refine t_n <| wp_ret <| ret1 Tryz.results116 hF (rv_t hF rfl) ?_
    first
    | exact ⟨by unfold mayB; simp_all, hW.below⟩
  · intro h1 hF; refine pv hF hW (y_move hF rfl) fun a hF => pvg hF hW (y_move hF rfl) (ws hF rfl rfl) fun a hF => pvg hF hW (y_move hF rfl) (ws hF rfl rfl) fun a hF => pvg hF hW (y_move hF rfl) (ws hF rfl rfl) fun a hF => pvg hF hW (y_build hF rfl (fun w => bu_CertD_86_0_1 _ _ w)) (ws hF rfl rfl) fun a hF => pvg hF hW (y_lookupB (k := (u, v)) kok_86 hF rfl rfl (hb) Tryz.underlying147 ze_3) (ws hF rfl rfl) fun a hF => pvg hF hW (y_gtr hF rfl rfl) (ws hF rfl rfl) fun a hF => ?_; replace hF := Fr.cast (v' := .bool (edgeIn l u v)) (by rw [← hk.is]) hF; refine pv hF hW (y_pick hF rfl rfl) fun a hF => ?_; refine Fr.splitB hF ?_ ?_
    · intro h2 hF; replace hF := hF.drop 6; refine pv hF hW (y_assign hF rfl) fun a hF => l_nil ?_; replace hF := hF.ks [0, 1, 2, 6] rfl; refine t_n <| wp_ret <| ret1 Tryz.results116 hF (rv_t hF rfl) ?_
      first
      | exact ⟨by unfold mayB; simp_all, hW.below⟩
    · intro h2 hF; replace hF := hF.drop 6; refine pv hF hW (y_assign hF rfl) fun a hF => l_nil ?_; replace hF := hF.ks [0, 1, 2, 6] rfl; refine t_n <| wp_ret <| ret1 Tryz.results116 hF (rv_t hF rfl) ?_
      first
      | exact ⟨by unfold mayB; simp_all, hW.below⟩
theorem idx_edge {A : Option Addr} {n c : Nat} {f : Nat → List Value} {g : FuncId} {cap : Array Value} {P : Nat → Bool} {w : World} (hn : n ≤ maxLen) (hR : RF w A n 2 f) (hlen : ∀ k, (f k).length = 2) (hen : Enters Tryz.prog g) (hcall : Tells w n (fun k => .agg (f k).toArray) g cap P) :
    Calls Tryz.prog 142 #[.slice A n c, .func (.func g) #[] cap] w fun e w' => ∃ r : Int, e = .returned (.int .i64 r) ∧ decide (0 ≤ r) = (List.range n).any P ∧ Below w.heap.size w w' := by
  unfold maxLen at hn
  refine enter Tryz.func142 rfl Tryz.ntmps142 rfl fun a hF => ?_
  have hW := Wd.start w NoB
  refine c_sr <| pv hF hW (y_assign hF rfl) fun a hF => l_nil <| t_n <| c_s <| c_sr <| pv hF hW (y_move hF rfl) fun a hF => pv hF hW (y_len hF rfl Tryz.underlying76) fun a hF => pv hF hW (y_move hF rfl) fun a hF => l_nil ?_; replace hF := hF.ks [0, 1, 4, 7, 8] rfl; refine t_n <| wp_block ?_; refine c_loop (G := Nat) (fun k : Nat => [(8, .int .i64 (k : Int))]) (fun k : Nat => []) (fun k : Nat => k ≤ n ∧ ∀ i, i < k → P i = false) (fun k : Nat => n - k) 0 (hF.ks [0, 1, 7] rfl) (Fr.cons hF (t := 8) rfl (by first | rfl | (simp; done)) (Fr.nil hF)) (hW) ?_ ?_
  · exact ⟨by omega, fun i hi => by omega⟩
  clear hF hW
  try clear a
  intro k a wc hC hF hW
  obtain ⟨hk, hno⟩ := hC
  refine c_sr <| pv hF hW (y_lss hF rfl rfl) fun a hF => ?_; refine Fr.splitD hF ?_ ?_
  · intro h1 hF; refine l_nil <| t_n <| c_s <| c_t hF rfl <| wp_skip <| t_n <| c_s <| wp_block <| c_sr <| pv hF hW (y_move hF rfl) fun a hF => pv hF hW (y_assign hF rfl) fun a hF => l_nil ?_; replace hF := hF.ks [0, 1, 5, 7, 8, 9] rfl; refine t_n <| c_sr <| pv hF hW (y_move hF rfl) fun a hF => pv hF hW (y_move hF rfl) fun a hF => pv hF hW (y_move hF rfl) fun a hF => pv hF hW (y_indexS hF rfl rfl (by first | omega | decide) Tryz.underlying76 sz_86 (fun w h => (hR).wd h)) fun a hF => pv hF hW (y_loadRowW hF rfl (fun w h => (hR).wd h) (by first | omega | decide) Tryz.underlying86 rfl (by rw [hlen]; exact sz_86)) fun a hF => ?_; refine pe (e_call hF rfl rfl hen (by rfl) rfl rfl (hcall k _ (by omega) hW.below) ?_); rintro e w1 ⟨rfl, hb⟩; replace hW := hW.kept hb; clear hb; refine ⟨_, rfl, fun a hF => ?_⟩; refine Fr.splitB hF ?_ ?_
    · intro h2 hF; refine l_nil ?_; replace hF := hF.ks [0, 1, 5, 7, 8, 9, 16] rfl; refine t_n <| c_t hF rfl <| c_sr <| pv hF hW (y_move hF rfl) fun a hF => pv hF hW (y_assign hF rfl) fun a hF => l_nil ?_; replace hF := hF.ks [0, 1, 4, 5, 7, 8, 9, 16] rfl; refine t_n <| wp_ret <| b_r <| t_r <| t_r <| b_r <| t_r <| ret1 Tryz.results142 hF (rv_t hF rfl) ?_
      exact ⟨_, rfl, by rw [any_true (k := k) (by omega) (by assumption)]; exact decide_eq_true (by omega), hW.below⟩
    · intro h2 hF; refine l_nil ?_; replace hF := hF.ks [0, 1, 5, 7, 8, 9, 16] rfl; refine t_n <| c_f hF rfl <| wp_skip <| b_n <| t_n <| c_r <| pv hF hW (y_add hF rfl rfl (IntWalk.i64_in _ (by omega))) fun a hF => ?_; replace hF := hF.drop 8; refine pv hF hW (y_move hF rfl) fun a hF => l_nil ?_; replace hF := hF.ks [0, 1, 5, 7, 8, 9, 16] rfl; refine t_n ?_; refine ⟨(k + 1), ?_, ?_, ?_, ?_⟩
      · exact ⟨by omega, fun i hi => by rcases Nat.lt_or_ge i k with h | h; exact hno i h; (have hik : i = k := by omega); rw [hik]; assumption⟩
      · first | omega | (dsimp only; omega)
      · exact Fr.app (Fr.cons hF (t := 8) rfl (by first | rfl | (simp; done) | omega) (Fr.nil hF)) (hF.ks [0, 1, 7] rfl)
      · exact hW
  · intro h1 hF; refine l_nil <| t_n <| c_s <| c_f hF rfl <| wp_exit <| t_x <| t_x <| b_h <| t_n <| c_sr <| pv hF hW (y_assign hF rfl) fun a hF => l_nil <| t_n <| wp_ret <| ret1 Tryz.results142 hF (rv_t hF rfl) ?_
    exact ⟨_, rfl, by rw [any_false fun i hi => hno i (by omega)]; rfl, hW.below⟩
theorem has_edge {A : Option Addr} {n c : Nat} {f : Nat → List Value} {g : FuncId} {cap : Array Value} {P : Nat → Bool} {w : World} (hn : n ≤ maxLen) (hR : RF w A n 2 f) (hlen : ∀ k, (f k).length = 2) (hen : Enters Tryz.prog g) (hcall : Tells w n (fun k => .agg (f k).toArray) g cap P) :
    Calls Tryz.prog 118 #[.slice A n c, .func (.func g) #[] cap] w fun e w' => e = .returned (.bool ((List.range n).any P)) ∧ Below w.heap.size w w' := by
  refine enter Tryz.func118 rfl Tryz.ntmps118 rfl fun a hF => ?_
  have hW := Wd.start w NoB
  refine c_sr <| pv hF hW (y_assign hF rfl) fun a hF => l_nil <| t_n <| c_sr <| pv hF hW (y_move hF rfl) fun a hF => pv hF hW (y_move hF rfl) fun a hF => ?_; refine pe (e_call hF rfl rfl en_142 (by rfl) rfl rfl (idx_edge hn (hR.wd hW) hlen hen (hcall.on hW.below)) ?_); rintro e w1 ⟨r, rfl, hr, hb⟩; replace hW := hW.kept hb; clear hb; refine ⟨_, rfl, fun a hF => ?_⟩; refine pv hF hW (y_geq hF rfl rfl) fun a hF => ?_; replace hF := hF.drop 4; refine pv hF hW (y_assign hF rfl) fun a hF => l_nil ?_; replace hF := hF.ks [0, 1, 4] rfl; refine t_n <| wp_ret <| ret1 Tryz.results118 hF (rv_t hF rfl) ?_
  exact ⟨by rw [← hr], hW.below⟩
def outB (l : List Int) (e : Edg) : Bool := decide (e.to_ ∈ l) && !decide (e.from_ ∈ l)
theorem set1_any {l : List Int} {A : Option Addr} {n c : Nat} {b : Nat} {T : TypeId} {w : World} (e : Edg) (h : Ints w (.slice A n c) l) (hB : Blk w b T [.slice A n c]) :
    Calls Tryz.prog 119 #[.agg e.cells.toArray, .pointer (some ⟨b, 0, none⟩)] w fun r w' => r = .returned (.bool (outB l e)) ∧ Below w.heap.size w w' := by
  obtain ⟨fr, tt⟩ := e
  change Calls _ _ #[.agg #[.int .i64 fr, .int .i64 tt], _] _ _
  refine enter Tryz.func119 rfl Tryz.ntmps119 rfl fun a hF => ?_
  have hW := Wd.start w NoB
  refine c_sr ?_; refine pe (e_box hF hW rfl rfl rfl rfl ?_); intro b1 a wc hF hW; refine pv hF hW (y_assign hF rfl) fun a hF => l_nil <| t_n <| c_sr <| pv hF hW (y_loadB hF rfl (hB) rfl Tryz.underlying40 rfl) fun a hF => pv hF hW (y_fieldOwn hF rfl fa_86_1) fun a hF => pv hF hW (y_loadOwn hF rfl 0 rfl rfl Tryz.underlying3 rfl) fun a hF => ?_; refine pe (e_call hF rfl rfl en_117 (by rfl) rfl rfl (contains_any (h.below hW.below) _) ?_); rintro e w1 ⟨rfl, hb⟩; replace hW := hW.kept hb; clear hb; refine ⟨_, rfl, fun a hF => ?_⟩; refine Fr.splitD hF ?_ ?_
  · intro h2 hF; refine pv hF hW (y_move hF rfl) fun a hF => pvg hF hW (y_loadB hF rfl (hB) rfl Tryz.underlying40 rfl) (ws hF rfl rfl) fun a hF => pvg hF hW (y_fieldOwn hF rfl fa_86_0) (ws hF rfl rfl) fun a hF => pvg hF hW (y_loadOwn hF rfl 0 rfl rfl Tryz.underlying3 rfl) (ws hF rfl rfl) fun a hF => ?_; refine pe (e_call hF rfl rfl en_117 (by rfl) rfl rfl (contains_any (h.below hW.below) _) ?_) (ws hF rfl rfl); rintro e w1 ⟨rfl, hb⟩; replace hW := hW.kept hb; clear hb; refine ⟨_, rfl, fun a hF => ?_⟩; refine Fr.splitD hF ?_ ?_
    · intro h3 hF; refine pvg hF hW (y_not hF rfl) (ws hF rfl rfl) fun a hF => ?_; replace hF := hF.ff; refine pv hF hW (y_pick hF rfl rfl) fun a hF => ?_; replace hF := hF.ff; replace hF := hF.drop 3; refine pv hF hW (y_assign hF rfl) fun a hF => ?_; replace hF := hF.ff; refine l_nil ?_; replace hF := hF.ks [0, 1, 2, 3] rfl; refine t_n <| wp_ret <| ret1 Tryz.results119 hF (rv_t hF rfl) ?_
      exact ⟨by unfold outB; simp_all, hW.below⟩
    · intro h3 hF; refine pvg hF hW (y_not hF rfl) (ws hF rfl rfl) fun a hF => ?_; replace hF := hF.tt; refine pv hF hW (y_pick hF rfl rfl) fun a hF => ?_; replace hF := hF.tt; replace hF := hF.drop 3; refine pv hF hW (y_assign hF rfl) fun a hF => ?_; replace hF := hF.tt; refine l_nil ?_; replace hF := hF.ks [0, 1, 2, 3] rfl; refine t_n <| wp_ret <| ret1 Tryz.results119 hF (rv_t hF rfl) ?_
      exact ⟨by unfold outB; simp_all, hW.below⟩
  · intro h2 hF; refine pv hF hW (y_move hF rfl) fun a hF => pk hF (wn hF rfl rfl rfl) fun a hF => pk hF (wn hF rfl rfl rfl) fun a hF => pk hF (wn hF rfl rfl rfl) fun a hF => pk hF (wn hF rfl rfl rfl) fun a hF => pk hF (wn hF rfl rfl rfl) fun a hF => pv hF hW (y_pick hF rfl rfl) fun a hF => ?_; replace hF := hF.drop 3; refine pv hF hW (y_assign hF rfl) fun a hF => l_nil ?_; replace hF := hF.ks [0, 1, 2, 3] rfl; refine t_n <| wp_ret <| ret1 Tryz.results119 hF (rv_t hF rfl) ?_
    exact ⟨by unfold outB; simp_all, hW.below⟩
theorem turnOut {l : List Int} {A : Option Addr} {n c : Nat} {b : Nat} {T : TypeId} {L : List Edg} {m : Nat} {w : World} (h : Ints w (.slice A n c) l) (hB : Blk w b T [.slice A n c]) : Tells w m (fun k => .agg (Edg.cells (L.getD k E0)).toArray) 119 #[.pointer (some ⟨b, 0, none⟩)] (fun k => outB l (L.getD k E0)) :=
  fun k w1 _ hb => set1_any _ (h.below hb) (hB.kept hb)
def setAt (n : Nat) (P : List Edg) (u : Int) (l : List Int) (k : Nat) : Bool := decide ((if k = 0 then -1 else l.getD (k - 1) 0) < l.getD k 0) && decide (l.getD k 0 < n) && mayB P (l.getD k 0) u
theorem setAt_eq {n : Nat} {P : List Edg} {u z : Int} {l : List Int} {k : Nat} (hz : z = if k = 0 then -1 else l.getD (k - 1) 0) : setAt n P u l k = (decide (z < l.getD k 0) && decide (l.getD k 0 < n) && mayB P (l.getD k 0) u) := by
  subst hz
  rfl
def setOK (n : Nat) (P L : List Edg) (u : Int) (l : List Int) : Bool := (List.range l.length).all (setAt n P u l) && (decide (u ∈ l) && !((List.range L.length).any fun k => outB l (L.getD k E0)))
theorem all_snoc {P : Nat → Bool} {k : Nat} (h : (List.range k).all P = true) (h2 : P k = true) : (List.range (k + 1)).all P = true := by
  rw [List.range_succ, List.all_append, h]
  simp [h2]
theorem all_no {P : Nat → Bool} {k n : Nat} (hk : k < n) (h : P k = false) : (List.range n).all P = false := by
  cases hp : (List.range n).all P
  · rfl
  · have := List.all_eq_true.1 hp k (List.mem_range.2 hk)
    rw [h] at this
    cases this
set_option maxHeartbeats 4000000 in
theorem set_any {P L : List Edg} {ks : List ((Int × Int) × Int)} {b : Nat} {l : List Int} {A B : Option Addr} {c d n : Nat} {w : World} (hb : w.heap[b]? = some (.map (cents encPair ks 0).toArray ks.length)) (hk : MapOf P ks) (hL : Flat Edg.cells 2 w (.slice B L.length d) L) (h : Ints w (.slice A l.length c) l) (u : Int) :
    Calls Tryz.prog 78 #[.map (some b), .slice B L.length d, .int .i64 n, .int .i64 u, .slice A l.length c] w fun e w' => e = .returned (.bool (setOK n P L u l)) ∧ Below w.heap.size w w' := by
  have hl := h.len
  have hLl := hL.len
  have hR := irRF (q := ⟨l, A, c⟩) h
  dsimp only at hR
  have hmay := fun w1 (hb1 : Below w.heap.size w w1) (v : Int) => may_any (w := w1) ((hb1.block b (Array.getElem?_eq_some_iff.1 hb).1).trans hb) hk v u
  have hLR : RF w B L.length 2 (fun k => Edg.cells (L.getD k E0)) := Flat.rf Edg.cells_len E0 hL
  unfold maxLen at hl
  refine enter Tryz.func78 rfl Tryz.ntmps78 rfl fun a hF => ?_
  have hW := Wd.start w NoB
  refine c_sr ?_; refine pe (e_box hF hW rfl rfl rfl rfl ?_); intro b1 a wc hF hW; refine pv hF hW (y_assign hF rfl) fun a hF => l_nil <| t_n <| c_sr <| pv hF hW (y_assign hF rfl) fun a hF => l_nil <| t_n <| c_s <| c_sr <| pv hF hW (y_loadOwn hF rfl 0 rfl rfl Tryz.underlying40 rfl) fun a hF => pv hF hW (y_len hF rfl Tryz.underlying40) fun a hF => pv hF hW (y_move hF rfl) fun a hF => l_nil <| t_n <| wp_block ?_; refine c_loop (G := Nat × Int) (fun (gq : Nat × Int) => match gq with | ⟨k, z⟩ => [(16, .int .i64 (k : Int)), (11, .int .i64 z)]) (fun (gq : Nat × Int) => match gq with | ⟨k, z⟩ => []) (fun (gq : Nat × Int) => match gq with | ⟨k, z⟩ => k ≤ l.length ∧ (List.range k).all (setAt n P u l) = true ∧ z = (if k = 0 then -1 else l.getD (k - 1) 0)) (fun (gq : Nat × Int) => match gq with | ⟨k, z⟩ => l.length - k) (0, -1) (hF.ks [0, 1, 2, 3, 4, 9, 14, 15] rfl) (Fr.cons hF (t := 16) rfl (by first | rfl | (simp; done)) (Fr.cons hF (t := 11) rfl (by first | rfl | (simp; done)) (Fr.nil hF))) (hW) ?_ ?_
  · exact ⟨by omega, rfl, rfl⟩
  clear hF hW
  try clear a
  intro gq a wc hC hF hW
  obtain ⟨k, z⟩ := gq
  dsimp only at hC
  obtain ⟨hkl, hall, hz⟩ := hC
  refine c_sr <| pv hF hW (y_lss hF rfl rfl) fun a hF => ?_; refine Fr.splitD hF ?_ ?_
  · intro h2 hF; refine l_nil <| t_n <| c_s <| c_t hF rfl <| wp_skip <| t_n <| c_s <| wp_block ?_
    have hkl2 : k < l.length := (by omega)
    refine c_sr <| pv hF hW (y_indexS hF rfl rfl (by exact hkl2) Tryz.underlying40 sz_3 (fun w h => (hR).wd h)) fun a hF => pv hF hW (y_loadRow hF rfl (fun w h => (hR).wd h) (by exact hkl2) rfl Tryz.underlying3 rfl) fun a hF => pv hF hW (y_assign hF rfl) fun a hF => l_nil ?_; replace hF := hF.ks [0, 1, 2, 3, 4, 9, 11, 13, 14, 15, 16, 17] rfl; refine t_n <| c_s <| c_sr <| pv hF hW (y_move hF rfl) fun a hF => pv hF hW (y_move hF rfl) fun a hF => pv hF hW (y_leq hF rfl rfl) fun a hF => ?_; refine Fr.splitD hF ?_ ?_
    · intro h3 hF; refine pv hF hW (y_move hF rfl) fun a hF => pk hF (wn hF rfl rfl rfl) fun a hF => pk hF (wn hF rfl rfl rfl) fun a hF => pk hF (wn hF rfl rfl rfl) fun a hF => pv hF hW (y_pick hF rfl rfl) fun a hF => pv hF hW (y_move hF rfl) fun a hF => pk hF (wn hF rfl rfl rfl) fun a hF => pk hF (wn hF rfl rfl rfl) fun a hF => pk hF (wn hF rfl rfl rfl) fun a hF => pk hF (wn hF rfl rfl rfl) fun a hF => pk hF (wn hF rfl rfl rfl) fun a hF => pv hF hW (y_pick hF rfl rfl) fun a hF => l_nil ?_; replace hF := hF.ks [0, 1, 2, 3, 4, 9, 11, 13, 14, 15, 16, 17, 34] rfl; refine t_n <| c_t hF rfl <| c_sr <| pv hF hW (y_assign hF rfl) fun a hF => l_nil <| t_n <| wp_ret <| t_r <| b_r <| t_r <| t_r <| b_r <| t_r <| ret1 Tryz.results78 hF (rv_t hF rfl) ?_
      first
      | exact ⟨by unfold setOK; rw [all_no hkl2 (by rw [setAt_eq hz, decide_eq_false (by omega)]; rfl)]; rfl, hW.below⟩
      | exact ⟨by unfold setOK; rw [all_no hkl2 (by rw [setAt_eq hz, decide_eq_true (by omega), decide_eq_false (by omega)]; rfl)]; rfl, hW.below⟩
      | exact ⟨by unfold setOK; rw [all_no hkl2 (by rw [setAt_eq hz, (by assumption : mayB P (l.getD k 0) u = false), Bool.and_false])]; rfl, hW.below⟩
      | exact ⟨by unfold setOK; rw [show l.length = k by omega, hall]; simp_all, hW.below⟩
    · intro h3 hF; refine pv hF hW (y_move hF rfl) fun a hF => pvg hF hW (y_move hF rfl) (ws hF rfl rfl) fun a hF => pvg hF hW (y_move hF rfl) (ws hF rfl rfl) fun a hF => pvg hF hW (y_geq hF rfl rfl) (ws hF rfl rfl) fun a hF => ?_; refine Fr.splitD hF ?_ ?_
      · intro h4 hF; refine pv hF hW (y_pick hF rfl rfl) fun a hF => pv hF hW (y_move hF rfl) fun a hF => pk hF (wn hF rfl rfl rfl) fun a hF => pk hF (wn hF rfl rfl rfl) fun a hF => pk hF (wn hF rfl rfl rfl) fun a hF => pk hF (wn hF rfl rfl rfl) fun a hF => pk hF (wn hF rfl rfl rfl) fun a hF => pv hF hW (y_pick hF rfl rfl) fun a hF => l_nil ?_; replace hF := hF.ks [0, 1, 2, 3, 4, 9, 11, 13, 14, 15, 16, 17, 34] rfl; refine t_n <| c_t hF rfl <| c_sr <| pv hF hW (y_assign hF rfl) fun a hF => l_nil <| t_n <| wp_ret <| t_r <| b_r <| t_r <| t_r <| b_r <| t_r <| ret1 Tryz.results78 hF (rv_t hF rfl) ?_
        first
        | exact ⟨by unfold setOK; rw [all_no hkl2 (by rw [setAt_eq hz, decide_eq_false (by omega)]; rfl)]; rfl, hW.below⟩
        | exact ⟨by unfold setOK; rw [all_no hkl2 (by rw [setAt_eq hz, decide_eq_true (by omega), decide_eq_false (by omega)]; rfl)]; rfl, hW.below⟩
        | exact ⟨by unfold setOK; rw [all_no hkl2 (by rw [setAt_eq hz, (by assumption : mayB P (l.getD k 0) u = false), Bool.and_false])]; rfl, hW.below⟩
        | exact ⟨by unfold setOK; rw [show l.length = k by omega, hall]; simp_all, hW.below⟩
      · intro h4 hF; refine pv hF hW (y_pick hF rfl rfl) fun a hF => pv hF hW (y_move hF rfl) fun a hF => pvg hF hW (y_move hF rfl) (ws hF rfl rfl) fun a hF => pvg hF hW (y_move hF rfl) (ws hF rfl rfl) fun a hF => pvg hF hW (y_move hF rfl) (ws hF rfl rfl) fun a hF => ?_; refine pe (e_call hF rfl rfl en_116 (by rfl) rfl rfl (hmay _ hW.below _) ?_) (ws hF rfl rfl); rintro e w1 ⟨rfl, hb⟩; replace hW := hW.kept hb; clear hb; refine ⟨_, rfl, fun a hF => ?_⟩; refine Fr.splitB hF ?_ ?_
        · intro h5 hF; refine pvg hF hW (y_not hF rfl) (ws hF rfl rfl) fun a hF => ?_; replace hF := hF.ff; refine pv hF hW (y_pick hF rfl rfl) fun a hF => ?_; replace hF := hF.ff; refine l_nil ?_; replace hF := hF.ks [0, 1, 2, 3, 4, 9, 11, 13, 14, 15, 16, 17, 34] rfl; refine t_n <| c_f hF rfl <| wp_skip <| t_n <| c_r <| pv hF hW (y_move hF rfl) fun a hF => ?_; replace hF := hF.drop 11; refine pv hF hW (y_assign hF rfl) fun a hF => l_nil ?_; replace hF := hF.ks [0, 1, 2, 3, 4, 9, 11, 13, 14, 15, 16, 17, 34] rfl; refine b_n <| t_n <| c_r <| pv hF hW (y_add hF rfl rfl (IntWalk.i64_in _ (by omega))) fun a hF => ?_; replace hF := hF.drop 16; refine pv hF hW (y_move hF rfl) fun a hF => l_nil ?_; replace hF := hF.ks [0, 1, 2, 3, 4, 9, 11, 13, 14, 15, 16, 17, 34] rfl; refine t_n ?_; refine ⟨(k + 1, l.getD k 0), ?_, ?_, ?_, ?_⟩
          · exact ⟨by omega, all_snoc hall (by rw [setAt_eq hz, decide_eq_true (by omega), decide_eq_true (by omega)]; simpa using (by assumption : mayB P (l.getD k 0) u = true)), by rw [if_neg (by omega)]; first | done | rfl⟩
          · first | omega | (dsimp only; omega)
          · exact Fr.app (Fr.cons hF (t := 16) rfl (by first | rfl | (simp; done) | omega) (Fr.cons hF (t := 11) rfl (by first | rfl | (simp; done) | omega) (Fr.nil hF))) (hF.ks [0, 1, 2, 3, 4, 9, 14, 15] rfl)
          · exact hW
        · intro h5 hF; refine pvg hF hW (y_not hF rfl) (ws hF rfl rfl) fun a hF => ?_; replace hF := hF.tt; refine pv hF hW (y_pick hF rfl rfl) fun a hF => ?_; replace hF := hF.tt; refine l_nil ?_; replace hF := hF.ks [0, 1, 2, 3, 4, 9, 11, 13, 14, 15, 16, 17, 34] rfl; refine t_n <| c_t hF rfl <| c_sr <| pv hF hW (y_assign hF rfl) fun a hF => l_nil <| t_n <| wp_ret <| t_r <| b_r <| t_r <| t_r <| b_r <| t_r <| ret1 Tryz.results78 hF (rv_t hF rfl) ?_
          first
          | exact ⟨by unfold setOK; rw [all_no hkl2 (by rw [setAt_eq hz, decide_eq_false (by omega)]; rfl)]; rfl, hW.below⟩
          | exact ⟨by unfold setOK; rw [all_no hkl2 (by rw [setAt_eq hz, decide_eq_true (by omega), decide_eq_false (by omega)]; rfl)]; rfl, hW.below⟩
          | exact ⟨by unfold setOK; rw [all_no hkl2 (by rw [setAt_eq hz, (by assumption : mayB P (l.getD k 0) u = false), Bool.and_false])]; rfl, hW.below⟩
          | exact ⟨by unfold setOK; rw [show l.length = k by omega, hall]; simp_all, hW.below⟩
  · intro h2 hF; refine l_nil <| t_n <| c_s <| c_f hF rfl <| wp_exit <| t_x <| t_x <| b_h <| t_n <| c_sr <| pv hF hW (y_loadOwn hF rfl 0 rfl rfl Tryz.underlying40 rfl) fun a hF => pv hF hW (y_move hF rfl) fun a hF => ?_; refine pe (e_call hF rfl rfl en_117 (by rfl) rfl rfl (contains_any (h.below hW.below) u) ?_); rintro e w1 ⟨rfl, hb⟩; replace hW := hW.kept hb; clear hb; refine ⟨_, rfl, fun a hF => ?_⟩; refine Fr.splitD hF ?_ ?_
    · intro h6 hF; refine pv hF hW (y_move hF rfl) fun a hF => pvg hF hW (y_move hF rfl) (ws hF rfl rfl) fun a hF => pvg hF hW (y_makeFunc hF rfl) (ws hF rfl rfl) fun a hF => ?_; refine pe (e_call hF rfl rfl en_118 (by rfl) rfl rfl (has_edge (Nat.le_trans hLl.2.1 hLl.2.2) (hLR.wd hW) (fun k => Edg.cells_len _) en_119 (turnOut (L := L) (m := L.length) (h.below hW.below) (hW.blk 0 rfl))) ?_) (ws hF rfl rfl); rintro e w1 ⟨rfl, hb⟩; replace hW := hW.kept hb; clear hb; refine ⟨_, rfl, fun a hF => ?_⟩; refine Fr.splitB hF ?_ ?_
      · intro h7 hF; refine pvg hF hW (y_not hF rfl) (ws hF rfl rfl) fun a hF => ?_; replace hF := hF.ff; refine pv hF hW (y_pick hF rfl rfl) fun a hF => ?_; replace hF := hF.ff; refine pv hF hW (y_assign hF rfl) fun a hF => ?_; replace hF := hF.ff; refine l_nil ?_; replace hF := hF.ks [0, 1, 2, 3, 4, 9, 10, 11, 14, 15, 16, 17] rfl; refine t_n <| wp_ret <| ret1 Tryz.results78 hF (rv_t hF rfl) ?_
        first
        | exact ⟨by unfold setOK; rw [all_no hkl2 (by rw [setAt_eq hz, decide_eq_false (by omega)]; rfl)]; rfl, hW.below⟩
        | exact ⟨by unfold setOK; rw [all_no hkl2 (by rw [setAt_eq hz, decide_eq_true (by omega), decide_eq_false (by omega)]; rfl)]; rfl, hW.below⟩
        | exact ⟨by unfold setOK; rw [all_no hkl2 (by rw [setAt_eq hz, (by assumption : mayB P (l.getD k 0) u = false), Bool.and_false])]; rfl, hW.below⟩
        | exact ⟨by unfold setOK; rw [show l.length = k by omega, hall]; simp_all, hW.below⟩
      · intro h7 hF; refine pvg hF hW (y_not hF rfl) (ws hF rfl rfl) fun a hF => ?_; replace hF := hF.tt; refine pv hF hW (y_pick hF rfl rfl) fun a hF => ?_; replace hF := hF.tt; refine pv hF hW (y_assign hF rfl) fun a hF => ?_; replace hF := hF.tt; refine l_nil ?_; replace hF := hF.ks [0, 1, 2, 3, 4, 9, 10, 11, 14, 15, 16, 17] rfl; refine t_n <| wp_ret <| ret1 Tryz.results78 hF (rv_t hF rfl) ?_
        first
        | exact ⟨by unfold setOK; rw [all_no hkl2 (by rw [setAt_eq hz, decide_eq_false (by omega)]; rfl)]; rfl, hW.below⟩
        | exact ⟨by unfold setOK; rw [all_no hkl2 (by rw [setAt_eq hz, decide_eq_true (by omega), decide_eq_false (by omega)]; rfl)]; rfl, hW.below⟩
        | exact ⟨by unfold setOK; rw [all_no hkl2 (by rw [setAt_eq hz, (by assumption : mayB P (l.getD k 0) u = false), Bool.and_false])]; rfl, hW.below⟩
        | exact ⟨by unfold setOK; rw [show l.length = k by omega, hall]; simp_all, hW.below⟩
    · intro h6 hF; refine pv hF hW (y_move hF rfl) fun a hF => pk hF (wn hF rfl rfl rfl) fun a hF => pk hF (wn hF rfl rfl rfl) fun a hF => pk hF (wn hF rfl rfl rfl) fun a hF => pk hF (wn hF rfl rfl rfl) fun a hF => pv hF hW (y_pick hF rfl rfl) fun a hF => pv hF hW (y_assign hF rfl) fun a hF => l_nil ?_; replace hF := hF.ks [0, 1, 2, 3, 4, 9, 10, 11, 14, 15, 16, 17] rfl; refine t_n <| wp_ret <| ret1 Tryz.results78 hF (rv_t hF rfl) ?_
      first
      | exact ⟨by unfold setOK; rw [all_no hkl2 (by rw [setAt_eq hz, decide_eq_false (by omega)]; rfl)]; rfl, hW.below⟩
      | exact ⟨by unfold setOK; rw [all_no hkl2 (by rw [setAt_eq hz, decide_eq_true (by omega), decide_eq_false (by omega)]; rfl)]; rfl, hW.below⟩
      | exact ⟨by unfold setOK; rw [all_no hkl2 (by rw [setAt_eq hz, (by assumption : mayB P (l.getD k 0) u = false), Bool.and_false])]; rfl, hW.below⟩
      | exact ⟨by unfold setOK; rw [show l.length = k by omega, hall]; simp_all, hW.below⟩
end Go.Proofs.YtcmdoecoiogjjaaGreat
