/- slices.IndexFunc, slices.ContainsFunc and conf.some at the four types at hand: is it so of one of them? The tests that conf.Check hands to some: what each tells. -/
import Derived.Test.YtnpflhaggfabnaaEng
import Derived.Test.YtnpflhaggfabnaaTys
import Derived.Test.YtnpflhaggfabnaaSysB
namespace Go.Proofs.Ytnpflhaggfabnaa
section
set_option linter.unusedVariables false
set_option linter.unusedSimpArgs false
open Go.ChangeShapes Go.WideShapes Go.ChangeAt Go.RowKit

set_option maxRecDepth 100000

theorem any_true {n k : Nat} {P : Nat → Bool} (hk : k < n) (h : P k = true) : (List.range n).any P = true := List.any_eq_true.2 ⟨k, List.mem_range.2 hk, h⟩
theorem any_false {n : Nat} {P : Nat → Bool} (h : ∀ i, i < n → P i = false) : (List.range n).any P = false := by
  cases ha : (List.range n).any P
  · rfl
  · obtain ⟨k, hk, hp⟩ := List.any_eq_true.1 ha
    rw [h k (List.mem_range.1 hk)] at hp; cases hp
/-- a function that tells of each row's element whether it is so -/
def Tells (w : World) (n : Nat) (el : Nat → Value) (g : FuncId) (cap : Array Value) (P : Nat → Bool) : Prop :=
  ∀ k w1, k < n → Below w.heap.size w w1 → Calls Try.prog g (#[el k] ++ cap) w1 fun e w' => e = .returned (.bool (P k)) ∧ Below w1.heap.size w1 w'
theorem Tells.on {w w1 : World} {n : Nat} {el : Nat → Value} {g : FuncId} {cap : Array Value} {P : Nat → Bool} (h : Tells w n el g cap P) (hb : Below w.heap.size w w1) : Tells w1 n el g cap P :=
  fun k _ hk hb2 => h k _ hk (Below.on hb hb2)


theorem idx_part {A : Option Addr} {n c : Nat} {f : Nat → List Value} {g : FuncId} {cap : Array Value} {P : Nat → Bool} {w : World} (hn : n ≤ maxLen) (hR : RF w A n 2 f) (hlen : ∀ k, (f k).length = 2)(hen : Enters Try.prog g) (hcall : Tells w n (fun k => .agg (f k).toArray) g cap P) :
    Calls Try.prog 61 #[.slice A n c, .func (.func g) #[] cap] w fun e w' => ∃ r : Int, e = .returned (.int .i64 r) ∧ decide (0 ≤ r) = (List.range n).any P ∧ Below w.heap.size w w' := by
  unfold maxLen at hn
  refine enter Try.func61 rfl Try.ntmps61 rfl fun a hF => ?_
  have hW := Wd.start w NoB
  refine c_sr <| pv hF hW (y_assign hF rfl) fun a hF => l_nil <| t_n <| c_s <| c_sr <| pv hF hW (y_move hF rfl) fun a hF => pv hF hW (y_len hF rfl Try.underlying22) fun a hF => pv hF hW (y_move hF rfl) fun a hF => l_nil ?_; replace hF := hF.ks [0, 1, 4, 7, 8] rfl; refine t_n <| wp_block ?_; refine c_loop (G := Nat) (fun k : Nat => [(8, .int .i64 (k : Int))]) (fun k : Nat => []) (fun k : Nat => k ≤ n ∧ ∀ i, i < k → P i = false) (fun k : Nat => n - k) 0 (hF.ks [0, 1, 7] rfl) (Fr.cons hF (t := 8) rfl (by first | rfl | (simp; done)) (Fr.nil hF)) (hW) ?_ ?_
  · exact ⟨by omega, fun i hi => by omega⟩
  clear hF hW
  try clear a
  intro k a wc hC hF hW
  obtain ⟨hk, hno⟩ := hC
  refine c_sr <| pv hF hW (y_lss hF rfl rfl) fun a hF => ?_; refine Fr.splitD hF ?_ ?_
  · intro h1 hF; refine l_nil <| t_n <| c_s <| c_t hF rfl <| wp_skip <| t_n <| c_s <| wp_block <| c_sr <| pv hF hW (y_move hF rfl) fun a hF => pv hF hW (y_assign hF rfl) fun a hF => l_nil ?_; replace hF := hF.ks [0, 1, 5, 7, 8, 9] rfl; refine t_n <| c_sr <| pv hF hW (y_move hF rfl) fun a hF => pv hF hW (y_move hF rfl) fun a hF => pv hF hW (y_move hF rfl) fun a hF => pv hF hW (y_indexS hF rfl rfl (by first | omega | decide) Try.underlying22 sz_47 (fun w h => (hR).wd h)) fun a hF => pv hF hW (y_loadRowW hF rfl (fun w h => (hR).wd h) (by first | omega | decide) Try.underlying47 rfl (by rw [hlen]; exact sz_47)) fun a hF => ?_; refine pe (e_call hF rfl rfl hen (by rfl) rfl rfl (hcall k _ (by omega) hW.below) ?_); rintro e w1 ⟨rfl, hb⟩; replace hW := hW.kept hb; clear hb; refine ⟨_, rfl, fun a hF => ?_⟩; refine Fr.splitB hF ?_ ?_
    · intro h2 hF; refine l_nil ?_; replace hF := hF.ks [0, 1, 5, 7, 8, 9, 16] rfl; refine t_n <| c_t hF rfl <| c_sr <| pv hF hW (y_move hF rfl) fun a hF => pv hF hW (y_assign hF rfl) fun a hF => l_nil ?_; replace hF := hF.ks [0, 1, 4, 5, 7, 8, 9, 16] rfl; refine t_n <| wp_ret <| b_r <| t_r <| t_r <| b_r <| t_r <| ret1 Try.results61 hF (rv_t hF rfl) ?_
      exact ⟨_, rfl, by rw [any_true (k := k) (by omega) (by assumption)]; exact decide_eq_true (by omega), hW.below⟩
    · intro h2 hF; refine l_nil ?_; replace hF := hF.ks [0, 1, 5, 7, 8, 9, 16] rfl; refine t_n <| c_f hF rfl <| wp_skip <| b_n <| t_n <| c_r <| pv hF hW (y_add hF rfl rfl (IntWalk.i64_in _ (by omega))) fun a hF => ?_; replace hF := hF.drop 8; refine pv hF hW (y_move hF rfl) fun a hF => l_nil ?_; replace hF := hF.ks [0, 1, 5, 7, 8, 9, 16] rfl; refine t_n ?_; refine ⟨(k + 1), ?_, ?_, ?_, ?_⟩
      · exact ⟨by omega, fun i hi => by rcases Nat.lt_or_ge i k with h | h; exact hno i h; (have hik : i = k := by omega); rw [hik]; assumption⟩
      · first | omega | (dsimp only; omega)
      · exact Fr.app (Fr.cons hF (t := 8) rfl (by first | rfl | (simp; done) | omega) (Fr.nil hF)) (hF.ks [0, 1, 7] rfl)
      · exact hW
  · intro h1 hF; refine l_nil <| t_n <| c_s <| c_f hF rfl <| wp_exit <| t_x <| t_x <| b_h <| t_n <| c_sr <| pv hF hW (y_assign hF rfl) fun a hF => l_nil <| t_n <| wp_ret <| ret1 Try.results61 hF (rv_t hF rfl) ?_
    exact ⟨_, rfl, by rw [any_false fun i hi => hno i (by omega)]; rfl, hW.below⟩
theorem has_part {A : Option Addr} {n c : Nat} {f : Nat → List Value} {g : FuncId} {cap : Array Value} {P : Nat → Bool} {w : World} (hn : n ≤ maxLen) (hR : RF w A n 2 f) (hlen : ∀ k, (f k).length = 2)(hen : Enters Try.prog g) (hcall : Tells w n (fun k => .agg (f k).toArray) g cap P) :
    Calls Try.prog 53 #[.slice A n c, .func (.func g) #[] cap] w fun e w' => e = .returned (.bool ((List.range n).any P)) ∧ Below w.heap.size w w' := by
  refine enter Try.func53 rfl Try.ntmps53 rfl fun a hF => ?_
  have hW := Wd.start w NoB
  refine c_sr <| pv hF hW (y_assign hF rfl) fun a hF => l_nil <| t_n <| c_sr <| pv hF hW (y_move hF rfl) fun a hF => pv hF hW (y_move hF rfl) fun a hF => ?_; refine pe (e_call hF rfl rfl en_61 (by rfl) rfl rfl (idx_part hn (hR.wd hW) hlen hen (hcall.on hW.below)) ?_); rintro e w1 ⟨r, rfl, hr, hb⟩; replace hW := hW.kept hb; clear hb; refine ⟨_, rfl, fun a hF => ?_⟩; refine pv hF hW (y_geq hF rfl rfl) fun a hF => ?_; replace hF := hF.drop 4; refine pv hF hW (y_assign hF rfl) fun a hF => l_nil ?_; replace hF := hF.ks [0, 1, 4] rfl; refine t_n <| wp_ret <| ret1 Try.results53 hF (rv_t hF rfl) ?_
  exact ⟨by rw [← hr], hW.below⟩
theorem some_part {A : Option Addr} {n c : Nat} {f : Nat → List Value} {g : FuncId} {cap : Array Value} {P : Nat → Bool} {w : World} (hn : n ≤ maxLen) (hR : RF w A n 2 f) (hlen : ∀ k, (f k).length = 2)(hen : Enters Try.prog g) (hcall : Tells w n (fun k => .agg (f k).toArray) g cap P) :
    Calls Try.prog 37 #[.slice A n c, .func (.func g) #[] cap] w fun e w' => e = .returned (.bool ((List.range n).any P)) ∧ Below w.heap.size w w' := by
  refine enter Try.func37 rfl Try.ntmps37 rfl fun a hF => ?_
  have hW := Wd.start w NoB
  refine c_sr <| pv hF hW (y_assign hF rfl) fun a hF => l_nil <| t_n <| c_sr <| pv hF hW (y_move hF rfl) fun a hF => pv hF hW (y_move hF rfl) fun a hF => ?_; refine pe (e_call hF rfl rfl en_53 (by rfl) rfl rfl (has_part hn (hR.wd hW) hlen hen (hcall.on hW.below)) ?_); rintro e w1 ⟨rfl, hb⟩; replace hW := hW.kept hb; clear hb; refine ⟨_, rfl, fun a hF => ?_⟩; replace hF := hF.drop 4; refine pv hF hW (y_assign hF rfl) fun a hF => l_nil ?_; replace hF := hF.ks [0, 1, 4] rfl; refine t_n <| wp_ret <| ret1 Try.results37 hF (rv_t hF rfl) ?_
  exact ⟨rfl, hW.below⟩
theorem idx_chan {A : Option Addr} {n c : Nat} {f : Nat → List Value} {g : FuncId} {cap : Array Value} {P : Nat → Bool} {w : World} (hn : n ≤ maxLen) (hR : RF w A n 3 f) (hlen : ∀ k, (f k).length = 3)(hen : Enters Try.prog g) (hcall : Tells w n (fun k => .agg (f k).toArray) g cap P) :
    Calls Try.prog 65 #[.slice A n c, .func (.func g) #[] cap] w fun e w' => ∃ r : Int, e = .returned (.int .i64 r) ∧ decide (0 ≤ r) = (List.range n).any P ∧ Below w.heap.size w w' := by
  unfold maxLen at hn
  refine enter Try.func65 rfl Try.ntmps65 rfl fun a hF => ?_
  have hW := Wd.start w NoB
  refine c_sr <| pv hF hW (y_assign hF rfl) fun a hF => l_nil <| t_n <| c_s <| c_sr <| pv hF hW (y_move hF rfl) fun a hF => pv hF hW (y_len hF rfl Try.underlying23) fun a hF => pv hF hW (y_move hF rfl) fun a hF => l_nil ?_; replace hF := hF.ks [0, 1, 4, 7, 8] rfl; refine t_n <| wp_block ?_; refine c_loop (G := Nat) (fun k : Nat => [(8, .int .i64 (k : Int))]) (fun k : Nat => []) (fun k : Nat => k ≤ n ∧ ∀ i, i < k → P i = false) (fun k : Nat => n - k) 0 (hF.ks [0, 1, 7] rfl) (Fr.cons hF (t := 8) rfl (by first | rfl | (simp; done)) (Fr.nil hF)) (hW) ?_ ?_
  · exact ⟨by omega, fun i hi => by omega⟩
  clear hF hW
  try clear a
  intro k a wc hC hF hW
  obtain ⟨hk, hno⟩ := hC
  refine c_sr <| pv hF hW (y_lss hF rfl rfl) fun a hF => ?_; refine Fr.splitD hF ?_ ?_
  · intro h1 hF; refine l_nil <| t_n <| c_s <| c_t hF rfl <| wp_skip <| t_n <| c_s <| wp_block <| c_sr <| pv hF hW (y_move hF rfl) fun a hF => pv hF hW (y_assign hF rfl) fun a hF => l_nil ?_; replace hF := hF.ks [0, 1, 5, 7, 8, 9] rfl; refine t_n <| c_sr <| pv hF hW (y_move hF rfl) fun a hF => pv hF hW (y_move hF rfl) fun a hF => pv hF hW (y_move hF rfl) fun a hF => pv hF hW (y_indexS hF rfl rfl (by first | omega | decide) Try.underlying23 sz_52 (fun w h => (hR).wd h)) fun a hF => pv hF hW (y_loadRowW hF rfl (fun w h => (hR).wd h) (by first | omega | decide) Try.underlying52 rfl (by rw [hlen]; exact sz_52)) fun a hF => ?_; refine pe (e_call hF rfl rfl hen (by rfl) rfl rfl (hcall k _ (by omega) hW.below) ?_); rintro e w1 ⟨rfl, hb⟩; replace hW := hW.kept hb; clear hb; refine ⟨_, rfl, fun a hF => ?_⟩; refine Fr.splitB hF ?_ ?_
    · intro h2 hF; refine l_nil ?_; replace hF := hF.ks [0, 1, 5, 7, 8, 9, 16] rfl; refine t_n <| c_t hF rfl <| c_sr <| pv hF hW (y_move hF rfl) fun a hF => pv hF hW (y_assign hF rfl) fun a hF => l_nil ?_; replace hF := hF.ks [0, 1, 4, 5, 7, 8, 9, 16] rfl; refine t_n <| wp_ret <| b_r <| t_r <| t_r <| b_r <| t_r <| ret1 Try.results65 hF (rv_t hF rfl) ?_
      exact ⟨_, rfl, by rw [any_true (k := k) (by omega) (by assumption)]; exact decide_eq_true (by omega), hW.below⟩
    · intro h2 hF; refine l_nil ?_; replace hF := hF.ks [0, 1, 5, 7, 8, 9, 16] rfl; refine t_n <| c_f hF rfl <| wp_skip <| b_n <| t_n <| c_r <| pv hF hW (y_add hF rfl rfl (IntWalk.i64_in _ (by omega))) fun a hF => ?_; replace hF := hF.drop 8; refine pv hF hW (y_move hF rfl) fun a hF => l_nil ?_; replace hF := hF.ks [0, 1, 5, 7, 8, 9, 16] rfl; refine t_n ?_; refine ⟨(k + 1), ?_, ?_, ?_, ?_⟩
      · exact ⟨by omega, fun i hi => by rcases Nat.lt_or_ge i k with h | h; exact hno i h; (have hik : i = k := by omega); rw [hik]; assumption⟩
      · first | omega | (dsimp only; omega)
      · exact Fr.app (Fr.cons hF (t := 8) rfl (by first | rfl | (simp; done) | omega) (Fr.nil hF)) (hF.ks [0, 1, 7] rfl)
      · exact hW
  · intro h1 hF; refine l_nil <| t_n <| c_s <| c_f hF rfl <| wp_exit <| t_x <| t_x <| b_h <| t_n <| c_sr <| pv hF hW (y_assign hF rfl) fun a hF => l_nil <| t_n <| wp_ret <| ret1 Try.results65 hF (rv_t hF rfl) ?_
    exact ⟨_, rfl, by rw [any_false fun i hi => hno i (by omega)]; rfl, hW.below⟩
theorem has_chan {A : Option Addr} {n c : Nat} {f : Nat → List Value} {g : FuncId} {cap : Array Value} {P : Nat → Bool} {w : World} (hn : n ≤ maxLen) (hR : RF w A n 3 f) (hlen : ∀ k, (f k).length = 3)(hen : Enters Try.prog g) (hcall : Tells w n (fun k => .agg (f k).toArray) g cap P) :
    Calls Try.prog 55 #[.slice A n c, .func (.func g) #[] cap] w fun e w' => e = .returned (.bool ((List.range n).any P)) ∧ Below w.heap.size w w' := by
  refine enter Try.func55 rfl Try.ntmps55 rfl fun a hF => ?_
  have hW := Wd.start w NoB
  refine c_sr <| pv hF hW (y_assign hF rfl) fun a hF => l_nil <| t_n <| c_sr <| pv hF hW (y_move hF rfl) fun a hF => pv hF hW (y_move hF rfl) fun a hF => ?_; refine pe (e_call hF rfl rfl en_65 (by rfl) rfl rfl (idx_chan hn (hR.wd hW) hlen hen (hcall.on hW.below)) ?_); rintro e w1 ⟨r, rfl, hr, hb⟩; replace hW := hW.kept hb; clear hb; refine ⟨_, rfl, fun a hF => ?_⟩; refine pv hF hW (y_geq hF rfl rfl) fun a hF => ?_; replace hF := hF.drop 4; refine pv hF hW (y_assign hF rfl) fun a hF => l_nil ?_; replace hF := hF.ks [0, 1, 4] rfl; refine t_n <| wp_ret <| ret1 Try.results55 hF (rv_t hF rfl) ?_
  exact ⟨by rw [← hr], hW.below⟩
theorem some_chan {A : Option Addr} {n c : Nat} {f : Nat → List Value} {g : FuncId} {cap : Array Value} {P : Nat → Bool} {w : World} (hn : n ≤ maxLen) (hR : RF w A n 3 f) (hlen : ∀ k, (f k).length = 3)(hen : Enters Try.prog g) (hcall : Tells w n (fun k => .agg (f k).toArray) g cap P) :
    Calls Try.prog 41 #[.slice A n c, .func (.func g) #[] cap] w fun e w' => e = .returned (.bool ((List.range n).any P)) ∧ Below w.heap.size w w' := by
  refine enter Try.func41 rfl Try.ntmps41 rfl fun a hF => ?_
  have hW := Wd.start w NoB
  refine c_sr <| pv hF hW (y_assign hF rfl) fun a hF => l_nil <| t_n <| c_sr <| pv hF hW (y_move hF rfl) fun a hF => pv hF hW (y_move hF rfl) fun a hF => ?_; refine pe (e_call hF rfl rfl en_55 (by rfl) rfl rfl (has_chan hn (hR.wd hW) hlen hen (hcall.on hW.below)) ?_); rintro e w1 ⟨rfl, hb⟩; replace hW := hW.kept hb; clear hb; refine ⟨_, rfl, fun a hF => ?_⟩; replace hF := hF.drop 4; refine pv hF hW (y_assign hF rfl) fun a hF => l_nil ?_; replace hF := hF.ks [0, 1, 4] rfl; refine t_n <| wp_ret <| ret1 Try.results41 hF (rv_t hF rfl) ?_
  exact ⟨rfl, hW.below⟩
theorem idx_slot {A : Option Addr} {n c : Nat} {f : Nat → List Value} {g : FuncId} {cap : Array Value} {P : Nat → Bool} {w : World} (hn : n ≤ maxLen) (hR : RF w A n 2 f) (hlen : ∀ k, (f k).length = 2)(hen : Enters Try.prog g) (hcall : Tells w n (fun k => .agg (f k).toArray) g cap P) :
    Calls Try.prog 66 #[.slice A n c, .func (.func g) #[] cap] w fun e w' => ∃ r : Int, e = .returned (.int .i64 r) ∧ decide (0 ≤ r) = (List.range n).any P ∧ Below w.heap.size w w' := by
  unfold maxLen at hn
  refine enter Try.func66 rfl Try.ntmps66 rfl fun a hF => ?_
  have hW := Wd.start w NoB
  refine c_sr <| pv hF hW (y_assign hF rfl) fun a hF => l_nil <| t_n <| c_s <| c_sr <| pv hF hW (y_move hF rfl) fun a hF => pv hF hW (y_len hF rfl Try.underlying24) fun a hF => pv hF hW (y_move hF rfl) fun a hF => l_nil ?_; replace hF := hF.ks [0, 1, 4, 7, 8] rfl; refine t_n <| wp_block ?_; refine c_loop (G := Nat) (fun k : Nat => [(8, .int .i64 (k : Int))]) (fun k : Nat => []) (fun k : Nat => k ≤ n ∧ ∀ i, i < k → P i = false) (fun k : Nat => n - k) 0 (hF.ks [0, 1, 7] rfl) (Fr.cons hF (t := 8) rfl (by first | rfl | (simp; done)) (Fr.nil hF)) (hW) ?_ ?_
  · exact ⟨by omega, fun i hi => by omega⟩
  clear hF hW
  try clear a
  intro k a wc hC hF hW
  obtain ⟨hk, hno⟩ := hC
  refine c_sr <| pv hF hW (y_lss hF rfl rfl) fun a hF => ?_; refine Fr.splitD hF ?_ ?_
  · intro h1 hF; refine l_nil <| t_n <| c_s <| c_t hF rfl <| wp_skip <| t_n <| c_s <| wp_block <| c_sr <| pv hF hW (y_move hF rfl) fun a hF => pv hF hW (y_assign hF rfl) fun a hF => l_nil ?_; replace hF := hF.ks [0, 1, 5, 7, 8, 9] rfl; refine t_n <| c_sr <| pv hF hW (y_move hF rfl) fun a hF => pv hF hW (y_move hF rfl) fun a hF => pv hF hW (y_move hF rfl) fun a hF => pv hF hW (y_indexS hF rfl rfl (by first | omega | decide) Try.underlying24 sz_54 (fun w h => (hR).wd h)) fun a hF => pv hF hW (y_loadRowW hF rfl (fun w h => (hR).wd h) (by first | omega | decide) Try.underlying54 rfl (by rw [hlen]; exact sz_54)) fun a hF => ?_; refine pe (e_call hF rfl rfl hen (by rfl) rfl rfl (hcall k _ (by omega) hW.below) ?_); rintro e w1 ⟨rfl, hb⟩; replace hW := hW.kept hb; clear hb; refine ⟨_, rfl, fun a hF => ?_⟩; refine Fr.splitB hF ?_ ?_
    · intro h2 hF; refine l_nil ?_; replace hF := hF.ks [0, 1, 5, 7, 8, 9, 16] rfl; refine t_n <| c_t hF rfl <| c_sr <| pv hF hW (y_move hF rfl) fun a hF => pv hF hW (y_assign hF rfl) fun a hF => l_nil ?_; replace hF := hF.ks [0, 1, 4, 5, 7, 8, 9, 16] rfl; refine t_n <| wp_ret <| b_r <| t_r <| t_r <| b_r <| t_r <| ret1 Try.results66 hF (rv_t hF rfl) ?_
      exact ⟨_, rfl, by rw [any_true (k := k) (by omega) (by assumption)]; exact decide_eq_true (by omega), hW.below⟩
    · intro h2 hF; refine l_nil ?_; replace hF := hF.ks [0, 1, 5, 7, 8, 9, 16] rfl; refine t_n <| c_f hF rfl <| wp_skip <| b_n <| t_n <| c_r <| pv hF hW (y_add hF rfl rfl (IntWalk.i64_in _ (by omega))) fun a hF => ?_; replace hF := hF.drop 8; refine pv hF hW (y_move hF rfl) fun a hF => l_nil ?_; replace hF := hF.ks [0, 1, 5, 7, 8, 9, 16] rfl; refine t_n ?_; refine ⟨(k + 1), ?_, ?_, ?_, ?_⟩
      · exact ⟨by omega, fun i hi => by rcases Nat.lt_or_ge i k with h | h; exact hno i h; (have hik : i = k := by omega); rw [hik]; assumption⟩
      · first | omega | (dsimp only; omega)
      · exact Fr.app (Fr.cons hF (t := 8) rfl (by first | rfl | (simp; done) | omega) (Fr.nil hF)) (hF.ks [0, 1, 7] rfl)
      · exact hW
  · intro h1 hF; refine l_nil <| t_n <| c_s <| c_f hF rfl <| wp_exit <| t_x <| t_x <| b_h <| t_n <| c_sr <| pv hF hW (y_assign hF rfl) fun a hF => l_nil <| t_n <| wp_ret <| ret1 Try.results66 hF (rv_t hF rfl) ?_
    exact ⟨_, rfl, by rw [any_false fun i hi => hno i (by omega)]; rfl, hW.below⟩
theorem has_slot {A : Option Addr} {n c : Nat} {f : Nat → List Value} {g : FuncId} {cap : Array Value} {P : Nat → Bool} {w : World} (hn : n ≤ maxLen) (hR : RF w A n 2 f) (hlen : ∀ k, (f k).length = 2)(hen : Enters Try.prog g) (hcall : Tells w n (fun k => .agg (f k).toArray) g cap P) :
    Calls Try.prog 56 #[.slice A n c, .func (.func g) #[] cap] w fun e w' => e = .returned (.bool ((List.range n).any P)) ∧ Below w.heap.size w w' := by
  refine enter Try.func56 rfl Try.ntmps56 rfl fun a hF => ?_
  have hW := Wd.start w NoB
  refine c_sr <| pv hF hW (y_assign hF rfl) fun a hF => l_nil <| t_n <| c_sr <| pv hF hW (y_move hF rfl) fun a hF => pv hF hW (y_move hF rfl) fun a hF => ?_; refine pe (e_call hF rfl rfl en_66 (by rfl) rfl rfl (idx_slot hn (hR.wd hW) hlen hen (hcall.on hW.below)) ?_); rintro e w1 ⟨r, rfl, hr, hb⟩; replace hW := hW.kept hb; clear hb; refine ⟨_, rfl, fun a hF => ?_⟩; refine pv hF hW (y_geq hF rfl rfl) fun a hF => ?_; replace hF := hF.drop 4; refine pv hF hW (y_assign hF rfl) fun a hF => l_nil ?_; replace hF := hF.ks [0, 1, 4] rfl; refine t_n <| wp_ret <| ret1 Try.results56 hF (rv_t hF rfl) ?_
  exact ⟨by rw [← hr], hW.below⟩
theorem some_slot {A : Option Addr} {n c : Nat} {f : Nat → List Value} {g : FuncId} {cap : Array Value} {P : Nat → Bool} {w : World} (hn : n ≤ maxLen) (hR : RF w A n 2 f) (hlen : ∀ k, (f k).length = 2)(hen : Enters Try.prog g) (hcall : Tells w n (fun k => .agg (f k).toArray) g cap P) :
    Calls Try.prog 44 #[.slice A n c, .func (.func g) #[] cap] w fun e w' => e = .returned (.bool ((List.range n).any P)) ∧ Below w.heap.size w w' := by
  refine enter Try.func44 rfl Try.ntmps44 rfl fun a hF => ?_
  have hW := Wd.start w NoB
  refine c_sr <| pv hF hW (y_assign hF rfl) fun a hF => l_nil <| t_n <| c_sr <| pv hF hW (y_move hF rfl) fun a hF => pv hF hW (y_move hF rfl) fun a hF => ?_; refine pe (e_call hF rfl rfl en_56 (by rfl) rfl rfl (has_slot hn (hR.wd hW) hlen hen (hcall.on hW.below)) ?_); rintro e w1 ⟨rfl, hb⟩; replace hW := hW.kept hb; clear hb; refine ⟨_, rfl, fun a hF => ?_⟩; replace hF := hF.drop 4; refine pv hF hW (y_assign hF rfl) fun a hF => l_nil ?_; replace hF := hF.ks [0, 1, 4] rfl; refine t_n <| wp_ret <| ret1 Try.results44 hF (rv_t hF rfl) ?_
  exact ⟨rfl, hW.below⟩
theorem idx_int {A : Option Addr} {n c : Nat} {f : Nat → Int} {g : FuncId} {cap : Array Value} {P : Nat → Bool} {w : World} (hn : n ≤ maxLen) (hR : RF w A n 1 (fun k => [.int .i64 (f k)])) (hen : Enters Try.prog g) (hcall : Tells w n (fun k => .int .i64 (f k)) g cap P) :
    Calls Try.prog 69 #[.slice A n c, .func (.func g) #[] cap] w fun e w' => ∃ r : Int, e = .returned (.int .i64 r) ∧ decide (0 ≤ r) = (List.range n).any P ∧ Below w.heap.size w w' := by
  unfold maxLen at hn
  refine enter Try.func69 rfl Try.ntmps69 rfl fun a hF => ?_
  have hW := Wd.start w NoB
  refine c_sr <| pv hF hW (y_assign hF rfl) fun a hF => l_nil <| t_n <| c_s <| c_sr <| pv hF hW (y_move hF rfl) fun a hF => pv hF hW (y_len hF rfl Try.underlying45) fun a hF => pv hF hW (y_move hF rfl) fun a hF => l_nil ?_; replace hF := hF.ks [0, 1, 4, 7, 8] rfl; refine t_n <| wp_block ?_; refine c_loop (G := Nat) (fun k : Nat => [(8, .int .i64 (k : Int))]) (fun k : Nat => []) (fun k : Nat => k ≤ n ∧ ∀ i, i < k → P i = false) (fun k : Nat => n - k) 0 (hF.ks [0, 1, 7] rfl) (Fr.cons hF (t := 8) rfl (by first | rfl | (simp; done)) (Fr.nil hF)) (hW) ?_ ?_
  · exact ⟨by omega, fun i hi => by omega⟩
  clear hF hW
  try clear a
  intro k a wc hC hF hW
  obtain ⟨hk, hno⟩ := hC
  refine c_sr <| pv hF hW (y_lss hF rfl rfl) fun a hF => ?_; refine Fr.splitD hF ?_ ?_
  · intro h1 hF; refine l_nil <| t_n <| c_s <| c_t hF rfl <| wp_skip <| t_n <| c_s <| wp_block <| c_sr <| pv hF hW (y_move hF rfl) fun a hF => pv hF hW (y_assign hF rfl) fun a hF => l_nil ?_; replace hF := hF.ks [0, 1, 5, 7, 8, 9] rfl; refine t_n <| c_sr <| pv hF hW (y_move hF rfl) fun a hF => pv hF hW (y_move hF rfl) fun a hF => pv hF hW (y_move hF rfl) fun a hF => pv hF hW (y_indexS hF rfl rfl (by first | omega | decide) Try.underlying45 sz_3 (fun w h => (hR).wd h)) fun a hF => pv hF hW (y_loadRow hF rfl (fun w h => (hR).wd h) (by first | omega | decide) rfl Try.underlying3 rfl) fun a hF => ?_; refine pe (e_call hF rfl rfl hen (by rfl) rfl rfl (hcall k _ (by omega) hW.below) ?_); rintro e w1 ⟨rfl, hb⟩; replace hW := hW.kept hb; clear hb; refine ⟨_, rfl, fun a hF => ?_⟩; refine Fr.splitB hF ?_ ?_
    · intro h2 hF; refine l_nil ?_; replace hF := hF.ks [0, 1, 5, 7, 8, 9, 16] rfl; refine t_n <| c_t hF rfl <| c_sr <| pv hF hW (y_move hF rfl) fun a hF => pv hF hW (y_assign hF rfl) fun a hF => l_nil ?_; replace hF := hF.ks [0, 1, 4, 5, 7, 8, 9, 16] rfl; refine t_n <| wp_ret <| b_r <| t_r <| t_r <| b_r <| t_r <| ret1 Try.results69 hF (rv_t hF rfl) ?_
      exact ⟨_, rfl, by rw [any_true (k := k) (by omega) (by assumption)]; exact decide_eq_true (by omega), hW.below⟩
    · intro h2 hF; refine l_nil ?_; replace hF := hF.ks [0, 1, 5, 7, 8, 9, 16] rfl; refine t_n <| c_f hF rfl <| wp_skip <| b_n <| t_n <| c_r <| pv hF hW (y_add hF rfl rfl (IntWalk.i64_in _ (by omega))) fun a hF => ?_; replace hF := hF.drop 8; refine pv hF hW (y_move hF rfl) fun a hF => l_nil ?_; replace hF := hF.ks [0, 1, 5, 7, 8, 9, 16] rfl; refine t_n ?_; refine ⟨(k + 1), ?_, ?_, ?_, ?_⟩
      · exact ⟨by omega, fun i hi => by rcases Nat.lt_or_ge i k with h | h; exact hno i h; (have hik : i = k := by omega); rw [hik]; assumption⟩
      · first | omega | (dsimp only; omega)
      · exact Fr.app (Fr.cons hF (t := 8) rfl (by first | rfl | (simp; done) | omega) (Fr.nil hF)) (hF.ks [0, 1, 7] rfl)
      · exact hW
  · intro h1 hF; refine l_nil <| t_n <| c_s <| c_f hF rfl <| wp_exit <| t_x <| t_x <| b_h <| t_n <| c_sr <| pv hF hW (y_assign hF rfl) fun a hF => l_nil <| t_n <| wp_ret <| ret1 Try.results69 hF (rv_t hF rfl) ?_
    exact ⟨_, rfl, by rw [any_false fun i hi => hno i (by omega)]; rfl, hW.below⟩
theorem has_int {A : Option Addr} {n c : Nat} {f : Nat → Int} {g : FuncId} {cap : Array Value} {P : Nat → Bool} {w : World} (hn : n ≤ maxLen) (hR : RF w A n 1 (fun k => [.int .i64 (f k)])) (hen : Enters Try.prog g) (hcall : Tells w n (fun k => .int .i64 (f k)) g cap P) :
    Calls Try.prog 58 #[.slice A n c, .func (.func g) #[] cap] w fun e w' => e = .returned (.bool ((List.range n).any P)) ∧ Below w.heap.size w w' := by
  refine enter Try.func58 rfl Try.ntmps58 rfl fun a hF => ?_
  have hW := Wd.start w NoB
  refine c_sr <| pv hF hW (y_assign hF rfl) fun a hF => l_nil <| t_n <| c_sr <| pv hF hW (y_move hF rfl) fun a hF => pv hF hW (y_move hF rfl) fun a hF => ?_; refine pe (e_call hF rfl rfl en_69 (by rfl) rfl rfl (idx_int hn (hR.wd hW)  hen (hcall.on hW.below)) ?_); rintro e w1 ⟨r, rfl, hr, hb⟩; replace hW := hW.kept hb; clear hb; refine ⟨_, rfl, fun a hF => ?_⟩; refine pv hF hW (y_geq hF rfl rfl) fun a hF => ?_; replace hF := hF.drop 4; refine pv hF hW (y_assign hF rfl) fun a hF => l_nil ?_; replace hF := hF.ks [0, 1, 4] rfl; refine t_n <| wp_ret <| ret1 Try.results58 hF (rv_t hF rfl) ?_
  exact ⟨by rw [← hr], hW.below⟩
theorem some_int {A : Option Addr} {n c : Nat} {f : Nat → Int} {g : FuncId} {cap : Array Value} {P : Nat → Bool} {w : World} (hn : n ≤ maxLen) (hR : RF w A n 1 (fun k => [.int .i64 (f k)])) (hen : Enters Try.prog g) (hcall : Tells w n (fun k => .int .i64 (f k)) g cap P) :
    Calls Try.prog 48 #[.slice A n c, .func (.func g) #[] cap] w fun e w' => e = .returned (.bool ((List.range n).any P)) ∧ Below w.heap.size w w' := by
  refine enter Try.func48 rfl Try.ntmps48 rfl fun a hF => ?_
  have hW := Wd.start w NoB
  refine c_sr <| pv hF hW (y_assign hF rfl) fun a hF => l_nil <| t_n <| c_sr <| pv hF hW (y_move hF rfl) fun a hF => pv hF hW (y_move hF rfl) fun a hF => ?_; refine pe (e_call hF rfl rfl en_58 (by rfl) rfl rfl (has_int hn (hR.wd hW)  hen (hcall.on hW.below)) ?_); rintro e w1 ⟨rfl, hb⟩; replace hW := hW.kept hb; clear hb; refine ⟨_, rfl, fun a hF => ?_⟩; replace hF := hF.drop 4; refine pv hF hW (y_assign hF rfl) fun a hF => l_nil ?_; replace hF := hF.ks [0, 1, 4] rfl; refine t_n <| wp_ret <| ret1 Try.results48 hF (rv_t hF rfl) ?_
  exact ⟨rfl, hW.below⟩
end

section
set_option linter.unusedVariables false
set_option linter.unusedSimpArgs false
open Go.ChangeShapes Go.WideShapes Go.ChangeAt Go.RowKit

set_option maxRecDepth 100000

theorem any_getD {α : Type} (d : α) (f : α → Bool) (l : List α) : (List.range l.length).any (fun k => f (l.getD k d)) = l.any f := by
  cases h : l.any f
  · refine any_false fun k hk => ?_
    cases hf : f (l.getD k d)
    · rfl
    · rw [List.any_eq_true.2 ⟨_, mem_getD d hk, hf⟩] at h; cases h
  · obtain ⟨y, hy, hf⟩ := List.any_eq_true.1 h
    obtain ⟨k, hk, rfl⟩ := List.mem_iff_getElem.1 hy
    refine any_true hk ?_
    rwa [List.getD, List.getElem?_eq_getElem hk]
theorem any_not {α : Type} (f : α → Bool) (l : List α) : l.any (fun y => !f y) = !l.all f := by
  induction l with
  | nil => rfl
  | cons y r ih => simp [ih]
def badPut (cs : List Chn) (p : Nat) (m : Int) : Bool := decide ((cs.length : Int) ≤ m) || (cs.getD m.toNat C0).from_ != p
def badGet (cs : List Chn) (p : Nat) (m : Int) : Bool := decide ((cs.length : Int) ≤ m) || (cs.getD m.toNat C0).to_ != p

theorem ck1_any {v : Value} {A : Option Addr} {n c : Nat} {w : World} :
    Calls Try.prog 38 #[.agg #[v, .slice A n c]] w fun e w' => e = .returned (.bool (decide (12 < n))) ∧ Below w.heap.size w w' := by
  refine enter Try.func38 rfl Try.ntmps38 rfl fun a hF => ?_
  have hW := Wd.start w NoB
  refine c_sr ?_; refine pe (e_box hF hW rfl rfl rfl rfl ?_); intro b1 a wc hF hW; refine pv hF hW (y_assign hF rfl) fun a hF => l_nil <| t_n <| c_sr <| pv hF hW (y_fieldOwn hF rfl fa_47_1) fun a hF => pv hF hW (y_loadOwn hF rfl 0 rfl rfl Try.underlying45 rfl) fun a hF => pv hF hW (y_len hF rfl Try.underlying45) fun a hF => pv hF hW (y_gtr hF rfl rfl) fun a hF => ?_; replace hF := hF.drop 2; refine pv hF hW (y_assign hF rfl) fun a hF => l_nil ?_; replace hF := hF.ks [0, 1, 2] rfl; refine t_n <| wp_ret <| ret1 Try.results38 hF (rv_t hF rfl) ?_
  exact ⟨by simp only [show ((12 : Int) < (n : Int)) = (12 < n) from propext (by omega)], hW.below⟩
section
variable {x : SysD} {w : World} {b1 : Nat} {T1 : TypeId}
theorem ck2_any {n : Int} (hB : Blk w b1 T1 [.slice x.pa x.parts.length x.pc, .slice x.ha x.chans.length x.hc, .slice x.sa x.slots.length x.sc]) :
    Calls Try.prog 40 #[.int .i64 n, .pointer (some ⟨b1, 0, none⟩)] w fun e w' => e = .returned (.bool (partOk x.parts.length n)) ∧ Below w.heap.size w w' := by
  refine enter Try.func40 rfl Try.ntmps40 rfl fun a hF => ?_
  have hW := Wd.start w NoB
  refine c_sr <| pv hF hW (y_assign hF rfl) fun a hF => l_nil <| t_n <| c_sr <| pv hF hW (y_move hF rfl) fun a hF => pv hF hW (y_geq hF rfl rfl) fun a hF => ?_; refine Fr.splitD hF ?_ ?_
  · intro h1 hF; refine pv hF hW (y_move hF rfl) fun a hF => pvg hF hW (y_move hF rfl) (ws hF rfl rfl) fun a hF => pvg hF hW (y_fieldOwn hF rfl fa_26_0) (ws hF rfl rfl) fun a hF => pvg hF hW (y_loadB hF rfl (hB) rfl Try.underlying22 rfl) (ws hF rfl rfl) fun a hF => pvg hF hW (y_len hF rfl Try.underlying22) (ws hF rfl rfl) fun a hF => pvg hF hW (y_lss hF rfl rfl) (ws hF rfl rfl) fun a hF => ?_; refine Fr.splitD hF ?_ ?_
    · intro h2 hF; refine pv hF hW (y_pick hF rfl rfl) fun a hF => ?_; replace hF := hF.drop 3; refine pv hF hW (y_assign hF rfl) fun a hF => l_nil ?_; replace hF := hF.ks [0, 1, 3] rfl; refine t_n <| wp_ret <| ret1 Try.results40 hF (rv_t hF rfl) ?_
      exact ⟨by simp [partOk, *], hW.below⟩
    · intro h2 hF; refine pv hF hW (y_pick hF rfl rfl) fun a hF => ?_; replace hF := hF.drop 3; refine pv hF hW (y_assign hF rfl) fun a hF => l_nil ?_; replace hF := hF.ks [0, 1, 3] rfl; refine t_n <| wp_ret <| ret1 Try.results40 hF (rv_t hF rfl) ?_
      exact ⟨by simp [partOk, *], hW.below⟩
  · intro h1 hF; refine pv hF hW (y_move hF rfl) fun a hF => pk hF (wn hF rfl rfl rfl) fun a hF => pk hF (wn hF rfl rfl rfl) fun a hF => pk hF (wn hF rfl rfl rfl) fun a hF => pk hF (wn hF rfl rfl rfl) fun a hF => pk hF (wn hF rfl rfl rfl) fun a hF => pv hF hW (y_pick hF rfl rfl) fun a hF => ?_; replace hF := hF.drop 3; refine pv hF hW (y_assign hF rfl) fun a hF => l_nil ?_; replace hF := hF.ks [0, 1, 3] rfl; refine t_n <| wp_ret <| ret1 Try.results40 hF (rv_t hF rfl) ?_
    exact ⟨by simp [partOk, *], hW.below⟩
theorem ck3_any {c : Chn} :
    Calls Try.prog 42 #[.agg c.cells.toArray] w fun e w' => e = .returned (.bool (!kindOk c.kind)) ∧ Below w.heap.size w w' := by
  change Calls _ _ #[.agg #[.int .i64 c.kind, .int .i64 c.from_, .int .i64 c.to_]] _ _
  refine enter Try.func42 rfl Try.ntmps42 rfl fun a hF => ?_
  have hW := Wd.start w NoB
  refine c_sr ?_; refine pe (e_box hF hW rfl rfl rfl rfl ?_); intro b1 a wc hF hW; refine pv hF hW (y_assign hF rfl) fun a hF => l_nil <| t_n <| c_sr <| pv hF hW (y_fieldOwn hF rfl fa_52_0) fun a hF => pv hF hW (y_loadOwn hF rfl 0 rfl rfl Try.underlying3 rfl) fun a hF => pv hF hW (y_neq hF rfl rfl) fun a hF => ?_; refine Fr.splitD hF ?_ ?_
  · intro h2 hF; refine pv hF hW (y_move hF rfl) fun a hF => pvg hF hW (y_fieldOwn hF rfl fa_52_0) (ws hF rfl rfl) fun a hF => pvg hF hW (y_loadOwn hF rfl 0 rfl rfl Try.underlying3 rfl) (ws hF rfl rfl) fun a hF => pvg hF hW (y_neq hF rfl rfl) (ws hF rfl rfl) fun a hF => ?_; refine Fr.splitD hF ?_ ?_
    · intro h3 hF; refine pv hF hW (y_pick hF rfl rfl) fun a hF => ?_; replace hF := hF.drop 2; refine pv hF hW (y_assign hF rfl) fun a hF => l_nil ?_; replace hF := hF.ks [0, 1, 2] rfl; refine t_n <| wp_ret <| ret1 Try.results42 hF (rv_t hF rfl) ?_
      exact ⟨by simp [kindOk]; simp_all, hW.below⟩
    · intro h3 hF; refine pv hF hW (y_pick hF rfl rfl) fun a hF => ?_; replace hF := hF.drop 2; refine pv hF hW (y_assign hF rfl) fun a hF => l_nil ?_; replace hF := hF.ks [0, 1, 2] rfl; refine t_n <| wp_ret <| ret1 Try.results42 hF (rv_t hF rfl) ?_
      exact ⟨by simp [kindOk]; simp_all, hW.below⟩
  · intro h2 hF; refine pv hF hW (y_move hF rfl) fun a hF => pk hF (wn hF rfl rfl rfl) fun a hF => pk hF (wn hF rfl rfl rfl) fun a hF => pk hF (wn hF rfl rfl rfl) fun a hF => pv hF hW (y_pick hF rfl rfl) fun a hF => ?_; replace hF := hF.drop 2; refine pv hF hW (y_assign hF rfl) fun a hF => l_nil ?_; replace hF := hF.ks [0, 1, 2] rfl; refine t_n <| wp_ret <| ret1 Try.results42 hF (rv_t hF rfl) ?_
    exact ⟨by simp [kindOk]; simp_all, hW.below⟩
theorem ck4_any {c : Chn} {b6 : Nat} {T6 : TypeId} (hB : Blk w b1 T1 [.slice x.pa x.parts.length x.pc, .slice x.ha x.chans.length x.hc, .slice x.sa x.slots.length x.sc]) (h6 : Blk w b6 T6 [.func (.func 40) #[] #[.pointer (some ⟨b1, 0, none⟩)]]) :
    Calls Try.prog 43 #[.agg c.cells.toArray, .pointer (some ⟨b6, 0, none⟩)] w fun e w' => e = .returned (.bool (!chnOk x.parts.length c)) ∧ Below w.heap.size w w' := by
  change Calls _ _ #[.agg #[.int .i64 c.kind, .int .i64 c.from_, .int .i64 c.to_], _] _ _
  refine enter Try.func43 rfl Try.ntmps43 rfl fun a hF => ?_
  have hW := Wd.start w NoB
  refine c_sr ?_; refine pe (e_box hF hW rfl rfl rfl rfl ?_); intro b1 a wc hF hW; refine pv hF hW (y_assign hF rfl) fun a hF => l_nil <| t_n <| c_sr <| pv hF hW (y_loadB hF rfl (h6) rfl Try.underlying57 rfl) fun a hF => pv hF hW (y_fieldOwn hF rfl fa_52_1) fun a hF => pv hF hW (y_loadOwn hF rfl 0 rfl rfl Try.underlying3 rfl) fun a hF => ?_; refine pe (e_call hF rfl rfl en_40 (by rfl) rfl rfl (ck2_any (hB.kept hW.below)) ?_); rintro e w1 ⟨rfl, hb⟩; replace hW := hW.kept hb; clear hb; refine ⟨_, rfl, fun a hF => ?_⟩; refine Fr.splitB hF ?_ ?_
  · intro h2 hF; refine pv hF hW (y_not hF rfl) fun a hF => ?_; replace hF := hF.ff; refine pv hF hW (y_move hF rfl) fun a hF => ?_; replace hF := hF.ff; refine pvg hF hW (y_loadB hF rfl (h6) rfl Try.underlying57 rfl) (ws hF rfl rfl) fun a hF => pvg hF hW (y_fieldOwn hF rfl fa_52_2) (ws hF rfl rfl) fun a hF => pvg hF hW (y_loadOwn hF rfl 0 rfl rfl Try.underlying3 rfl) (ws hF rfl rfl) fun a hF => ?_; refine pe (e_call hF rfl rfl en_40 (by rfl) rfl rfl (ck2_any (hB.kept hW.below)) ?_) (ws hF rfl rfl); rintro e w1 ⟨rfl, hb⟩; replace hW := hW.kept hb; clear hb; refine ⟨_, rfl, fun a hF => ?_⟩; refine Fr.splitB hF ?_ ?_
    · intro h3 hF; refine pvg hF hW (y_not hF rfl) (ws hF rfl rfl) fun a hF => ?_; replace hF := hF.ff; refine pv hF hW (y_pick hF rfl rfl) fun a hF => ?_; replace hF := hF.ff; refine pv hF hW (y_move hF rfl) fun a hF => ?_; replace hF := hF.ff; refine pvg hF hW (y_fieldOwn hF rfl fa_52_1) (ws hF rfl rfl) fun a hF => pvg hF hW (y_loadOwn hF rfl 0 rfl rfl Try.underlying3 rfl) (ws hF rfl rfl) fun a hF => pvg hF hW (y_fieldOwn hF rfl fa_52_2) (ws hF rfl rfl) fun a hF => pvg hF hW (y_loadOwn hF rfl 0 rfl rfl Try.underlying3 rfl) (ws hF rfl rfl) fun a hF => pvg hF hW (y_eql hF rfl rfl) (ws hF rfl rfl) fun a hF => ?_; refine Fr.splitD hF ?_ ?_
      · intro h4 hF; refine pv hF hW (y_pick hF rfl rfl) fun a hF => ?_; replace hF := hF.drop 3; refine pv hF hW (y_assign hF rfl) fun a hF => l_nil ?_; replace hF := hF.ks [0, 1, 2, 3] rfl; refine t_n <| wp_ret <| ret1 Try.results43 hF (rv_t hF rfl) ?_
        exact ⟨by simp [chnOk, *], hW.below⟩
      · intro h4 hF; refine pv hF hW (y_pick hF rfl rfl) fun a hF => ?_; replace hF := hF.drop 3; refine pv hF hW (y_assign hF rfl) fun a hF => l_nil ?_; replace hF := hF.ks [0, 1, 2, 3] rfl; refine t_n <| wp_ret <| ret1 Try.results43 hF (rv_t hF rfl) ?_
        exact ⟨by simp [chnOk, *], hW.below⟩
    · intro h3 hF; refine pvg hF hW (y_not hF rfl) (ws hF rfl rfl) fun a hF => ?_; replace hF := hF.tt; refine pv hF hW (y_pick hF rfl rfl) fun a hF => ?_; replace hF := hF.tt; refine pv hF hW (y_move hF rfl) fun a hF => ?_; replace hF := hF.tt; refine pk hF (wn hF rfl rfl rfl) fun a hF => pk hF (wn hF rfl rfl rfl) fun a hF => pk hF (wn hF rfl rfl rfl) fun a hF => pk hF (wn hF rfl rfl rfl) fun a hF => pk hF (wn hF rfl rfl rfl) fun a hF => pv hF hW (y_pick hF rfl rfl) fun a hF => ?_; replace hF := hF.drop 3; refine pv hF hW (y_assign hF rfl) fun a hF => l_nil ?_; replace hF := hF.ks [0, 1, 2, 3] rfl; refine t_n <| wp_ret <| ret1 Try.results43 hF (rv_t hF rfl) ?_
      exact ⟨by simp [chnOk, *], hW.below⟩
  · intro h2 hF; refine pv hF hW (y_not hF rfl) fun a hF => ?_; replace hF := hF.tt; refine pv hF hW (y_move hF rfl) fun a hF => ?_; replace hF := hF.tt; refine pk hF (wn hF rfl rfl rfl) fun a hF => pk hF (wn hF rfl rfl rfl) fun a hF => pk hF (wn hF rfl rfl rfl) fun a hF => pk hF (wn hF rfl rfl rfl) fun a hF => pk hF (wn hF rfl rfl rfl) fun a hF => pv hF hW (y_pick hF rfl rfl) fun a hF => pv hF hW (y_move hF rfl) fun a hF => pk hF (wn hF rfl rfl rfl) fun a hF => pk hF (wn hF rfl rfl rfl) fun a hF => pk hF (wn hF rfl rfl rfl) fun a hF => pk hF (wn hF rfl rfl rfl) fun a hF => pk hF (wn hF rfl rfl rfl) fun a hF => pv hF hW (y_pick hF rfl rfl) fun a hF => ?_; replace hF := hF.drop 3; refine pv hF hW (y_assign hF rfl) fun a hF => l_nil ?_; replace hF := hF.ks [0, 1, 2, 3] rfl; refine t_n <| wp_ret <| ret1 Try.results43 hF (rv_t hF rfl) ?_
    exact ⟨by simp [chnOk, *], hW.below⟩
theorem ck5_any {c : Slt} {b6 : Nat} {T6 : TypeId} (hB : Blk w b1 T1 [.slice x.pa x.parts.length x.pc, .slice x.ha x.chans.length x.hc, .slice x.sa x.slots.length x.sc]) (h6 : Blk w b6 T6 [.func (.func 40) #[] #[.pointer (some ⟨b1, 0, none⟩)]]) :
    Calls Try.prog 45 #[.agg c.cells.toArray, .pointer (some ⟨b6, 0, none⟩)] w fun e w' => e = .returned (.bool (!sltOk x.parts.length c)) ∧ Below w.heap.size w w' := by
  change Calls _ _ #[.agg #[.int .i64 c.part, .int .i64 c.ticks], _] _ _
  refine enter Try.func45 rfl Try.ntmps45 rfl fun a hF => ?_
  have hW := Wd.start w NoB
  refine c_sr ?_; refine pe (e_box hF hW rfl rfl rfl rfl ?_); intro b1 a wc hF hW; refine pv hF hW (y_assign hF rfl) fun a hF => l_nil <| t_n <| c_sr <| pv hF hW (y_loadB hF rfl (h6) rfl Try.underlying57 rfl) fun a hF => pv hF hW (y_fieldOwn hF rfl fa_54_0) fun a hF => pv hF hW (y_loadOwn hF rfl 0 rfl rfl Try.underlying3 rfl) fun a hF => ?_; refine pe (e_call hF rfl rfl en_40 (by rfl) rfl rfl (ck2_any (hB.kept hW.below)) ?_); rintro e w1 ⟨rfl, hb⟩; replace hW := hW.kept hb; clear hb; refine ⟨_, rfl, fun a hF => ?_⟩; refine Fr.splitB hF ?_ ?_
  · intro h2 hF; refine pv hF hW (y_not hF rfl) fun a hF => ?_; replace hF := hF.ff; refine pv hF hW (y_move hF rfl) fun a hF => ?_; replace hF := hF.ff; refine pvg hF hW (y_fieldOwn hF rfl fa_54_1) (ws hF rfl rfl) fun a hF => pvg hF hW (y_loadOwn hF rfl 0 rfl rfl Try.underlying3 rfl) (ws hF rfl rfl) fun a hF => pvg hF hW (y_lss hF rfl rfl) (ws hF rfl rfl) fun a hF => ?_; refine Fr.splitD hF ?_ ?_
    · intro h3 hF; refine pv hF hW (y_pick hF rfl rfl) fun a hF => pv hF hW (y_move hF rfl) fun a hF => pk hF (wn hF rfl rfl rfl) fun a hF => pk hF (wn hF rfl rfl rfl) fun a hF => pk hF (wn hF rfl rfl rfl) fun a hF => pv hF hW (y_pick hF rfl rfl) fun a hF => ?_; replace hF := hF.drop 3; refine pv hF hW (y_assign hF rfl) fun a hF => l_nil ?_; replace hF := hF.ks [0, 1, 2, 3] rfl; refine t_n <| wp_ret <| ret1 Try.results45 hF (rv_t hF rfl) ?_
      exact ⟨by first | (simp [sltOk, *]; done) | (simp [sltOk, *]; omega), hW.below⟩
    · intro h3 hF; refine pv hF hW (y_pick hF rfl rfl) fun a hF => pv hF hW (y_move hF rfl) fun a hF => pvg hF hW (y_fieldOwn hF rfl fa_54_1) (ws hF rfl rfl) fun a hF => pvg hF hW (y_loadOwn hF rfl 0 rfl rfl Try.underlying3 rfl) (ws hF rfl rfl) fun a hF => pvg hF hW (y_gtr hF rfl rfl) (ws hF rfl rfl) fun a hF => ?_; refine Fr.splitD hF ?_ ?_
      · intro h4 hF; refine pv hF hW (y_pick hF rfl rfl) fun a hF => ?_; replace hF := hF.drop 3; refine pv hF hW (y_assign hF rfl) fun a hF => l_nil ?_; replace hF := hF.ks [0, 1, 2, 3] rfl; refine t_n <| wp_ret <| ret1 Try.results45 hF (rv_t hF rfl) ?_
        exact ⟨by first | (simp [sltOk, *]; done) | (simp [sltOk, *]; omega), hW.below⟩
      · intro h4 hF; refine pv hF hW (y_pick hF rfl rfl) fun a hF => ?_; replace hF := hF.drop 3; refine pv hF hW (y_assign hF rfl) fun a hF => l_nil ?_; replace hF := hF.ks [0, 1, 2, 3] rfl; refine t_n <| wp_ret <| ret1 Try.results45 hF (rv_t hF rfl) ?_
        exact ⟨by first | (simp [sltOk, *]; done) | (simp [sltOk, *]; omega), hW.below⟩
  · intro h2 hF; refine pv hF hW (y_not hF rfl) fun a hF => ?_; replace hF := hF.tt; refine pv hF hW (y_move hF rfl) fun a hF => ?_; replace hF := hF.tt; refine pk hF (wn hF rfl rfl rfl) fun a hF => pk hF (wn hF rfl rfl rfl) fun a hF => pk hF (wn hF rfl rfl rfl) fun a hF => pv hF hW (y_pick hF rfl rfl) fun a hF => pv hF hW (y_move hF rfl) fun a hF => pk hF (wn hF rfl rfl rfl) fun a hF => pk hF (wn hF rfl rfl rfl) fun a hF => pk hF (wn hF rfl rfl rfl) fun a hF => pv hF hW (y_pick hF rfl rfl) fun a hF => ?_; replace hF := hF.drop 3; refine pv hF hW (y_assign hF rfl) fun a hF => l_nil ?_; replace hF := hF.ks [0, 1, 2, 3] rfl; refine t_n <| wp_ret <| ret1 Try.results45 hF (rv_t hF rfl) ?_
    exact ⟨by first | (simp [sltOk, *]; done) | (simp [sltOk, *]; omega), hW.below⟩
theorem ck6_any {b7 p m : Nat} {T7 : TypeId} (hx : x.At w) (hB : Blk w b1 T1 [.slice x.pa x.parts.length x.pc, .slice x.ha x.chans.length x.hc, .slice x.sa x.slots.length x.sc]) (h7 : Blk w b7 T7 [.int .i64 p]) :
    Calls Try.prog 49 #[.int .i64 m, .pointer (some ⟨b1, 0, none⟩), .pointer (some ⟨b7, 0, none⟩)] w fun e w' => e = .returned (.bool (badPut x.chans p m)) ∧ Below w.heap.size w w' := by
  refine enter Try.func49 rfl Try.ntmps49 rfl fun a hF => ?_
  have hW := Wd.start w NoB
  refine c_sr <| pv hF hW (y_assign hF rfl) fun a hF => l_nil <| t_n <| c_sd mixed_ok hW (hW) ?_
  clear hW; intro wc hW hS
  refine dv 0 rfl hF hS (y_move hF rfl) fun a hF => dv 1 rfl hF hS (y_fieldOwn hF rfl fa_26_1) fun a hF => dv 2 rfl hF hS (y_loadB hF rfl (hB) rfl Try.underlying23 rfl) fun a hF => dv 3 rfl hF hS (y_len hF rfl Try.underlying23) fun a hF => dv 4 rfl hF hS (y_geq hF rfl rfl) fun a hF => ?_; refine Fr.splitD hF ?_ ?_
  · intro h1 hF; refine dv 5 rfl hF hS (y_move hF rfl) fun a hF => dk 6 rfl hF (wn hF rfl rfl rfl) hS fun a hF => dk 7 rfl hF (wn hF rfl rfl rfl) hS fun a hF => dk 8 rfl hF (wn hF rfl rfl rfl) hS fun a hF => dk 9 rfl hF (wn hF rfl rfl rfl) hS fun a hF => dk 10 rfl hF (wn hF rfl rfl rfl) hS fun a hF => dk 11 rfl hF (wn hF rfl rfl rfl) hS fun a hF => dk 12 rfl hF (wn hF rfl rfl rfl) hS fun a hF => dk 13 rfl hF (wn hF rfl rfl rfl) hS fun a hF => dv 14 rfl hF hS (y_pick hF rfl rfl) fun a hF => ?_; replace hF := hF.drop 4; refine dv 15 rfl hF hS (y_assign hF rfl) fun a hF => ?_; clear hS; refine d_nil (by kernel_rfl) ?_; replace hF := hF.ks [0, 1, 2, 4] rfl; refine t_n <| wp_ret <| ret1 Try.results49 hF (rv_t hF rfl) ?_
    exact ⟨by unfold badPut; rw [Int.toNat_natCast]; first | (rw [decide_eq_true (by omega)]; rfl) | (rw [decide_eq_false (by omega)]; simp_all), hW.below⟩
  · intro h1 hF; refine dv 5 rfl hF hS (y_move hF rfl) fun a hF => dvg 6 rfl hF hS (y_fieldOwn hF rfl fa_26_1) (ws hF rfl rfl) fun a hF => dvg 7 rfl hF hS (y_loadB hF rfl (hB) rfl Try.underlying23 rfl) (ws hF rfl rfl) fun a hF => dvg 8 rfl hF hS (y_move hF rfl) (ws hF rfl rfl) fun a hF => dvg 9 rfl hF hS (y_indexS hF rfl rfl (by first | omega | decide) Try.underlying23 sz_52 (fun w h => (hx.chansR).wd h)) (ws hF rfl rfl) fun a hF => dvg 10 rfl hF hS (y_fieldRow hF rfl fa_52_1) (ws hF rfl rfl) fun a hF => dvg 11 rfl hF hS (y_loadRow hF rfl (fun w h => (hx.chansR).wd h) (by first | omega | decide) rfl Try.underlying3 rfl) (ws hF rfl rfl) fun a hF => dvg 12 rfl hF hS (y_loadB hF rfl (h7) rfl Try.underlying3 rfl) (ws hF rfl rfl) fun a hF => dvg 13 rfl hF hS (y_neq hF rfl rfl) (ws hF rfl rfl) fun a hF => ?_; refine Fr.splitD hF ?_ ?_
    · intro h2 hF; refine dv 14 rfl hF hS (y_pick hF rfl rfl) fun a hF => ?_; replace hF := hF.drop 4; refine dv 15 rfl hF hS (y_assign hF rfl) fun a hF => ?_; clear hS; refine d_nil (by kernel_rfl) ?_; replace hF := hF.ks [0, 1, 2, 4] rfl; refine t_n <| wp_ret <| ret1 Try.results49 hF (rv_t hF rfl) ?_
      exact ⟨by unfold badPut; rw [Int.toNat_natCast]; first | (rw [decide_eq_true (by omega)]; rfl) | (rw [decide_eq_false (by omega)]; simp_all), hW.below⟩
    · intro h2 hF; refine dv 14 rfl hF hS (y_pick hF rfl rfl) fun a hF => ?_; replace hF := hF.drop 4; refine dv 15 rfl hF hS (y_assign hF rfl) fun a hF => ?_; clear hS; refine d_nil (by kernel_rfl) ?_; replace hF := hF.ks [0, 1, 2, 4] rfl; refine t_n <| wp_ret <| ret1 Try.results49 hF (rv_t hF rfl) ?_
      exact ⟨by unfold badPut; rw [Int.toNat_natCast]; first | (rw [decide_eq_true (by omega)]; rfl) | (rw [decide_eq_false (by omega)]; simp_all), hW.below⟩
theorem ck7_any {b7 p m : Nat} {T7 : TypeId} (hx : x.At w) (hB : Blk w b1 T1 [.slice x.pa x.parts.length x.pc, .slice x.ha x.chans.length x.hc, .slice x.sa x.slots.length x.sc]) (h7 : Blk w b7 T7 [.int .i64 p]) :
    Calls Try.prog 50 #[.int .i64 m, .pointer (some ⟨b1, 0, none⟩), .pointer (some ⟨b7, 0, none⟩)] w fun e w' => e = .returned (.bool (badGet x.chans p m)) ∧ Below w.heap.size w w' := by
  refine enter Try.func50 rfl Try.ntmps50 rfl fun a hF => ?_
  have hW := Wd.start w NoB
  refine c_sr <| pv hF hW (y_assign hF rfl) fun a hF => l_nil <| t_n <| c_sd mixed_ok hW (hW) ?_
  clear hW; intro wc hW hS
  refine dv 0 rfl hF hS (y_move hF rfl) fun a hF => dv 1 rfl hF hS (y_fieldOwn hF rfl fa_26_1) fun a hF => dv 2 rfl hF hS (y_loadB hF rfl (hB) rfl Try.underlying23 rfl) fun a hF => dv 3 rfl hF hS (y_len hF rfl Try.underlying23) fun a hF => dv 4 rfl hF hS (y_geq hF rfl rfl) fun a hF => ?_; refine Fr.splitD hF ?_ ?_
  · intro h1 hF; refine dv 5 rfl hF hS (y_move hF rfl) fun a hF => dk 6 rfl hF (wn hF rfl rfl rfl) hS fun a hF => dk 7 rfl hF (wn hF rfl rfl rfl) hS fun a hF => dk 8 rfl hF (wn hF rfl rfl rfl) hS fun a hF => dk 9 rfl hF (wn hF rfl rfl rfl) hS fun a hF => dk 10 rfl hF (wn hF rfl rfl rfl) hS fun a hF => dk 11 rfl hF (wn hF rfl rfl rfl) hS fun a hF => dk 12 rfl hF (wn hF rfl rfl rfl) hS fun a hF => dk 13 rfl hF (wn hF rfl rfl rfl) hS fun a hF => dv 14 rfl hF hS (y_pick hF rfl rfl) fun a hF => ?_; replace hF := hF.drop 4; refine dv 15 rfl hF hS (y_assign hF rfl) fun a hF => ?_; clear hS; refine d_nil (by kernel_rfl) ?_; replace hF := hF.ks [0, 1, 2, 4] rfl; refine t_n <| wp_ret <| ret1 Try.results50 hF (rv_t hF rfl) ?_
    exact ⟨by unfold badGet; rw [Int.toNat_natCast]; first | (rw [decide_eq_true (by omega)]; rfl) | (rw [decide_eq_false (by omega)]; simp_all), hW.below⟩
  · intro h1 hF; refine dv 5 rfl hF hS (y_move hF rfl) fun a hF => dvg 6 rfl hF hS (y_fieldOwn hF rfl fa_26_1) (ws hF rfl rfl) fun a hF => dvg 7 rfl hF hS (y_loadB hF rfl (hB) rfl Try.underlying23 rfl) (ws hF rfl rfl) fun a hF => dvg 8 rfl hF hS (y_move hF rfl) (ws hF rfl rfl) fun a hF => dvg 9 rfl hF hS (y_indexS hF rfl rfl (by first | omega | decide) Try.underlying23 sz_52 (fun w h => (hx.chansR).wd h)) (ws hF rfl rfl) fun a hF => dvg 10 rfl hF hS (y_fieldRow hF rfl fa_52_2) (ws hF rfl rfl) fun a hF => dvg 11 rfl hF hS (y_loadRow hF rfl (fun w h => (hx.chansR).wd h) (by first | omega | decide) rfl Try.underlying3 rfl) (ws hF rfl rfl) fun a hF => dvg 12 rfl hF hS (y_loadB hF rfl (h7) rfl Try.underlying3 rfl) (ws hF rfl rfl) fun a hF => dvg 13 rfl hF hS (y_neq hF rfl rfl) (ws hF rfl rfl) fun a hF => ?_; refine Fr.splitD hF ?_ ?_
    · intro h2 hF; refine dv 14 rfl hF hS (y_pick hF rfl rfl) fun a hF => ?_; replace hF := hF.drop 4; refine dv 15 rfl hF hS (y_assign hF rfl) fun a hF => ?_; clear hS; refine d_nil (by kernel_rfl) ?_; replace hF := hF.ks [0, 1, 2, 4] rfl; refine t_n <| wp_ret <| ret1 Try.results50 hF (rv_t hF rfl) ?_
      exact ⟨by unfold badGet; rw [Int.toNat_natCast]; first | (rw [decide_eq_true (by omega)]; rfl) | (rw [decide_eq_false (by omega)]; simp_all), hW.below⟩
    · intro h2 hF; refine dv 14 rfl hF hS (y_pick hF rfl rfl) fun a hF => ?_; replace hF := hF.drop 4; refine dv 15 rfl hF hS (y_assign hF rfl) fun a hF => ?_; clear hS; refine d_nil (by kernel_rfl) ?_; replace hF := hF.ks [0, 1, 2, 4] rfl; refine t_n <| wp_ret <| ret1 Try.results50 hF (rv_t hF rfl) ?_
      exact ⟨by unfold badGet; rw [Int.toNat_natCast]; first | (rw [decide_eq_true (by omega)]; rfl) | (rw [decide_eq_false (by omega)]; simp_all), hW.below⟩

theorem tells1 : Tells w x.parts.length (fun k => .agg (encP (x.parts.getD k P0)).toArray) 38 #[] (fun k => (fun q : PP => decide (12 < q.1.inp.length)) (x.parts.getD k P0)) := fun _ _ _ _ => ck1_any
theorem tells3 : Tells w x.chans.length (fun k => .agg (Chn.cells (x.chans.getD k C0)).toArray) 42 #[] (fun k => (fun c : Chn => !kindOk c.kind) (x.chans.getD k C0)) := fun _ _ _ _ => ck3_any
theorem tells4 {b6 : Nat} {T6 : TypeId} (hB : Blk w b1 T1 [.slice x.pa x.parts.length x.pc, .slice x.ha x.chans.length x.hc, .slice x.sa x.slots.length x.sc]) (h6 : Blk w b6 T6 [.func (.func 40) #[] #[.pointer (some ⟨b1, 0, none⟩)]]) :
    Tells w x.chans.length (fun k => .agg (Chn.cells (x.chans.getD k C0)).toArray) 43 #[.pointer (some ⟨b6, 0, none⟩)] (fun k => (fun c : Chn => !chnOk x.parts.length c) (x.chans.getD k C0)) := fun _ _ _ hb => ck4_any (hB.kept hb) (h6.kept hb)
theorem tells5 {b6 : Nat} {T6 : TypeId} (hB : Blk w b1 T1 [.slice x.pa x.parts.length x.pc, .slice x.ha x.chans.length x.hc, .slice x.sa x.slots.length x.sc]) (h6 : Blk w b6 T6 [.func (.func 40) #[] #[.pointer (some ⟨b1, 0, none⟩)]]) :
    Tells w x.slots.length (fun k => .agg (Slt.cells (x.slots.getD k S0)).toArray) 45 #[.pointer (some ⟨b6, 0, none⟩)] (fun k => (fun c : Slt => !sltOk x.parts.length c) (x.slots.getD k S0)) := fun _ _ _ hb => ck5_any (hB.kept hb) (h6.kept hb)
theorem tells6 {b7 p : Nat} {T7 : TypeId} {l : List Int} (hl : ∀ m, m ∈ l → 0 ≤ m) (hx : x.At w) (hB : Blk w b1 T1 [.slice x.pa x.parts.length x.pc, .slice x.ha x.chans.length x.hc, .slice x.sa x.slots.length x.sc]) (h7 : Blk w b7 T7 [.int .i64 p]) :
    Tells w l.length (fun k => .int .i64 (l.getD k 0)) 49 #[.pointer (some ⟨b1, 0, none⟩), .pointer (some ⟨b7, 0, none⟩)] (fun k => badPut x.chans p (l.getD k 0)) := fun k w1 hk hb => by
  obtain ⟨m, hm⟩ : ∃ m : Nat, l.getD k 0 = m := ⟨_, (Int.toNat_of_nonneg (hl _ (mem_getD 0 hk))).symm⟩
  dsimp only
  rw [hm]
  exact ck6_any (hx.below hb) (hB.kept hb) (h7.kept hb)
theorem tells7 {b7 p : Nat} {T7 : TypeId} {l : List Int} (hl : ∀ m, m ∈ l → 0 ≤ m) (hx : x.At w) (hB : Blk w b1 T1 [.slice x.pa x.parts.length x.pc, .slice x.ha x.chans.length x.hc, .slice x.sa x.slots.length x.sc]) (h7 : Blk w b7 T7 [.int .i64 p]) :
    Tells w l.length (fun k => .int .i64 (l.getD k 0)) 50 #[.pointer (some ⟨b1, 0, none⟩), .pointer (some ⟨b7, 0, none⟩)] (fun k => badGet x.chans p (l.getD k 0)) := fun k w1 hk hb => by
  obtain ⟨m, hm⟩ : ∃ m : Nat, l.getD k 0 = m := ⟨_, (Int.toNat_of_nonneg (hl _ (mem_getD 0 hk))).symm⟩
  dsimp only
  rw [hm]
  exact ck7_any (hx.below hb) (hB.kept hb) (h7.kept hb)
end
end
end Go.Proofs.Ytnpflhaggfabnaa
