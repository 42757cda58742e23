/- slices.IndexFunc, slices.ContainsFunc and conf.some at the four types at hand: is it so of one of them? -/
import Derived.Test.YtebklpbbglojmaaEngS
import Derived.Test.YtebklpbbglojmaaTys
namespace Go.Proofs.Ytebklpbbglojmaa
set_option linter.unusedVariables false
set_option linter.unusedSimpArgs false
open Go.ChangeShapes Go.WideShapes Go.ChangeAt Go.RowKit

set_option maxRecDepth 100000

theorem any_true {n k : Nat} {P : Nat → Bool} (hk : k < n) (h : P k = true) : (List.range n).any P = true := List.any_eq_true.2 ⟨k, List.mem_range.2 hk, h⟩
theorem any_false {n : Nat} {P : Nat → Bool} (h : ∀ i, i < n → P i = false) : (List.range n).any P = false := by
  cases ha : (List.range n).any P
  · rfl
  · obtain ⟨k, hk, hp⟩ := List.any_eq_true.1 ha
    rw [h k (List.mem_range.1 hk)] at hp; cases hp
/-- a function that tells of each row's element whether it is so -/
def Tells (w : World) (n : Nat) (el : Nat → Value) (g : FuncId) (cap : Array Value) (P : Nat → Bool) : Prop :=
  ∀ k w1, k < n → Below w.heap.size w w1 → Calls Try.prog g (#[el k] ++ cap) w1 fun e w' => e = .returned (.bool (P k)) ∧ Below w1.heap.size w1 w'
theorem Tells.on {w w1 : World} {n : Nat} {el : Nat → Value} {g : FuncId} {cap : Array Value} {P : Nat → Bool} (h : Tells w n el g cap P) (hb : Below w.heap.size w w1) : Tells w1 n el g cap P :=
  fun k _ hk hb2 => h k _ hk (Below.on hb hb2)


theorem idx_part {A : Option Addr} {n c : Nat} {f : Nat → List Value} {g : FuncId} {cap : Array Value} {P : Nat → Bool} {w : World} (hn : n ≤ maxLen) (hR : RF w A n 2 f) (hlen : ∀ k, (f k).length = 2)(hen : Enters Try.prog g) (hcall : Tells w n (fun k => .agg (f k).toArray) g cap P) :
    Calls Try.prog 100 #[.slice A n c, .func (.func g) #[] cap] w fun e w' => ∃ r : Int, e = .returned (.int .i64 r) ∧ decide (0 ≤ r) = (List.range n).any P ∧ Below w.heap.size w w' := by
  unfold maxLen at hn
  refine enter Try.func100 rfl Try.ntmps100 rfl (fun a hF => ?_)
  have hW := Wd.start w NoB
  refine c_sr ?_
  refine pv hF hW (y_assign hF rfl) (fun a hF => ?_)
  refine l_nil ?_
  refine t_n ?_
  refine c_s ?_
  refine c_sr ?_
  refine pv hF hW (y_move hF rfl) (fun a hF => ?_)
  refine pv hF hW (y_len hF rfl Try.underlying64) (fun a hF => ?_)
  refine pv hF hW (y_move hF rfl) (fun a hF => ?_)
  refine l_nil ?_
  replace hF := (hF.k 0 rfl (hF.k 1 rfl (hF.k 4 rfl (hF.k 7 rfl (hF.k 8 rfl hF.nil)))))
  refine t_n ?_
  refine wp_block ?_
  refine c_loop (G := Nat) (fun k : Nat => [(8, .int .i64 (k : Int))]) (fun k : Nat => []) (fun k : Nat => k ≤ n ∧ ∀ i, i < k → P i = false) (fun k : Nat => n - k) 0 (Fr.cons hF (t := 0) rfl rfl (Fr.cons hF (t := 1) rfl rfl (Fr.cons hF (t := 7) rfl rfl (Fr.nil hF)))) (Fr.cons hF (t := 8) rfl (by first | rfl | (simp; done)) (Fr.nil hF)) (hW) ?_ ?_
  · exact ⟨by omega, fun i hi => by omega⟩
  clear hF hW
  try clear a
  intro k a wc hC hF hW
  obtain ⟨hk, hno⟩ := hC
  refine c_sr ?_
  refine pv hF hW (y_lss hF rfl rfl) (fun a hF => ?_)
  refine Fr.splitD hF ?_ ?_
  · intro h1 hF
    refine l_nil ?_
    refine t_n ?_
    refine c_s ?_
    refine c_t hF rfl ?_
    refine wp_skip ?_
    refine t_n ?_
    refine c_s ?_
    refine wp_block ?_
    refine c_sr ?_
    refine pv hF hW (y_move hF rfl) (fun a hF => ?_)
    refine pv hF hW (y_assign hF rfl) (fun a hF => ?_)
    refine l_nil ?_
    replace hF := (hF.k 0 rfl (hF.k 1 rfl (hF.k 5 rfl (hF.k 7 rfl (hF.k 8 rfl (hF.k 9 rfl hF.nil))))))
    refine t_n ?_
    refine c_sr ?_
    refine pv hF hW (y_move hF rfl) (fun a hF => ?_)
    refine pv hF hW (y_move hF rfl) (fun a hF => ?_)
    refine pv hF hW (y_move hF rfl) (fun a hF => ?_)
    refine pv hF hW (y_indexS hF rfl rfl (by first | omega | decide) Try.underlying64 sz_42 (fun w h => (hR).wd h)) (fun a hF => ?_)
    refine pv hF hW (y_loadRowW hF rfl (fun w h => (hR).wd h) (by first | omega | decide) Try.underlying42 rfl (by rw [hlen]; exact sz_42)) (fun a hF => ?_)
    refine pe (e_call hF rfl rfl hen (by rfl) rfl rfl (hcall k _ (by omega) hW.below) ?_)
    rintro e w1 ⟨rfl, hb⟩
    replace hW := hW.kept hb
    clear hb
    refine ⟨_, rfl, fun a hF => ?_⟩
    refine Fr.splitB hF ?_ ?_
    · intro h2 hF
      refine l_nil ?_
      replace hF := (hF.k 0 rfl (hF.k 1 rfl (hF.k 5 rfl (hF.k 7 rfl (hF.k 8 rfl (hF.k 9 rfl (hF.k 16 rfl hF.nil)))))))
      refine t_n ?_
      refine c_t hF rfl ?_
      refine c_sr ?_
      refine pv hF hW (y_move hF rfl) (fun a hF => ?_)
      refine pv hF hW (y_assign hF rfl) (fun a hF => ?_)
      refine l_nil ?_
      replace hF := (hF.k 0 rfl (hF.k 1 rfl (hF.k 4 rfl (hF.k 5 rfl (hF.k 7 rfl (hF.k 8 rfl (hF.k 9 rfl (hF.k 16 rfl hF.nil))))))))
      refine t_n ?_
      refine wp_ret ?_
      refine b_r ?_
      refine t_r ?_
      refine t_r ?_
      refine b_r ?_
      refine t_r ?_
      refine ret1 Try.results100 hF (rv_t hF rfl) ?_
      exact ⟨_, rfl, by rw [any_true (k := k) (by omega) (by assumption)]; exact decide_eq_true (by omega), hW.below⟩
    · intro h2 hF
      refine l_nil ?_
      replace hF := (hF.k 0 rfl (hF.k 1 rfl (hF.k 5 rfl (hF.k 7 rfl (hF.k 8 rfl (hF.k 9 rfl (hF.k 16 rfl hF.nil)))))))
      refine t_n ?_
      refine c_f hF rfl ?_
      refine wp_skip ?_
      refine b_n ?_
      refine t_n ?_
      refine c_r ?_
      refine pv hF hW (y_add hF rfl rfl (IntWalk.i64_in _ (by omega))) (fun a hF => ?_)
      replace hF := hF.drop 8
      refine pv hF hW (y_move hF rfl) (fun a hF => ?_)
      refine l_nil ?_
      replace hF := (hF.k 0 rfl (hF.k 1 rfl (hF.k 5 rfl (hF.k 7 rfl (hF.k 8 rfl (hF.k 9 rfl (hF.k 16 rfl hF.nil)))))))
      refine t_n ?_
      refine ⟨(k + 1), ?_, ?_, ?_, ?_⟩
      · exact ⟨by omega, fun i hi => by rcases Nat.lt_or_ge i k with h | h; exact hno i h; (have hik : i = k := by omega); rw [hik]; assumption⟩
      · first | omega | (dsimp only; omega)
      · exact Fr.app (Fr.cons hF (t := 8) rfl (by first | rfl | (simp; done) | omega) (Fr.nil hF)) (Fr.cons hF (t := 0) rfl rfl (Fr.cons hF (t := 1) rfl rfl (Fr.cons hF (t := 7) rfl rfl (Fr.nil hF))))
      · exact hW
  · intro h1 hF
    refine l_nil ?_
    refine t_n ?_
    refine c_s ?_
    refine c_f hF rfl ?_
    refine wp_exit ?_
    refine t_x ?_
    refine t_x ?_
    refine b_h ?_
    refine t_n ?_
    refine c_sr ?_
    refine pv hF hW (y_assign hF rfl) (fun a hF => ?_)
    refine l_nil ?_
    refine t_n ?_
    refine wp_ret ?_
    refine ret1 Try.results100 hF (rv_t hF rfl) ?_
    exact ⟨_, rfl, by rw [any_false fun i hi => hno i (by omega)]; rfl, hW.below⟩
theorem has_part {A : Option Addr} {n c : Nat} {f : Nat → List Value} {g : FuncId} {cap : Array Value} {P : Nat → Bool} {w : World} (hn : n ≤ maxLen) (hR : RF w A n 2 f) (hlen : ∀ k, (f k).length = 2)(hen : Enters Try.prog g) (hcall : Tells w n (fun k => .agg (f k).toArray) g cap P) :
    Calls Try.prog 88 #[.slice A n c, .func (.func g) #[] cap] w fun e w' => e = .returned (.bool ((List.range n).any P)) ∧ Below w.heap.size w w' := by
  refine enter Try.func88 rfl Try.ntmps88 rfl (fun a hF => ?_)
  have hW := Wd.start w NoB
  refine c_sr ?_
  refine pv hF hW (y_assign hF rfl) (fun a hF => ?_)
  refine l_nil ?_
  refine t_n ?_
  refine c_sr ?_
  refine pv hF hW (y_move hF rfl) (fun a hF => ?_)
  refine pv hF hW (y_move hF rfl) (fun a hF => ?_)
  refine pe (e_call hF rfl rfl en_100 (by rfl) rfl rfl (idx_part hn (hR.wd hW) hlen hen (hcall.on hW.below)) ?_)
  rintro e w1 ⟨r, rfl, hr, hb⟩
  replace hW := hW.kept hb
  clear hb
  refine ⟨_, rfl, fun a hF => ?_⟩
  refine pv hF hW (y_geq hF rfl rfl) (fun a hF => ?_)
  replace hF := hF.drop 4
  refine pv hF hW (y_assign hF rfl) (fun a hF => ?_)
  refine l_nil ?_
  replace hF := (hF.k 0 rfl (hF.k 1 rfl (hF.k 4 rfl hF.nil)))
  refine t_n ?_
  refine wp_ret ?_
  refine ret1 Try.results88 hF (rv_t hF rfl) ?_
  exact ⟨by rw [← hr], hW.below⟩
theorem some_part {A : Option Addr} {n c : Nat} {f : Nat → List Value} {g : FuncId} {cap : Array Value} {P : Nat → Bool} {w : World} (hn : n ≤ maxLen) (hR : RF w A n 2 f) (hlen : ∀ k, (f k).length = 2)(hen : Enters Try.prog g) (hcall : Tells w n (fun k => .agg (f k).toArray) g cap P) :
    Calls Try.prog 64 #[.slice A n c, .func (.func g) #[] cap] w fun e w' => e = .returned (.bool ((List.range n).any P)) ∧ Below w.heap.size w w' := by
  refine enter Try.func64 rfl Try.ntmps64 rfl (fun a hF => ?_)
  have hW := Wd.start w NoB
  refine c_sr ?_
  refine pv hF hW (y_assign hF rfl) (fun a hF => ?_)
  refine l_nil ?_
  refine t_n ?_
  refine c_sr ?_
  refine pv hF hW (y_move hF rfl) (fun a hF => ?_)
  refine pv hF hW (y_move hF rfl) (fun a hF => ?_)
  refine pe (e_call hF rfl rfl en_88 (by rfl) rfl rfl (has_part hn (hR.wd hW) hlen hen (hcall.on hW.below)) ?_)
  rintro e w1 ⟨rfl, hb⟩
  replace hW := hW.kept hb
  clear hb
  refine ⟨_, rfl, fun a hF => ?_⟩
  replace hF := hF.drop 4
  refine pv hF hW (y_assign hF rfl) (fun a hF => ?_)
  refine l_nil ?_
  replace hF := (hF.k 0 rfl (hF.k 1 rfl (hF.k 4 rfl hF.nil)))
  refine t_n ?_
  refine wp_ret ?_
  refine ret1 Try.results64 hF (rv_t hF rfl) ?_
  exact ⟨rfl, hW.below⟩
theorem idx_chan {A : Option Addr} {n c : Nat} {f : Nat → List Value} {g : FuncId} {cap : Array Value} {P : Nat → Bool} {w : World} (hn : n ≤ maxLen) (hR : RF w A n 3 f) (hlen : ∀ k, (f k).length = 3)(hen : Enters Try.prog g) (hcall : Tells w n (fun k => .agg (f k).toArray) g cap P) :
    Calls Try.prog 101 #[.slice A n c, .func (.func g) #[] cap] w fun e w' => ∃ r : Int, e = .returned (.int .i64 r) ∧ decide (0 ≤ r) = (List.range n).any P ∧ Below w.heap.size w w' := by
  unfold maxLen at hn
  refine enter Try.func101 rfl Try.ntmps101 rfl (fun a hF => ?_)
  have hW := Wd.start w NoB
  refine c_sr ?_
  refine pv hF hW (y_assign hF rfl) (fun a hF => ?_)
  refine l_nil ?_
  refine t_n ?_
  refine c_s ?_
  refine c_sr ?_
  refine pv hF hW (y_move hF rfl) (fun a hF => ?_)
  refine pv hF hW (y_len hF rfl Try.underlying65) (fun a hF => ?_)
  refine pv hF hW (y_move hF rfl) (fun a hF => ?_)
  refine l_nil ?_
  replace hF := (hF.k 0 rfl (hF.k 1 rfl (hF.k 4 rfl (hF.k 7 rfl (hF.k 8 rfl hF.nil)))))
  refine t_n ?_
  refine wp_block ?_
  refine c_loop (G := Nat) (fun k : Nat => [(8, .int .i64 (k : Int))]) (fun k : Nat => []) (fun k : Nat => k ≤ n ∧ ∀ i, i < k → P i = false) (fun k : Nat => n - k) 0 (Fr.cons hF (t := 0) rfl rfl (Fr.cons hF (t := 1) rfl rfl (Fr.cons hF (t := 7) rfl rfl (Fr.nil hF)))) (Fr.cons hF (t := 8) rfl (by first | rfl | (simp; done)) (Fr.nil hF)) (hW) ?_ ?_
  · exact ⟨by omega, fun i hi => by omega⟩
  clear hF hW
  try clear a
  intro k a wc hC hF hW
  obtain ⟨hk, hno⟩ := hC
  refine c_sr ?_
  refine pv hF hW (y_lss hF rfl rfl) (fun a hF => ?_)
  refine Fr.splitD hF ?_ ?_
  · intro h1 hF
    refine l_nil ?_
    refine t_n ?_
    refine c_s ?_
    refine c_t hF rfl ?_
    refine wp_skip ?_
    refine t_n ?_
    refine c_s ?_
    refine wp_block ?_
    refine c_sr ?_
    refine pv hF hW (y_move hF rfl) (fun a hF => ?_)
    refine pv hF hW (y_assign hF rfl) (fun a hF => ?_)
    refine l_nil ?_
    replace hF := (hF.k 0 rfl (hF.k 1 rfl (hF.k 5 rfl (hF.k 7 rfl (hF.k 8 rfl (hF.k 9 rfl hF.nil))))))
    refine t_n ?_
    refine c_sr ?_
    refine pv hF hW (y_move hF rfl) (fun a hF => ?_)
    refine pv hF hW (y_move hF rfl) (fun a hF => ?_)
    refine pv hF hW (y_move hF rfl) (fun a hF => ?_)
    refine pv hF hW (y_indexS hF rfl rfl (by first | omega | decide) Try.underlying65 sz_105 (fun w h => (hR).wd h)) (fun a hF => ?_)
    refine pv hF hW (y_loadRowW hF rfl (fun w h => (hR).wd h) (by first | omega | decide) Try.underlying105 rfl (by rw [hlen]; exact sz_105)) (fun a hF => ?_)
    refine pe (e_call hF rfl rfl hen (by rfl) rfl rfl (hcall k _ (by omega) hW.below) ?_)
    rintro e w1 ⟨rfl, hb⟩
    replace hW := hW.kept hb
    clear hb
    refine ⟨_, rfl, fun a hF => ?_⟩
    refine Fr.splitB hF ?_ ?_
    · intro h2 hF
      refine l_nil ?_
      replace hF := (hF.k 0 rfl (hF.k 1 rfl (hF.k 5 rfl (hF.k 7 rfl (hF.k 8 rfl (hF.k 9 rfl (hF.k 16 rfl hF.nil)))))))
      refine t_n ?_
      refine c_t hF rfl ?_
      refine c_sr ?_
      refine pv hF hW (y_move hF rfl) (fun a hF => ?_)
      refine pv hF hW (y_assign hF rfl) (fun a hF => ?_)
      refine l_nil ?_
      replace hF := (hF.k 0 rfl (hF.k 1 rfl (hF.k 4 rfl (hF.k 5 rfl (hF.k 7 rfl (hF.k 8 rfl (hF.k 9 rfl (hF.k 16 rfl hF.nil))))))))
      refine t_n ?_
      refine wp_ret ?_
      refine b_r ?_
      refine t_r ?_
      refine t_r ?_
      refine b_r ?_
      refine t_r ?_
      refine ret1 Try.results101 hF (rv_t hF rfl) ?_
      exact ⟨_, rfl, by rw [any_true (k := k) (by omega) (by assumption)]; exact decide_eq_true (by omega), hW.below⟩
    · intro h2 hF
      refine l_nil ?_
      replace hF := (hF.k 0 rfl (hF.k 1 rfl (hF.k 5 rfl (hF.k 7 rfl (hF.k 8 rfl (hF.k 9 rfl (hF.k 16 rfl hF.nil)))))))
      refine t_n ?_
      refine c_f hF rfl ?_
      refine wp_skip ?_
      refine b_n ?_
      refine t_n ?_
      refine c_r ?_
      refine pv hF hW (y_add hF rfl rfl (IntWalk.i64_in _ (by omega))) (fun a hF => ?_)
      replace hF := hF.drop 8
      refine pv hF hW (y_move hF rfl) (fun a hF => ?_)
      refine l_nil ?_
      replace hF := (hF.k 0 rfl (hF.k 1 rfl (hF.k 5 rfl (hF.k 7 rfl (hF.k 8 rfl (hF.k 9 rfl (hF.k 16 rfl hF.nil)))))))
      refine t_n ?_
      refine ⟨(k + 1), ?_, ?_, ?_, ?_⟩
      · exact ⟨by omega, fun i hi => by rcases Nat.lt_or_ge i k with h | h; exact hno i h; (have hik : i = k := by omega); rw [hik]; assumption⟩
      · first | omega | (dsimp only; omega)
      · exact Fr.app (Fr.cons hF (t := 8) rfl (by first | rfl | (simp; done) | omega) (Fr.nil hF)) (Fr.cons hF (t := 0) rfl rfl (Fr.cons hF (t := 1) rfl rfl (Fr.cons hF (t := 7) rfl rfl (Fr.nil hF))))
      · exact hW
  · intro h1 hF
    refine l_nil ?_
    refine t_n ?_
    refine c_s ?_
    refine c_f hF rfl ?_
    refine wp_exit ?_
    refine t_x ?_
    refine t_x ?_
    refine b_h ?_
    refine t_n ?_
    refine c_sr ?_
    refine pv hF hW (y_assign hF rfl) (fun a hF => ?_)
    refine l_nil ?_
    refine t_n ?_
    refine wp_ret ?_
    refine ret1 Try.results101 hF (rv_t hF rfl) ?_
    exact ⟨_, rfl, by rw [any_false fun i hi => hno i (by omega)]; rfl, hW.below⟩
theorem has_chan {A : Option Addr} {n c : Nat} {f : Nat → List Value} {g : FuncId} {cap : Array Value} {P : Nat → Bool} {w : World} (hn : n ≤ maxLen) (hR : RF w A n 3 f) (hlen : ∀ k, (f k).length = 3)(hen : Enters Try.prog g) (hcall : Tells w n (fun k => .agg (f k).toArray) g cap P) :
    Calls Try.prog 89 #[.slice A n c, .func (.func g) #[] cap] w fun e w' => e = .returned (.bool ((List.range n).any P)) ∧ Below w.heap.size w w' := by
  refine enter Try.func89 rfl Try.ntmps89 rfl (fun a hF => ?_)
  have hW := Wd.start w NoB
  refine c_sr ?_
  refine pv hF hW (y_assign hF rfl) (fun a hF => ?_)
  refine l_nil ?_
  refine t_n ?_
  refine c_sr ?_
  refine pv hF hW (y_move hF rfl) (fun a hF => ?_)
  refine pv hF hW (y_move hF rfl) (fun a hF => ?_)
  refine pe (e_call hF rfl rfl en_101 (by rfl) rfl rfl (idx_chan hn (hR.wd hW) hlen hen (hcall.on hW.below)) ?_)
  rintro e w1 ⟨r, rfl, hr, hb⟩
  replace hW := hW.kept hb
  clear hb
  refine ⟨_, rfl, fun a hF => ?_⟩
  refine pv hF hW (y_geq hF rfl rfl) (fun a hF => ?_)
  replace hF := hF.drop 4
  refine pv hF hW (y_assign hF rfl) (fun a hF => ?_)
  refine l_nil ?_
  replace hF := (hF.k 0 rfl (hF.k 1 rfl (hF.k 4 rfl hF.nil)))
  refine t_n ?_
  refine wp_ret ?_
  refine ret1 Try.results89 hF (rv_t hF rfl) ?_
  exact ⟨by rw [← hr], hW.below⟩
theorem some_chan {A : Option Addr} {n c : Nat} {f : Nat → List Value} {g : FuncId} {cap : Array Value} {P : Nat → Bool} {w : World} (hn : n ≤ maxLen) (hR : RF w A n 3 f) (hlen : ∀ k, (f k).length = 3)(hen : Enters Try.prog g) (hcall : Tells w n (fun k => .agg (f k).toArray) g cap P) :
    Calls Try.prog 67 #[.slice A n c, .func (.func g) #[] cap] w fun e w' => e = .returned (.bool ((List.range n).any P)) ∧ Below w.heap.size w w' := by
  refine enter Try.func67 rfl Try.ntmps67 rfl (fun a hF => ?_)
  have hW := Wd.start w NoB
  refine c_sr ?_
  refine pv hF hW (y_assign hF rfl) (fun a hF => ?_)
  refine l_nil ?_
  refine t_n ?_
  refine c_sr ?_
  refine pv hF hW (y_move hF rfl) (fun a hF => ?_)
  refine pv hF hW (y_move hF rfl) (fun a hF => ?_)
  refine pe (e_call hF rfl rfl en_89 (by rfl) rfl rfl (has_chan hn (hR.wd hW) hlen hen (hcall.on hW.below)) ?_)
  rintro e w1 ⟨rfl, hb⟩
  replace hW := hW.kept hb
  clear hb
  refine ⟨_, rfl, fun a hF => ?_⟩
  replace hF := hF.drop 4
  refine pv hF hW (y_assign hF rfl) (fun a hF => ?_)
  refine l_nil ?_
  replace hF := (hF.k 0 rfl (hF.k 1 rfl (hF.k 4 rfl hF.nil)))
  refine t_n ?_
  refine wp_ret ?_
  refine ret1 Try.results67 hF (rv_t hF rfl) ?_
  exact ⟨rfl, hW.below⟩
theorem idx_slot {A : Option Addr} {n c : Nat} {f : Nat → List Value} {g : FuncId} {cap : Array Value} {P : Nat → Bool} {w : World} (hn : n ≤ maxLen) (hR : RF w A n 2 f) (hlen : ∀ k, (f k).length = 2)(hen : Enters Try.prog g) (hcall : Tells w n (fun k => .agg (f k).toArray) g cap P) :
    Calls Try.prog 102 #[.slice A n c, .func (.func g) #[] cap] w fun e w' => ∃ r : Int, e = .returned (.int .i64 r) ∧ decide (0 ≤ r) = (List.range n).any P ∧ Below w.heap.size w w' := by
  unfold maxLen at hn
  refine enter Try.func102 rfl Try.ntmps102 rfl (fun a hF => ?_)
  have hW := Wd.start w NoB
  refine c_sr ?_
  refine pv hF hW (y_assign hF rfl) (fun a hF => ?_)
  refine l_nil ?_
  refine t_n ?_
  refine c_s ?_
  refine c_sr ?_
  refine pv hF hW (y_move hF rfl) (fun a hF => ?_)
  refine pv hF hW (y_len hF rfl Try.underlying66) (fun a hF => ?_)
  refine pv hF hW (y_move hF rfl) (fun a hF => ?_)
  refine l_nil ?_
  replace hF := (hF.k 0 rfl (hF.k 1 rfl (hF.k 4 rfl (hF.k 7 rfl (hF.k 8 rfl hF.nil)))))
  refine t_n ?_
  refine wp_block ?_
  refine c_loop (G := Nat) (fun k : Nat => [(8, .int .i64 (k : Int))]) (fun k : Nat => []) (fun k : Nat => k ≤ n ∧ ∀ i, i < k → P i = false) (fun k : Nat => n - k) 0 (Fr.cons hF (t := 0) rfl rfl (Fr.cons hF (t := 1) rfl rfl (Fr.cons hF (t := 7) rfl rfl (Fr.nil hF)))) (Fr.cons hF (t := 8) rfl (by first | rfl | (simp; done)) (Fr.nil hF)) (hW) ?_ ?_
  · exact ⟨by omega, fun i hi => by omega⟩
  clear hF hW
  try clear a
  intro k a wc hC hF hW
  obtain ⟨hk, hno⟩ := hC
  refine c_sr ?_
  refine pv hF hW (y_lss hF rfl rfl) (fun a hF => ?_)
  refine Fr.splitD hF ?_ ?_
  · intro h1 hF
    refine l_nil ?_
    refine t_n ?_
    refine c_s ?_
    refine c_t hF rfl ?_
    refine wp_skip ?_
    refine t_n ?_
    refine c_s ?_
    refine wp_block ?_
    refine c_sr ?_
    refine pv hF hW (y_move hF rfl) (fun a hF => ?_)
    refine pv hF hW (y_assign hF rfl) (fun a hF => ?_)
    refine l_nil ?_
    replace hF := (hF.k 0 rfl (hF.k 1 rfl (hF.k 5 rfl (hF.k 7 rfl (hF.k 8 rfl (hF.k 9 rfl hF.nil))))))
    refine t_n ?_
    refine c_sr ?_
    refine pv hF hW (y_move hF rfl) (fun a hF => ?_)
    refine pv hF hW (y_move hF rfl) (fun a hF => ?_)
    refine pv hF hW (y_move hF rfl) (fun a hF => ?_)
    refine pv hF hW (y_indexS hF rfl rfl (by first | omega | decide) Try.underlying66 sz_83 (fun w h => (hR).wd h)) (fun a hF => ?_)
    refine pv hF hW (y_loadRowW hF rfl (fun w h => (hR).wd h) (by first | omega | decide) Try.underlying83 rfl (by rw [hlen]; exact sz_83)) (fun a hF => ?_)
    refine pe (e_call hF rfl rfl hen (by rfl) rfl rfl (hcall k _ (by omega) hW.below) ?_)
    rintro e w1 ⟨rfl, hb⟩
    replace hW := hW.kept hb
    clear hb
    refine ⟨_, rfl, fun a hF => ?_⟩
    refine Fr.splitB hF ?_ ?_
    · intro h2 hF
      refine l_nil ?_
      replace hF := (hF.k 0 rfl (hF.k 1 rfl (hF.k 5 rfl (hF.k 7 rfl (hF.k 8 rfl (hF.k 9 rfl (hF.k 16 rfl hF.nil)))))))
      refine t_n ?_
      refine c_t hF rfl ?_
      refine c_sr ?_
      refine pv hF hW (y_move hF rfl) (fun a hF => ?_)
      refine pv hF hW (y_assign hF rfl) (fun a hF => ?_)
      refine l_nil ?_
      replace hF := (hF.k 0 rfl (hF.k 1 rfl (hF.k 4 rfl (hF.k 5 rfl (hF.k 7 rfl (hF.k 8 rfl (hF.k 9 rfl (hF.k 16 rfl hF.nil))))))))
      refine t_n ?_
      refine wp_ret ?_
      refine b_r ?_
      refine t_r ?_
      refine t_r ?_
      refine b_r ?_
      refine t_r ?_
      refine ret1 Try.results102 hF (rv_t hF rfl) ?_
      exact ⟨_, rfl, by rw [any_true (k := k) (by omega) (by assumption)]; exact decide_eq_true (by omega), hW.below⟩
    · intro h2 hF
      refine l_nil ?_
      replace hF := (hF.k 0 rfl (hF.k 1 rfl (hF.k 5 rfl (hF.k 7 rfl (hF.k 8 rfl (hF.k 9 rfl (hF.k 16 rfl hF.nil)))))))
      refine t_n ?_
      refine c_f hF rfl ?_
      refine wp_skip ?_
      refine b_n ?_
      refine t_n ?_
      refine c_r ?_
      refine pv hF hW (y_add hF rfl rfl (IntWalk.i64_in _ (by omega))) (fun a hF => ?_)
      replace hF := hF.drop 8
      refine pv hF hW (y_move hF rfl) (fun a hF => ?_)
      refine l_nil ?_
      replace hF := (hF.k 0 rfl (hF.k 1 rfl (hF.k 5 rfl (hF.k 7 rfl (hF.k 8 rfl (hF.k 9 rfl (hF.k 16 rfl hF.nil)))))))
      refine t_n ?_
      refine ⟨(k + 1), ?_, ?_, ?_, ?_⟩
      · exact ⟨by omega, fun i hi => by rcases Nat.lt_or_ge i k with h | h; exact hno i h; (have hik : i = k := by omega); rw [hik]; assumption⟩
      · first | omega | (dsimp only; omega)
      · exact Fr.app (Fr.cons hF (t := 8) rfl (by first | rfl | (simp; done) | omega) (Fr.nil hF)) (Fr.cons hF (t := 0) rfl rfl (Fr.cons hF (t := 1) rfl rfl (Fr.cons hF (t := 7) rfl rfl (Fr.nil hF))))
      · exact hW
  · intro h1 hF
    refine l_nil ?_
    refine t_n ?_
    refine c_s ?_
    refine c_f hF rfl ?_
    refine wp_exit ?_
    refine t_x ?_
    refine t_x ?_
    refine b_h ?_
    refine t_n ?_
    refine c_sr ?_
    refine pv hF hW (y_assign hF rfl) (fun a hF => ?_)
    refine l_nil ?_
    refine t_n ?_
    refine wp_ret ?_
    refine ret1 Try.results102 hF (rv_t hF rfl) ?_
    exact ⟨_, rfl, by rw [any_false fun i hi => hno i (by omega)]; rfl, hW.below⟩
theorem has_slot {A : Option Addr} {n c : Nat} {f : Nat → List Value} {g : FuncId} {cap : Array Value} {P : Nat → Bool} {w : World} (hn : n ≤ maxLen) (hR : RF w A n 2 f) (hlen : ∀ k, (f k).length = 2)(hen : Enters Try.prog g) (hcall : Tells w n (fun k => .agg (f k).toArray) g cap P) :
    Calls Try.prog 90 #[.slice A n c, .func (.func g) #[] cap] w fun e w' => e = .returned (.bool ((List.range n).any P)) ∧ Below w.heap.size w w' := by
  refine enter Try.func90 rfl Try.ntmps90 rfl (fun a hF => ?_)
  have hW := Wd.start w NoB
  refine c_sr ?_
  refine pv hF hW (y_assign hF rfl) (fun a hF => ?_)
  refine l_nil ?_
  refine t_n ?_
  refine c_sr ?_
  refine pv hF hW (y_move hF rfl) (fun a hF => ?_)
  refine pv hF hW (y_move hF rfl) (fun a hF => ?_)
  refine pe (e_call hF rfl rfl en_102 (by rfl) rfl rfl (idx_slot hn (hR.wd hW) hlen hen (hcall.on hW.below)) ?_)
  rintro e w1 ⟨r, rfl, hr, hb⟩
  replace hW := hW.kept hb
  clear hb
  refine ⟨_, rfl, fun a hF => ?_⟩
  refine pv hF hW (y_geq hF rfl rfl) (fun a hF => ?_)
  replace hF := hF.drop 4
  refine pv hF hW (y_assign hF rfl) (fun a hF => ?_)
  refine l_nil ?_
  replace hF := (hF.k 0 rfl (hF.k 1 rfl (hF.k 4 rfl hF.nil)))
  refine t_n ?_
  refine wp_ret ?_
  refine ret1 Try.results90 hF (rv_t hF rfl) ?_
  exact ⟨by rw [← hr], hW.below⟩
theorem some_slot {A : Option Addr} {n c : Nat} {f : Nat → List Value} {g : FuncId} {cap : Array Value} {P : Nat → Bool} {w : World} (hn : n ≤ maxLen) (hR : RF w A n 2 f) (hlen : ∀ k, (f k).length = 2)(hen : Enters Try.prog g) (hcall : Tells w n (fun k => .agg (f k).toArray) g cap P) :
    Calls Try.prog 70 #[.slice A n c, .func (.func g) #[] cap] w fun e w' => e = .returned (.bool ((List.range n).any P)) ∧ Below w.heap.size w w' := by
  refine enter Try.func70 rfl Try.ntmps70 rfl (fun a hF => ?_)
  have hW := Wd.start w NoB
  refine c_sr ?_
  refine pv hF hW (y_assign hF rfl) (fun a hF => ?_)
  refine l_nil ?_
  refine t_n ?_
  refine c_sr ?_
  refine pv hF hW (y_move hF rfl) (fun a hF => ?_)
  refine pv hF hW (y_move hF rfl) (fun a hF => ?_)
  refine pe (e_call hF rfl rfl en_90 (by rfl) rfl rfl (has_slot hn (hR.wd hW) hlen hen (hcall.on hW.below)) ?_)
  rintro e w1 ⟨rfl, hb⟩
  replace hW := hW.kept hb
  clear hb
  refine ⟨_, rfl, fun a hF => ?_⟩
  replace hF := hF.drop 4
  refine pv hF hW (y_assign hF rfl) (fun a hF => ?_)
  refine l_nil ?_
  replace hF := (hF.k 0 rfl (hF.k 1 rfl (hF.k 4 rfl hF.nil)))
  refine t_n ?_
  refine wp_ret ?_
  refine ret1 Try.results70 hF (rv_t hF rfl) ?_
  exact ⟨rfl, hW.below⟩
theorem idx_int {A : Option Addr} {n c : Nat} {f : Nat → Int} {g : FuncId} {cap : Array Value} {P : Nat → Bool} {w : World} (hn : n ≤ maxLen) (hR : RF w A n 1 (fun k => [.int .i64 (f k)])) (hen : Enters Try.prog g) (hcall : Tells w n (fun k => .int .i64 (f k)) g cap P) :
    Calls Try.prog 105 #[.slice A n c, .func (.func g) #[] cap] w fun e w' => ∃ r : Int, e = .returned (.int .i64 r) ∧ decide (0 ≤ r) = (List.range n).any P ∧ Below w.heap.size w w' := by
  unfold maxLen at hn
  refine enter Try.func105 rfl Try.ntmps105 rfl (fun a hF => ?_)
  have hW := Wd.start w NoB
  refine c_sr ?_
  refine pv hF hW (y_assign hF rfl) (fun a hF => ?_)
  refine l_nil ?_
  refine t_n ?_
  refine c_s ?_
  refine c_sr ?_
  refine pv hF hW (y_move hF rfl) (fun a hF => ?_)
  refine pv hF hW (y_len hF rfl Try.underlying22) (fun a hF => ?_)
  refine pv hF hW (y_move hF rfl) (fun a hF => ?_)
  refine l_nil ?_
  replace hF := (hF.k 0 rfl (hF.k 1 rfl (hF.k 4 rfl (hF.k 7 rfl (hF.k 8 rfl hF.nil)))))
  refine t_n ?_
  refine wp_block ?_
  refine c_loop (G := Nat) (fun k : Nat => [(8, .int .i64 (k : Int))]) (fun k : Nat => []) (fun k : Nat => k ≤ n ∧ ∀ i, i < k → P i = false) (fun k : Nat => n - k) 0 (Fr.cons hF (t := 0) rfl rfl (Fr.cons hF (t := 1) rfl rfl (Fr.cons hF (t := 7) rfl rfl (Fr.nil hF)))) (Fr.cons hF (t := 8) rfl (by first | rfl | (simp; done)) (Fr.nil hF)) (hW) ?_ ?_
  · exact ⟨by omega, fun i hi => by omega⟩
  clear hF hW
  try clear a
  intro k a wc hC hF hW
  obtain ⟨hk, hno⟩ := hC
  refine c_sr ?_
  refine pv hF hW (y_lss hF rfl rfl) (fun a hF => ?_)
  refine Fr.splitD hF ?_ ?_
  · intro h1 hF
    refine l_nil ?_
    refine t_n ?_
    refine c_s ?_
    refine c_t hF rfl ?_
    refine wp_skip ?_
    refine t_n ?_
    refine c_s ?_
    refine wp_block ?_
    refine c_sr ?_
    refine pv hF hW (y_move hF rfl) (fun a hF => ?_)
    refine pv hF hW (y_assign hF rfl) (fun a hF => ?_)
    refine l_nil ?_
    replace hF := (hF.k 0 rfl (hF.k 1 rfl (hF.k 5 rfl (hF.k 7 rfl (hF.k 8 rfl (hF.k 9 rfl hF.nil))))))
    refine t_n ?_
    refine c_sr ?_
    refine pv hF hW (y_move hF rfl) (fun a hF => ?_)
    refine pv hF hW (y_move hF rfl) (fun a hF => ?_)
    refine pv hF hW (y_move hF rfl) (fun a hF => ?_)
    refine pv hF hW (y_indexS hF rfl rfl (by first | omega | decide) Try.underlying22 sz_3 (fun w h => (hR).wd h)) (fun a hF => ?_)
    refine pv hF hW (y_loadRow hF rfl (fun w h => (hR).wd h) (by first | omega | decide) rfl Try.underlying3 rfl) (fun a hF => ?_)
    refine pe (e_call hF rfl rfl hen (by rfl) rfl rfl (hcall k _ (by omega) hW.below) ?_)
    rintro e w1 ⟨rfl, hb⟩
    replace hW := hW.kept hb
    clear hb
    refine ⟨_, rfl, fun a hF => ?_⟩
    refine Fr.splitB hF ?_ ?_
    · intro h2 hF
      refine l_nil ?_
      replace hF := (hF.k 0 rfl (hF.k 1 rfl (hF.k 5 rfl (hF.k 7 rfl (hF.k 8 rfl (hF.k 9 rfl (hF.k 16 rfl hF.nil)))))))
      refine t_n ?_
      refine c_t hF rfl ?_
      refine c_sr ?_
      refine pv hF hW (y_move hF rfl) (fun a hF => ?_)
      refine pv hF hW (y_assign hF rfl) (fun a hF => ?_)
      refine l_nil ?_
      replace hF := (hF.k 0 rfl (hF.k 1 rfl (hF.k 4 rfl (hF.k 5 rfl (hF.k 7 rfl (hF.k 8 rfl (hF.k 9 rfl (hF.k 16 rfl hF.nil))))))))
      refine t_n ?_
      refine wp_ret ?_
      refine b_r ?_
      refine t_r ?_
      refine t_r ?_
      refine b_r ?_
      refine t_r ?_
      refine ret1 Try.results105 hF (rv_t hF rfl) ?_
      exact ⟨_, rfl, by rw [any_true (k := k) (by omega) (by assumption)]; exact decide_eq_true (by omega), hW.below⟩
    · intro h2 hF
      refine l_nil ?_
      replace hF := (hF.k 0 rfl (hF.k 1 rfl (hF.k 5 rfl (hF.k 7 rfl (hF.k 8 rfl (hF.k 9 rfl (hF.k 16 rfl hF.nil)))))))
      refine t_n ?_
      refine c_f hF rfl ?_
      refine wp_skip ?_
      refine b_n ?_
      refine t_n ?_
      refine c_r ?_
      refine pv hF hW (y_add hF rfl rfl (IntWalk.i64_in _ (by omega))) (fun a hF => ?_)
      replace hF := hF.drop 8
      refine pv hF hW (y_move hF rfl) (fun a hF => ?_)
      refine l_nil ?_
      replace hF := (hF.k 0 rfl (hF.k 1 rfl (hF.k 5 rfl (hF.k 7 rfl (hF.k 8 rfl (hF.k 9 rfl (hF.k 16 rfl hF.nil)))))))
      refine t_n ?_
      refine ⟨(k + 1), ?_, ?_, ?_, ?_⟩
      · exact ⟨by omega, fun i hi => by rcases Nat.lt_or_ge i k with h | h; exact hno i h; (have hik : i = k := by omega); rw [hik]; assumption⟩
      · first | omega | (dsimp only; omega)
      · exact Fr.app (Fr.cons hF (t := 8) rfl (by first | rfl | (simp; done) | omega) (Fr.nil hF)) (Fr.cons hF (t := 0) rfl rfl (Fr.cons hF (t := 1) rfl rfl (Fr.cons hF (t := 7) rfl rfl (Fr.nil hF))))
      · exact hW
  · intro h1 hF
    refine l_nil ?_
    refine t_n ?_
    refine c_s ?_
    refine c_f hF rfl ?_
    refine wp_exit ?_
    refine t_x ?_
    refine t_x ?_
    refine b_h ?_
    refine t_n ?_
    refine c_sr ?_
    refine pv hF hW (y_assign hF rfl) (fun a hF => ?_)
    refine l_nil ?_
    refine t_n ?_
    refine wp_ret ?_
    refine ret1 Try.results105 hF (rv_t hF rfl) ?_
    exact ⟨_, rfl, by rw [any_false fun i hi => hno i (by omega)]; rfl, hW.below⟩
theorem has_int {A : Option Addr} {n c : Nat} {f : Nat → Int} {g : FuncId} {cap : Array Value} {P : Nat → Bool} {w : World} (hn : n ≤ maxLen) (hR : RF w A n 1 (fun k => [.int .i64 (f k)])) (hen : Enters Try.prog g) (hcall : Tells w n (fun k => .int .i64 (f k)) g cap P) :
    Calls Try.prog 92 #[.slice A n c, .func (.func g) #[] cap] w fun e w' => e = .returned (.bool ((List.range n).any P)) ∧ Below w.heap.size w w' := by
  refine enter Try.func92 rfl Try.ntmps92 rfl (fun a hF => ?_)
  have hW := Wd.start w NoB
  refine c_sr ?_
  refine pv hF hW (y_assign hF rfl) (fun a hF => ?_)
  refine l_nil ?_
  refine t_n ?_
  refine c_sr ?_
  refine pv hF hW (y_move hF rfl) (fun a hF => ?_)
  refine pv hF hW (y_move hF rfl) (fun a hF => ?_)
  refine pe (e_call hF rfl rfl en_105 (by rfl) rfl rfl (idx_int hn (hR.wd hW)  hen (hcall.on hW.below)) ?_)
  rintro e w1 ⟨r, rfl, hr, hb⟩
  replace hW := hW.kept hb
  clear hb
  refine ⟨_, rfl, fun a hF => ?_⟩
  refine pv hF hW (y_geq hF rfl rfl) (fun a hF => ?_)
  replace hF := hF.drop 4
  refine pv hF hW (y_assign hF rfl) (fun a hF => ?_)
  refine l_nil ?_
  replace hF := (hF.k 0 rfl (hF.k 1 rfl (hF.k 4 rfl hF.nil)))
  refine t_n ?_
  refine wp_ret ?_
  refine ret1 Try.results92 hF (rv_t hF rfl) ?_
  exact ⟨by rw [← hr], hW.below⟩
theorem some_int {A : Option Addr} {n c : Nat} {f : Nat → Int} {g : FuncId} {cap : Array Value} {P : Nat → Bool} {w : World} (hn : n ≤ maxLen) (hR : RF w A n 1 (fun k => [.int .i64 (f k)])) (hen : Enters Try.prog g) (hcall : Tells w n (fun k => .int .i64 (f k)) g cap P) :
    Calls Try.prog 74 #[.slice A n c, .func (.func g) #[] cap] w fun e w' => e = .returned (.bool ((List.range n).any P)) ∧ Below w.heap.size w w' := by
  refine enter Try.func74 rfl Try.ntmps74 rfl (fun a hF => ?_)
  have hW := Wd.start w NoB
  refine c_sr ?_
  refine pv hF hW (y_assign hF rfl) (fun a hF => ?_)
  refine l_nil ?_
  refine t_n ?_
  refine c_sr ?_
  refine pv hF hW (y_move hF rfl) (fun a hF => ?_)
  refine pv hF hW (y_move hF rfl) (fun a hF => ?_)
  refine pe (e_call hF rfl rfl en_92 (by rfl) rfl rfl (has_int hn (hR.wd hW)  hen (hcall.on hW.below)) ?_)
  rintro e w1 ⟨rfl, hb⟩
  replace hW := hW.kept hb
  clear hb
  refine ⟨_, rfl, fun a hF => ?_⟩
  replace hF := hF.drop 4
  refine pv hF hW (y_assign hF rfl) (fun a hF => ?_)
  refine l_nil ?_
  replace hF := (hF.k 0 rfl (hF.k 1 rfl (hF.k 4 rfl hF.nil)))
  refine t_n ?_
  refine wp_ret ?_
  refine ret1 Try.results74 hF (rv_t hF rfl) ?_
  exact ⟨rfl, hW.below⟩
end Go.Proofs.Ytebklpbbglojmaa
