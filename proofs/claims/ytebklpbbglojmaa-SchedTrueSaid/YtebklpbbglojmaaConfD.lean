/- conf.There, conf.Own and conf.Calm: what they give. -/
import Derived.Test.YtebklpbbglojmaaConfC
import Derived.Test.YtebklpbbglojmaaSysCalm
namespace Go.Proofs.Ytebklpbbglojmaa
set_option linter.unusedVariables false
set_option linter.unusedSimpArgs false
open Go.ChangeShapes Go.WideShapes Go.ChangeAt Go.RowKit
theorem bs_ConfD_64_1_0 (x0 : Option Addr) (x0n x0c : Nat) (x1 : Option Addr) (x1n x1c : Nat) (w : World) : (Instr.buildSlice 64 1 #[(0, (.agg #[(.slice x0 x0n x0c), (.slice x1 x1n x1c)]))]).run Try.prog w = .ok (.slice (some ⟨w.heap.size, 0, none⟩) 1 1) (w.alloc (.cells #[(.slice x0 x0n x0c), (.slice x1 x1n x1c)] 42)) := by kernel_rfl
theorem bu_ConfD_42_0_1 (x0 : Option Addr) (x0n x0c : Nat) (x1 : Option Addr) (x1n x1c : Nat) (w : World) : (Instr.build 42 #[(0, (.slice x0 x0n x0c)), (1, (.slice x1 x1n x1c))]).run Try.prog w = .ok (.agg #[(.slice x0 x0n x0c), (.slice x1 x1n x1c)]) w := by kernel_rfl
theorem bu_ConfD_68_1_2 (x0 : Option Addr) (x0n x0c : Nat) (x1 : Option Addr) (x1n x1c : Nat) (w : World) : (Instr.build 68 #[(1, (.slice x0 x0n x0c)), (2, (.slice x1 x1n x1c))]).run Try.prog w = .ok (.agg #[(.slice none 0 0), (.slice x0 x0n x0c), (.slice x1 x1n x1c)]) w := by kernel_rfl
set_option maxRecDepth 100000

theorem confThere_any {x : SysD} {w : World} (hx : x.At w) (p : Int) :
    Calls Try.prog 56 #[x.val, .int .i64 p] w fun e w' => e = .returned (.int .i64 (thereErr x.sys p)) ∧ Below w.heap.size w w' := by
  have hl := hx.parts.len
  unfold maxLen at hl
  have hp := fun h => part_len (x := x) (p := p) h
  have hp' : 0 ≤ p ∧ p < x.parts.length → 0 ≤ p ∧ p < x.sys.parts.length := fun h => by simpa [SysD.sys] using h
  rw [x.val_eq]
  refine enter Try.func56 rfl Try.ntmps56 rfl (fun a hF => ?_)
  have hW := Wd.start w NoB
  refine c_sr ?_
  refine pe (e_box hF hW rfl rfl rfl rfl ?_)
  intro b1 a wc hF hW
  refine pv hF hW (y_assign hF rfl) (fun a hF => ?_)
  refine l_nil ?_
  refine t_n ?_
  refine c_s ?_
  refine c_sr ?_
  refine pv hF hW (y_loadAll hF rfl 0 rfl Try.underlying68 rfl sz_68) (fun a hF => ?_)
  refine pe (e_call hF rfl rfl en_35 (by rfl) rfl rfl (confCheck_any (hx.below hW.below)) ?_)
  rintro e w1 ⟨rfl, hb⟩
  replace hW := hW.kept hb
  clear hb
  refine ⟨_, rfl, fun a hF => ?_⟩
  refine pv hF hW (y_assign hF rfl) (fun a hF => ?_)
  refine l_nil ?_
  replace hF := (hF.k 0 rfl (hF.k 1 rfl (hF.k 2 rfl (hF.k 4 rfl (hF.k 5 rfl hF.nil)))))
  refine t_n ?_
  refine c_sr ?_
  refine pv hF hW (y_move hF rfl) (fun a hF => ?_)
  refine pv hF hW (y_neq hF rfl rfl) (fun a hF => ?_)
  refine Fr.splitD hF ?_ ?_
  · intro h2 hF
    refine l_nil ?_
    replace hF := (hF.k 0 rfl (hF.k 1 rfl (hF.k 2 rfl (hF.k 4 rfl (hF.k 5 rfl (hF.k 9 rfl hF.nil))))))
    refine t_n ?_
    refine c_t hF rfl ?_
    refine c_sr ?_
    refine pv hF hW (y_move hF rfl) (fun a hF => ?_)
    replace hF := hF.drop 4
    refine pv hF hW (y_assign hF rfl) (fun a hF => ?_)
    refine l_nil ?_
    replace hF := (hF.k 0 rfl (hF.k 1 rfl (hF.k 2 rfl (hF.k 4 rfl (hF.k 5 rfl (hF.k 9 rfl hF.nil))))))
    refine t_n ?_
    refine wp_ret ?_
    refine t_r ?_
    refine ret1 Try.results56 hF (rv_t hF rfl) ?_
    exact ⟨by rw [there_c (by assumption)], hW.below⟩
  · intro h2 hF
    refine l_nil ?_
    replace hF := (hF.k 0 rfl (hF.k 1 rfl (hF.k 2 rfl (hF.k 4 rfl (hF.k 5 rfl (hF.k 9 rfl hF.nil))))))
    refine t_n ?_
    refine c_f hF rfl ?_
    refine wp_skip ?_
    refine t_n ?_
    refine c_s ?_
    refine c_sr ?_
    refine pv hF hW (y_move hF rfl) (fun a hF => ?_)
    refine pv hF hW (y_lss hF rfl rfl) (fun a hF => ?_)
    refine Fr.splitD hF ?_ ?_
    · intro h3 hF
      refine pv hF hW (y_move hF rfl) (fun a hF => ?_)
      refine p_skip hF (wn hF rfl rfl rfl) rfl rfl (fun a hF => ?_)
      refine p_skip hF (wn hF rfl rfl rfl) rfl rfl (fun a hF => ?_)
      refine p_skip hF (wn hF rfl rfl rfl) rfl rfl (fun a hF => ?_)
      refine p_skip hF (wn hF rfl rfl rfl) rfl rfl (fun a hF => ?_)
      refine p_skip hF (wn hF rfl rfl rfl) rfl rfl (fun a hF => ?_)
      refine pv hF hW (y_pick hF rfl rfl) (fun a hF => ?_)
      refine l_nil ?_
      replace hF := (hF.k 0 rfl (hF.k 1 rfl (hF.k 2 rfl (hF.k 4 rfl (hF.k 5 rfl (hF.k 9 rfl (hF.k 19 rfl hF.nil)))))))
      refine t_n ?_
      refine c_t hF rfl ?_
      refine c_sr ?_
      replace hF := hF.drop 4
      refine pv hF hW (y_assign hF rfl) (fun a hF => ?_)
      refine l_nil ?_
      refine t_n ?_
      refine wp_ret ?_
      refine t_r ?_
      refine ret1 Try.results56 hF (rv_t hF rfl) ?_
      exact ⟨by rw [there_5 (by omega) (fun h => by have := hp h; omega)], hW.below⟩
    · intro h3 hF
      refine pv hF hW (y_move hF rfl) (fun a hF => ?_)
      refine pv hF hW (y_move hF rfl) (fun a hF => ?_) (ws hF rfl rfl)
      refine pv hF hW (y_fieldOwn hF rfl fa_68_0) (fun a hF => ?_) (ws hF rfl rfl)
      refine pv hF hW (y_loadOwn hF rfl 0 rfl rfl Try.underlying64 rfl) (fun a hF => ?_) (ws hF rfl rfl)
      refine pv hF hW (y_len hF rfl Try.underlying64) (fun a hF => ?_) (ws hF rfl rfl)
      refine pv hF hW (y_geq hF rfl rfl) (fun a hF => ?_) (ws hF rfl rfl)
      refine Fr.splitD hF ?_ ?_
      · intro h4 hF
        refine pv hF hW (y_pick hF rfl rfl) (fun a hF => ?_)
        refine l_nil ?_
        replace hF := (hF.k 0 rfl (hF.k 1 rfl (hF.k 2 rfl (hF.k 4 rfl (hF.k 5 rfl (hF.k 9 rfl (hF.k 19 rfl hF.nil)))))))
        refine t_n ?_
        refine c_t hF rfl ?_
        refine c_sr ?_
        replace hF := hF.drop 4
        refine pv hF hW (y_assign hF rfl) (fun a hF => ?_)
        refine l_nil ?_
        refine t_n ?_
        refine wp_ret ?_
        refine t_r ?_
        refine ret1 Try.results56 hF (rv_t hF rfl) ?_
        exact ⟨by rw [there_5 (by omega) (fun h => by have := hp h; omega)], hW.below⟩
      · intro h4 hF
        refine pv hF hW (y_pick hF rfl rfl) (fun a hF => ?_)
        refine l_nil ?_
        replace hF := (hF.k 0 rfl (hF.k 1 rfl (hF.k 2 rfl (hF.k 4 rfl (hF.k 5 rfl (hF.k 9 rfl (hF.k 19 rfl hF.nil)))))))
        refine t_n ?_
        refine c_f hF rfl ?_
        refine wp_skip ?_
        refine t_n ?_
        refine c_sr ?_
        replace hF := hF.drop 4
        refine pv hF hW (y_assign hF rfl) (fun a hF => ?_)
        refine l_nil ?_
        refine t_n ?_
        refine wp_ret ?_
        refine ret1 Try.results56 hF (rv_t hF rfl) ?_
        exact ⟨by rw [there_0 (by omega) (hp' (by omega))], hW.below⟩

/-- what a turn function gives -/
def Turns (w : World) (x : SysD) (g : FuncId) (cap : Array Value) (f : Nat → Prt) : Prop :=
  ∀ k w1, k < x.parts.length → Below w.heap.size w w1 → Calls Try.prog g (#[.int .i64 k, .agg (encP (x.parts.getD k P0)).toArray] ++ cap) w1 fun e w' =>
    ∃ q : PP, e = .returned (.agg (encP q).toArray) ∧ q.1 = f k ∧ Below w1.heap.size w1 w' ∧ OwnRes w1 w' (fun u => Below w.heap.size w u → q.At u)

set_option maxHeartbeats 4000000 in
theorem confOwn_any {x : SysD} {w : World} (hx : x.At w) {g : FuncId} {cap : Array Value} {f : Nat → Prt} (hen : Enters Try.prog g) (hg : Turns w x g cap f) (hp : x.parts.length ≤ 1024) (hcn : x.chans.length ≤ 1024) (hsn : x.slots.length ≤ 1024)
    (hf : ∀ k, k < x.parts.length → (f k).code.length * 32 ≤ 140737488355328 ∧ (f k).inp.length * 8 ≤ 140737488355328) :
    Calls Try.prog 57 #[x.val, .func (.func g) #[] cap] w fun e w' => ∃ y : SysD, e = .returned y.val ∧ y.sys = ⟨(List.range x.parts.length).map f, x.chans, x.slots⟩ ∧ Below w.heap.size w w' ∧ OwnRes w w' y.At := by
  rw [x.val_eq]
  refine enter Try.func57 rfl Try.ntmps57 rfl (fun a hF => ?_)
  have hW := Wd.start w NoB
  refine c_sr ?_
  refine pe (e_box hF hW rfl rfl rfl rfl ?_)
  intro b1 a wc hF hW
  refine pe (e_alloc hF hW ze_68 rfl rfl rfl ?_)
  intro b2 a wc hF hW
  refine l_nil ?_
  refine t_n ?_
  refine c_cut (G := Nat × Option Addr × Nat × Option Addr × Nat) (fun (gq : Nat × Option Addr × Nat × Option Addr × Nat) => match gq with | ⟨b5, A1, c1, A2, c2⟩ => [(5, .pointer (some ⟨b5, 0, none⟩))]) (fun (gq : Nat × Option Addr × Nat × Option Addr × Nat) => match gq with | ⟨b5, A1, c1, A2, c2⟩ => [.res (fun u => Flat Chn.cells 3 u (.slice A1 x.chans.length c1) x.chans), .res (fun u => Flat Slt.cells 2 u (.slice A2 x.slots.length c2) x.slots), .blk b5 68 [.slice none 0 0, .slice A1 x.chans.length c1, .slice A2 x.slots.length c2]]) (fun (gq : Nat × Option Addr × Nat × Option Addr × Nat) => match gq with | ⟨b5, A1, c1, A2, c2⟩ => True) (Fr.cons hF (t := 0) rfl rfl (Fr.cons hF (t := 1) rfl rfl (Fr.cons hF (t := 2) rfl rfl (Fr.cons hF (t := 4) rfl rfl (Fr.nil hF))))) hW ?_ ?_
  · refine c_d mixed_ok hW (hW) ?_
    clear hW; intro wc hW hS
    refine dv 0 rfl hF hS (y_fieldOwn hF rfl fa_68_1) (fun a hF => ?_)
    refine dv 1 rfl hF hS (y_loadOwn hF rfl 1 rfl rfl Try.underlying65 rfl) (fun a hF => ?_)
    refine dv 3 rfl hF hS (y_fieldOwn hF rfl fa_68_2) (fun a hF => ?_)
    refine dv 4 rfl hF hS (y_loadOwn hF rfl 1 rfl rfl Try.underlying66 rfl) (fun a hF => ?_)
    refine d_2 2 7 (by kernel_rfl) ?_ ?_
    · refine d_op rfl rfl (e_call hF rfl rfl en_85 (by rfl) rfl rfl (clone_chan (hx.chans.below hW.below) (by omega)) ?_)
      rintro e w1 ⟨A1, c1, rfl, hb, hr⟩
      replace hW := hW.gotR hb hr
      refine ⟨_, rfl, fun a hF => ?_⟩
      refine ⟨(hW.del 0 rfl), ?_⟩
      replace hS := (hW.del 0 rfl)
      refine d_2 5 7 (by kernel_rfl) ?_ ?_
      · refine d_op rfl rfl (e_call hF rfl rfl en_86 (by rfl) rfl rfl (clone_slot (hx.slots.below hW.below) (by omega)) ?_)
        rintro e w1 ⟨A2, c2, rfl, hb, hr⟩
        replace hW := hW.gotR hb hr
        refine ⟨_, rfl, fun a hF => ?_⟩
        refine ⟨((hW.del 0 rfl).del 0 rfl), ?_⟩
        replace hS := ((hW.del 0 rfl).del 0 rfl)
        refine dv 6 rfl hF hS (y_build hF rfl (fun w => bu_ConfD_68_1_2 _ _ _ _ _ _ w)) (fun a hF => ?_)
        refine d_1 7 (by kernel_rfl) ?_
        refine d_op rfl rfl (e_alloc hF hW ze_68 rfl rfl rfl ?_)
        intro b3 a wc hF hW
        refine ⟨(((hW.del 0 rfl).del 0 rfl).del 0 rfl), ?_⟩
        replace hS := (((hW.del 0 rfl).del 0 rfl).del 0 rfl)
        refine d_1 8 (by kernel_rfl) ?_
        refine d_op rfl rfl (e_storeAll rfl hF hW rfl rfl 0 rfl rfl rfl (by kernel_rfl) sz_68 ?_)
        intro wc hW
        refine ⟨(((hW.del 0 rfl).del 0 rfl).del 0 rfl), ?_⟩
        replace hS := (((hW.del 0 rfl).del 0 rfl).del 0 rfl)
        clear hS
        refine d_nil (by kernel_rfl) ?_
        replace hF := (hF.k 0 rfl (hF.k 1 rfl (hF.k 2 rfl (hF.k 4 rfl (hF.k 5 rfl hF.nil)))))
        replace hW := hW.front 4 rfl rfl
        replace hW := hW.front 4 rfl rfl
        replace hW := hW.front 2 rfl rfl
        replace hW := hW.front 3 rfl rfl
        replace hW := hW.front 4 rfl rfl
        refine t_n ?_
        refine ⟨(b3, A1, c1, A2, c2), ?_, ?_, ?_⟩
        · exact Fr.app (Fr.cons hF (t := 5) rfl rfl (Fr.nil hF)) (Fr.cons hF (t := 0) rfl rfl (Fr.cons hF (t := 1) rfl rfl (Fr.cons hF (t := 2) rfl rfl (Fr.cons hF (t := 4) rfl rfl (Fr.nil hF)))))
        · exact hW
        · trivial
      · refine d_op rfl rfl (e_alloc hF hW ze_68 rfl rfl rfl ?_)
        intro b4 a wc hF hW
        refine ⟨((hW.del 0 rfl).del 0 rfl), ?_⟩
        replace hS := ((hW.del 0 rfl).del 0 rfl)
        refine d_1 5 (by kernel_rfl) ?_
        refine d_op rfl rfl (e_call hF rfl rfl en_86 (by rfl) rfl rfl (clone_slot (hx.slots.below hW.below) (by omega)) ?_)
        rintro e w1 ⟨A2, c2, rfl, hb, hr⟩
        replace hW := hW.gotR hb hr
        refine ⟨_, rfl, fun a hF => ?_⟩
        refine ⟨(((hW.del 0 rfl).del 0 rfl).del 0 rfl), ?_⟩
        replace hS := (((hW.del 0 rfl).del 0 rfl).del 0 rfl)
        refine dv 6 rfl hF hS (y_build hF rfl (fun w => bu_ConfD_68_1_2 _ _ _ _ _ _ w)) (fun a hF => ?_)
        refine d_1 8 (by kernel_rfl) ?_
        refine d_op rfl rfl (e_storeAll rfl hF hW rfl rfl 1 rfl rfl rfl (by kernel_rfl) sz_68 ?_)
        intro wc hW
        refine ⟨(((hW.del 0 rfl).del 0 rfl).del 0 rfl), ?_⟩
        replace hS := (((hW.del 0 rfl).del 0 rfl).del 0 rfl)
        clear hS
        refine d_nil (by kernel_rfl) ?_
        replace hF := (hF.k 0 rfl (hF.k 1 rfl (hF.k 2 rfl (hF.k 4 rfl (hF.k 5 rfl hF.nil)))))
        replace hW := hW.front 4 rfl rfl
        replace hW := hW.front 4 rfl rfl
        replace hW := hW.front 3 rfl rfl
        replace hW := hW.front 3 rfl rfl
        replace hW := hW.front 4 rfl rfl
        refine t_n ?_
        refine ⟨(b4, A1, c1, A2, c2), ?_, ?_, ?_⟩
        · exact Fr.app (Fr.cons hF (t := 5) rfl rfl (Fr.nil hF)) (Fr.cons hF (t := 0) rfl rfl (Fr.cons hF (t := 1) rfl rfl (Fr.cons hF (t := 2) rfl rfl (Fr.cons hF (t := 4) rfl rfl (Fr.nil hF)))))
        · exact hW
        · trivial
    · refine d_op rfl rfl (e_alloc hF hW ze_68 rfl rfl rfl ?_)
      intro b5 a wc hF hW
      refine ⟨(hW.del 0 rfl), ?_⟩
      replace hS := (hW.del 0 rfl)
      refine d_1 2 (by kernel_rfl) ?_
      refine d_op rfl rfl (e_call hF rfl rfl en_85 (by rfl) rfl rfl (clone_chan (hx.chans.below hW.below) (by omega)) ?_)
      rintro e w1 ⟨A1, c1, rfl, hb, hr⟩
      replace hW := hW.gotR hb hr
      refine ⟨_, rfl, fun a hF => ?_⟩
      refine ⟨((hW.del 0 rfl).del 0 rfl), ?_⟩
      replace hS := ((hW.del 0 rfl).del 0 rfl)
      refine d_1 5 (by kernel_rfl) ?_
      refine d_op rfl rfl (e_call hF rfl rfl en_86 (by rfl) rfl rfl (clone_slot (hx.slots.below hW.below) (by omega)) ?_)
      rintro e w1 ⟨A2, c2, rfl, hb, hr⟩
      replace hW := hW.gotR hb hr
      refine ⟨_, rfl, fun a hF => ?_⟩
      refine ⟨(((hW.del 0 rfl).del 0 rfl).del 0 rfl), ?_⟩
      replace hS := (((hW.del 0 rfl).del 0 rfl).del 0 rfl)
      refine dv 6 rfl hF hS (y_build hF rfl (fun w => bu_ConfD_68_1_2 _ _ _ _ _ _ w)) (fun a hF => ?_)
      refine d_1 8 (by kernel_rfl) ?_
      refine d_op rfl rfl (e_storeAll rfl hF hW rfl rfl 2 rfl rfl rfl (by kernel_rfl) sz_68 ?_)
      intro wc hW
      refine ⟨(((hW.del 0 rfl).del 0 rfl).del 0 rfl), ?_⟩
      replace hS := (((hW.del 0 rfl).del 0 rfl).del 0 rfl)
      clear hS
      refine d_nil (by kernel_rfl) ?_
      replace hF := (hF.k 0 rfl (hF.k 1 rfl (hF.k 2 rfl (hF.k 4 rfl (hF.k 5 rfl hF.nil)))))
      replace hW := hW.front 4 rfl rfl
      replace hW := hW.front 4 rfl rfl
      replace hW := hW.front 4 rfl rfl
      replace hW := hW.front 3 rfl rfl
      replace hW := hW.front 4 rfl rfl
      refine t_n ?_
      refine ⟨(b5, A1, c1, A2, c2), ?_, ?_, ?_⟩
      · exact Fr.app (Fr.cons hF (t := 5) rfl rfl (Fr.nil hF)) (Fr.cons hF (t := 0) rfl rfl (Fr.cons hF (t := 1) rfl rfl (Fr.cons hF (t := 2) rfl rfl (Fr.cons hF (t := 4) rfl rfl (Fr.nil hF)))))
      · exact hW
      · trivial
  · clear hF hW
    try clear a
    intro gq a wc hC hF hW
    obtain ⟨b5, A1, c1, A2, c2⟩ := gq
    dsimp only at hC
    clear hC
    refine c_s ?_
    refine c_sr ?_
    refine pv hF hW (y_fieldOwn hF rfl fa_68_0) (fun a hF => ?_)
    refine pv hF hW (y_loadOwn hF rfl 4 rfl rfl Try.underlying64 rfl) (fun a hF => ?_)
    refine pv hF hW (y_len hF rfl Try.underlying64) (fun a hF => ?_)
    refine pv hF hW (y_move hF rfl) (fun a hF => ?_)
    refine l_nil ?_
    replace hF := (hF.k 0 rfl (hF.k 1 rfl (hF.k 2 rfl (hF.k 4 rfl (hF.k 5 rfl (hF.k 16 rfl (hF.k 17 rfl (hF.k 18 rfl hF.nil))))))))
    refine t_n ?_
    refine wp_block ?_
    replace hW := hW.nil_row 42 2
    replace hW := hW.free (R := fun u => ∀ q, q ∈ ([] : List PP) → q.At u) (fun _ _ h => by cases h)
    replace hW := hW.front 4 rfl rfl
    replace hW := hW.front 2 rfl rfl
    replace hW := hW.front 2 rfl rfl
    refine c_loop (G := Nat × List PP × Option Addr × Nat) (fun (gq : Nat × List PP × Option Addr × Nat) => match gq with | ⟨k, L, A, c⟩ => [(18, .int .i64 (k : Int))]) (fun (gq : Nat × List PP × Option Addr × Nat) => match gq with | ⟨k, L, A, c⟩ => [.res (fun u => ∀ q, q ∈ L → q.At u), .row 42 2 (.slice A k c) k (L.flatMap encP), .blk b5 68 [.slice A k c, .slice A1 x.chans.length c1, .slice A2 x.slots.length c2]]) (fun (gq : Nat × List PP × Option Addr × Nat) => match gq with | ⟨k, L, A, c⟩ => L.length = k ∧ k ≤ x.parts.length ∧ ∀ i, i < k → (L.getD i P0).1 = f i) (fun (gq : Nat × List PP × Option Addr × Nat) => match gq with | ⟨k, L, A, c⟩ => x.parts.length - k) (0, [], none, 0) (Fr.cons hF (t := 0) rfl rfl (Fr.cons hF (t := 1) rfl rfl (Fr.cons hF (t := 2) rfl rfl (Fr.cons hF (t := 4) rfl rfl (Fr.cons hF (t := 5) rfl rfl (Fr.cons hF (t := 16) rfl rfl (Fr.cons hF (t := 17) rfl rfl (Fr.nil hF)))))))) (Fr.cons hF (t := 18) rfl (by first | rfl | (simp; done)) (Fr.nil hF)) (hW) ?_ ?_
    · exact ⟨rfl, by omega, fun i hi => by omega⟩
    clear hF hW
    try clear a
    intro gq a wc hC hF hW
    obtain ⟨k, L, A, c⟩ := gq
    dsimp only at hC
    obtain ⟨hL, hk, hq⟩ := hC
    refine c_sr ?_
    refine pv hF hW (y_lss hF rfl rfl) (fun a hF => ?_)
    refine Fr.splitD hF ?_ ?_
    · intro h6 hF
      refine l_nil ?_
      refine t_n ?_
      refine c_s ?_
      refine c_t hF rfl ?_
      refine wp_skip ?_
      refine t_n ?_
      refine c_cut (G := PP × Option Addr × Nat) (fun (gq : PP × Option Addr × Nat) => match gq with | ⟨q', A', c'⟩ => []) (fun (gq : PP × Option Addr × Nat) => match gq with | ⟨q', A', c'⟩ => [.res (fun u => ∀ p, p ∈ L ++ [q'] → p.At u), .row 42 2 (.slice A' (k + 1) c') (k + 1) ((L ++ [q']).flatMap encP), .blk b5 68 [.slice A' (k + 1) c', .slice A1 x.chans.length c1, .slice A2 x.slots.length c2]]) (fun (gq : PP × Option Addr × Nat) => match gq with | ⟨q', A', c'⟩ => q'.1 = f k) (Fr.cons hF (t := 0) rfl rfl (Fr.cons hF (t := 1) rfl rfl (Fr.cons hF (t := 2) rfl rfl (Fr.cons hF (t := 4) rfl rfl (Fr.cons hF (t := 5) rfl rfl (Fr.cons hF (t := 16) rfl rfl (Fr.cons hF (t := 17) rfl rfl (Fr.cons hF (t := 18) rfl rfl (Fr.cons hF (t := 19) rfl rfl (Fr.nil hF)))))))))) (((hW.del 0 rfl).del 0 rfl).del 0 rfl) ?_ ?_
      · refine wp_block ?_
        refine c_sr ?_
        refine pv hF hW (y_move hF rfl) (fun a hF => ?_)
        refine pv hF hW (y_indexS hF rfl rfl (by first | omega | decide) Try.underlying64 sz_42 (fun w h => (hx.partsR).wd h)) (fun a hF => ?_)
        refine pv hF hW (y_loadRowW hF rfl (fun w h => (hx.partsR).wd h) (by first | omega | decide) Try.underlying42 rfl sz_42) (fun a hF => ?_)
        refine pe (e_alloc hF hW ze_42 rfl rfl rfl ?_)
        intro b7 a wc hF hW
        refine pv hF hW (y_assign hF rfl) (fun a hF => ?_)
        refine pe (e_storeAll rfl hF hW rfl rfl 0 rfl rfl rfl (by kernel_rfl) sz_42 ?_)
        intro wc hW
        refine l_nil ?_
        replace hF := (hF.k 0 rfl (hF.k 1 rfl (hF.k 2 rfl (hF.k 4 rfl (hF.k 5 rfl (hF.k 6 rfl (hF.k 7 rfl (hF.k 16 rfl (hF.k 17 rfl (hF.k 18 rfl (hF.k 19 rfl hF.nil)))))))))))
        refine t_n ?_
        refine c_sr ?_
        refine pv hF hW (y_move hF rfl) (fun a hF => ?_)
        refine pv hF hW (y_move hF rfl) (fun a hF => ?_)
        refine pv hF hW (y_loadAll hF rfl 0 rfl Try.underlying42 rfl sz_42) (fun a hF => ?_)
        refine pe (e_call hF rfl rfl hen (by rfl) rfl rfl (hg k _ (by omega) hW.below) ?_)
        rintro e w1 ⟨q, rfl, hqf, hb, hr⟩
        replace hW := hW.gotR hb hr
        refine ⟨_, rfl, fun a hF => ?_⟩
        replace hF := Fr.cast (v' := .agg #[.slice q.2.ca q.1.code.length q.2.cc, .slice q.2.ia q.1.inp.length q.2.ic]) rfl hF
        refine pe (e_storeAll rfl hF hW rfl rfl 1 rfl rfl rfl (by kernel_rfl) sz_42 ?_)
        intro wc hW
        refine l_nil ?_
        replace hF := (hF.k 0 rfl (hF.k 1 rfl (hF.k 2 rfl (hF.k 4 rfl (hF.k 5 rfl (hF.k 6 rfl (hF.k 7 rfl (hF.k 16 rfl (hF.k 17 rfl (hF.k 18 rfl (hF.k 19 rfl hF.nil)))))))))))
        refine t_n ?_
        refine c_d mixed_ok hW (((hW.del 3 rfl).del 3 rfl)) ?_
        clear hW; intro wc hW hS
        refine dv 0 rfl hF hS (y_fieldOwn hF rfl fa_68_0) (fun a hF => ?_)
        refine dv 2 rfl hF hS (y_fieldOwn hF rfl fa_42_0) (fun a hF => ?_)
        refine dv 3 rfl hF hS (y_loadOwn hF rfl 1 rfl rfl Try.underlying40 rfl) (fun a hF => ?_)
        refine dv 5 rfl hF hS (y_fieldOwn hF rfl fa_42_1) (fun a hF => ?_)
        refine dv 6 rfl hF hS (y_loadOwn hF rfl 1 rfl rfl Try.underlying22 rfl) (fun a hF => ?_)
        refine d_2 1 4 (by kernel_rfl) ?_ ?_
        · refine d_opval rfl hF rfl hW (y_loadOwn hF rfl 4 rfl rfl Try.underlying64 rfl) rfl rfl (fun a hF => ?_)
          refine ⟨((hW.del 3 rfl).del 3 rfl), ?_⟩
          replace hS := ((hW.del 3 rfl).del 3 rfl)
          refine d_1 4 (by kernel_rfl) ?_
          refine d_op rfl rfl (e_call hF rfl rfl en_87 (by rfl) rfl rfl (clone_instr ((hW.res 0 rfl) hW.below).code (by rw [hqf]; exact (hf k (by omega)).1)) ?_)
          rintro e w1 ⟨A3, c3, rfl, hb, hr⟩
          replace hW := hW.gotR hb hr
          refine ⟨_, rfl, fun a hF => ?_⟩
          refine ⟨(((hW.del 0 rfl).del 3 rfl).del 3 rfl), ?_⟩
          replace hS := (((hW.del 0 rfl).del 3 rfl).del 3 rfl)
          refine d_1 7 (by kernel_rfl) ?_
          refine d_op rfl rfl (e_call hF rfl rfl en_43 (by rfl) rfl rfl (clone_int ((hW.res 1 rfl) hW.below).inp (by rw [hqf]; exact (hf k (by omega)).2)) ?_)
          rintro e w1 ⟨A4, c4, rfl, hb, hr⟩
          replace hW := hW.gotR hb hr
          refine ⟨_, rfl, fun a hF => ?_⟩
          refine ⟨((((hW.del 0 rfl).del 0 rfl).del 3 rfl).del 3 rfl), ?_⟩
          replace hS := ((((hW.del 0 rfl).del 0 rfl).del 3 rfl).del 3 rfl)
          refine dv 8 rfl hF hS (y_build hF rfl (fun w => bu_ConfD_42_0_1 _ _ _ _ _ _ w)) (fun a hF => ?_)
          refine d_1 9 (by kernel_rfl) ?_
          refine d_op rfl rfl (e_buildSlice hF hW rfl (fun w => bs_ConfD_64_1_0 _ _ _ _ _ _ w) rfl rfl rfl ?_)
          intro b8 a wc hF hW
          refine ⟨(((((hW.del 0 rfl).del 0 rfl).del 0 rfl).del 3 rfl).del 3 rfl), ?_⟩
          replace hS := (((((hW.del 0 rfl).del 0 rfl).del 0 rfl).del 3 rfl).del 3 rfl)
          refine d_1 10 (by kernel_rfl) ?_
          refine d_op rfl rfl (e_append hF hW 6 rfl rfl rfl Try.underlying64 inf_42 rfl (by decide) (rowAt_blk (hW.blk 0 rfl) 2 1 rfl) (by simp [Value.oneCell']) (show _ = k + 1 by omega) (show _ = (L ++ [(q.1, PX.mk A3 c3 A4 c4)]).flatMap encP by simp [encP]) (by first | omega | (simp; omega)) (by unfold maxLen; first | omega | (simp; omega)) rfl rfl ?_)
          intro A9 c10 a wc hF hW
          refine ⟨(((((hW.del 0 rfl).del 0 rfl).del 0 rfl).del 3 rfl).del 3 rfl), ?_⟩
          replace hS := (((((hW.del 0 rfl).del 0 rfl).del 0 rfl).del 3 rfl).del 3 rfl)
          refine dv 11 rfl hF hS (y_fieldOwn hF rfl fa_68_0) (fun a hF => ?_)
          refine d_1 12 (by kernel_rfl) ?_
          refine d_op rfl rfl (e_store rfl hF hW rfl rfl 7 rfl rfl rfl sz_64 ?_)
          intro wc hW
          refine ⟨(((((hW.del 0 rfl).del 0 rfl).del 0 rfl).del 3 rfl).del 3 rfl), ?_⟩
          replace hS := (((((hW.del 0 rfl).del 0 rfl).del 0 rfl).del 3 rfl).del 3 rfl)
          clear hS
          refine d_nil (by kernel_rfl) ?_
          replace hF := (hF.k 0 rfl (hF.k 1 rfl (hF.k 2 rfl (hF.k 4 rfl (hF.k 5 rfl (hF.k 6 rfl (hF.k 7 rfl (hF.k 16 rfl (hF.k 17 rfl (hF.k 18 rfl (hF.k 19 rfl hF.nil)))))))))))
          refine b_n ?_
          replace hW := hW.del 0 rfl
          replace hW := hW.del 2 rfl
          replace hW := hW.del 2 rfl
          replace hW := hW.front 8 rfl rfl
          replace hW := hW.front 8 rfl rfl
          replace hW := hW.front 8 rfl rfl
          replace hW := hW.front 8 rfl rfl
          replace hW := hW.front 8 rfl rfl
          replace hW := hW.front 8 rfl rfl
          replace hW := hW.front 8 rfl rfl
          replace hW := hW.front 7 rfl rfl
          replace hW := hW.front 8 rfl rfl
          refine t_n ?_
          refine ⟨((q.1, PX.mk A3 c3 A4 c4), A9, c10), ?_, ?_, ?_⟩
          · exact Fr.app (Fr.nil hF) (Fr.cons hF (t := 0) rfl rfl (Fr.cons hF (t := 1) rfl rfl (Fr.cons hF (t := 2) rfl rfl (Fr.cons hF (t := 4) rfl rfl (Fr.cons hF (t := 5) rfl rfl (Fr.cons hF (t := 16) rfl rfl (Fr.cons hF (t := 17) rfl rfl (Fr.cons hF (t := 18) rfl rfl (Fr.cons hF (t := 19) rfl rfl (Fr.nil hF))))))))))
          · exact hW.res3 fun u h1 h2 h3 p hp => (List.mem_append.1 hp).elim (h3 p) fun h => by rw [List.mem_singleton.1 h]; exact ⟨h1, h2⟩
          · exact hqf
        · refine d_op rfl rfl (e_call hF rfl rfl en_87 (by rfl) rfl rfl (clone_instr ((hW.res 0 rfl) hW.below).code (by rw [hqf]; exact (hf k (by omega)).1)) ?_)
          rintro e w1 ⟨A3, c3, rfl, hb, hr⟩
          replace hW := hW.gotR hb hr
          refine ⟨_, rfl, fun a hF => ?_⟩
          refine ⟨(((hW.del 0 rfl).del 3 rfl).del 3 rfl), ?_⟩
          replace hS := (((hW.del 0 rfl).del 3 rfl).del 3 rfl)
          refine d_2 1 7 (by kernel_rfl) ?_ ?_
          · refine d_opval rfl hF rfl hW (y_loadOwn hF rfl 5 rfl rfl Try.underlying64 rfl) rfl rfl (fun a hF => ?_)
            refine ⟨(((hW.del 0 rfl).del 3 rfl).del 3 rfl), ?_⟩
            replace hS := (((hW.del 0 rfl).del 3 rfl).del 3 rfl)
            refine d_1 7 (by kernel_rfl) ?_
            refine d_op rfl rfl (e_call hF rfl rfl en_43 (by rfl) rfl rfl (clone_int ((hW.res 1 rfl) hW.below).inp (by rw [hqf]; exact (hf k (by omega)).2)) ?_)
            rintro e w1 ⟨A4, c4, rfl, hb, hr⟩
            replace hW := hW.gotR hb hr
            refine ⟨_, rfl, fun a hF => ?_⟩
            refine ⟨((((hW.del 0 rfl).del 0 rfl).del 3 rfl).del 3 rfl), ?_⟩
            replace hS := ((((hW.del 0 rfl).del 0 rfl).del 3 rfl).del 3 rfl)
            refine dv 8 rfl hF hS (y_build hF rfl (fun w => bu_ConfD_42_0_1 _ _ _ _ _ _ w)) (fun a hF => ?_)
            refine d_1 9 (by kernel_rfl) ?_
            refine d_op rfl rfl (e_buildSlice hF hW rfl (fun w => bs_ConfD_64_1_0 _ _ _ _ _ _ w) rfl rfl rfl ?_)
            intro b11 a wc hF hW
            refine ⟨(((((hW.del 0 rfl).del 0 rfl).del 0 rfl).del 3 rfl).del 3 rfl), ?_⟩
            replace hS := (((((hW.del 0 rfl).del 0 rfl).del 0 rfl).del 3 rfl).del 3 rfl)
            refine d_1 10 (by kernel_rfl) ?_
            refine d_op rfl rfl (e_append hF hW 6 rfl rfl rfl Try.underlying64 inf_42 rfl (by decide) (rowAt_blk (hW.blk 0 rfl) 2 1 rfl) (by simp [Value.oneCell']) (show _ = k + 1 by omega) (show _ = (L ++ [(q.1, PX.mk A3 c3 A4 c4)]).flatMap encP by simp [encP]) (by first | omega | (simp; omega)) (by unfold maxLen; first | omega | (simp; omega)) rfl rfl ?_)
            intro A12 c13 a wc hF hW
            refine ⟨(((((hW.del 0 rfl).del 0 rfl).del 0 rfl).del 3 rfl).del 3 rfl), ?_⟩
            replace hS := (((((hW.del 0 rfl).del 0 rfl).del 0 rfl).del 3 rfl).del 3 rfl)
            refine dv 11 rfl hF hS (y_fieldOwn hF rfl fa_68_0) (fun a hF => ?_)
            refine d_1 12 (by kernel_rfl) ?_
            refine d_op rfl rfl (e_store rfl hF hW rfl rfl 7 rfl rfl rfl sz_64 ?_)
            intro wc hW
            refine ⟨(((((hW.del 0 rfl).del 0 rfl).del 0 rfl).del 3 rfl).del 3 rfl), ?_⟩
            replace hS := (((((hW.del 0 rfl).del 0 rfl).del 0 rfl).del 3 rfl).del 3 rfl)
            clear hS
            refine d_nil (by kernel_rfl) ?_
            replace hF := (hF.k 0 rfl (hF.k 1 rfl (hF.k 2 rfl (hF.k 4 rfl (hF.k 5 rfl (hF.k 6 rfl (hF.k 7 rfl (hF.k 16 rfl (hF.k 17 rfl (hF.k 18 rfl (hF.k 19 rfl hF.nil)))))))))))
            refine b_n ?_
            replace hW := hW.del 0 rfl
            replace hW := hW.del 2 rfl
            replace hW := hW.del 2 rfl
            replace hW := hW.front 8 rfl rfl
            replace hW := hW.front 8 rfl rfl
            replace hW := hW.front 8 rfl rfl
            replace hW := hW.front 8 rfl rfl
            replace hW := hW.front 8 rfl rfl
            replace hW := hW.front 8 rfl rfl
            replace hW := hW.front 8 rfl rfl
            replace hW := hW.front 7 rfl rfl
            replace hW := hW.front 8 rfl rfl
            refine t_n ?_
            refine ⟨((q.1, PX.mk A3 c3 A4 c4), A12, c13), ?_, ?_, ?_⟩
            · exact Fr.app (Fr.nil hF) (Fr.cons hF (t := 0) rfl rfl (Fr.cons hF (t := 1) rfl rfl (Fr.cons hF (t := 2) rfl rfl (Fr.cons hF (t := 4) rfl rfl (Fr.cons hF (t := 5) rfl rfl (Fr.cons hF (t := 16) rfl rfl (Fr.cons hF (t := 17) rfl rfl (Fr.cons hF (t := 18) rfl rfl (Fr.cons hF (t := 19) rfl rfl (Fr.nil hF))))))))))
            · exact hW.res3 fun u h1 h2 h3 p hp => (List.mem_append.1 hp).elim (h3 p) fun h => by rw [List.mem_singleton.1 h]; exact ⟨h1, h2⟩
            · exact hqf
          · refine d_op rfl rfl (e_call hF rfl rfl en_43 (by rfl) rfl rfl (clone_int ((hW.res 1 rfl) hW.below).inp (by rw [hqf]; exact (hf k (by omega)).2)) ?_)
            rintro e w1 ⟨A4, c4, rfl, hb, hr⟩
            replace hW := hW.gotR hb hr
            refine ⟨_, rfl, fun a hF => ?_⟩
            refine ⟨((((hW.del 0 rfl).del 0 rfl).del 3 rfl).del 3 rfl), ?_⟩
            replace hS := ((((hW.del 0 rfl).del 0 rfl).del 3 rfl).del 3 rfl)
            refine dv 8 rfl hF hS (y_build hF rfl (fun w => bu_ConfD_42_0_1 _ _ _ _ _ _ w)) (fun a hF => ?_)
            refine d_2 1 9 (by kernel_rfl) ?_ ?_
            · refine d_opval rfl hF rfl hW (y_loadOwn hF rfl 6 rfl rfl Try.underlying64 rfl) rfl rfl (fun a hF => ?_)
              refine ⟨((((hW.del 0 rfl).del 0 rfl).del 3 rfl).del 3 rfl), ?_⟩
              replace hS := ((((hW.del 0 rfl).del 0 rfl).del 3 rfl).del 3 rfl)
              refine d_1 9 (by kernel_rfl) ?_
              refine d_op rfl rfl (e_buildSlice hF hW rfl (fun w => bs_ConfD_64_1_0 _ _ _ _ _ _ w) rfl rfl rfl ?_)
              intro b14 a wc hF hW
              refine ⟨(((((hW.del 0 rfl).del 0 rfl).del 0 rfl).del 3 rfl).del 3 rfl), ?_⟩
              replace hS := (((((hW.del 0 rfl).del 0 rfl).del 0 rfl).del 3 rfl).del 3 rfl)
              refine d_1 10 (by kernel_rfl) ?_
              refine d_op rfl rfl (e_append hF hW 6 rfl rfl rfl Try.underlying64 inf_42 rfl (by decide) (rowAt_blk (hW.blk 0 rfl) 2 1 rfl) (by simp [Value.oneCell']) (show _ = k + 1 by omega) (show _ = (L ++ [(q.1, PX.mk A3 c3 A4 c4)]).flatMap encP by simp [encP]) (by first | omega | (simp; omega)) (by unfold maxLen; first | omega | (simp; omega)) rfl rfl ?_)
              intro A15 c16 a wc hF hW
              refine ⟨(((((hW.del 0 rfl).del 0 rfl).del 0 rfl).del 3 rfl).del 3 rfl), ?_⟩
              replace hS := (((((hW.del 0 rfl).del 0 rfl).del 0 rfl).del 3 rfl).del 3 rfl)
              refine dv 11 rfl hF hS (y_fieldOwn hF rfl fa_68_0) (fun a hF => ?_)
              refine d_1 12 (by kernel_rfl) ?_
              refine d_op rfl rfl (e_store rfl hF hW rfl rfl 7 rfl rfl rfl sz_64 ?_)
              intro wc hW
              refine ⟨(((((hW.del 0 rfl).del 0 rfl).del 0 rfl).del 3 rfl).del 3 rfl), ?_⟩
              replace hS := (((((hW.del 0 rfl).del 0 rfl).del 0 rfl).del 3 rfl).del 3 rfl)
              clear hS
              refine d_nil (by kernel_rfl) ?_
              replace hF := (hF.k 0 rfl (hF.k 1 rfl (hF.k 2 rfl (hF.k 4 rfl (hF.k 5 rfl (hF.k 6 rfl (hF.k 7 rfl (hF.k 16 rfl (hF.k 17 rfl (hF.k 18 rfl (hF.k 19 rfl hF.nil)))))))))))
              refine b_n ?_
              replace hW := hW.del 0 rfl
              replace hW := hW.del 2 rfl
              replace hW := hW.del 2 rfl
              replace hW := hW.front 8 rfl rfl
              replace hW := hW.front 8 rfl rfl
              replace hW := hW.front 8 rfl rfl
              replace hW := hW.front 8 rfl rfl
              replace hW := hW.front 8 rfl rfl
              replace hW := hW.front 8 rfl rfl
              replace hW := hW.front 8 rfl rfl
              replace hW := hW.front 7 rfl rfl
              replace hW := hW.front 8 rfl rfl
              refine t_n ?_
              refine ⟨((q.1, PX.mk A3 c3 A4 c4), A15, c16), ?_, ?_, ?_⟩
              · exact Fr.app (Fr.nil hF) (Fr.cons hF (t := 0) rfl rfl (Fr.cons hF (t := 1) rfl rfl (Fr.cons hF (t := 2) rfl rfl (Fr.cons hF (t := 4) rfl rfl (Fr.cons hF (t := 5) rfl rfl (Fr.cons hF (t := 16) rfl rfl (Fr.cons hF (t := 17) rfl rfl (Fr.cons hF (t := 18) rfl rfl (Fr.cons hF (t := 19) rfl rfl (Fr.nil hF))))))))))
              · exact hW.res3 fun u h1 h2 h3 p hp => (List.mem_append.1 hp).elim (h3 p) fun h => by rw [List.mem_singleton.1 h]; exact ⟨h1, h2⟩
              · exact hqf
            · refine d_op rfl rfl (e_buildSlice hF hW rfl (fun w => bs_ConfD_64_1_0 _ _ _ _ _ _ w) rfl rfl rfl ?_)
              intro b17 a wc hF hW
              refine ⟨(((((hW.del 0 rfl).del 0 rfl).del 0 rfl).del 3 rfl).del 3 rfl), ?_⟩
              replace hS := (((((hW.del 0 rfl).del 0 rfl).del 0 rfl).del 3 rfl).del 3 rfl)
              refine d_1 1 (by kernel_rfl) ?_
              refine d_opval rfl hF rfl hW (y_loadOwn hF rfl 7 rfl rfl Try.underlying64 rfl) rfl rfl (fun a hF => ?_)
              refine ⟨(((((hW.del 0 rfl).del 0 rfl).del 0 rfl).del 3 rfl).del 3 rfl), ?_⟩
              replace hS := (((((hW.del 0 rfl).del 0 rfl).del 0 rfl).del 3 rfl).del 3 rfl)
              refine d_1 10 (by kernel_rfl) ?_
              refine d_op rfl rfl (e_append hF hW 6 rfl rfl rfl Try.underlying64 inf_42 rfl (by decide) (rowAt_blk (hW.blk 0 rfl) 2 1 rfl) (by simp [Value.oneCell']) (show _ = k + 1 by omega) (show _ = (L ++ [(q.1, PX.mk A3 c3 A4 c4)]).flatMap encP by simp [encP]) (by first | omega | (simp; omega)) (by unfold maxLen; first | omega | (simp; omega)) rfl rfl ?_)
              intro A18 c19 a wc hF hW
              refine ⟨(((((hW.del 0 rfl).del 0 rfl).del 0 rfl).del 3 rfl).del 3 rfl), ?_⟩
              replace hS := (((((hW.del 0 rfl).del 0 rfl).del 0 rfl).del 3 rfl).del 3 rfl)
              refine dv 11 rfl hF hS (y_fieldOwn hF rfl fa_68_0) (fun a hF => ?_)
              refine d_1 12 (by kernel_rfl) ?_
              refine d_op rfl rfl (e_store rfl hF hW rfl rfl 7 rfl rfl rfl sz_64 ?_)
              intro wc hW
              refine ⟨(((((hW.del 0 rfl).del 0 rfl).del 0 rfl).del 3 rfl).del 3 rfl), ?_⟩
              replace hS := (((((hW.del 0 rfl).del 0 rfl).del 0 rfl).del 3 rfl).del 3 rfl)
              clear hS
              refine d_nil (by kernel_rfl) ?_
              replace hF := (hF.k 0 rfl (hF.k 1 rfl (hF.k 2 rfl (hF.k 4 rfl (hF.k 5 rfl (hF.k 6 rfl (hF.k 7 rfl (hF.k 16 rfl (hF.k 17 rfl (hF.k 18 rfl (hF.k 19 rfl hF.nil)))))))))))
              refine b_n ?_
              replace hW := hW.del 0 rfl
              replace hW := hW.del 2 rfl
              replace hW := hW.del 2 rfl
              replace hW := hW.front 8 rfl rfl
              replace hW := hW.front 8 rfl rfl
              replace hW := hW.front 8 rfl rfl
              replace hW := hW.front 8 rfl rfl
              replace hW := hW.front 8 rfl rfl
              replace hW := hW.front 8 rfl rfl
              replace hW := hW.front 8 rfl rfl
              replace hW := hW.front 7 rfl rfl
              replace hW := hW.front 8 rfl rfl
              refine t_n ?_
              refine ⟨((q.1, PX.mk A3 c3 A4 c4), A18, c19), ?_, ?_, ?_⟩
              · exact Fr.app (Fr.nil hF) (Fr.cons hF (t := 0) rfl rfl (Fr.cons hF (t := 1) rfl rfl (Fr.cons hF (t := 2) rfl rfl (Fr.cons hF (t := 4) rfl rfl (Fr.cons hF (t := 5) rfl rfl (Fr.cons hF (t := 16) rfl rfl (Fr.cons hF (t := 17) rfl rfl (Fr.cons hF (t := 18) rfl rfl (Fr.cons hF (t := 19) rfl rfl (Fr.nil hF))))))))))
              · exact hW.res3 fun u h1 h2 h3 p hp => (List.mem_append.1 hp).elim (h3 p) fun h => by rw [List.mem_singleton.1 h]; exact ⟨h1, h2⟩
              · exact hqf
      · clear hF hW
        try clear a
        intro gq a wc hC hF hW
        obtain ⟨q', A', c'⟩ := gq
        dsimp only at hC
        have hq1 := hC
        refine c_r ?_
        refine pv hF hW (y_add hF rfl rfl (IntWalk.i64_in _ (by omega))) (fun a hF => ?_)
        replace hF := hF.drop 18
        refine pv hF hW (y_move hF rfl) (fun a hF => ?_)
        refine l_nil ?_
        replace hF := (hF.k 0 rfl (hF.k 1 rfl (hF.k 2 rfl (hF.k 4 rfl (hF.k 5 rfl (hF.k 16 rfl (hF.k 17 rfl (hF.k 18 rfl (hF.k 19 rfl hF.nil)))))))))
        refine t_n ?_
        refine ⟨(k + 1, L ++ [q'], A', c'), ?_, ?_, ?_, ?_⟩
        · exact ⟨by simp [hL], by omega, fun i hi => by rcases Nat.lt_or_ge i k with h | h; rw [getD_app_l (by omega)]; exact hq i h; (have hik : i = k := by omega); rw [hik, ← hL, getD_app_r, hq1, hL]⟩
        · first | omega | (dsimp only; omega)
        · exact Fr.app (Fr.cons hF (t := 18) rfl (by first | rfl | (simp; done) | omega) (Fr.nil hF)) (Fr.cons hF (t := 0) rfl rfl (Fr.cons hF (t := 1) rfl rfl (Fr.cons hF (t := 2) rfl rfl (Fr.cons hF (t := 4) rfl rfl (Fr.cons hF (t := 5) rfl rfl (Fr.cons hF (t := 16) rfl rfl (Fr.cons hF (t := 17) rfl rfl (Fr.nil hF))))))))
        · exact hW
    · intro h6 hF
      refine l_nil ?_
      refine t_n ?_
      refine c_s ?_
      refine c_f hF rfl ?_
      refine wp_exit ?_
      refine t_x ?_
      refine t_x ?_
      refine b_h ?_
      refine t_n ?_
      refine c_sr ?_
      refine pv hF hW (y_loadAll hF rfl 2 rfl Try.underlying68 rfl sz_68) (fun a hF => ?_)
      refine pe (e_storeAll rfl hF hW rfl rfl 5 rfl rfl rfl (by kernel_rfl) sz_68 ?_)
      intro wc hW
      refine l_nil ?_
      replace hF := (hF.k 0 rfl (hF.k 1 rfl (hF.k 2 rfl (hF.k 4 rfl (hF.k 5 rfl (hF.k 16 rfl (hF.k 17 rfl (hF.k 18 rfl (hF.k 19 rfl hF.nil)))))))))
      refine t_n ?_
      refine wp_ret ?_
      refine ret1 Try.results57 hF (rv_c hF rfl hW 5 rfl Try.underlying68 rfl sz_68) ?_
      replace hW := hW.del 2 rfl
      replace hW := hW.del 4 rfl
      replace hW := hW.del 4 rfl
      replace hW := hW.front 3 rfl rfl
      replace hW := hW.front 3 rfl rfl
      replace hW := hW.front 2 rfl rfl
      replace hW := hW.front 3 rfl rfl
      obtain rfl : k = x.parts.length := (by omega)
      have e : L.map Prod.fst = (List.range x.parts.length).map f := list_eq_getD P0.1 (by simp [hL]) fun i hi => (by rw [getD_map, hq i (by simpa [hL] using hi)]; simp only [List.length_map, hL] at hi; simp [List.getD, hi])
      have hWL : L.length = x.parts.length := hL
      refine ⟨⟨L, A, c, x.chans, A1, c1, x.slots, A2, c2⟩, by simp only [SysD.val, hL], by simp only [SysD.sys, e], hW.below, ?_⟩
      refine (Wd.res_res (((hW.row1 fun u h1 h2 => (⟨h1, h2⟩ : _ ∧ _)).res3 fun u h1 h2 h3 => ?_)) 0 rfl)
      exact ⟨by rw [hL]; exact Flat.of_own h1.1 hL.symm, h1.2, h2, h3⟩
end Go.Proofs.Ytebklpbbglojmaa
