/- cert.Check: what its OK says. -/
import Derived.Test.YtlkkdpoioedacaaCertA
import Derived.Test.YtlkkdpoioedacaaConfD1
namespace Go.Proofs.Ytlkkdpoioedacaa
set_option linter.unusedVariables false
set_option linter.unusedSimpArgs false
open Go.ChangeShapes Go.WideShapes Go.ChangeAt Go.RowKit

set_option maxRecDepth 100000

def E0 : Edg := ⟨0, 0⟩
theorem Edg.cells_len (e : Edg) : e.cells.length = 2 := rfl
/-- a policy's edges, where they lie -/
def May_ (w : World) (A : Option Addr) (c : Nat) (l : List Edg) : Prop := Flat Edg.cells 2 w (.slice A l.length c) l
set_option maxHeartbeats 4000000 in
theorem certCheck_any {x : SysD} {w : World} (hx : x.At w) {l : List Edg} {A : Option Addr} {c : Nat} (hm : May_ w A c l) (hlm : l.length ≤ maxLen) :
    Calls Try.prog 28 #[x.val, .agg #[.slice A l.length c]] w fun e w' => (∃ E, e = .returned (.int .i64 E) ∧ (E = 0 → chkSys x.sys = 0)) ∧ Below w.heap.size w w' := by
  have hck := fun w1 (hb : Below w.heap.size w w1) => confCheck_any (hx.below hb)
  have hth := fun w1 (hb : Below w.heap.size w w1) (p : Int) => confThere_any (hx.below hb) p
  have hM : RF w A l.length 2 (fun k => Edg.cells (l.getD k E0)) := Flat.rf Edg.cells_len E0 hm
  unfold maxLen at hlm
  rw [x.val_eq] at *
  refine enter Try.func28 rfl Try.ntmps28 rfl fun a hF => ?_
  have hW := Wd.start w NoB
  refine c_sr ?_; refine pe (e_box hF hW rfl rfl rfl rfl ?_); intro b1 a wc hF hW; refine pe (e_box hF hW rfl rfl rfl rfl ?_); intro b2 a wc hF hW; refine pv hF hW (y_assign hF rfl) fun a hF => l_nil <| t_n <| c_s <| c_sr <| pv hF hW (y_loadAll hF rfl 1 rfl Try.underlying26 rfl sz_26) fun a hF => ?_; refine pe (e_call hF rfl rfl en_45 (by rfl) rfl rfl (hck _ hW.below) ?_); rintro e w1 ⟨rfl, hb⟩; replace hW := hW.kept hb; clear hb; refine ⟨_, rfl, fun a hF => ?_⟩; refine pv hF hW (y_assign hF rfl) fun a hF => l_nil ?_; replace hF := hF.ks [0, 1, 2, 3, 4, 5] rfl; refine t_n <| c_sr <| pv hF hW (y_move hF rfl) fun a hF => pv hF hW (y_neq hF rfl rfl) fun a hF => ?_; refine Fr.splitD hF ?_ ?_
  · intro h3 hF; refine l_nil ?_; replace hF := hF.ks [0, 1, 2, 3, 4, 5, 11] rfl; refine t_n <| c_t hF rfl <| c_sr <| pv hF hW (y_move hF rfl) fun a hF => ?_; replace hF := hF.drop 4; refine pv hF hW (y_assign hF rfl) fun a hF => l_nil ?_; replace hF := hF.ks [0, 1, 2, 3, 4, 5, 11] rfl; refine t_n <| wp_ret <| t_r <| ret1 Try.results28 hF (rv_t hF rfl) ?_
    first
    | exact ⟨⟨1, rfl, fun h => by omega⟩, hW.below⟩
    | exact ⟨⟨0, rfl, fun _ => by omega⟩, hW.below⟩
    | exact ⟨⟨_, rfl, fun h => by omega⟩, hW.below⟩
  · intro h3 hF; refine l_nil ?_; replace hF := hF.ks [0, 1, 2, 3, 4, 5, 11] rfl; refine t_n <| c_f hF rfl <| wp_skip <| t_n <| c_s <| c_sr <| pv hF hW (y_fieldOwn hF rfl fa_52_0) fun a hF => pv hF hW (y_loadOwn hF rfl 0 rfl rfl Try.underlying27 rfl) fun a hF => pv hF hW (y_len hF rfl Try.underlying27) fun a hF => pv hF hW (y_move hF rfl) fun a hF => l_nil ?_; replace hF := hF.ks [0, 1, 2, 3, 4, 5, 11, 14, 15, 16] rfl; refine t_n <| wp_block ?_; refine c_loop (G := Nat) (fun k : Nat => [(16, .int .i64 (k : Int))]) (fun k : Nat => []) (fun k : Nat => k ≤ l.length) (fun k : Nat => l.length - k) 0 (hF.ks [0, 1, 2, 3, 5, 11, 14, 15] rfl) (Fr.cons hF (t := 16) rfl (by first | rfl | (simp; done)) (Fr.nil hF)) (hW) ?_ ?_
    · omega
    clear hF hW
    try clear a
    intro k a wc hC hF hW
    have hkl := hC
    refine c_sr <| pv hF hW (y_lss hF rfl rfl) fun a hF => ?_; refine Fr.splitD hF ?_ ?_
    · intro h4 hF; refine l_nil <| t_n <| c_s <| c_t hF rfl <| wp_skip <| t_n <| c_s <| wp_block ?_
      obtain ⟨z, hz⟩ : ∃ q, l.getD k E0 = q := ⟨_, rfl⟩
      obtain ⟨fr, tt⟩ := z
      refine c_sr <| pv hF hW (y_move hF rfl) fun a hF => pv hF hW (y_indexS hF rfl rfl (by first | omega | decide) Try.underlying27 sz_37 (fun w h => (hM).wd h)) fun a hF => pv hF hW (y_loadRowW hF rfl (fun w h => (hM).wd h) (by first | omega | decide) Try.underlying37 rfl (by rw [hz]; exact sz_37)) fun a hF => ?_; replace hF := Fr.cast (v' := .agg #[.int .i64 fr, .int .i64 tt]) (by rw [hz]; rfl) hF; refine pe (e_alloc hF hW ze_37 rfl rfl rfl ?_); intro b5 a wc hF hW; refine pv hF hW (y_assign hF rfl) fun a hF => ?_; refine pe (e_storeAll rfl hF hW rfl rfl 0 rfl rfl rfl (by kernel_rfl) sz_37 ?_); intro wc hW; refine l_nil ?_; replace hF := hF.ks [0, 1, 2, 3, 5, 6, 7, 11, 14, 15, 16, 17] rfl; refine t_n <| c_sd mixed_ok hW (hW) ?_
      clear hW; intro wc hW hS
      refine dv 0 rfl hF hS (y_loadAll hF rfl 2 rfl Try.underlying26 rfl sz_26) fun a hF => dv 1 rfl hF hS (y_fieldOwn hF rfl fa_37_0) fun a hF => dv 2 rfl hF hS (y_loadOwn hF rfl 0 rfl rfl Try.underlying3 rfl) fun a hF => d_1 3 (by kernel_rfl) ?_; refine d_op rfl rfl (e_call hF rfl rfl en_53 (by rfl) rfl rfl (hth _ hW.below fr) ?_); rintro e w1 ⟨rfl, hb⟩; replace hW := hW.kept hb; clear hb; refine ⟨_, rfl, fun a hF => ?_⟩; replace hS := hW; refine ⟨hS, ?_⟩; refine dv 4 rfl hF hS (y_neq hF rfl rfl) fun a hF => ?_; refine Fr.splitD hF ?_ ?_
      · intro h6 hF; refine dv 5 rfl hF hS (y_move hF rfl) fun a hF => dk 6 rfl hF (wn hF rfl rfl rfl) hS fun a hF => dk 7 rfl hF (wn hF rfl rfl rfl) hS fun a hF => dk 8 rfl hF (wn hF rfl rfl rfl) hS fun a hF => dk 9 rfl hF (wn hF rfl rfl rfl) hS fun a hF => dk 10 rfl hF (wn hF rfl rfl rfl) hS fun a hF => dv 11 rfl hF hS (y_pick hF rfl rfl) fun a hF => dv 12 rfl hF hS (y_move hF rfl) fun a hF => dk 13 rfl hF (wn hF rfl rfl rfl) hS fun a hF => dk 14 rfl hF (wn hF rfl rfl rfl) hS fun a hF => dk 15 rfl hF (wn hF rfl rfl rfl) hS fun a hF => dk 16 rfl hF (wn hF rfl rfl rfl) hS fun a hF => dk 17 rfl hF (wn hF rfl rfl rfl) hS fun a hF => dv 18 rfl hF hS (y_pick hF rfl rfl) fun a hF => dv 19 rfl hF hS (y_move hF rfl) fun a hF => dk 20 rfl hF (wn hF rfl rfl rfl) hS fun a hF => dk 21 rfl hF (wn hF rfl rfl rfl) hS fun a hF => dk 22 rfl hF (wn hF rfl rfl rfl) hS fun a hF => dk 23 rfl hF (wu hF rfl rfl) hS fun a hF => dk 24 rfl hF (wu hF rfl rfl) hS fun a hF => dk 25 rfl hF (wu hF rfl rfl) hS fun a hF => dk 26 rfl hF (wu hF rfl rfl) hS fun a hF => dk 27 rfl hF (wu hF rfl rfl) hS fun a hF => dk 28 rfl hF (wu hF rfl rfl) hS fun a hF => dk 29 rfl hF (wu hF rfl rfl) hS fun a hF => dk 30 rfl hF (wu hF rfl rfl) hS fun a hF => dk 31 rfl hF (wu hF rfl rfl) hS fun a hF => dk 32 rfl hF (wn hF rfl rfl rfl) hS fun a hF => dv 33 rfl hF hS (y_pick hF rfl rfl) fun a hF => ?_; clear hS; refine d_nil (by kernel_rfl) ?_; replace hF := hF.ks [0, 1, 2, 3, 5, 6, 7, 11, 14, 15, 16, 17, 54] rfl; refine t_n <| c_t hF rfl <| c_sr <| pv hF hW (y_assign hF rfl) fun a hF => l_nil <| t_n <| wp_ret <| b_r <| t_r <| t_r <| b_r <| t_r <| ret1 Try.results28 hF (rv_t hF rfl) ?_
        first
        | exact ⟨⟨1, rfl, fun h => by omega⟩, hW.below⟩
        | exact ⟨⟨0, rfl, fun _ => by omega⟩, hW.below⟩
        | exact ⟨⟨_, rfl, fun h => by omega⟩, hW.below⟩
      · intro h6 hF; refine dv 5 rfl hF hS (y_move hF rfl) fun a hF => dvg 6 rfl hF hS (y_loadAll hF rfl 2 rfl Try.underlying26 rfl sz_26) (ws hF rfl rfl) fun a hF => dvg 7 rfl hF hS (y_fieldOwn hF rfl fa_37_1) (ws hF rfl rfl) fun a hF => dvg 8 rfl hF hS (y_loadOwn hF rfl 0 rfl rfl Try.underlying3 rfl) (ws hF rfl rfl) fun a hF => d_1 9 (by kernel_rfl) ?_; refine d_op rfl (ws hF rfl rfl) (e_call hF rfl rfl en_53 (by rfl) rfl rfl (hth _ hW.below tt) ?_); rintro e w1 ⟨rfl, hb⟩; replace hW := hW.kept hb; clear hb; refine ⟨_, rfl, fun a hF => ?_⟩; replace hS := hW; refine ⟨hS, ?_⟩; refine dvg 10 rfl hF hS (y_neq hF rfl rfl) (ws hF rfl rfl) fun a hF => ?_; refine Fr.splitD hF ?_ ?_
        · intro h7 hF; refine dv 11 rfl hF hS (y_pick hF rfl rfl) fun a hF => dv 12 rfl hF hS (y_move hF rfl) fun a hF => dk 13 rfl hF (wn hF rfl rfl rfl) hS fun a hF => dk 14 rfl hF (wn hF rfl rfl rfl) hS fun a hF => dk 15 rfl hF (wn hF rfl rfl rfl) hS fun a hF => dk 16 rfl hF (wn hF rfl rfl rfl) hS fun a hF => dk 17 rfl hF (wn hF rfl rfl rfl) hS fun a hF => dv 18 rfl hF hS (y_pick hF rfl rfl) fun a hF => dv 19 rfl hF hS (y_move hF rfl) fun a hF => dk 20 rfl hF (wn hF rfl rfl rfl) hS fun a hF => dk 21 rfl hF (wn hF rfl rfl rfl) hS fun a hF => dk 22 rfl hF (wn hF rfl rfl rfl) hS fun a hF => dk 23 rfl hF (wu hF rfl rfl) hS fun a hF => dk 24 rfl hF (wu hF rfl rfl) hS fun a hF => dk 25 rfl hF (wu hF rfl rfl) hS fun a hF => dk 26 rfl hF (wu hF rfl rfl) hS fun a hF => dk 27 rfl hF (wu hF rfl rfl) hS fun a hF => dk 28 rfl hF (wu hF rfl rfl) hS fun a hF => dk 29 rfl hF (wu hF rfl rfl) hS fun a hF => dk 30 rfl hF (wu hF rfl rfl) hS fun a hF => dk 31 rfl hF (wu hF rfl rfl) hS fun a hF => dk 32 rfl hF (wn hF rfl rfl rfl) hS fun a hF => dv 33 rfl hF hS (y_pick hF rfl rfl) fun a hF => ?_; clear hS; refine d_nil (by kernel_rfl) ?_; replace hF := hF.ks [0, 1, 2, 3, 5, 6, 7, 11, 14, 15, 16, 17, 54] rfl; refine t_n <| c_t hF rfl <| c_sr <| pv hF hW (y_assign hF rfl) fun a hF => l_nil <| t_n <| wp_ret <| b_r <| t_r <| t_r <| b_r <| t_r <| ret1 Try.results28 hF (rv_t hF rfl) ?_
          first
          | exact ⟨⟨1, rfl, fun h => by omega⟩, hW.below⟩
          | exact ⟨⟨0, rfl, fun _ => by omega⟩, hW.below⟩
          | exact ⟨⟨_, rfl, fun h => by omega⟩, hW.below⟩
        · intro h7 hF; refine dv 11 rfl hF hS (y_pick hF rfl rfl) fun a hF => dv 12 rfl hF hS (y_move hF rfl) fun a hF => dvg 13 rfl hF hS (y_fieldOwn hF rfl fa_37_0) (ws hF rfl rfl) fun a hF => dvg 14 rfl hF hS (y_loadOwn hF rfl 0 rfl rfl Try.underlying3 rfl) (ws hF rfl rfl) fun a hF => dvg 15 rfl hF hS (y_fieldOwn hF rfl fa_37_1) (ws hF rfl rfl) fun a hF => dvg 16 rfl hF hS (y_loadOwn hF rfl 0 rfl rfl Try.underlying3 rfl) (ws hF rfl rfl) fun a hF => dvg 17 rfl hF hS (y_eql hF rfl rfl) (ws hF rfl rfl) fun a hF => ?_; refine Fr.splitD hF ?_ ?_
          · intro h8 hF; refine dv 18 rfl hF hS (y_pick hF rfl rfl) fun a hF => dv 19 rfl hF hS (y_move hF rfl) fun a hF => dk 20 rfl hF (wn hF rfl rfl rfl) hS fun a hF => dk 21 rfl hF (wn hF rfl rfl rfl) hS fun a hF => dk 22 rfl hF (wn hF rfl rfl rfl) hS fun a hF => dk 23 rfl hF (wu hF rfl rfl) hS fun a hF => dk 24 rfl hF (wu hF rfl rfl) hS fun a hF => dk 25 rfl hF (wu hF rfl rfl) hS fun a hF => dk 26 rfl hF (wu hF rfl rfl) hS fun a hF => dk 27 rfl hF (wu hF rfl rfl) hS fun a hF => dk 28 rfl hF (wu hF rfl rfl) hS fun a hF => dk 29 rfl hF (wu hF rfl rfl) hS fun a hF => dk 30 rfl hF (wu hF rfl rfl) hS fun a hF => dk 31 rfl hF (wu hF rfl rfl) hS fun a hF => dk 32 rfl hF (wn hF rfl rfl rfl) hS fun a hF => dv 33 rfl hF hS (y_pick hF rfl rfl) fun a hF => ?_; clear hS; refine d_nil (by kernel_rfl) ?_; replace hF := hF.ks [0, 1, 2, 3, 5, 6, 7, 11, 14, 15, 16, 17, 54] rfl; refine t_n <| c_t hF rfl <| c_sr <| pv hF hW (y_assign hF rfl) fun a hF => l_nil <| t_n <| wp_ret <| b_r <| t_r <| t_r <| b_r <| t_r <| ret1 Try.results28 hF (rv_t hF rfl) ?_
            first
            | exact ⟨⟨1, rfl, fun h => by omega⟩, hW.below⟩
            | exact ⟨⟨0, rfl, fun _ => by omega⟩, hW.below⟩
            | exact ⟨⟨_, rfl, fun h => by omega⟩, hW.below⟩
          · intro h8 hF; refine dv 18 rfl hF hS (y_pick hF rfl rfl) fun a hF => dv 19 rfl hF hS (y_move hF rfl) fun a hF => dvg 20 rfl hF hS (y_move hF rfl) (ws hF rfl rfl) fun a hF => dvg 21 rfl hF hS (y_gtr hF rfl rfl) (ws hF rfl rfl) fun a hF => ?_; refine Fr.splitD hF ?_ ?_
            · intro h9 hF; refine dvg 22 rfl hF hS (y_move hF rfl) (ws hF rfl rfl) fun a hF => dvg 23 rfl hF hS (y_fieldOwn hF rfl fa_52_0) (ws hF rfl rfl) fun a hF => dvg 24 rfl hF hS (y_loadOwn hF rfl 1 rfl rfl Try.underlying27 rfl) (ws hF rfl rfl) fun a hF => dvg 25 rfl hF hS (y_move hF rfl) (ws hF rfl rfl) fun a hF => dvg 26 rfl hF hS (y_sub hF rfl rfl (IntWalk.i64_in _ (by omega))) (ws hF rfl rfl) fun a hF => ?_; replace hF := Fr.cast (v' := .int .i64 ((k - 1 : Nat) : Int)) (by congr 1; omega) hF; refine dvg 27 rfl hF hS (y_indexS hF rfl rfl (by first | omega | decide) Try.underlying27 sz_37 (fun w h => (hM).wd h)) (ws hF rfl rfl) fun a hF => dvg 28 rfl hF hS (y_loadRowW hF rfl (fun w h => (hM).wd h) (by first | omega | decide) Try.underlying37 rfl sz_37) (ws hF rfl rfl) fun a hF => dvg 29 rfl hF hS (y_loadAll hF rfl 0 rfl Try.underlying37 rfl sz_37) (ws hF rfl rfl) fun a hF => d_1 30 (by kernel_rfl) ?_; refine d_op rfl (ws hF rfl rfl) (e_call hF rfl rfl en_61 (by rfl) rfl rfl (order_any (l.getD (k - 1) E0) ⟨fr, tt⟩ _) ?_); rintro e w1 ⟨rfl, hb⟩; replace hW := hW.kept hb; clear hb; refine ⟨_, rfl, fun a hF => ?_⟩; replace hS := hW; refine ⟨hS, ?_⟩; refine dvg 31 rfl hF hS (y_geq hF rfl rfl) (ws hF rfl rfl) fun a hF => ?_; refine Fr.splitD hF ?_ ?_
              · intro h10 hF; refine dvg 32 rfl hF hS (y_pick hF rfl rfl) (ws hF rfl rfl) fun a hF => dv 33 rfl hF hS (y_pick hF rfl rfl) fun a hF => ?_; clear hS; refine d_nil (by kernel_rfl) ?_; replace hF := hF.ks [0, 1, 2, 3, 5, 6, 7, 11, 14, 15, 16, 17, 54] rfl; refine t_n <| c_t hF rfl <| c_sr <| pv hF hW (y_assign hF rfl) fun a hF => l_nil <| t_n <| wp_ret <| b_r <| t_r <| t_r <| b_r <| t_r <| ret1 Try.results28 hF (rv_t hF rfl) ?_
                first
                | exact ⟨⟨1, rfl, fun h => by omega⟩, hW.below⟩
                | exact ⟨⟨0, rfl, fun _ => by omega⟩, hW.below⟩
                | exact ⟨⟨_, rfl, fun h => by omega⟩, hW.below⟩
              · intro h10 hF; refine dvg 32 rfl hF hS (y_pick hF rfl rfl) (ws hF rfl rfl) fun a hF => dv 33 rfl hF hS (y_pick hF rfl rfl) fun a hF => ?_; clear hS; refine d_nil (by kernel_rfl) ?_; replace hF := hF.ks [0, 1, 2, 3, 5, 6, 7, 11, 14, 15, 16, 17, 54] rfl; refine t_n <| c_f hF rfl <| wp_skip <| b_n <| t_n <| c_r <| pv hF hW (y_add hF rfl rfl (IntWalk.i64_in _ (by omega))) fun a hF => ?_; replace hF := hF.drop 16; refine pv hF hW (y_move hF rfl) fun a hF => l_nil ?_; replace hF := hF.ks [0, 1, 2, 3, 5, 6, 7, 11, 14, 15, 16, 17, 54] rfl; replace hW := hW.del 0 rfl; refine t_n ?_; refine ⟨(k + 1), ?_, ?_, ?_, ?_⟩
                · omega
                · first | omega | (dsimp only; omega)
                · exact Fr.app (Fr.cons hF (t := 16) rfl (by first | rfl | (simp; done) | omega) (Fr.nil hF)) (hF.ks [0, 1, 2, 3, 5, 11, 14, 15] rfl)
                · exact hW
            · intro h9 hF; refine dvg 22 rfl hF hS (y_move hF rfl) (ws hF rfl rfl) fun a hF => dk 23 rfl hF (wn hF rfl rfl rfl) hS fun a hF => dk 24 rfl hF (wn hF rfl rfl rfl) hS fun a hF => dk 25 rfl hF (wn hF rfl rfl rfl) hS fun a hF => dk 26 rfl hF (wn hF rfl rfl rfl) hS fun a hF => dk 27 rfl hF (wn hF rfl rfl rfl) hS fun a hF => dk 28 rfl hF (wn hF rfl rfl rfl) hS fun a hF => dk 29 rfl hF (wn hF rfl rfl rfl) hS fun a hF => dk 30 rfl hF (wn hF rfl rfl rfl) hS fun a hF => dk 31 rfl hF (wn hF rfl rfl rfl) hS fun a hF => dvg 32 rfl hF hS (y_pick hF rfl rfl) (ws hF rfl rfl) fun a hF => dv 33 rfl hF hS (y_pick hF rfl rfl) fun a hF => ?_; clear hS; refine d_nil (by kernel_rfl) ?_; replace hF := hF.ks [0, 1, 2, 3, 5, 6, 7, 11, 14, 15, 16, 17, 54] rfl; refine t_n <| c_f hF rfl <| wp_skip <| b_n <| t_n <| c_r <| pv hF hW (y_add hF rfl rfl (IntWalk.i64_in _ (by omega))) fun a hF => ?_; replace hF := hF.drop 16; refine pv hF hW (y_move hF rfl) fun a hF => l_nil ?_; replace hF := hF.ks [0, 1, 2, 3, 5, 6, 7, 11, 14, 15, 16, 17, 54] rfl; replace hW := hW.del 0 rfl; refine t_n ?_; refine ⟨(k + 1), ?_, ?_, ?_, ?_⟩
              · omega
              · first | omega | (dsimp only; omega)
              · exact Fr.app (Fr.cons hF (t := 16) rfl (by first | rfl | (simp; done) | omega) (Fr.nil hF)) (hF.ks [0, 1, 2, 3, 5, 11, 14, 15] rfl)
              · exact hW
    · intro h4 hF; refine l_nil <| t_n <| c_s <| c_f hF rfl <| wp_exit <| t_x <| t_x <| b_h <| t_n <| c_sr <| pv hF hW (y_assign hF rfl) fun a hF => l_nil <| t_n <| wp_ret <| ret1 Try.results28 hF (rv_t hF rfl) ?_
      first
      | exact ⟨⟨1, rfl, fun h => by omega⟩, hW.below⟩
      | exact ⟨⟨0, rfl, fun _ => by omega⟩, hW.below⟩
      | exact ⟨⟨_, rfl, fun h => by omega⟩, hW.below⟩
end Go.Proofs.Ytlkkdpoioedacaa
