/- The law FlowTells answers true for every input. -/
import Derived.Test.YtlkkdpoioedacaaFlowG
import Derived.Test.YtlkkdpoioedacaaFlowE
import Derived.Test.YtlkkdpoioedacaaSysRef
namespace Go.Proofs.Ytlkkdpoioedacaa
set_option linter.unusedVariables false
set_option linter.unusedSimpArgs false
open Go.ChangeShapes Go.WideShapes Go.ChangeAt Go.RowKit

set_option maxRecDepth 100000

set_option maxHeartbeats 8000000 in
theorem flowTells_run (x : SysD) (w : World) (hx : x.At w) :
    Calls Try.prog 3 #[x.val] w fun e w' => e = .returned (.bool true) ∧ Below w.heap.size w w' := by
  have hed := fun w1 (hb : Below w.heap.size w w1) => flowEdges_any (hx.below hb)
  have hrc := fun w1 (hb : Below w.heap.size w w1) => flowReach_any (hx.below hb)
  have hcs := fun w1 (hb : Below w.heap.size w w1) => checkSystem_any (hx.below hb)
  by_cases hk : chkSys x.sys = 0
  · have her := fun w1 (hb : Below w.heap.size w w1) => edgesOfR_any (hx.below hb) hk
    obtain ⟨⟨hp1, hp2⟩, hc6, -⟩ := sizes_get (chkSys_zero hk).1
    have hre := fun w1 (hb : Below w.heap.size w w1) (u v : Nat) => reaches_any (hx.below hb) u v (by omega) (by omega)
    rw [hk] at hed hrc hcs
    rw [x.val_eq] at *
    refine enter Try.func3 rfl Try.ntmps3 rfl fun a hF => ?_
    have hW := Wd.start w NoB
    refine c_sr ?_; refine pe (e_box hF hW rfl rfl rfl rfl ?_); intro b1 a wc hF hW; refine pv hF hW (y_assign hF rfl) fun a hF => l_nil <| t_n <| c_sr <| pv hF hW (y_loadAll hF rfl 0 rfl Try.underlying26 rfl sz_26) fun a hF => ?_; refine pe (e_call hF rfl rfl en_13 (by rfl) rfl rfl (hed _ hW.below) ?_); rintro e w1 ⟨L, A, c, rfl, hL, hb, hr⟩; replace hW := hW.gotR hb hr; refine ⟨_, rfl, fun a hF => ?_⟩
    rw [if_pos rfl] at hL; have hLf : L.length ≤ 16 := (by rw [hL]; exact Nat.le_trans (edges_few _ _ _) (Nat.mul_le_mul hp2 hp2))
    refine pv hF hW (y_move hF rfl) fun a hF => pv hF hW (y_extract hF rfl rfl) fun a hF => pv hF hW (y_extract hF rfl rfl) fun a hF => pv hF hW (y_assign hF rfl) fun a hF => pv hF hW (y_assign hF rfl) fun a hF => l_nil ?_; replace hF := hF.ks [0, 1, 2, 3, 4] rfl; refine t_n <| c_sr <| pv hF hW (y_loadAll hF rfl 1 rfl Try.underlying26 rfl sz_26) fun a hF => ?_; refine pe (e_call hF rfl rfl en_14 (by rfl) rfl rfl (hrc _ hW.below) ?_); rintro e w1 ⟨D, Ad, cd, rfl, hD, hb, hr⟩; replace hW := hW.gotR hb (hr.mono fun u h => RM.mk h.1 h.2)
    replace hD := IsReach.of (hD.trans (if_pos rfl))
    have hDl := hD.len
    refine ⟨_, rfl, fun a hF => ?_⟩; refine pv hF hW (y_move hF rfl) fun a hF => pv hF hW (y_extract hF rfl rfl) fun a hF => pv hF hW (y_extract hF rfl rfl) fun a hF => pv hF hW (y_assign hF rfl) fun a hF => pv hF hW (y_assign hF rfl) fun a hF => l_nil ?_; replace hF := hF.ks [0, 1, 2, 3, 4, 5, 6] rfl; refine t_n <| c_sr <| pv hF hW (y_loadAll hF rfl 2 rfl Try.underlying26 rfl sz_26) fun a hF => ?_; refine pe (e_call hF rfl rfl en_15 (by rfl) rfl rfl (hcs _ hW.below) ?_); rintro e w1 ⟨rfl, hb⟩; replace hW := hW.kept hb; clear hb; refine ⟨_, rfl, fun a hF => ?_⟩; refine pv hF hW (y_assign hF rfl) fun a hF => l_nil ?_; replace hF := hF.ks [0, 1, 2, 3, 4, 5, 6, 7] rfl; refine t_n <| c_sr <| pv hF hW (y_assign hF rfl) fun a hF => l_nil <| t_n <| c_sr <| pv hF hW (y_assign hF rfl) fun a hF => l_nil <| t_n <| c_s <| c_sr <| pv hF hW (y_move hF rfl) fun a hF => pv hF hW (y_eql hF rfl rfl) fun a hF => ?_; replace hF := hF.tt; refine l_nil ?_; replace hF := hF.ks [0, 1, 2, 3, 4, 5, 6, 7, 8, 9, 26] rfl; refine t_n <| c_t hF rfl <| c_d mixed_ok hW (hW) ?_
    clear hW; intro wc hW hS
    refine dv 0 rfl hF hS (y_loadAll hF rfl 2 rfl Try.underlying26 rfl sz_26) fun a hF => dv 2 rfl hF hS (y_fieldOwn hF rfl fa_26_0) fun a hF => dv 3 rfl hF hS (y_loadOwn hF rfl 2 rfl rfl Try.underlying22 rfl) fun a hF => dv 4 rfl hF hS (y_len hF rfl Try.underlying22) fun a hF => d_1 1 (by kernel_rfl) ?_; refine d_op rfl rfl (e_call hF rfl rfl en_16 (by rfl) rfl rfl (her _ hW.below) ?_); rintro e w1 ⟨L2, A2, c2, rfl, hL2, hb, hr⟩; replace hW := hW.gotR hb hr; refine ⟨_, rfl, fun a hF => ?_⟩
    have h2L : L2 = L := hL2.trans hL.symm; have h2l : L2.length = L.length := congrArg _ h2L
    replace hS := (hW.del 0 rfl); refine ⟨hS, ?_⟩; replace hF := hF.drop 8; refine dv 5 rfl hF hS (y_assign hF rfl) fun a hF => ?_; replace hF := hF.drop 9; refine dv 6 rfl hF hS (y_assign hF rfl) fun a hF => ?_; clear hS; refine d_nil (by kernel_rfl) ?_; replace hF := hF.ks [0, 1, 2, 3, 4, 5, 6, 7, 8, 9, 26] rfl; refine t_n <| c_s <| c_sr <| pv hF hW (y_move hF rfl) fun a hF => pv hF hW (y_len hF rfl Try.underlying27) fun a hF => pv hF hW (y_move hF rfl) fun a hF => pv hF hW (y_len hF rfl Try.underlying27) fun a hF => pv hF hW (y_neq hF rfl rfl) fun a hF => ?_; refine Fr.splitD hF ?_ ?_
    · intro h2 hF; exfalso
      omega
    · intro h2 hF; refine pv hF hW (y_move hF rfl) fun a hF => pvg hF hW (y_move hF rfl) (ws hF rfl rfl) fun a hF => pvg hF hW (y_len hF rfl Try.underlying31) (ws hF rfl rfl) fun a hF => pvg hF hW (y_move hF rfl) (ws hF rfl rfl) fun a hF => pvg hF hW (y_neq hF rfl rfl) (ws hF rfl rfl) fun a hF => ?_; refine Fr.splitD hF ?_ ?_
      · intro h3 hF; exfalso
        omega
      · intro h3 hF; refine pv hF hW (y_pick hF rfl rfl) fun a hF => l_nil ?_; replace hF := hF.ks [0, 1, 2, 3, 4, 5, 6, 7, 8, 9, 26, 42] rfl; refine t_n <| c_f hF rfl <| wp_skip <| t_n <| c_s <| c_sr <| pv hF hW (y_assign hF rfl) fun a hF => l_nil <| t_n <| wp_block ?_; refine c_loop (G := Nat) (fun k : Nat => [(10, .int .i64 (k : Int))]) (fun k : Nat => []) (fun k : Nat => k ≤ L.length) (fun k : Nat => L.length - k) 0 (hF.ks [0, 1, 3, 4, 5, 6, 7, 8, 9, 26, 42] rfl) (Fr.cons hF (t := 10) rfl (by first | rfl | (simp; done)) (Fr.nil hF)) (hW) ?_ ?_
        · omega
        clear hF hW
        try clear a
        intro k a wc hC hF hW
        have hkl := hC
        refine c_s <| c_sr <| pv hF hW (y_move hF rfl) fun a hF => pv hF hW (y_move hF rfl) fun a hF => pv hF hW (y_len hF rfl Try.underlying27) fun a hF => pv hF hW (y_lss hF rfl rfl) fun a hF => ?_; refine Fr.splitD hF ?_ ?_
        · intro h4 hF; refine l_nil ?_; replace hF := hF.ks [0, 1, 3, 4, 5, 6, 7, 8, 9, 10, 26, 42, 46] rfl; refine t_n <| c_t hF rfl <| wp_skip <| t_n <| c_s <| wp_block ?_
          obtain ⟨z, hz⟩ : ∃ q, L.getD k E0 = q := ⟨_, rfl⟩
          obtain ⟨zf, zt⟩ := z
          have hk1 : k < L.length := (by omega)
          have hk2 : k < L2.length := (by omega)
          refine c_sd mixed_ok hW (hW) ?_
          clear hW; intro wc hW hS
          refine dv 0 rfl hF hS (y_move hF rfl) fun a hF => dv 1 rfl hF hS (y_move hF rfl) fun a hF => dv 2 rfl hF hS (y_indexS hF rfl rfl (by exact hk1) Try.underlying27 sz_37 (fun w h => (h.res 2 rfl).rf Edg.cells_len E0)) fun a hF => dv 3 rfl hF hS (y_loadRowW hF rfl (fun w h => (h.res 2 rfl).rf Edg.cells_len E0) (by exact hk1) Try.underlying37 rfl (by rw [hz]; exact sz_37)) fun a hF => ?_; replace hF := Fr.cast (v' := .agg #[.int .i64 zf, .int .i64 zt]) (by rw [hz]; rfl) hF; refine dv 4 rfl hF hS (y_move hF rfl) fun a hF => dv 5 rfl hF hS (y_move hF rfl) fun a hF => dv 6 rfl hF hS (y_indexS hF rfl rfl (by exact hk2) Try.underlying27 sz_37 (fun w h => (h.res 0 rfl).rf Edg.cells_len E0)) fun a hF => dv 7 rfl hF hS (y_loadRowW hF rfl (fun w h => (h.res 0 rfl).rf Edg.cells_len E0) (by exact hk2) Try.underlying37 rfl (by rw [h2L, hz]; exact sz_37)) fun a hF => ?_; replace hF := Fr.cast (v' := .agg #[.int .i64 zf, .int .i64 zt]) (by rw [h2L, hz]; rfl) hF; refine dv 8 rfl hF hS (y_bin hF rfl rfl (fun w => net_37 _ _ _ _ _ _ w)) fun a hF => ?_; refine Fr.splitD hF ?_ ?_
          · intro h5 hF; exfalso
            exact h5 ⟨rfl, rfl⟩
          · intro h5 hF; clear hS; refine d_nil (by kernel_rfl) ?_; replace hF := hF.ks [0, 1, 3, 4, 5, 6, 7, 8, 9, 10, 26, 42, 46, 57] rfl; refine t_n <| c_f hF rfl <| wp_skip <| b_n <| t_n <| c_r <| pv hF hW (y_move hF rfl) fun a hF => pv hF hW (y_add hF rfl rfl (IntWalk.i64_in _ (by omega))) fun a hF => ?_; replace hF := hF.drop 10; refine pv hF hW (y_assign hF rfl) fun a hF => l_nil ?_; replace hF := hF.ks [0, 1, 3, 4, 5, 6, 7, 8, 9, 10, 26, 42, 46, 57] rfl; refine t_n ?_; refine ⟨(k + 1), ?_, ?_, ?_, ?_⟩
            · omega
            · first | omega | (dsimp only; omega)
            · exact Fr.app (Fr.cons hF (t := 10) rfl (by first | rfl | (simp; done) | omega) (Fr.nil hF)) (hF.ks [0, 1, 3, 4, 5, 6, 7, 8, 9, 26, 42] rfl)
            · exact hW
        · intro h4 hF; refine l_nil ?_; replace hF := hF.ks [0, 1, 3, 4, 5, 6, 7, 8, 9, 10, 26, 42, 46] rfl; refine t_n <| c_f hF rfl <| wp_exit <| t_x <| t_x <| b_h <| t_n <| c_s <| c_sr <| pv hF hW (y_assign hF rfl) fun a hF => l_nil <| t_n <| wp_block ?_; refine c_loop (G := Nat) (fun u : Nat => [(11, .int .i64 (u : Int))]) (fun u : Nat => []) (fun u : Nat => u ≤ x.parts.length) (fun u : Nat => x.parts.length - u) 0 (hF.ks [0, 1, 3, 4, 5, 6, 7, 8, 9, 10, 26, 42, 46] rfl) (Fr.cons hF (t := 11) rfl (by first | rfl | (simp; done)) (Fr.nil hF)) (hW) ?_ ?_
          · omega
          clear hF hW
          try clear a
          intro u a wc hC hF hW
          have hul := hC
          refine c_s <| c_sr <| pv hF hW (y_move hF rfl) fun a hF => pv hF hW (y_move hF rfl) fun a hF => pv hF hW (y_lss hF rfl rfl) fun a hF => ?_; refine Fr.splitD hF ?_ ?_
          · intro h6 hF; refine l_nil ?_; replace hF := hF.ks [0, 1, 3, 4, 5, 6, 7, 8, 9, 10, 11, 26, 42, 46, 60] rfl; refine t_n <| c_t hF rfl <| wp_skip <| t_n <| c_s <| wp_block <| c_sr <| pv hF hW (y_assign hF rfl) fun a hF => l_nil <| t_n <| wp_block ?_; refine c_loop (G := Nat) (fun v : Nat => [(12, .int .i64 (v : Int))]) (fun v : Nat => []) (fun v : Nat => v ≤ x.parts.length) (fun v : Nat => x.parts.length - v) 0 (hF.ks [0, 1, 3, 4, 5, 6, 7, 8, 9, 10, 11, 26, 42, 46, 60] rfl) (Fr.cons hF (t := 12) rfl (by first | rfl | (simp; done)) (Fr.nil hF)) (hW) ?_ ?_
            · omega
            clear hF hW
            try clear a
            intro v a wc hC hF hW
            have hvl := hC
            refine c_s <| c_sr <| pv hF hW (y_move hF rfl) fun a hF => pv hF hW (y_move hF rfl) fun a hF => pv hF hW (y_lss hF rfl rfl) fun a hF => ?_; refine Fr.splitD hF ?_ ?_
            · intro h7 hF; refine l_nil ?_; replace hF := hF.ks [0, 1, 3, 4, 5, 6, 7, 8, 9, 10, 11, 12, 26, 42, 46, 60, 65] rfl; refine t_n <| c_t hF rfl <| wp_skip <| t_n <| c_s <| wp_block ?_
              have hu1 : u < x.parts.length := (by omega)
              have hv1 : v < x.parts.length := (by omega)
              have huD : u < D.length := (by omega)
              have hue := hD.each u hu1
              have hve : v < (D.getD u BR0).l.length := (by omega)
              have hval := hD.val u v hu1 hv1
              refine c_sd mixed_ok hW (hW) ?_
              clear hW; intro wc hW hS
              refine dv 0 rfl hF hS (y_move hF rfl) fun a hF => dv 1 rfl hF hS (y_move hF rfl) fun a hF => dv 2 rfl hF hS (y_indexS hF rfl rfl (by exact huD) Try.underlying31 sz_38 (fun w h => (h.res 1 rfl).row)) fun a hF => dv 3 rfl hF hS (y_loadRow hF rfl (fun w h => (h.res 1 rfl).row) (by exact huD) rfl Try.underlying38 rfl) fun a hF => ?_; replace hF := Fr.cast (v' := .slice (D.getD u BR0).a (D.getD u BR0).l.length (D.getD u BR0).k) (by rfl) hF; refine dv 4 rfl hF hS (y_len hF rfl Try.underlying38) fun a hF => dv 5 rfl hF hS (y_move hF rfl) fun a hF => dv 6 rfl hF hS (y_neq hF rfl rfl) fun a hF => ?_; refine Fr.splitD hF ?_ ?_
              · intro h8 hF; exfalso
                omega
              · intro h8 hF; refine dv 7 rfl hF hS (y_move hF rfl) fun a hF => dvg 8 rfl hF hS (y_move hF rfl) (ws hF rfl rfl) fun a hF => dvg 9 rfl hF hS (y_move hF rfl) (ws hF rfl rfl) fun a hF => dvg 10 rfl hF hS (y_indexS hF rfl rfl (by exact huD) Try.underlying31 sz_38 (fun w h => (h.res 1 rfl).row)) (ws hF rfl rfl) fun a hF => dvg 11 rfl hF hS (y_loadRow hF rfl (fun w h => (h.res 1 rfl).row) (by exact huD) rfl Try.underlying38 rfl) (ws hF rfl rfl) fun a hF => ?_; replace hF := Fr.cast (v' := .slice (D.getD u BR0).a (D.getD u BR0).l.length (D.getD u BR0).k) (by rfl) hF; refine dvg 12 rfl hF hS (y_move hF rfl) (ws hF rfl rfl) fun a hF => dvg 13 rfl hF hS (y_indexS hF rfl rfl (by exact hve) Try.underlying38 sz_4 (fun w h => (h.res 1 rfl).inner (k := u) huD)) (ws hF rfl rfl) fun a hF => dvg 14 rfl hF hS (y_loadRow hF rfl (fun w h => (h.res 1 rfl).inner (k := u) huD) (by exact hve) rfl Try.underlying4 rfl) (ws hF rfl rfl) fun a hF => ?_; replace hF := Fr.cast (v' := .bool (rch x.chans x.parts.length u v)) (by rw [hval]) hF; refine dvg 15 rfl hF hS (y_loadAll hF rfl 3 rfl Try.underlying26 rfl sz_26) (ws hF rfl rfl) fun a hF => dvg 16 rfl hF hS (y_move hF rfl) (ws hF rfl rfl) fun a hF => dvg 17 rfl hF hS (y_move hF rfl) (ws hF rfl rfl) fun a hF => d_1 18 (by kernel_rfl) ?_; refine d_op rfl (ws hF rfl rfl) (e_call hF rfl rfl en_17 (by rfl) rfl rfl (hre _ hW.below u v) ?_); rintro e w1 ⟨rfl, hb⟩; replace hW := hW.kept hb; clear hb; refine ⟨_, rfl, fun a hF => ?_⟩; replace hS := hW; refine ⟨hS, ?_⟩; refine dvg 19 rfl hF hS (y_neb hF rfl rfl Try.underlying4) (ws hF rfl rfl) fun a hF => ?_; replace hF := Fr.cast (v' := .bool false) (by simp) hF; refine dv 20 rfl hF hS (y_pick hF rfl rfl) fun a hF => ?_; clear hS; refine d_nil (by kernel_rfl) ?_; replace hF := hF.ks [0, 1, 3, 4, 5, 6, 7, 8, 9, 10, 11, 12, 26, 42, 46, 60, 65, 88] rfl; refine t_n <| c_f hF rfl <| wp_skip <| b_n <| t_n <| c_r <| pv hF hW (y_move hF rfl) fun a hF => pv hF hW (y_add hF rfl rfl (IntWalk.i64_in _ (by omega))) fun a hF => ?_; replace hF := hF.drop 12; refine pv hF hW (y_assign hF rfl) fun a hF => l_nil ?_; replace hF := hF.ks [0, 1, 3, 4, 5, 6, 7, 8, 9, 10, 11, 12, 26, 42, 46, 60, 65, 88] rfl; refine t_n ?_; refine ⟨(v + 1), ?_, ?_, ?_, ?_⟩
                · omega
                · first | omega | (dsimp only; omega)
                · exact Fr.app (Fr.cons hF (t := 12) rfl (by first | rfl | (simp; done) | omega) (Fr.nil hF)) (hF.ks [0, 1, 3, 4, 5, 6, 7, 8, 9, 10, 11, 26, 42, 46, 60] rfl)
                · exact hW
            · intro h7 hF; refine l_nil ?_; replace hF := hF.ks [0, 1, 3, 4, 5, 6, 7, 8, 9, 10, 11, 12, 26, 42, 46, 60, 65] rfl; refine t_n <| c_f hF rfl <| wp_exit <| t_x <| t_x <| b_h <| b_n <| t_n <| c_r <| pv hF hW (y_move hF rfl) fun a hF => pv hF hW (y_add hF rfl rfl (IntWalk.i64_in _ (by omega))) fun a hF => ?_; replace hF := hF.drop 11; refine pv hF hW (y_assign hF rfl) fun a hF => l_nil ?_; replace hF := hF.ks [0, 1, 3, 4, 5, 6, 7, 8, 9, 10, 11, 12, 26, 42, 46, 60, 65] rfl; refine t_n ?_; refine ⟨(u + 1), ?_, ?_, ?_, ?_⟩
              · omega
              · first | omega | (dsimp only; omega)
              · exact Fr.app (Fr.cons hF (t := 11) rfl (by first | rfl | (simp; done) | omega) (Fr.nil hF)) (hF.ks [0, 1, 3, 4, 5, 6, 7, 8, 9, 10, 26, 42, 46] rfl)
              · exact hW
          · intro h6 hF; refine l_nil ?_; replace hF := hF.ks [0, 1, 3, 4, 5, 6, 7, 8, 9, 10, 11, 26, 42, 46, 60] rfl; refine t_n <| c_f hF rfl <| wp_exit <| t_x <| t_x <| b_h <| t_n <| c_sr ?_; refine pe (e_call hF rfl rfl en_18 (by rfl) rfl rfl (flowBegun_any _) ?_); rintro e w1 ⟨rfl, hb⟩; replace hW := hW.kept hb; clear hb; refine ⟨_, rfl, fun a hF => ?_⟩; refine pv hF hW (y_move hF rfl) fun a hF => pvg hF hW (y_move hF rfl) (ws hF rfl rfl) fun a hF => pvg hF hW (y_move hF rfl) (ws hF rfl rfl) fun a hF => pvg hF hW (y_eql hF rfl rfl) (ws hF rfl rfl) fun a hF => ?_; replace hF := hF.tt; refine pv hF hW (y_pick hF rfl rfl) fun a hF => ?_; replace hF := hF.tt; refine pv hF hW (y_move hF rfl) fun a hF => ?_; replace hF := hF.tt; refine pvg hF hW (y_move hF rfl) (ws hF rfl rfl) fun a hF => pvg hF hW (y_move hF rfl) (ws hF rfl rfl) fun a hF => pvg hF hW (y_eql hF rfl rfl) (ws hF rfl rfl) fun a hF => ?_; replace hF := hF.tt; refine pv hF hW (y_pick hF rfl rfl) fun a hF => ?_; replace hF := hF.tt; refine pv hF hW (y_assign hF rfl) fun a hF => ?_; replace hF := hF.tt; refine l_nil ?_; replace hF := hF.ks [0, 1, 2, 3, 4, 5, 6, 7, 8, 9, 10, 11, 26, 42, 46, 60] rfl; refine t_n <| wp_ret <| ret1 Try.results3 hF (rv_t hF rfl) ?_
            exact ⟨rfl, hW.below⟩
  · generalize chkSys x.sys = E at *
    rw [x.val_eq] at *
    refine enter Try.func3 rfl Try.ntmps3 rfl fun a hF => ?_
    have hW := Wd.start w NoB
    refine c_sr ?_; refine pe (e_box hF hW rfl rfl rfl rfl ?_); intro b1 a wc hF hW; refine pv hF hW (y_assign hF rfl) fun a hF => l_nil <| t_n <| c_sr <| pv hF hW (y_loadAll hF rfl 0 rfl Try.underlying26 rfl sz_26) fun a hF => ?_; refine pe (e_call hF rfl rfl en_13 (by rfl) rfl rfl (hed _ hW.below) ?_); rintro e w1 ⟨L, A, c, rfl, hL, hb, hr⟩; replace hW := hW.gotR hb hr; refine ⟨_, rfl, fun a hF => ?_⟩
    rw [if_neg hk] at hL; subst hL
    refine pv hF hW (y_move hF rfl) fun a hF => pv hF hW (y_extract hF rfl rfl) fun a hF => pv hF hW (y_extract hF rfl rfl) fun a hF => pv hF hW (y_assign hF rfl) fun a hF => pv hF hW (y_assign hF rfl) fun a hF => l_nil ?_; replace hF := hF.ks [0, 1, 2, 3, 4] rfl; refine t_n <| c_sr <| pv hF hW (y_loadAll hF rfl 1 rfl Try.underlying26 rfl sz_26) fun a hF => ?_; refine pe (e_call hF rfl rfl en_14 (by rfl) rfl rfl (hrc _ hW.below) ?_); rintro e w1 ⟨D, Ad, cd, rfl, hD, hb, hr⟩; replace hW := hW.gotR hb hr; refine ⟨_, rfl, fun a hF => ?_⟩
    rw [if_neg hk] at hD; obtain rfl : D = [] := List.map_eq_nil_iff.1 hD
    refine pv hF hW (y_move hF rfl) fun a hF => pv hF hW (y_extract hF rfl rfl) fun a hF => pv hF hW (y_extract hF rfl rfl) fun a hF => pv hF hW (y_assign hF rfl) fun a hF => pv hF hW (y_assign hF rfl) fun a hF => l_nil ?_; replace hF := hF.ks [0, 1, 2, 3, 4, 5, 6] rfl; refine t_n <| c_sr <| pv hF hW (y_loadAll hF rfl 2 rfl Try.underlying26 rfl sz_26) fun a hF => ?_; refine pe (e_call hF rfl rfl en_15 (by rfl) rfl rfl (hcs _ hW.below) ?_); rintro e w1 ⟨rfl, hb⟩; replace hW := hW.kept hb; clear hb; refine ⟨_, rfl, fun a hF => ?_⟩; refine pv hF hW (y_assign hF rfl) fun a hF => l_nil ?_; replace hF := hF.ks [0, 1, 2, 3, 4, 5, 6, 7] rfl; refine t_n <| c_sr <| pv hF hW (y_assign hF rfl) fun a hF => l_nil <| t_n <| c_sr <| pv hF hW (y_assign hF rfl) fun a hF => l_nil <| t_n <| c_s <| c_sr <| pv hF hW (y_move hF rfl) fun a hF => pv hF hW (y_eql hF rfl rfl) fun a hF => ?_; refine Fr.splitD hF ?_ ?_
    · intro h2 hF; exfalso
      omega
    · intro h2 hF; refine l_nil ?_; replace hF := hF.ks [0, 1, 2, 3, 4, 5, 6, 7, 8, 9, 26] rfl; refine t_n <| c_f hF rfl <| wp_skip <| t_n <| c_s <| c_sr <| pv hF hW (y_move hF rfl) fun a hF => pv hF hW (y_len hF rfl Try.underlying27) fun a hF => ?_; replace hF := Fr.cast (v' := .int .i64 0) (by rfl) hF; refine pv hF hW (y_move hF rfl) fun a hF => pv hF hW (y_len hF rfl Try.underlying27) fun a hF => pv hF hW (y_neq hF rfl rfl) fun a hF => ?_; replace hF := hF.ff; refine pv hF hW (y_move hF rfl) fun a hF => ?_; replace hF := hF.ff; refine pvg hF hW (y_move hF rfl) (ws hF rfl rfl) fun a hF => pvg hF hW (y_len hF rfl Try.underlying31) (ws hF rfl rfl) fun a hF => ?_; replace hF := Fr.cast (v' := .int .i64 0) (by rfl) hF; refine pvg hF hW (y_move hF rfl) (ws hF rfl rfl) fun a hF => pvg hF hW (y_neq hF rfl rfl) (ws hF rfl rfl) fun a hF => ?_; replace hF := hF.ff; refine pv hF hW (y_pick hF rfl rfl) fun a hF => ?_; replace hF := hF.ff; refine l_nil ?_; replace hF := hF.ks [0, 1, 2, 3, 4, 5, 6, 7, 8, 9, 26, 42] rfl; refine t_n <| c_f hF rfl <| wp_skip <| t_n <| c_s <| c_sr <| pv hF hW (y_assign hF rfl) fun a hF => l_nil <| t_n <| wp_block ?_; refine c_loop (G := Unit) (fun u : Unit => [(10, .int .i64 0)]) (fun u : Unit => []) (fun u : Unit => True) (fun u : Unit => 0) () (hF.ks [0, 1, 3, 4, 5, 6, 7, 8, 9, 26, 42] rfl) (Fr.cons hF (t := 10) rfl (by first | rfl | (simp; done)) (Fr.nil hF)) (hW) ?_ ?_
      · trivial
      clear hF hW
      try clear a
      intro u a wc hC hF hW; refine c_s <| c_sr <| pv hF hW (y_move hF rfl) fun a hF => pv hF hW (y_move hF rfl) fun a hF => pv hF hW (y_len hF rfl Try.underlying27) fun a hF => ?_; replace hF := Fr.cast (v' := .int .i64 0) (by rfl) hF; refine pv hF hW (y_lss hF rfl rfl) fun a hF => ?_; replace hF := hF.ff; refine l_nil ?_; replace hF := hF.ks [0, 1, 3, 4, 5, 6, 7, 8, 9, 10, 26, 42, 46] rfl; refine t_n <| c_f hF rfl <| wp_exit <| t_x <| t_x <| b_h <| t_n <| c_s <| c_sr <| pv hF hW (y_assign hF rfl) fun a hF => l_nil <| t_n <| wp_block ?_; refine c_loop (G := Unit) (fun u : Unit => [(11, .int .i64 0)]) (fun u : Unit => []) (fun u : Unit => True) (fun u : Unit => 0) () (hF.ks [0, 1, 3, 4, 5, 6, 7, 8, 9, 10, 26, 42, 46] rfl) (Fr.cons hF (t := 11) rfl (by first | rfl | (simp; done)) (Fr.nil hF)) (hW) ?_ ?_
      · trivial
      clear hF hW
      try clear a
      intro u a wc hC hF hW; refine c_s <| c_sr <| pv hF hW (y_move hF rfl) fun a hF => pv hF hW (y_move hF rfl) fun a hF => pv hF hW (y_lss hF rfl rfl) fun a hF => ?_; replace hF := hF.ff; refine l_nil ?_; replace hF := hF.ks [0, 1, 3, 4, 5, 6, 7, 8, 9, 10, 11, 26, 42, 46, 60] rfl; refine t_n <| c_f hF rfl <| wp_exit <| t_x <| t_x <| b_h <| t_n <| c_sr ?_; refine pe (e_call hF rfl rfl en_18 (by rfl) rfl rfl (flowBegun_any _) ?_); rintro e w1 ⟨rfl, hb⟩; replace hW := hW.kept hb; clear hb; refine ⟨_, rfl, fun a hF => ?_⟩; refine pv hF hW (y_move hF rfl) fun a hF => pvg hF hW (y_move hF rfl) (ws hF rfl rfl) fun a hF => pvg hF hW (y_move hF rfl) (ws hF rfl rfl) fun a hF => pvg hF hW (y_eql hF rfl rfl) (ws hF rfl rfl) fun a hF => ?_; refine Fr.splitD hF ?_ ?_
      · intro h3 hF; refine pv hF hW (y_pick hF rfl rfl) fun a hF => pv hF hW (y_move hF rfl) fun a hF => pvg hF hW (y_move hF rfl) (ws hF rfl rfl) fun a hF => pvg hF hW (y_move hF rfl) (ws hF rfl rfl) fun a hF => pvg hF hW (y_eql hF rfl rfl) (ws hF rfl rfl) fun a hF => ?_; refine Fr.splitD hF ?_ ?_
        · intro h4 hF; refine pv hF hW (y_pick hF rfl rfl) fun a hF => pv hF hW (y_assign hF rfl) fun a hF => l_nil ?_; replace hF := hF.ks [0, 1, 2, 3, 4, 5, 6, 7, 8, 9, 10, 11, 26, 42, 46, 60] rfl; refine t_n <| wp_ret <| ret1 Try.results3 hF (rv_t hF rfl) ?_
          exact ⟨rfl, hW.below⟩
        · intro h4 hF; exfalso
          exact h4 rfl
      · intro h3 hF; exfalso
        exact h3 rfl

set_option maxRecDepth 100000 in
theorem flowTells_contract (H : Type) (enc : TypeId × Value → H) (W : World) (base : Nat) (args : Array Value) (ds gs : List (DataW H)) (before : List MemPlace)
    (hval : ∀ (j : Nat) t v, Try.f3.params[j]? = some t → args[j]? = some v → Value.okWide Try.prog W .any base t v)
    (hW : DataW.Whole enc Try.prog Try.f3.params.toList Rows.flowTellsSpec.vars false W args.toList ds gs before) :
    Calls Try.prog 3 args W fun e W' => ∃ v, e = .returned v ∧ Rows.flowTellsSpec.post enc Try.prog Try.f3 false true false false W args v W' := by
  have hW' := hW
  obtain ⟨p, q, hA0, hV, rfl, hfz, hnd⟩ := hW
  have hA : DataW.TrodAll enc Try.prog W 0 (fun _ => true) true Try.f3.params.toList args.toList ds p := hA0
  rw [Try.params3] at hA hval
  obtain ⟨v0, d0, rfl, rfl, h0⟩ := trodAll_one hA
  obtain ⟨x, rfl, hx⟩ := sys_open (hval 0 26 v0 rfl rfl) h0
  refine (flowTells_run x W hx).mono fun e W' ⟨he, hb⟩ => ?_
  subst he
  exact ⟨_, rfl, law_post Try.laidOut hW' hb rfl (by kernel_rfl) Try.underlying4 (by kernel_rfl) rfl⟩

set_option maxRecDepth 100000 in
theorem flowTells_lifted (os : Os) (started : os.Started) (H : Type) (enc : TypeId × Value → H) :
    ReturnsInHanded {} Try.checked os 3 .any (Rows.flowTellsSpec.pre6 enc Try.prog Try.f3 Rows.flowTellsRow.domain false) (Rows.flowTellsSpec.post enc Try.prog Try.f3 false true false false) := by
  refine returnsInHanded_of_change (C := Try.checked) Try.own started (by kernel_rfl) Try.func3
    (ChangeSpec.witness6 (enc := enc) (C := Try.checked) false ⟨#[], #[.agg #[.slice none 0 0, .slice none 0 0, .slice none 0 0]], []⟩ 8 (by kernel_rfl) (by kernel_rfl) (by kernel_rfl) (by kernel_rfl)) ?_
  intro W base args ds gs before hval hW _ _
  exact flowTells_contract H enc W base args ds gs before hval hW

theorem flowTells_holds : Rows.FlowTellsSaid :=
  OpenClaim.holds_of_wide 3 Try.f3 rfl rfl rfl rfl rfl rfl rfl ⟨rfl, rfl, rfl, rfl, rfl⟩ rfl rfl rfl rfl rfl (by kernel_rfl) Try.func3 (by kernel_rfl)
    (of_decide_eq_true (by kernel_rfl)) (by unfold Func.isWrapper; first | (rw [if_pos (by decide +kernel)]; kernel_rfl) | (rw [if_neg (by decide +kernel)]; exact ⟨rfl, rfl⟩))
    (fun os started H enc _ => flowTells_lifted os started H enc)
end Go.Proofs.Ytlkkdpoioedacaa
