/- The reference's CertifyOf and SameCerts. -/
import Derived.Test.YtlkkdpoioedacaaCertF
namespace Go.Proofs.Ytlkkdpoioedacaa
set_option linter.unusedVariables false
set_option linter.unusedSimpArgs false
open Go.ChangeShapes Go.WideShapes Go.ChangeAt Go.RowKit
theorem bs_CertG_42_1_0 (x0 : Int) (w : World) : (Instr.buildSlice 42 1 #[(0, (.int .i64 x0))]).run Try.prog w = .ok (.slice (some ⟨w.heap.size, 0, none⟩) 1 1) (w.alloc (.cells #[(.int .i64 x0)] 3)) := by kernel_rfl
theorem bs_CertG_53_1_0 (x0 : Option Addr) (x0n x0c : Nat) (w : World) : (Instr.buildSlice 53 1 #[(0, (.slice x0 x0n x0c))]).run Try.prog w = .ok (.slice (some ⟨w.heap.size, 0, none⟩) 1 1) (w.alloc (.cells #[(.slice x0 x0n x0c)] 42)) := by kernel_rfl
theorem bu_CertG_55_  (w : World) : (Instr.build 55 #[]).run Try.prog w = .ok (.agg #[(.slice none 0 0)]) w := by kernel_rfl
set_option maxRecDepth 100000

theorem setOf_snoc {cs : List Chn} {n k : Nat} {qs : List IR} {q : IR} (h : qs.map IR.l = (List.range k).map (setOf cs n)) (hq : q.l = setOf cs n k) : (qs ++ [q]).map IR.l = (List.range (k + 1)).map (setOf cs n) := by
  rw [List.map_append, h, List.range_succ, List.map_append]
  simp [hq]
set_option maxHeartbeats 16000000 in
theorem certifyOf_any {x : SysD} {w : World} (hx : x.At w) (hk : chkSys x.sys = 0) {P : List Edg} {A : Option Addr} {c : Nat} (hm : May_ w A c P) (hlm : P.length ≤ maxLen) :
    Calls Try.prog 26 #[x.val, .agg #[.slice A P.length c]] w fun e w' => ∃ (qs : List IR) (B : Option Addr) (d : Nat) (L : List Int) (A' : Option Addr) (c' : Nat) (is : Bool),
      e = .returned (.tuple #[.agg #[.slice B qs.length d], .slice A' L.length c', .bool is]) ∧ CertIs x.chans x.parts.length P is L (qs.map IR.l) ∧ Below w.heap.size w w' ∧ OwnRes w w' (fun u => Sets_ u B d qs ∧ Ints u (.slice A' L.length c') L) := by
  obtain ⟨⟨hp1, hp2⟩, hc6, -⟩ := sizes_get (chkSys_zero hk).1
  have hre := fun w1 (hb : Below w.heap.size w w1) (u v : Nat) => reaches_any (hx.below hb) u v (by omega) (by omega)
  have hma := fun w1 (hb : Below w.heap.size w w1) (u v : Int) => mayR_any (Flat.below hm hb) hlm u v
  have hpa := fun w1 (hb : Below w.heap.size w w1) (u v : Nat) => pathOfR_any (f := u) (t := v) (hx.below hb) hk
  rw [x.val_eq] at *
  refine enter Try.func26 rfl Try.ntmps26 rfl fun a hF => ?_
  have hW := Wd.start w NoB
  refine c_sr ?_; refine pe (e_box hF hW rfl rfl rfl rfl ?_); intro b1 a wc hF hW; refine pe (e_box hF hW rfl rfl rfl rfl ?_); intro b2 a wc hF hW; refine pe (e_alloc hF hW ze_55 rfl rfl rfl ?_); intro b3 a wc hF hW; refine pv hF hW (y_assign hF rfl) fun a hF => pv hF hW (y_assign hF rfl) fun a hF => l_nil <| t_n <| c_s <| c_sr <| pv hF hW (y_assign hF rfl) fun a hF => l_nil <| t_n <| wp_block ?_; refine c_loop (G := Nat) (fun k : Nat => [(7, .int .i64 (k : Int))]) (fun k : Nat => []) (fun k : Nat => k ≤ x.parts.length ∧ Clean x.chans x.parts.length P k 0) (fun k : Nat => x.parts.length - k) 0 (hF.ks [0, 1, 2, 3, 4] rfl) (Fr.cons hF (t := 7) rfl (by first | rfl | (simp; done)) (Fr.nil hF)) (hW) ?_ ?_
  · exact ⟨by omega, clean0⟩
  clear hF hW
  try clear a
  intro k a wc hC hF hW
  obtain ⟨hkl, hcl⟩ := hC
  refine c_s <| c_sr <| pv hF hW (y_move hF rfl) fun a hF => pv hF hW (y_fieldOwn hF rfl fa_26_0) fun a hF => pv hF hW (y_loadOwn hF rfl 2 rfl rfl Try.underlying22 rfl) fun a hF => pv hF hW (y_len hF rfl Try.underlying22) fun a hF => pv hF hW (y_lss hF rfl rfl) fun a hF => ?_; refine Fr.splitD hF ?_ ?_
  · intro h4 hF; refine l_nil ?_; replace hF := hF.ks [0, 1, 2, 3, 4, 7, 19] rfl; refine t_n <| c_t hF rfl <| wp_skip <| t_n <| c_s <| wp_block <| c_sr <| pv hF hW (y_assign hF rfl) fun a hF => l_nil <| t_n <| wp_block ?_; refine c_loop (G := Nat) (fun j : Nat => [(8, .int .i64 (j : Int))]) (fun j : Nat => []) (fun j : Nat => j ≤ x.parts.length ∧ Clean x.chans x.parts.length P k j) (fun j : Nat => x.parts.length - j) 0 (hF.ks [0, 1, 2, 3, 4, 7, 19] rfl) (Fr.cons hF (t := 8) rfl (by first | rfl | (simp; done)) (Fr.nil hF)) (hW) ?_ ?_
    · exact ⟨by omega, hcl⟩
    clear hF hW
    try clear a
    intro j a wc hC hF hW
    obtain ⟨hjl, hcl2⟩ := hC
    refine c_s <| c_sr <| pv hF hW (y_move hF rfl) fun a hF => pv hF hW (y_fieldOwn hF rfl fa_26_0) fun a hF => pv hF hW (y_loadOwn hF rfl 2 rfl rfl Try.underlying22 rfl) fun a hF => pv hF hW (y_len hF rfl Try.underlying22) fun a hF => pv hF hW (y_lss hF rfl rfl) fun a hF => ?_; refine Fr.splitD hF ?_ ?_
    · intro h5 hF; refine l_nil ?_; replace hF := hF.ks [0, 1, 2, 3, 4, 7, 8, 19, 26] rfl; refine t_n <| c_t hF rfl <| wp_skip <| t_n <| c_s <| wp_block <| c_sr <| pv hF hW (y_loadAll hF rfl 2 rfl Try.underlying26 rfl sz_26) fun a hF => pv hF hW (y_move hF rfl) fun a hF => pv hF hW (y_move hF rfl) fun a hF => ?_; refine pe (e_call hF rfl rfl en_17 (by rfl) rfl rfl (hre _ hW.below k j) ?_); rintro e w1 ⟨rfl, hb⟩; replace hW := hW.kept hb; clear hb; refine ⟨_, rfl, fun a hF => ?_⟩; refine Fr.splitB hF ?_ ?_
      · intro h6 hF; refine pv hF hW (y_move hF rfl) fun a hF => pvg hF hW (y_loadAll hF rfl 1 rfl Try.underlying52 rfl sz_52) (ws hF rfl rfl) fun a hF => pvg hF hW (y_move hF rfl) (ws hF rfl rfl) fun a hF => pvg hF hW (y_move hF rfl) (ws hF rfl rfl) fun a hF => ?_; refine pe (e_call hF rfl rfl en_59 (by rfl) rfl rfl (hma _ hW.below k j) ?_) (ws hF rfl rfl); rintro e w1 ⟨rfl, hb⟩; replace hW := hW.kept hb; clear hb; refine ⟨_, rfl, fun a hF => ?_⟩; refine Fr.splitB hF ?_ ?_
        · intro h7 hF; refine pvg hF hW (y_not hF rfl) (ws hF rfl rfl) fun a hF => ?_; replace hF := hF.ff; refine pv hF hW (y_pick hF rfl rfl) fun a hF => ?_; replace hF := hF.ff; refine l_nil ?_; replace hF := hF.ks [0, 1, 2, 3, 4, 7, 8, 19, 26, 39] rfl; refine t_n <| c_f hF rfl <| wp_skip <| b_n <| t_n <| c_r <| pv hF hW (y_move hF rfl) fun a hF => pv hF hW (y_add hF rfl rfl (IntWalk.i64_in _ (by omega))) fun a hF => ?_; replace hF := hF.drop 8; refine pv hF hW (y_assign hF rfl) fun a hF => l_nil ?_; replace hF := hF.ks [0, 1, 2, 3, 4, 7, 8, 19, 26, 39] rfl; refine t_n ?_; refine ⟨(j + 1), ?_, ?_, ?_, ?_⟩
          · exact ⟨by omega, hcl2.step (by unfold badB; simp_all)⟩
          · first | omega | (dsimp only; omega)
          · exact Fr.app (Fr.cons hF (t := 8) rfl (by first | rfl | (simp; done) | omega) (Fr.nil hF)) (hF.ks [0, 1, 2, 3, 4, 7, 19] rfl)
          · exact hW
        · intro h7 hF; refine pvg hF hW (y_not hF rfl) (ws hF rfl rfl) fun a hF => ?_; replace hF := hF.tt; refine pv hF hW (y_pick hF rfl rfl) fun a hF => ?_; replace hF := hF.tt; refine l_nil ?_; replace hF := hF.ks [0, 1, 2, 3, 4, 7, 8, 19, 26, 39] rfl; refine t_n <| c_t hF rfl <| c_sr <| pv hF hW (y_loadAll hF rfl 2 rfl Try.underlying26 rfl sz_26) fun a hF => pv hF hW (y_move hF rfl) fun a hF => pv hF hW (y_move hF rfl) fun a hF => ?_; refine pe (e_call hF rfl rfl en_21 (by rfl) rfl rfl (hpa _ hW.below k j) ?_); rintro e w1 ⟨L, A2, c2, rfl, hLp, hb, hr⟩; replace hW := hW.gotR hb hr; refine ⟨_, rfl, fun a hF => ?_⟩; refine pv hF hW (y_move hF rfl) fun a hF => pv hF hW (y_extract hF rfl rfl) fun a hF => pv hF hW (y_extract hF rfl rfl) fun a hF => pv hF hW (y_assign hF rfl) fun a hF => pv hF hW (y_assign hF rfl) fun a hF => l_nil ?_; replace hF := hF.ks [0, 1, 2, 3, 4, 7, 8, 9, 19, 26, 39] rfl; refine t_n <| c_sr <| pv hF hW (y_build hF rfl (fun w => bu_CertG_55_  w)) fun a hF => pv hF hW (y_move hF rfl) fun a hF => ?_; refine pe (e_storeAll rfl hF hW rfl rfl 1 rfl rfl rfl (by kernel_rfl) sz_55 ?_); intro wc hW; refine pv hF hW (y_assign hF rfl) fun a hF => pv hF hW (y_assign hF rfl) fun a hF => l_nil ?_; replace hF := hF.ks [0, 1, 2, 3, 4, 5, 6, 7, 8, 9, 19, 26, 39] rfl; refine t_n <| wp_ret <| b_r <| t_r <| t_r <| b_r <| b_r <| t_r <| t_r <| b_r <| t_r <| ret3 Try.results26 hF (rv_c hF rfl hW 1 rfl Try.underlying55 rfl sz_55) (rv_t hF rfl) (rv_t hF rfl) ?_; replace hW := hW.del 1 rfl; replace hW := hW.del 1 rfl; replace hW := hW.del 1 rfl
          exact ⟨[], none, 0, L, A2, c2, false, rfl, .inr ⟨rfl, k, j, by omega, by omega, by unfold badB; simp_all, hcl2, hLp, rfl⟩, hW.below, (hW.res_res 0 rfl).mono fun u h => ⟨sets_nil u, h⟩⟩
      · intro h6 hF; refine pv hF hW (y_move hF rfl) fun a hF => pk hF (wn hF rfl rfl rfl) fun a hF => pk hF (wn hF rfl rfl rfl) fun a hF => pk hF (wn hF rfl rfl rfl) fun a hF => pk hF (wn hF rfl rfl rfl) fun a hF => pk hF (wn hF rfl rfl rfl) fun a hF => pv hF hW (y_pick hF rfl rfl) fun a hF => l_nil ?_; replace hF := hF.ks [0, 1, 2, 3, 4, 7, 8, 19, 26, 39] rfl; refine t_n <| c_f hF rfl <| wp_skip <| b_n <| t_n <| c_r <| pv hF hW (y_move hF rfl) fun a hF => pv hF hW (y_add hF rfl rfl (IntWalk.i64_in _ (by omega))) fun a hF => ?_; replace hF := hF.drop 8; refine pv hF hW (y_assign hF rfl) fun a hF => l_nil ?_; replace hF := hF.ks [0, 1, 2, 3, 4, 7, 8, 19, 26, 39] rfl; refine t_n ?_; refine ⟨(j + 1), ?_, ?_, ?_, ?_⟩
        · exact ⟨by omega, hcl2.step (by unfold badB; simp_all)⟩
        · first | omega | (dsimp only; omega)
        · exact Fr.app (Fr.cons hF (t := 8) rfl (by first | rfl | (simp; done) | omega) (Fr.nil hF)) (hF.ks [0, 1, 2, 3, 4, 7, 19] rfl)
        · exact hW
    · intro h5 hF; refine l_nil ?_; replace hF := hF.ks [0, 1, 2, 3, 4, 7, 8, 19, 26] rfl; refine t_n <| c_f hF rfl <| wp_exit <| t_x <| t_x <| b_h <| b_n <| t_n <| c_r <| pv hF hW (y_move hF rfl) fun a hF => pv hF hW (y_add hF rfl rfl (IntWalk.i64_in _ (by omega))) fun a hF => ?_; replace hF := hF.drop 7; refine pv hF hW (y_assign hF rfl) fun a hF => l_nil ?_; replace hF := hF.ks [0, 1, 2, 3, 4, 7, 8, 19, 26] rfl; refine t_n ?_; refine ⟨(k + 1), ?_, ?_, ?_, ?_⟩
      · exact ⟨by omega, hcl2.line (by omega)⟩
      · first | omega | (dsimp only; omega)
      · exact Fr.app (Fr.cons hF (t := 7) rfl (by first | rfl | (simp; done) | omega) (Fr.nil hF)) (hF.ks [0, 1, 2, 3, 4] rfl)
      · exact hW
  · intro h4 hF; refine l_nil ?_; replace hF := hF.ks [0, 1, 2, 3, 4, 7, 19] rfl; refine t_n <| c_f hF rfl <| wp_exit <| t_x <| t_x <| b_h <| t_n ?_
    have hall := hcl.all (by omega)
    refine c_sr ?_; refine pe (e_alloc hF hW ze_55 rfl rfl rfl ?_); intro b8 a wc hF hW; refine l_nil <| t_n <| c_s <| c_sr <| pv hF hW (y_assign hF rfl) fun a hF => l_nil <| t_n <| wp_block ?_; replace hW := hW.nil_row 42 1; replace hW := hW.free (R := fun u => ∀ q, q ∈ ([] : List IR) → q.At u) (fun _ _ h => by cases h); replace hW := hW.front 2 rfl rfl; replace hW := hW.front 1 rfl rfl; replace hW := hW.front 2 rfl rfl; refine c_loop (G := Nat × List IR × Option Addr × Nat) (fun (gq : Nat × List IR × Option Addr × Nat) => match gq with | ⟨k, qs, B, d⟩ => [(12, .int .i64 (k : Int))]) (fun (gq : Nat × List IR × Option Addr × Nat) => match gq with | ⟨k, qs, B, d⟩ => [.row 42 1 (.slice B qs.length d) qs.length (qs.flatMap IR.cells), .res (fun u => ∀ q, q ∈ qs → q.At u), .blk b8 55 [.slice B qs.length d]]) (fun (gq : Nat × List IR × Option Addr × Nat) => match gq with | ⟨k, qs, B, d⟩ => k ≤ x.parts.length ∧ qs.map IR.l = (List.range k).map (setOf x.chans x.parts.length)) (fun (gq : Nat × List IR × Option Addr × Nat) => match gq with | ⟨k, qs, B, d⟩ => x.parts.length - k) (0, [], none, 0) (hF.ks [0, 1, 2, 3, 4, 7, 11, 19] rfl) (Fr.cons hF (t := 12) rfl (by first | rfl | (simp; done)) (Fr.nil hF)) (hW) ?_ ?_
    · exact ⟨by omega, rfl⟩
    clear hF hW
    try clear a
    intro gq a wc hC hF hW
    obtain ⟨k, qs, B, d⟩ := gq
    dsimp only at hC
    obtain ⟨hkl, hqs⟩ := hC
    refine c_s <| c_sr <| pv hF hW (y_move hF rfl) fun a hF => pv hF hW (y_fieldOwn hF rfl fa_26_0) fun a hF => pv hF hW (y_loadOwn hF rfl 5 rfl rfl Try.underlying22 rfl) fun a hF => pv hF hW (y_len hF rfl Try.underlying22) fun a hF => pv hF hW (y_lss hF rfl rfl) fun a hF => ?_; refine Fr.splitD hF ?_ ?_
    · intro h9 hF; refine l_nil ?_; replace hF := hF.ks [0, 1, 2, 3, 4, 7, 11, 12, 19, 53] rfl; refine t_n <| c_t hF rfl <| wp_skip <| t_n <| c_s <| wp_block <| c_sr <| pv hF hW (y_assign hF rfl) fun a hF => l_nil <| t_n <| c_s <| c_sr <| pv hF hW (y_assign hF rfl) fun a hF => l_nil <| t_n <| wp_block ?_; replace hW := hW.nil_row 3 1; refine c_loop (G := Nat × List Int × Option Addr × Nat) (fun (gq : Nat × List Int × Option Addr × Nat) => match gq with | ⟨j, M, E, f⟩ => [(14, .int .i64 (j : Int)), (13, .slice E M.length f)]) (fun (gq : Nat × List Int × Option Addr × Nat) => match gq with | ⟨j, M, E, f⟩ => [.row 3 1 (.slice E M.length f) M.length (M.map (.int .i64))]) (fun (gq : Nat × List Int × Option Addr × Nat) => match gq with | ⟨j, M, E, f⟩ => j ≤ x.parts.length ∧ M = tl j (fun u => rch x.chans x.parts.length u k)) (fun (gq : Nat × List Int × Option Addr × Nat) => match gq with | ⟨j, M, E, f⟩ => x.parts.length - j) (0, [], none, 0) (hF.ks [0, 1, 2, 3, 4, 7, 11, 12, 19, 53] rfl) (Fr.cons hF (t := 14) rfl (by first | rfl | (simp; done)) (Fr.cons hF (t := 13) rfl (by first | rfl | (simp; done)) (Fr.nil hF))) (hW) ?_ ?_
      · exact ⟨by omega, rfl⟩
      clear hF hW
      try clear a
      intro gq a wc hC hF hW
      obtain ⟨j, M, E, f⟩ := gq
      dsimp only at hC
      obtain ⟨hjl, hM⟩ := hC
      refine c_s <| c_sr <| pv hF hW (y_move hF rfl) fun a hF => pv hF hW (y_fieldOwn hF rfl fa_26_0) fun a hF => pv hF hW (y_loadOwn hF rfl 6 rfl rfl Try.underlying22 rfl) fun a hF => pv hF hW (y_len hF rfl Try.underlying22) fun a hF => pv hF hW (y_lss hF rfl rfl) fun a hF => ?_; refine Fr.splitD hF ?_ ?_
      · intro h10 hF; refine l_nil ?_; replace hF := hF.ks [0, 1, 2, 3, 4, 7, 11, 12, 13, 14, 19, 53, 60] rfl; refine t_n <| c_t hF rfl <| wp_skip <| t_n <| c_s <| wp_block <| c_sr <| pv hF hW (y_loadAll hF rfl 6 rfl Try.underlying26 rfl sz_26) fun a hF => pv hF hW (y_move hF rfl) fun a hF => pv hF hW (y_move hF rfl) fun a hF => ?_; refine pe (e_call hF rfl rfl en_17 (by rfl) rfl rfl (hre _ hW.below j k) ?_); rintro e w1 ⟨rfl, hb⟩; replace hW := hW.kept hb; clear hb; refine ⟨_, rfl, fun a hF => ?_⟩; refine Fr.splitB hF ?_ ?_
        · intro h11 hF; refine l_nil ?_; replace hF := hF.ks [0, 1, 2, 3, 4, 7, 11, 12, 13, 14, 19, 53, 60, 66] rfl; refine t_n <| c_t hF rfl ?_
          have hMl : M.length ≤ 4 := (by rw [hM]; have := tl_len j (fun u => rch x.chans x.parts.length u k); omega)
          refine c_r <| pv hF hW (y_move hF rfl) fun a hF => pv hF hW (y_move hF rfl) fun a hF => ?_; refine pe (e_buildSlice hF hW rfl (fun w => bs_CertG_42_1_0 _ w) rfl rfl rfl ?_); intro b12 a wc hF hW; refine pe (e_append hF hW 1 rfl rfl rfl Try.underlying42 inf_3 rfl (by decide) (rowAt_blk (hW.blk 0 rfl) 1 1 rfl) (by simp [Value.oneCell']) (show _ = (M ++ [(j : Int)]).length by simp) (show _ = (M ++ [(j : Int)]).map (.int .i64) by simp) (by first | omega | (simp; omega)) (by unfold maxLen; first | omega | (simp; omega)) rfl rfl ?_); intro A13 c14 a wc hF hW; replace hF := hF.drop 13; refine pv hF hW (y_assign hF rfl) fun a hF => l_nil ?_; replace hF := hF.ks [0, 1, 2, 3, 4, 7, 11, 12, 13, 14, 19, 53, 60, 66] rfl; refine b_n <| t_n <| c_r <| pv hF hW (y_move hF rfl) fun a hF => pv hF hW (y_add hF rfl rfl (IntWalk.i64_in _ (by omega))) fun a hF => ?_; replace hF := hF.drop 14; refine pv hF hW (y_assign hF rfl) fun a hF => l_nil ?_; replace hF := hF.ks [0, 1, 2, 3, 4, 7, 11, 12, 13, 14, 19, 53, 60, 66] rfl; replace hW := hW.del 0 rfl; refine t_n ?_; refine ⟨(j + 1, M ++ [(j : Int)], A13, c14), ?_, ?_, ?_, ?_⟩
          · exact ⟨by omega, by rw [tl_yes (by assumption), hM]⟩
          · first | omega | (dsimp only; omega)
          · exact Fr.app (Fr.cons hF (t := 14) rfl (by first | rfl | (simp; done) | omega) (Fr.cons hF (t := 13) rfl (by first | rfl | (simp; done) | omega) (Fr.nil hF))) (hF.ks [0, 1, 2, 3, 4, 7, 11, 12, 19, 53] rfl)
          · exact hW
        · intro h11 hF; refine l_nil ?_; replace hF := hF.ks [0, 1, 2, 3, 4, 7, 11, 12, 13, 14, 19, 53, 60, 66] rfl; refine t_n <| c_f hF rfl <| wp_skip <| b_n <| t_n <| c_r <| pv hF hW (y_move hF rfl) fun a hF => pv hF hW (y_add hF rfl rfl (IntWalk.i64_in _ (by omega))) fun a hF => ?_; replace hF := hF.drop 14; refine pv hF hW (y_assign hF rfl) fun a hF => l_nil ?_; replace hF := hF.ks [0, 1, 2, 3, 4, 7, 11, 12, 13, 14, 19, 53, 60, 66] rfl; refine t_n ?_; refine ⟨(j + 1, M, E, f), ?_, ?_, ?_, ?_⟩
          · exact ⟨by omega, by rw [tl_no (by assumption)]; exact hM⟩
          · first | omega | (dsimp only; omega)
          · exact Fr.app (Fr.cons hF (t := 14) rfl (by first | rfl | (simp; done) | omega) (Fr.cons hF (t := 13) rfl (by first | rfl | (simp; done) | omega) (Fr.nil hF))) (hF.ks [0, 1, 2, 3, 4, 7, 11, 12, 19, 53] rfl)
          · exact hW
      · intro h10 hF; refine l_nil ?_; replace hF := hF.ks [0, 1, 2, 3, 4, 7, 11, 12, 13, 14, 19, 53, 60] rfl; refine t_n <| c_f hF rfl <| wp_exit <| t_x <| t_x <| b_h <| t_n ?_
        have hqn : qs.length = k := (by have := congrArg List.length hqs; simpa using this)
        refine c_r <| pv hF hW (y_fieldOwn hF rfl fa_55_0) fun a hF => pv hF hW (y_loadOwn hF rfl 3 rfl rfl Try.underlying53 rfl) fun a hF => pv hF hW (y_move hF rfl) fun a hF => ?_; refine pe (e_buildSlice hF hW rfl (fun w => bs_CertG_53_1_0 _ _ _ w) rfl rfl rfl ?_); intro b15 a wc hF hW; refine pe (e_append hF hW 2 rfl rfl rfl Try.underlying53 inf_42 rfl (by decide) (rowAt_blk (hW.blk 0 rfl) 1 1 rfl) (by simp [Value.oneCell']) (show _ = (qs ++ [IR.mk M E f]).length by simp) (show _ = (qs ++ [IR.mk M E f]).flatMap IR.cells by simp [IR.cells, IR.val]) (by first | omega | (simp; omega)) (by unfold maxLen; first | omega | (simp; omega)) rfl rfl ?_); intro A16 c17 a wc hF hW; refine pv hF hW (y_fieldOwn hF rfl fa_55_0) fun a hF => ?_; refine pe (e_store rfl hF hW rfl rfl 4 rfl rfl rfl sz_53 ?_); intro wc hW; refine l_nil ?_; replace hF := hF.ks [0, 1, 2, 3, 4, 7, 11, 12, 13, 14, 19, 53, 60] rfl; refine b_n <| t_n <| c_r <| pv hF hW (y_move hF rfl) fun a hF => pv hF hW (y_add hF rfl rfl (IntWalk.i64_in _ (by omega))) fun a hF => ?_; replace hF := hF.drop 12; refine pv hF hW (y_assign hF rfl) fun a hF => l_nil ?_; replace hF := hF.ks [0, 1, 2, 3, 4, 7, 11, 12, 13, 14, 19, 53, 60] rfl; replace hW := hW.front 3 rfl rfl; replace hW := hW.front 2 rfl rfl
        replace hW := hW.row1 (R := fun u => ∀ q, q ∈ qs ++ [IR.mk M E f] → q.At u) fun u h1 h2 q hq => (List.mem_append.1 hq).elim (h2 q) fun h => by rw [List.mem_singleton.1 h]; exact Ints.of_own h1
        replace hW := hW.del 1 rfl; replace hW := hW.front 5 rfl rfl; replace hW := hW.front 5 rfl rfl; replace hW := hW.front 5 rfl rfl; replace hW := hW.front 5 rfl rfl; replace hW := hW.front 4 rfl rfl; replace hW := hW.front 5 rfl rfl; refine t_n ?_; refine ⟨(k + 1, qs ++ [IR.mk M E f], A16, c17), ?_, ?_, ?_, ?_⟩
        · exact ⟨by omega, setOf_snoc hqs (by rw [hM, show j = x.parts.length by omega]; rfl)⟩
        · first | omega | (dsimp only; omega)
        · exact Fr.app (Fr.cons hF (t := 12) rfl (by first | rfl | (simp; done) | omega) (Fr.nil hF)) (hF.ks [0, 1, 2, 3, 4, 7, 11, 19] rfl)
        · exact hW
    · intro h9 hF; refine l_nil ?_; replace hF := hF.ks [0, 1, 2, 3, 4, 7, 11, 12, 19, 53] rfl; refine t_n <| c_f hF rfl <| wp_exit <| t_x <| t_x <| b_h <| t_n <| c_sr <| pv hF hW (y_loadAll hF rfl 2 rfl Try.underlying55 rfl sz_55) fun a hF => ?_; refine pe (e_storeAll rfl hF hW rfl rfl 3 rfl rfl rfl (by kernel_rfl) sz_55 ?_); intro wc hW; refine pv hF hW (y_assign hF rfl) fun a hF => pv hF hW (y_assign hF rfl) fun a hF => l_nil ?_; replace hF := hF.ks [0, 1, 2, 3, 4, 5, 6, 7, 11, 12, 19, 53] rfl; refine t_n <| wp_ret <| ret3 Try.results26 hF (rv_c hF rfl hW 3 rfl Try.underlying55 rfl sz_55) (rv_t hF rfl) (rv_t hF rfl) ?_; replace hW := hW.del 2 rfl; replace hW := hW.del 2 rfl; replace hW := hW.del 2 rfl; replace hW := hW.del 2 rfl
      obtain rfl : k = x.parts.length := (by omega)
      exact ⟨qs, B, d, [], none, 0, true, rfl, .inl ⟨rfl, hall, rfl, hqs⟩, hW.below, ((hW.row1 fun u h1 h2 => ⟨⟨Flat.of_own h1 rfl, h2⟩, Ints.nil_⟩).res_res 0 rfl)⟩
theorem sameCerts_any {qs rs : List IR} {A B : Option Addr} {c d : Nat} {w : World} (hSA : Sets_ w A c qs) (hSB : Sets_ w B d rs) :
    Calls Try.prog 29 #[.agg #[.slice A qs.length c], .agg #[.slice B rs.length d]] w fun e w' => e = .returned (.bool (decide (qs.map IR.l = rs.map IR.l))) ∧ Below w.heap.size w w' := by
  have hlen := hSA.m.len
  unfold maxLen at hlen
  have key : ∀ i, i < rs.length → qs.map IR.l = rs.map IR.l → (qs.getD i IR0).l = (rs.getD i IR0).l := fun i _ e => by
    have := congrArg (fun r => r.getD i IR0.l) e
    simpa only [getD_map] using this
  refine enter Try.func29 rfl Try.ntmps29 rfl fun a hF => ?_
  have hW := Wd.start w NoB
  refine c_sr ?_; refine pe (e_box hF hW rfl rfl rfl rfl ?_); intro b1 a wc hF hW; refine pe (e_box hF hW rfl rfl rfl rfl ?_); intro b2 a wc hF hW; refine pv hF hW (y_assign hF rfl) fun a hF => l_nil <| t_n <| c_s <| c_sr <| pv hF hW (y_fieldOwn hF rfl fa_55_0) fun a hF => pv hF hW (y_loadOwn hF rfl 1 rfl rfl Try.underlying53 rfl) fun a hF => pv hF hW (y_len hF rfl Try.underlying53) fun a hF => pv hF hW (y_fieldOwn hF rfl fa_55_0) fun a hF => pv hF hW (y_loadOwn hF rfl 0 rfl rfl Try.underlying53 rfl) fun a hF => pv hF hW (y_len hF rfl Try.underlying53) fun a hF => pv hF hW (y_neq hF rfl rfl) fun a hF => ?_; refine Fr.splitD hF ?_ ?_
  · intro h3 hF; refine l_nil ?_; replace hF := hF.ks [0, 1, 2, 3, 4, 12] rfl; refine t_n <| c_t hF rfl <| c_sr ?_; replace hF := hF.drop 4; refine pv hF hW (y_assign hF rfl) fun a hF => l_nil <| t_n <| wp_ret <| t_r <| ret1 Try.results29 hF (rv_t hF rfl) ?_
    exact ⟨by rw [decide_eq_false fun e => by have q := congrArg List.length e; simp only [List.length_map] at q; omega], hW.below⟩
  · intro h3 hF; refine l_nil ?_; replace hF := hF.ks [0, 1, 2, 3, 4, 12] rfl; refine t_n <| c_f hF rfl <| wp_skip <| t_n <| c_s <| c_sr <| pv hF hW (y_assign hF rfl) fun a hF => l_nil <| t_n <| wp_block ?_; refine c_loop (G := Nat) (fun i : Nat => [(5, .int .i64 (i : Int))]) (fun i : Nat => []) (fun i : Nat => i ≤ qs.length ∧ ∀ j, j < i → (qs.getD j IR0).l = (rs.getD j IR0).l) (fun i : Nat => qs.length - i) 0 (hF.ks [0, 1, 2, 3, 12] rfl) (Fr.cons hF (t := 5) rfl (by first | rfl | (simp; done)) (Fr.nil hF)) (hW) ?_ ?_
    · exact ⟨by omega, fun i hi => by omega⟩
    clear hF hW
    try clear a
    intro i a wc hC hF hW
    obtain ⟨hil, heq⟩ := hC
    refine c_s <| c_sr <| pv hF hW (y_move hF rfl) fun a hF => pv hF hW (y_fieldOwn hF rfl fa_55_0) fun a hF => pv hF hW (y_loadOwn hF rfl 1 rfl rfl Try.underlying53 rfl) fun a hF => pv hF hW (y_len hF rfl Try.underlying53) fun a hF => pv hF hW (y_lss hF rfl rfl) fun a hF => ?_; refine Fr.splitD hF ?_ ?_
    · intro h4 hF; refine l_nil ?_; replace hF := hF.ks [0, 1, 2, 3, 5, 12, 17] rfl; refine t_n <| c_t hF rfl <| wp_skip <| t_n <| c_s <| wp_block ?_
      have hi1 : i < qs.length := (by omega)
      have hi2 : i < rs.length := (by omega)
      refine c_sd mixed_ok hW (hW) ?_
      clear hW; intro wc hW hS
      refine dv 0 rfl hF hS (y_fieldOwn hF rfl fa_55_0) fun a hF => dv 1 rfl hF hS (y_loadOwn hF rfl 1 rfl rfl Try.underlying53 rfl) fun a hF => dv 2 rfl hF hS (y_move hF rfl) fun a hF => dv 3 rfl hF hS (y_indexS hF rfl rfl (by exact hi1) Try.underlying53 sz_42 (fun w h => (hSA.row).wd h)) fun a hF => dv 4 rfl hF hS (y_loadRow hF rfl (fun w h => (hSA.row).wd h) (by exact hi1) rfl Try.underlying42 rfl) fun a hF => ?_; replace hF := Fr.cast (v' := .slice (qs.getD i IR0).a (qs.getD i IR0).l.length (qs.getD i IR0).k) (by rfl) hF; refine dv 5 rfl hF hS (y_fieldOwn hF rfl fa_55_0) fun a hF => dv 6 rfl hF hS (y_loadOwn hF rfl 0 rfl rfl Try.underlying53 rfl) fun a hF => dv 7 rfl hF hS (y_move hF rfl) fun a hF => dv 8 rfl hF hS (y_indexS hF rfl rfl (by exact hi2) Try.underlying53 sz_42 (fun w h => (hSB.row).wd h)) fun a hF => dv 9 rfl hF hS (y_loadRow hF rfl (fun w h => (hSB.row).wd h) (by exact hi2) rfl Try.underlying42 rfl) fun a hF => ?_; replace hF := Fr.cast (v' := .slice (rs.getD i IR0).a (rs.getD i IR0).l.length (rs.getD i IR0).k) (by rfl) hF; refine d_1 10 (by kernel_rfl) ?_; refine d_op rfl rfl (e_call hF rfl rfl en_22 (by rfl) rfl rfl (sameIntsB (Ints.below (hSA.each _ (mem_getD IR0 hi1)) hW.below) (Ints.below (hSB.each _ (mem_getD IR0 hi2)) hW.below)) ?_); rintro e w1 ⟨rfl, hb⟩; replace hW := hW.kept hb; clear hb; refine ⟨_, rfl, fun a hF => ?_⟩; refine Fr.splitB hF ?_ ?_
      · intro h5 hF; replace hS := hW; refine ⟨hS, ?_⟩; refine dv 11 rfl hF hS (y_not hF rfl) fun a hF => ?_; replace hF := hF.ff; clear hS; refine d_nil (by kernel_rfl) ?_; replace hF := hF.ks [0, 1, 2, 3, 5, 12, 17, 31] rfl; refine t_n <| c_f hF rfl <| wp_skip <| b_n <| t_n <| c_r <| pv hF hW (y_move hF rfl) fun a hF => pv hF hW (y_add hF rfl rfl (IntWalk.i64_in _ (by omega))) fun a hF => ?_; replace hF := hF.drop 5; refine pv hF hW (y_assign hF rfl) fun a hF => l_nil ?_; replace hF := hF.ks [0, 1, 2, 3, 5, 12, 17, 31] rfl; refine t_n ?_; refine ⟨(i + 1), ?_, ?_, ?_, ?_⟩
        · exact ⟨by omega, fun j hj => by rcases Nat.lt_or_ge j i with h | h; exact heq j h; (have hik : j = i := by omega); rw [hik]; simp_all⟩
        · first | omega | (dsimp only; omega)
        · exact Fr.app (Fr.cons hF (t := 5) rfl (by first | rfl | (simp; done) | omega) (Fr.nil hF)) (hF.ks [0, 1, 2, 3, 12] rfl)
        · exact hW
      · intro h5 hF; replace hS := hW; refine ⟨hS, ?_⟩; refine dv 11 rfl hF hS (y_not hF rfl) fun a hF => ?_; replace hF := hF.tt; clear hS; refine d_nil (by kernel_rfl) ?_; replace hF := hF.ks [0, 1, 2, 3, 5, 12, 17, 31] rfl; refine t_n <| c_t hF rfl <| c_sr <| pv hF hW (y_assign hF rfl) fun a hF => l_nil <| t_n <| wp_ret <| b_r <| t_r <| t_r <| b_r <| t_r <| ret1 Try.results29 hF (rv_t hF rfl) ?_
        exact ⟨by rw [decide_eq_false fun e => by have q := key i (by omega) e; simp_all], hW.below⟩
    · intro h4 hF; refine l_nil ?_; replace hF := hF.ks [0, 1, 2, 3, 5, 12, 17] rfl; refine t_n <| c_f hF rfl <| wp_exit <| t_x <| t_x <| b_h <| t_n <| c_sr <| pv hF hW (y_assign hF rfl) fun a hF => l_nil <| t_n <| wp_ret <| ret1 Try.results29 hF (rv_t hF rfl) ?_
      exact ⟨by rw [decide_eq_true (list_eq_getD IR0.l (by simp only [List.length_map]; omega) fun j hj => by rw [getD_map, getD_map]; exact heq j (by simp only [List.length_map] at hj; omega))], hW.below⟩
end Go.Proofs.Ytlkkdpoioedacaa
