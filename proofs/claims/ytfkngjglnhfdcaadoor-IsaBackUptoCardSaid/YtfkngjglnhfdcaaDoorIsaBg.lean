/- isaBegun answers true; IsaChecks' run. -/
import Derived.Test.YtfkngjglnhfdcaaDoorIsaRd
namespace Go.Proofs.YtfkngjglnhfdcaaDoor
set_option linter.unusedVariables false
set_option linter.unusedSimpArgs false
open Go.ChangeShapes Go.WideShapes Go.ChangeAt Go.RowKit
theorem bu_IsaBg_23_  (w : World) : (Instr.build 23 #[]).run Tryd.prog w = .ok (.agg #[(.int .i64 0), (.int .i64 0), (.int .i64 0), (.int .i64 0)]) w := by kernel_rfl
theorem bu_IsaBg_23_0_1 (x0 : Int) (x1 : Int) (w : World) : (Instr.build 23 #[(0, (.int .i64 x0)), (1, (.int .i64 x1))]).run Tryd.prog w = .ok (.agg #[(.int .i64 x0), (.int .i64 x1), (.int .i64 0), (.int .i64 0)]) w := by kernel_rfl
theorem bu_IsaBg_23_0_1_2_3 (x0 : Int) (x1 : Int) (x2 : Int) (x3 : Int) (w : World) : (Instr.build 23 #[(0, (.int .i64 x0)), (1, (.int .i64 x1)), (2, (.int .i64 x2)), (3, (.int .i64 x3))]).run Tryd.prog w = .ok (.agg #[(.int .i64 x0), (.int .i64 x1), (.int .i64 x2), (.int .i64 x3)]) w := by kernel_rfl
theorem bu_IsaBg_23_0_3 (x0 : Int) (x1 : Int) (w : World) : (Instr.build 23 #[(0, (.int .i64 x0)), (3, (.int .i64 x1))]).run Tryd.prog w = .ok (.agg #[(.int .i64 x0), (.int .i64 0), (.int .i64 0), (.int .i64 x1)]) w := by kernel_rfl
set_option maxRecDepth 100000

theorem in64_small {n : Int} (h : -1000 ≤ n ∧ n ≤ 1000) : In64 n := by unfold In64; omega
theorem dec_two {u : Nat} (h1 : 10 ≤ u) (h2 : u < 100) : Lib.decDigits u = [UInt8.ofNat (48 + u / 10), UInt8.ofNat (48 + u % 10)] := Lib.decDigits_two (by omega) h2
theorem itoa_d (k : Nat) (h : k < 10) : Lib.itoa (k : Int) = [UInt8.ofNat (48 + k)] := by
  unfold Lib.itoa
  rw [if_neg (by omega), Int.toNat_natCast, Lib.decDigits_one h]
theorem itoa_m (k : Nat) (h : k < 10) (h0 : 0 < k) : Lib.itoa (-(k : Int)) = [45, UInt8.ofNat (48 + k)] := by
  unfold Lib.itoa
  rw [if_pos (by omega), Int.natAbs_neg, Int.natAbs_natCast, Lib.decDigits_one h]
theorem txt_get : txtI ⟨13, 1, 2, 3⟩ = [103, 101, 116, 32, 49, 32, 50, 32, 51] := by
  rw [txt_has (by decide)]
  show wordL 13 ++ ((if hasA 13 then 32 :: Lib.itoa ((1 : Nat) : Int) else []) ++ ((if hasB 13 then 32 :: Lib.itoa ((2 : Nat) : Int) else []) ++ (if hasN 13 then 32 :: Lib.itoa ((3 : Nat) : Int) else []))) = _
  rw [itoa_d 1 (by decide), itoa_d 2 (by decide), itoa_d 3 (by decide)]
  decide +kernel
theorem txt_set : txtI ⟨1, 0, 0, -5⟩ = [115, 101, 116, 32, 48, 32, 45, 53] := by
  rw [txt_has (by decide)]
  show wordL 1 ++ ((if hasA 1 then 32 :: Lib.itoa ((0 : Nat) : Int) else []) ++ ((if hasB 1 then 32 :: Lib.itoa ((0 : Nat) : Int) else []) ++ (if hasN 1 then 32 :: Lib.itoa (-((5 : Nat) : Int)) else []))) = _
  rw [itoa_d 0 (by decide), itoa_m 5 (by decide) (by decide)]
  decide +kernel
theorem says_set : Says [115, 101, 116, 32, 48, 32, 45, 53] ⟨1, 0, 0, -5⟩ := ⟨by decide +kernel, ⟨in64_small (by decide), in64_small (by decide), in64_small (by decide)⟩, txt_set⟩
theorem says_not (j : Ins) : ¬ Says [115, 101, 116, 32, 48, 32, 48, 53] j := by
  intro hj
  have hs := says_split hj
  have ho : j.op = 1 := word_inj (chk_op hj.1) (by decide) ((says_op hj).1.trans (by decide +kernel))
  have hn := says_num hj (m := 1) (by rw [ho]; decide +kernel)
  rw [ho] at hs hn
  have e : (5 : Int) = selI j 78 := by
    have h2 : Lib.atoiAll ((splitC 32 [115, 101, 116, 32, 48, 32, 48, 53]).getD (1 + 1) []) = .ok 5 := by decide +kernel
    rw [h2] at hn
    injection hn
  have h3 : (splitC 32 [115, 101, 116, 32, 48, 32, 48, 53]).getD 2 [] = Lib.itoa (selI j 78) := by rw [hs]; rfl
  rw [← e, show Lib.itoa 5 = [53] from itoa_d 5 (by decide)] at h3
  revert h3
  decide +kernel
theorem show_get {w : World} (hL : Lay w) : Calls Tryd.prog 6 #[.agg #[.int .i64 13, .int .i64 1, .int .i64 2, .int .i64 3]] w fun e w' => e = .returned (.tuple #[.string (bstr [103, 101, 116, 32, 49, 32, 50, 32, 51]), .int .i64 0]) ∧ Below w.heap.size w w' := by
  have h := isaShow_any ⟨13, 1, 2, 3⟩ ⟨in64_small (by decide), in64_small (by decide), in64_small (by decide)⟩ hL
  have hc : chkIns ⟨13, 1, 2, 3⟩ = 0 := by decide +kernel
  rw [hc, if_pos rfl, txt_get] at h
  exact h
theorem read_set {w : World} (hL : Lay w) : Calls Tryd.prog 11 #[.string (bstr [115, 101, 116, 32, 48, 32, 45, 53])] w fun e w' => e = .returned (.tuple #[.agg #[.int .i64 1, .int .i64 0, .int .i64 0, .int .i64 (-5)], .int .i64 0]) ∧ Below w.heap.size w w' := by
  refine (isaRead_any [115, 101, 116, 32, 48, 32, 45, 53] (by decide) hL).mono ?_
  rintro e w' ⟨i, c, rfl, hb, h⟩
  rcases h with ⟨rfl, h⟩ | ⟨-, -, h⟩
  · obtain rfl := h.unique says_set
    exact ⟨rfl, hb⟩
  · exact absurd says_set (h _)
theorem read_not {w : World} (hL : Lay w) : Calls Tryd.prog 11 #[.string (bstr [115, 101, 116, 32, 48, 32, 48, 53])] w fun e w' => e = .returned (.tuple #[.agg #[.int .i64 0, .int .i64 0, .int .i64 0, .int .i64 0], .int .i64 1]) ∧ Below w.heap.size w w' := by
  refine (isaRead_any [115, 101, 116, 32, 48, 32, 48, 53] (by decide) hL).mono ?_
  rintro e w' ⟨i, c, rfl, hb, h⟩
  rcases h with ⟨-, h⟩ | ⟨rfl, rfl, -⟩
  · exact absurd h (says_not _)
  · exact ⟨rfl, hb⟩
theorem check_is {op p q r c : Int} (h : chkI op p q r = c) (w : World) : Calls Tryd.prog 10 #[.agg #[.int .i64 op, .int .i64 p, .int .i64 q, .int .i64 r]] w fun e w' => e = .returned (.int .i64 c) ∧ Below w.heap.size w w' := by
  subst h
  exact isaCheck_any op p q r w
set_option maxHeartbeats 4000000 in
theorem isaBegun_any {w : World} (hL : Lay w) : Calls Tryd.prog 9 #[] w fun e w' => e = .returned (.bool true) ∧ Below w.heap.size w w' := by
  refine enter Tryd.func9 rfl Tryd.ntmps9 rfl fun a hF => ?_
  have hW := Wd.start w NoB
  refine c_sr <| pv hF hW (y_assign hF rfl) fun a hF => l_nil <| t_n <| c_sr <| pv hF hW (y_build hF rfl (fun w => bu_IsaBg_23_0_1_2_3 _ _ _ _ w)) fun a hF => ?_; refine pe (e_call hF rfl rfl en_6 (by rfl) rfl rfl (show_get (hL.wd hW)) ?_); rintro e w1 ⟨rfl, hb⟩; replace hW := hW.kept hb; clear hb; refine ⟨_, rfl, fun a hF => ?_⟩; refine pv hF hW (y_move hF rfl) fun a hF => pv hF hW (y_extract hF rfl rfl) fun a hF => pv hF hW (y_extract hF rfl rfl) fun a hF => pv hF hW (y_assign hF rfl) fun a hF => pv hF hW (y_assign hF rfl) fun a hF => l_nil ?_; replace hF := hF.ks [0, 1, 2] rfl; refine t_n <| c_sr ?_; refine pe (e_call hF rfl rfl en_11 (by rfl) rfl rfl (read_set (hL.wd hW)) ?_); rintro e w1 ⟨rfl, hb⟩; replace hW := hW.kept hb; clear hb; refine ⟨_, rfl, fun a hF => ?_⟩; refine pv hF hW (y_move hF rfl) fun a hF => pv hF hW (y_extract hF rfl rfl) fun a hF => pv hF hW (y_extract hF rfl rfl) fun a hF => ?_; refine pe (e_alloc hF hW ze_23 rfl rfl rfl ?_); intro b1 a wc hF hW; refine pe (e_storeAll rfl hF hW rfl rfl 0 rfl rfl rfl (by kernel_rfl) sz_23 ?_); intro wc hW; refine pv hF hW (y_assign hF rfl) fun a hF => l_nil ?_; replace hF := hF.ks [0, 1, 2, 3, 4] rfl; refine t_n <| c_sr ?_; refine pe (e_call hF rfl rfl en_11 (by rfl) rfl rfl (read_not (hL.wd hW)) ?_); rintro e w1 ⟨rfl, hb⟩; replace hW := hW.kept hb; clear hb; refine ⟨_, rfl, fun a hF => ?_⟩; refine pv hF hW (y_move hF rfl) fun a hF => pv hF hW (y_extract hF rfl rfl) fun a hF => pv hF hW (y_extract hF rfl rfl) fun a hF => ?_; refine pe (e_alloc hF hW ze_23 rfl rfl rfl ?_); intro b2 a wc hF hW; refine pe (e_storeAll rfl hF hW rfl rfl 0 rfl rfl rfl (by kernel_rfl) sz_23 ?_); intro wc hW; refine pv hF hW (y_assign hF rfl) fun a hF => l_nil ?_; replace hF := hF.ks [0, 1, 2, 3, 4, 6] rfl; refine t_n <| c_sr <| pv hF hW (y_move hF rfl) fun a hF => pv hF hW (y_eql hF rfl rfl) fun a hF => ?_; replace hF := hF.tt; refine pv hF hW (y_move hF rfl) fun a hF => ?_; replace hF := hF.tt; refine pvg hF hW (y_move hF rfl) (ws hF rfl rfl) fun a hF => pvg hF hW (y_eql hF rfl rfl) (ws hF rfl rfl) fun a hF => ?_; replace hF := hF.tt; refine pv hF hW (y_pick hF rfl rfl) fun a hF => ?_; replace hF := hF.tt; refine pv hF hW (y_move hF rfl) fun a hF => ?_; replace hF := hF.tt; refine pvg hF hW (y_move hF rfl) (ws hF rfl rfl) fun a hF => pvg hF hW (y_eql hF rfl rfl) (ws hF rfl rfl) fun a hF => ?_; replace hF := hF.tt; refine pv hF hW (y_pick hF rfl rfl) fun a hF => ?_; replace hF := hF.tt; refine pv hF hW (y_move hF rfl) fun a hF => ?_; replace hF := hF.tt; refine pvg hF hW (y_move hF rfl) (ws hF rfl rfl) fun a hF => pvg hF hW (y_eqB hF rfl rfl) (ws hF rfl rfl) fun a hF => ?_; refine Fr.splitD hF ?_ ?_
  · intro h3 hF; refine pv hF hW (y_pick hF rfl rfl) fun a hF => pv hF hW (y_move hF rfl) fun a hF => pvg hF hW (y_loadAll hF rfl 1 rfl Tryd.underlying23 rfl sz_23) (ws hF rfl rfl) fun a hF => pvg hF hW (y_build hF rfl (fun w => bu_IsaBg_23_0_3 _ _ w)) (ws hF rfl rfl) fun a hF => pvg hF hW (y_bin hF rfl rfl (fun w => eqt_23 _ _ _ _ _ _ _ _ _ _ w)) (ws hF rfl rfl) fun a hF => ?_; replace hF := hF.tt; refine pv hF hW (y_pick hF rfl rfl) fun a hF => ?_; replace hF := hF.tt; refine pv hF hW (y_move hF rfl) fun a hF => ?_; replace hF := hF.tt; refine pvg hF hW (y_build hF rfl (fun w => bu_IsaBg_23_  w)) (ws hF rfl rfl) fun a hF => ?_; refine pe (e_call hF rfl rfl en_10 (by rfl) rfl rfl (check_is (c := 4) (by decide +kernel) _) ?_) (ws hF rfl rfl); rintro e w1 ⟨rfl, hb⟩; replace hW := hW.kept hb; clear hb; refine ⟨_, rfl, fun a hF => ?_⟩; refine pvg hF hW (y_eql hF rfl rfl) (ws hF rfl rfl) fun a hF => ?_; replace hF := hF.tt; refine pv hF hW (y_pick hF rfl rfl) fun a hF => ?_; replace hF := hF.tt; refine pv hF hW (y_move hF rfl) fun a hF => ?_; replace hF := hF.tt; refine pvg hF hW (y_build hF rfl (fun w => bu_IsaBg_23_0_1 _ _ w)) (ws hF rfl rfl) fun a hF => ?_; refine pe (e_call hF rfl rfl en_10 (by rfl) rfl rfl (check_is (c := 1) (by decide +kernel) _) ?_) (ws hF rfl rfl); rintro e w1 ⟨rfl, hb⟩; replace hW := hW.kept hb; clear hb; refine ⟨_, rfl, fun a hF => ?_⟩; refine pvg hF hW (y_eql hF rfl rfl) (ws hF rfl rfl) fun a hF => ?_; replace hF := hF.tt; refine pv hF hW (y_pick hF rfl rfl) fun a hF => ?_; replace hF := hF.tt; refine pv hF hW (y_move hF rfl) fun a hF => ?_; replace hF := hF.tt; refine pvg hF hW (y_build hF rfl (fun w => bu_IsaBg_23_0_3 _ _ w)) (ws hF rfl rfl) fun a hF => ?_; refine pe (e_call hF rfl rfl en_10 (by rfl) rfl rfl (check_is (c := 3) (by decide +kernel) _) ?_) (ws hF rfl rfl); rintro e w1 ⟨rfl, hb⟩; replace hW := hW.kept hb; clear hb; refine ⟨_, rfl, fun a hF => ?_⟩; refine pvg hF hW (y_eql hF rfl rfl) (ws hF rfl rfl) fun a hF => ?_; replace hF := hF.tt; refine pv hF hW (y_pick hF rfl rfl) fun a hF => ?_; replace hF := hF.tt; replace hF := hF.drop 0; refine pv hF hW (y_assign hF rfl) fun a hF => ?_; replace hF := hF.tt; refine l_nil ?_; replace hF := hF.ks [0, 1, 2, 3, 4, 6] rfl; refine t_n <| wp_ret <| ret1 Tryd.results9 hF (rv_t hF rfl) ?_
    exact ⟨rfl, hW.below⟩
  · intro h3 hF; exfalso
    exact h3 rfl
theorem instrText_any (i : Ins) (h : chkIns i = 0) (hi : i.In) (w : World) : Calls Tryd.prog 8 #[i.val] w fun e w' => e = .returned (.string (bstr (txtI i))) ∧ Below w.heap.size w w' := by
  have ho := chk_op h
  obtain ⟨o, p, q, r⟩ := i
  obtain ⟨m, rfl⟩ : ∃ m : Nat, o = m := ⟨o.toNat, by simp only at ho; omega⟩
  exact instrText_nat m p q r (by simp only at ho; omega) hi w
set_option maxHeartbeats 4000000 in
theorem isaChecks_run (i : Ins) (hi : i.In) {w : World} (hL : Lay w) : Calls Tryd.prog 3 #[i.val] w fun e w' => e = .returned (.bool true) ∧ Below w.heap.size w w' := by
  refine enter Tryd.func3 rfl Tryd.ntmps3 rfl fun a hF => ?_
  have hW := Wd.start w NoB
  refine c_sr ?_; refine pe (e_box hF hW rfl rfl rfl rfl ?_); intro b1 a wc hF hW; refine pv hF hW (y_assign hF rfl) fun a hF => l_nil <| t_n <| c_sr <| pv hF hW (y_loadAll hF rfl 0 rfl Tryd.underlying23 rfl sz_23) fun a hF => ?_; refine pe (e_call hF rfl rfl en_6 (by rfl) rfl rfl (isaShow_any i hi (hL.wd hW)) ?_); rintro e w1 ⟨rfl, hb⟩; replace hW := hW.kept hb; clear hb; refine ⟨_, rfl, fun a hF => ?_⟩; refine pv hF hW (y_move hF rfl) fun a hF => pv hF hW (y_extract hF rfl rfl) fun a hF => pv hF hW (y_extract hF rfl rfl) fun a hF => pv hF hW (y_assign hF rfl) fun a hF => pv hF hW (y_assign hF rfl) fun a hF => l_nil ?_; replace hF := hF.ks [0, 1, 2, 3, 4] rfl; refine t_n <| c_sr <| pv hF hW (y_loadAll hF rfl 0 rfl Tryd.underlying23 rfl sz_23) fun a hF => ?_; refine pe (e_call hF rfl rfl en_7 (by rfl) rfl rfl (checkInstr_any i.op i.a i.b i.n _) ?_); rintro e w1 ⟨rfl, hb⟩; replace hW := hW.kept hb; clear hb; refine ⟨_, rfl, fun a hF => ?_⟩; refine pv hF hW (y_assign hF rfl) fun a hF => l_nil ?_; replace hF := hF.ks [0, 1, 2, 3, 4, 5] rfl; refine t_n <| c_sr <| pv hF hW (y_assign hF rfl) fun a hF => l_nil <| t_n <| c_s <| c_sr <| pv hF hW (y_move hF rfl) fun a hF => pv hF hW (y_eql hF rfl rfl) fun a hF => ?_; refine Fr.splitD hF ?_ ?_
  · intro h2 hF; refine l_nil ?_; replace hF := hF.ks [0, 1, 2, 3, 4, 5, 6, 15] rfl; refine t_n <| c_t hF rfl <| c_r <| pv hF hW (y_loadAll hF rfl 0 rfl Tryd.underlying23 rfl sz_23) fun a hF => ?_; refine pe (e_call hF rfl rfl en_8 (by rfl) rfl rfl (instrText_any i (by assumption) hi _) ?_); rintro e w1 ⟨rfl, hb⟩; replace hW := hW.kept hb; clear hb; refine ⟨_, rfl, fun a hF => ?_⟩; replace hF := hF.drop 6; refine pv hF hW (y_assign hF rfl) fun a hF => l_nil ?_; replace hF := hF.ks [0, 1, 2, 3, 4, 5, 6, 15] rfl; refine t_n <| c_sr ?_; refine pe (e_call hF rfl rfl en_9 (by rfl) rfl rfl (isaBegun_any (hL.wd hW)) ?_); rintro e w1 ⟨rfl, hb⟩; replace hW := hW.kept hb; clear hb; refine ⟨_, rfl, fun a hF => ?_⟩; refine pv hF hW (y_move hF rfl) fun a hF => pvg hF hW (y_loadAll hF rfl 0 rfl Tryd.underlying23 rfl sz_23) (ws hF rfl rfl) fun a hF => ?_; refine pe (e_call hF rfl rfl en_10 (by rfl) rfl rfl (isaCheck_any i.op i.a i.b i.n _) ?_) (ws hF rfl rfl); rintro e w1 ⟨rfl, hb⟩; replace hW := hW.kept hb; clear hb; refine ⟨_, rfl, fun a hF => ?_⟩; refine pvg hF hW (y_move hF rfl) (ws hF rfl rfl) fun a hF => pvg hF hW (y_eql hF rfl rfl) (ws hF rfl rfl) fun a hF => ?_; refine Fr.splitD hF ?_ ?_
    · intro h3 hF; refine pv hF hW (y_pick hF rfl rfl) fun a hF => pv hF hW (y_move hF rfl) fun a hF => pvg hF hW (y_move hF rfl) (ws hF rfl rfl) fun a hF => pvg hF hW (y_move hF rfl) (ws hF rfl rfl) fun a hF => pvg hF hW (y_eql hF rfl rfl) (ws hF rfl rfl) fun a hF => ?_; refine Fr.splitD hF ?_ ?_
      · intro h4 hF; refine pv hF hW (y_pick hF rfl rfl) fun a hF => pv hF hW (y_move hF rfl) fun a hF => pvg hF hW (y_move hF rfl) (ws hF rfl rfl) fun a hF => pvg hF hW (y_move hF rfl) (ws hF rfl rfl) fun a hF => pvg hF hW (y_eqB hF rfl rfl) (ws hF rfl rfl) fun a hF => ?_; refine Fr.splitD hF ?_ ?_
        · intro h5 hF; refine pv hF hW (y_pick hF rfl rfl) fun a hF => ?_; replace hF := hF.drop 2; refine pv hF hW (y_assign hF rfl) fun a hF => l_nil ?_; replace hF := hF.ks [0, 1, 2, 3, 4, 5, 6, 15] rfl; refine t_n <| wp_ret <| ret1 Tryd.results3 hF (rv_t hF rfl) ?_
          exact ⟨rfl, hW.below⟩
        · intro h5 hF; exfalso
          first | exact h5 (if_pos (by assumption)) | exact h5 (if_neg (by assumption))
      · intro h4 hF; exfalso
        exact h4 rfl
    · intro h3 hF; exfalso
      exact h3 rfl
  · intro h2 hF; refine l_nil ?_; replace hF := hF.ks [0, 1, 2, 3, 4, 5, 6, 15] rfl; refine t_n <| c_f hF rfl <| wp_skip <| t_n <| c_sr ?_; refine pe (e_call hF rfl rfl en_9 (by rfl) rfl rfl (isaBegun_any (hL.wd hW)) ?_); rintro e w1 ⟨rfl, hb⟩; replace hW := hW.kept hb; clear hb; refine ⟨_, rfl, fun a hF => ?_⟩; refine pv hF hW (y_move hF rfl) fun a hF => pvg hF hW (y_loadAll hF rfl 0 rfl Tryd.underlying23 rfl sz_23) (ws hF rfl rfl) fun a hF => ?_; refine pe (e_call hF rfl rfl en_10 (by rfl) rfl rfl (isaCheck_any i.op i.a i.b i.n _) ?_) (ws hF rfl rfl); rintro e w1 ⟨rfl, hb⟩; replace hW := hW.kept hb; clear hb; refine ⟨_, rfl, fun a hF => ?_⟩; refine pvg hF hW (y_move hF rfl) (ws hF rfl rfl) fun a hF => pvg hF hW (y_eql hF rfl rfl) (ws hF rfl rfl) fun a hF => ?_; refine Fr.splitD hF ?_ ?_
    · intro h6 hF; refine pv hF hW (y_pick hF rfl rfl) fun a hF => pv hF hW (y_move hF rfl) fun a hF => pvg hF hW (y_move hF rfl) (ws hF rfl rfl) fun a hF => pvg hF hW (y_move hF rfl) (ws hF rfl rfl) fun a hF => pvg hF hW (y_eql hF rfl rfl) (ws hF rfl rfl) fun a hF => ?_; refine Fr.splitD hF ?_ ?_
      · intro h7 hF; refine pv hF hW (y_pick hF rfl rfl) fun a hF => pv hF hW (y_move hF rfl) fun a hF => pvg hF hW (y_move hF rfl) (ws hF rfl rfl) fun a hF => pvg hF hW (y_move hF rfl) (ws hF rfl rfl) fun a hF => pvg hF hW (y_eqB hF rfl rfl) (ws hF rfl rfl) fun a hF => ?_; refine Fr.splitD hF ?_ ?_
        · intro h8 hF; refine pv hF hW (y_pick hF rfl rfl) fun a hF => ?_; replace hF := hF.drop 2; refine pv hF hW (y_assign hF rfl) fun a hF => l_nil ?_; replace hF := hF.ks [0, 1, 2, 3, 4, 5, 6, 15] rfl; refine t_n <| wp_ret <| ret1 Tryd.results3 hF (rv_t hF rfl) ?_
          exact ⟨rfl, hW.below⟩
        · intro h8 hF; exfalso
          first | exact h8 (if_pos (by assumption)) | exact h8 (if_neg (by assumption))
      · intro h7 hF; exfalso
        exact h7 rfl
    · intro h6 hF; exfalso
      exact h6 rfl
end Go.Proofs.YtfkngjglnhfdcaaDoor
