/- The law DeskSound answers true for every input of a bulk below the second form's bound, where the library's package variables lie as the text lays them. -/
import Derived.Test.YtndcjmopebcdgaaGreatDoorDskM
import Derived.Test.YtndcjmopebcdgaaGreatDoorDskL
import Derived.Test.YtndcjmopebcdgaaGreatDoorSkK
import Derived.Test.YtndcjmopebcdgaaGreatDoorLaidW
import Derived.Test.YtndcjmopebcdgaaGreatDoorCards
import Derived.Test.YtndcjmopebcdgaaGreatDoorTie
import Derived.WalkKit
namespace Go.Proofs.YtndcjmopebcdgaaGreatDoor
set_option linter.unusedVariables false
set_option linter.unusedSimpArgs false
open Go.ChangeShapes Go.WideShapes Go.ChangeAt Go.RowKit
theorem bu_DeskSound_53_0_1 (x0 : Int) (x1 : Int) (w : World) : (Instr.build 53 #[(0, (.int .i64 x0)), (1, (.int .i64 x1))]).run Tryz.prog w = .ok (.agg #[(.int .i64 x0), (.int .i64 x1)]) w := by kernel_rfl
set_option maxRecDepth 100000

set_option maxHeartbeats 16000000 in
theorem deskSound_run (x : SysD) (s : List UInt8) (part by_ n : Int) (q : PP) {w : World} (hx : x.At w) (hxr : SysR x.sys) (hq : q.At w) (hqr : PrtR q.1) (hl : q.1.code.length ≤ 1048576 ∧ q.1.inp.length ≤ 1048576) (hs : s.length ≤ 1048576)
    (hcp : -9223372036854775808 ≤ part ∧ part ≤ 9223372036854775807) (hcb : -9223372036854775808 ≤ by_ ∧ by_ ≤ 9223372036854775807) (hL : Lay w) :
    Calls Tryz.prog 4 #[x.val, .string (bstr s), .int .i64 part, .int .i64 by_, .int .i64 n, .agg (encP q).toArray] w fun e w' => e = .returned (.bool true) ∧ Below w.heap.size w w' := by
  have hce := fun (P : List Edg) (A : Option Addr) (c : Nat) w1 (hb : Below w.heap.size w w1) (hm : May_ w1 A c P) => certify_any (hx.below hb) hm (by have := Flat.len hm; omega)
  have hoth := fun w1 (hb : Below w.heap.size w w1) (v : Int) => viewOther_any (hx.below hb) (hq.below hb) v Om
  have hw1 := fun w1 (hb : Below w.heap.size w w1) (hk : chkSys x.sys = 0) => (show Calls Tryz.prog 14 #[x.val] w1 fun e w' => e = .returned (.tuple #[.string (bstr (imgL x.sys)), .int .i64 0]) ∧ Below w1.heap.size w1 w' by
    have := imageWrite_any (hx.below hb)
    rwa [hk, show imgOr x.sys = imgL x.sys from if_pos hk] at this)
  have hw2 := fun (y : SysD) (t : Sys) (hys : y.sys = t) (hk : chkSys t = 0) (w1 : World) (hy : y.At w1) => (show Calls Tryz.prog 14 #[y.val] w1 fun e w' => e = .returned (.tuple #[.string (bstr (imgL t)), .int .i64 0]) ∧ Below w1.heap.size w1 w' by
    have := imageWrite_any hy
    rwa [hys, hk, show imgOr t = imgL t from if_pos hk] at this)
  have hsl := sys_parts_len x
  unfold CertBack at hce
  simp only [SysD.val_eq] at hw2
  change Calls _ _ #[_, _, _, _, _, .agg #[.slice q.2.ca q.1.code.length q.2.cc, .slice q.2.ia q.1.inp.length q.2.ic]] _ _
  rw [x.val_eq] at *
  refine enter Tryz.func4 rfl Tryz.ntmps4 rfl fun a hF => ?_
  have hW := Wd.start w NoB
  refine c_sr <| pe <| e_box hF hW rfl rfl rfl rfl fun b1 a wc hF hW => pe <| e_box hF hW rfl rfl rfl rfl fun b2 a wc hF hW => pq 1 hF rfl fun a hF => lts <| pq 1 hF rfl fun a hF => ?_; refine pe (e_callA hF rfl rfl en_7 Rl (deskRules_any s hs (hL.wd hW)) ?_); rintro e w1 ⟨P, A, c, E, rfl, hRu, hb, hr⟩
  have hPl := Flat.len hr.now
  unfold maxLen at hPl
  replace hW := hW.gotR hb hr; refine ⟨_, rfl, fun a hF => ?_⟩; refine pq 3 hF rfl fun a hF => pe <| e_alloc hF hW ze_27 rfl rfl rfl fun b3 a wc hF hW => pe <| e_storeAll rfl hF hW rfl rfl 0 rfl rfl rfl Kr sz_27 fun wc hW => pq 1 hF rfl fun a hF => lts <| pv hF hW (y_loadAll hF rfl 3 rfl Tryz.underlying39 rfl sz_39) fun a hF => pv hF hW (y_loadAll hF rfl 0 rfl Tryz.underlying27 rfl sz_27) fun a hF => ?_; refine pe (e_callA hF rfl rfl en_11 Rl (hce P A c _ hW.below (hW.res 1 rfl)) ?_); rintro e w1 ⟨qs, B, d, L, A1, c1, is, rfl, hI, hI2, hb, hr⟩; replace hW := hW.gotR hb hr; refine ⟨_, rfl, fun a hF => ?_⟩; refine pq 4 hF rfl fun a hF => ?_; refine Fr.splitB hF (fun h4 hF => ?_) (fun h4 hF => ?_); refine pq 1 hF rfl fun a hF => pe <| e_alloc hF hW ze_46 rfl rfl rfl fun b5 a wc hF hW => pe <| e_storeAll rfl hF hW rfl rfl 0 rfl rfl rfl Kr sz_46 fun wc hW => pq 3 hF rfl fun a hF => l_nil ?_; replace hF := hF.ks [0, 1, 2, 3, 4, 5, 6, 11, 12, 13, 14, 15, 17, 18] rfl; refine t_n <| c_s <| c_sr <| pq 2 hF rfl fun a hF => ?_; refine Fr.splitD hF (fun h6 hF => ?_) (fun h6 hF => ?_); refine pq 31 hF rfl fun a hF => l_nil ?_; replace hF := hF.ks [0, 1, 2, 3, 4, 5, 6, 11, 12, 13, 14, 15, 17, 18, 77] rfl; refine t_n <| c_t hF rfl <| c_sr <| pe <| e_callK hF hW rfl rfl en_9 Rl (deskBegun_any (hL.wd hW)) fun a w1 hW hF => pq 1 hF rfl fun a hF => l_nil <| t_n <| wp_ret <| t_r <| ret1 Tryz.results4 hF (rv_t hF rfl) ?_
  exact ⟨rfl, hW.below⟩
  refine pq 3 hF rfl fun a hF => ?_; refine Fr.splitD hF (fun h7 hF => ?_) (fun h7 hF => ?_); refine pq 28 hF rfl fun a hF => l_nil ?_; replace hF := hF.ks [0, 1, 2, 3, 4, 5, 6, 11, 12, 13, 14, 15, 17, 18, 77] rfl; refine t_n <| c_t hF rfl <| c_sr <| pe <| e_callK hF hW rfl rfl en_9 Rl (deskBegun_any (hL.wd hW)) fun a w1 hW hF => pq 1 hF rfl fun a hF => l_nil <| t_n <| wp_ret <| t_r <| ret1 Tryz.results4 hF (rv_t hF rfl) ?_
  exact ⟨rfl, hW.below⟩
  refine pq 5 hF rfl fun a hF => ?_; replace hF := hF.ff; refine pq 1 hF rfl fun a hF => ?_; replace hF := hF.ff; refine pq 2 hF rfl fun a hF => ?_; refine Fr.splitD hF (fun h8 hF => ?_) (fun h8 hF => ?_); refine pq 20 hF rfl fun a hF => l_nil ?_; replace hF := hF.ks [0, 1, 2, 3, 4, 5, 6, 11, 12, 13, 14, 15, 17, 18, 77] rfl; refine t_n <| c_t hF rfl <| c_sr <| pe <| e_callK hF hW rfl rfl en_9 Rl (deskBegun_any (hL.wd hW)) fun a w1 hW hF => pq 1 hF rfl fun a hF => l_nil <| t_n <| wp_ret <| t_r <| ret1 Tryz.results4 hF (rv_t hF rfl) ?_
  exact ⟨rfl, hW.below⟩
  refine pq 4 hF rfl fun a hF => ?_; refine Fr.splitD hF (fun h9 hF => ?_) (fun h9 hF => ?_); refine pq 16 hF rfl fun a hF => l_nil ?_; replace hF := hF.ks [0, 1, 2, 3, 4, 5, 6, 11, 12, 13, 14, 15, 17, 18, 77] rfl; refine t_n <| c_t hF rfl <| c_sr <| pe <| e_callK hF hW rfl rfl en_9 Rl (deskBegun_any (hL.wd hW)) fun a w1 hW hF => pq 1 hF rfl fun a hF => l_nil <| t_n <| wp_ret <| t_r <| ret1 Tryz.results4 hF (rv_t hF rfl) ?_
  exact ⟨rfl, hW.below⟩
  refine pq 3 hF rfl fun a hF => pvg hF hW (y_loadOwn hF rfl 0 rfl rfl Tryz.underlying44 rfl) (ws hF rfl rfl) fun a hF => pq 2 hF rfl fun a hF => pvg hF hW (y_loadOwn hF rfl 5 rfl rfl Tryz.underlying35 rfl) (ws hF rfl rfl) fun a hF => pq 2 hF rfl fun a hF => ?_; refine Fr.splitD hF (fun h10 hF => ?_) (fun h10 hF => ?_); refine pq 7 hF rfl fun a hF => l_nil ?_; replace hF := hF.ks [0, 1, 2, 3, 4, 5, 6, 11, 12, 13, 14, 15, 17, 18, 77] rfl; refine t_n <| c_t hF rfl <| c_sr <| pe <| e_callK hF hW rfl rfl en_9 Rl (deskBegun_any (hL.wd hW)) fun a w1 hW hF => pq 1 hF rfl fun a hF => l_nil <| t_n <| wp_ret <| t_r <| ret1 Tryz.results4 hF (rv_t hF rfl) ?_
  exact ⟨rfl, hW.below⟩
  refine pq 3 hF rfl fun a hF => pvg hF hW (y_loadOwn hF rfl 5 rfl rfl Tryz.underlying35 rfl) (ws hF rfl rfl) fun a hF => pq 2 hF rfl fun a hF => ?_; refine Fr.splitD hF (fun h11 hF => ?_) (fun h11 hF => ?_); refine pq 1 hF rfl fun a hF => l_nil ?_; replace hF := hF.ks [0, 1, 2, 3, 4, 5, 6, 11, 12, 13, 14, 15, 17, 18, 77] rfl; refine t_n <| c_t hF rfl <| c_sr <| pe <| e_callK hF hW rfl rfl en_9 Rl (deskBegun_any (hL.wd hW)) fun a w1 hW hF => pq 1 hF rfl fun a hF => l_nil <| t_n <| wp_ret <| t_r <| ret1 Tryz.results4 hF (rv_t hF rfl) ?_
  exact ⟨rfl, hW.below⟩
  refine pq 1 hF rfl fun a hF => l_nil ?_; replace hF := hF.ks [0, 1, 2, 3, 4, 5, 6, 11, 12, 13, 14, 15, 17, 18, 77] rfl; refine t_n <| c_f hF rfl <| wp_skip <| t_n <| c_sd mixed_ok hW (hW) ?_
  clear hW; intro wc hW hS
  refine dq 2 [0, 1] hF hS rfl fun a hF => dv 2 rfl hF hS (y_loadOwn hF rfl 5 rfl rfl Tryz.underlying35 rfl) fun a hF => dq 3 [3, 5, 6] hF hS rfl fun a hF => dv 7 rfl hF hS (y_loadOwn hF rfl 5 rfl rfl Tryz.underlying35 rfl) fun a hF => dq 1 [8] hF hS rfl fun a hF => d_1 4 Kr ?_; refine d_op rfl rfl (e_callA hF rfl rfl en_12 Rl (chooseN_any hcp Om _) ?_); rintro e w1 ⟨⟨u0, rfl, hu0, hu1⟩, hb⟩; replace hW := hW.kept hb; clear hb; refine ⟨_, rfl, fun a hF => ?_⟩
  obtain ⟨u, rfl⟩ := Int.eq_ofNat_of_zero_le hu0
  have hu : u < x.parts.length := Om
  refine ai hW fun hS => d_1 9 Kr ?_; refine d_op rfl rfl (e_callA hF rfl rfl en_12 Rl (chooseN_any hcb Om _) ?_); rintro e w1 ⟨⟨v0, rfl, hv0, hv1⟩, hb⟩; replace hW := hW.kept hb; clear hb; refine ⟨_, rfl, fun a hF => ?_⟩
  obtain ⟨v, rfl⟩ := Int.eq_ofNat_of_zero_le hv0
  have hv : v < x.parts.length := Om
  refine ai hW fun hS => dq 2 [10, 11] hF hS rfl fun a hF => ?_; clear hS; refine d_nil Kr <| t_n <| c_sr <| pv hF hW (y_loadAll hF rfl 5 rfl Tryz.underlying39 rfl sz_39) fun a hF => pq 1 hF rfl fun a hF => pv hF hW (y_loadAll hF rfl 4 rfl Tryz.underlying43 rfl sz_43) fun a hF => ?_; refine pe (e_callA hF rfl rfl en_13 Rl (hoth _ hW.below v) ?_); rintro e w1 ⟨y, rfl, hys, hb, hr⟩; replace hW := hW.gotR hb hr; refine ⟨_, rfl, fun a hF => ?_⟩; replace hF := Fr.cast (v' := .tuple #[.agg #[.slice y.pa y.parts.length y.pc, .slice y.ha y.chans.length y.hc, .slice y.sa y.slots.length y.sc], .int .i64 (otherErr x.sys v q.1)]) rfl hF; refine pq 3 hF rfl fun a hF => pe <| e_alloc hF hW ze_39 rfl rfl rfl fun b12 a wc hF hW => pe <| e_storeAll rfl hF hW rfl rfl 0 rfl rfl rfl Kr sz_39 fun wc hW => pq 1 hF rfl fun a hF => l_nil ?_; replace hF := hF.ks [0, 1, 2, 3, 4, 5, 6, 11, 12, 13, 14, 15, 17, 18, 19, 20, 21, 22, 77] rfl; refine t_n <| c_s <| c_sr <| pq 2 hF rfl fun a hF => ?_; refine Fr.splitD hF (fun h13 hF => ?_) (fun h13 hF => ?_); refine pq 5 hF rfl fun a hF => l_nil <| t_n <| c_t hF rfl <| c_sr <| pe <| e_callK hF hW rfl rfl en_9 Rl (deskBegun_any (hL.wd hW)) fun a w1 hW hF => pq 1 hF rfl fun a hF => l_nil <| t_n <| wp_ret <| t_r <| ret1 Tryz.results4 hF (rv_t hF rfl) ?_
  exact ⟨rfl, hW.below⟩
  refine pq 4 hF rfl fun a hF => ?_; refine Fr.splitD hF (fun h14 hF => ?_) (fun h14 hF => ?_); refine pq 1 hF rfl fun a hF => l_nil <| t_n <| c_t hF rfl <| c_sr <| pe <| e_callK hF hW rfl rfl en_9 Rl (deskBegun_any (hL.wd hW)) fun a w1 hW hF => pq 1 hF rfl fun a hF => l_nil <| t_n <| wp_ret <| t_r <| ret1 Tryz.results4 hF (rv_t hF rfl) ?_
  exact ⟨rfl, hW.below⟩
  refine pq 1 hF rfl fun a hF => l_nil <| t_n <| c_f hF rfl <| wp_skip <| t_n <| c_s <| c_sr <| pq 1 hF rfl fun a hF => l_nil <| t_n <| wp_block ?_; refine c_loop (G := Nat) (fun k : Nat => [(23, .int .i64 (k : Int))]) (fun k : Nat => []) (fun k : Nat => k ≤ P.length ∧ ∀ j, j < k → ¬ ((P.getD j E0).from_ = (v : Int) ∧ (P.getD j E0).to_ = (u : Int))) (fun k : Nat => P.length - k) 0 (hF.ks [0, 1, 2, 3, 4, 5, 6, 11, 13, 14, 15, 17, 18, 19, 20, 21, 22, 77, 102] rfl) (Fr.cons hF (t := 23) rfl Rg (Fr.nil hF)) (hW) ?_ ?_
  exact ⟨Nat.zero_le _, fun j hj => absurd hj (Nat.not_lt_zero j)⟩
  clear hF hW
  try clear a
  intro k a wc hC hF hW
  obtain ⟨hkl, hno⟩ := hC
  refine c_s <| c_sr <| pq 2 hF rfl fun a hF => pv hF hW (y_loadOwn hF rfl 4 rfl rfl Tryz.underlying25 rfl) fun a hF => pq 2 hF rfl fun a hF => ?_; refine Fr.splitD hF (fun h15 hF => ?_) (fun h15 hF => ?_); refine l_nil <| t_n <| c_t hF rfl <| wp_skip <| t_n <| c_s <| wp_block <| c_sr <| pq 1 hF rfl fun a hF => pv hF hW (y_loadOwn hF rfl 4 rfl rfl Tryz.underlying25 rfl) fun a hF => pq 1 hF rfl fun a hF => pv hF hW (y_indexS hF rfl rfl Od Tryz.underlying25 sz_53 (fun w h => (Flat.rf Edg.cells_len E0 (h.res 5 rfl)))) fun a hF => pv hF hW (y_loadRowW hF rfl (fun w h => (Flat.rf Edg.cells_len E0 (h.res 5 rfl))) Od Tryz.underlying53 rfl sz_53) fun a hF => pq 2 hF rfl fun a hF => pv hF hW (y_build hF rfl (fun w => bu_DeskSound_53_0_1 _ _ w)) fun a hF => pv hF hW (y_bin hF rfl rfl (fun w => eqt_53 _ _ _ _ _ _ w)) fun a hF => ?_; refine Fr.splitD hF (fun h16 hF => ?_) (fun h16 hF => ?_); refine l_nil <| t_n <| c_t hF rfl <| c_sr <| pe <| e_callK hF hW rfl rfl en_9 Rl (deskBegun_any (hL.wd hW)) fun a w1 hW hF => pq 1 hF rfl fun a hF => l_nil <| t_n <| wp_ret <| b_r <| t_r <| t_r <| b_r <| t_r <| ret1 Tryz.results4 hF (rv_t hF rfl) ?_
  exact ⟨rfl, hW.below⟩
  refine l_nil <| t_n <| c_f hF rfl <| wp_skip <| b_n <| t_n <| c_r <| pq 1 hF rfl fun a hF => pv hF hW (y_add hF rfl rfl (IntWalk.i64_in _ Om)) fun a hF => pq 1 hF rfl fun a hF => l_nil ?_; replace hF := hF.ks [0, 1, 2, 3, 4, 5, 6, 11, 13, 14, 15, 17, 18, 19, 20, 21, 22, 23, 77, 102, 108, 119] rfl; refine t_n ?_; refine ⟨(k + 1), ?_, ?_, ?_, ?_⟩
  exact ⟨by omega, fun j hj => by rcases Nat.lt_or_ge j k with h | h; exact hno j h; (obtain rfl : j = k := Om); assumption⟩
  first | omega | (dsimp only; omega)
  exact hF.a1 rfl rfl
  exact hW
  refine l_nil <| t_n <| c_f hF rfl <| wp_exit <| t_x <| t_x <| b_h <| t_n ?_
  obtain rfl : k = P.length := Om
  have hc0 : certErr x.sys P = 0 := Om
  obtain ⟨hk, -⟩ := certErr_zero hc0
  have hE : otherErr x.sys v q.1 = 0 := Om
  have hk' : chkSys (otherSys x.sys v q.1) = 0 := (by have := otherErr_c (q := q.1) (there_0 hk (p := (v : Int)) Om); rw [Int.toNat_natCast] at this; omega)
  have hys' : y.sys = otherSys x.sys v q.1 := hys.trans ((if_pos hE).trans (by rw [Int.toNat_natCast]))
  have hRS : RSays s P := (by rcases hRu with ⟨-, h⟩ | ⟨h, -⟩; exact h; omega)
  have hIs := hI hc0
  have h4 := (sizes_of hk).2
  have hA : Alone x.sys (otherSys x.sys v q.1) s n u := alone hk hk' hxr hqr hRS hc0 (by rw [hsl]; first | exact hIs | (rw [show is = true by assumption] at hIs; exact hIs)) ⟨by omega, by omega⟩ Om Om Om hno
  refine c_sr <| pv hF hW (y_loadAll hF rfl 7 rfl Tryz.underlying39 rfl sz_39) fun a hF => pe <| e_callK hF hW rfl rfl en_14 Rl (hw1 _ hW.below hk) fun a w1 hW hF => pq 5 hF rfl fun a hF => lts <| pv hF hW (y_loadAll hF rfl 0 rfl Tryz.underlying39 rfl sz_39) fun a hF => pe <| e_callK hF hW rfl rfl en_14 Rl (hw2 y _ hys' hk' _ (hW.res 1 rfl)) fun a w1 hW hF => pq 5 hF rfl fun a hF => l_nil ?_; replace hF := hF.ks [0, 1, 2, 3, 4, 5, 6, 11, 13, 14, 15, 17, 18, 19, 20, 21, 22, 23, 24, 25, 26, 27, 77, 102, 108] rfl; refine t_n <| c_sr <| pq 3 hF rfl fun a hF => ?_; refine pe (e_callA hF rfl rfl en_5 Rl (judge_any _ s n hs (hL.wd hW)) ?_); rintro e w1 ⟨T1, E1, rfl, hJ1, hb⟩; replace hW := hW.kept hb; refine ⟨_, rfl, fun a hF => ?_⟩; refine pq 5 hF rfl fun a hF => lts <| pq 3 hF rfl fun a hF => ?_; refine pe (e_callA hF rfl rfl en_5 Rl (judge_any _ s n hs (hL.wd hW)) ?_); rintro e w1 ⟨T2, E2, rfl, hJ2, hb⟩; replace hW := hW.kept hb; refine ⟨_, rfl, fun a hF => ?_⟩; refine pq 5 hF rfl fun a hF => l_nil ?_; replace hF := hF.ks [0, 1, 2, 3, 4, 5, 6, 11, 13, 14, 15, 17, 18, 19, 20, 21, 22, 23, 24, 25, 26, 27, 28, 29, 30, 31, 77, 102, 108] rfl; refine t_n <| c_s <| c_sr <| pq 2 hF rfl fun a hF => ?_; replace hF := hF.ff; refine pq 1 hF rfl fun a hF => ?_; replace hF := hF.ff; refine pq 2 hF rfl fun a hF => ?_; replace hF := hF.ff; refine pq 1 hF rfl fun a hF => ?_; replace hF := hF.ff; refine pq 1 hF rfl fun a hF => ?_; replace hF := hF.ff; refine pq 1 hF rfl fun a hF => pvg hF hW (y_lenB hF rfl Tryz.underlying9) (ws hF rfl rfl) fun a hF => pq 1 hF rfl fun a hF => ?_; refine Fr.splitD hF (fun h17 hF => ?_) (fun h17 hF => ?_); refine pq 6 hF rfl fun a hF => l_nil ?_; replace hF := hF.ks [0, 1, 2, 3, 4, 5, 6, 11, 13, 14, 15, 17, 18, 19, 20, 21, 22, 23, 24, 25, 26, 27, 28, 29, 30, 31, 77, 102, 108, 160] rfl; refine t_n <| c_t hF rfl <| c_sr <| pe <| e_callK hF hW rfl rfl en_9 Rl (deskBegun_any (hL.wd hW)) fun a w1 hW hF => pq 3 hF rfl fun a hF => ?_; replace hF := hF.tt; refine pq 1 hF rfl fun a hF => ?_; replace hF := hF.tt; refine pq 1 hF rfl fun a hF => ?_; replace hF := hF.tt; refine pq 2 hF rfl fun a hF => ?_; replace hF := hF.tt; refine pq 1 hF rfl fun a hF => ?_; replace hF := hF.tt; refine pq 1 hF rfl fun a hF => ?_; replace hF := hF.tt; refine l_nil <| t_n <| wp_ret <| t_r <| ret1 Tryz.results4 hF (rv_t hF rfl) ?_
  exact ⟨rfl, hW.below⟩
  refine pq 3 hF rfl fun a hF => pvg hF hW (y_lenB hF rfl Tryz.underlying9) (ws hF rfl rfl) fun a hF => pq 1 hF rfl fun a hF => ?_; refine Fr.splitD hF (fun h18 hF => ?_) (fun h18 hF => ?_); refine pq 1 hF rfl fun a hF => l_nil ?_; replace hF := hF.ks [0, 1, 2, 3, 4, 5, 6, 11, 13, 14, 15, 17, 18, 19, 20, 21, 22, 23, 24, 25, 26, 27, 28, 29, 30, 31, 77, 102, 108, 160] rfl; refine t_n <| c_t hF rfl <| c_sr <| pe <| e_callK hF hW rfl rfl en_9 Rl (deskBegun_any (hL.wd hW)) fun a w1 hW hF => pq 3 hF rfl fun a hF => ?_; replace hF := hF.tt; refine pq 1 hF rfl fun a hF => ?_; replace hF := hF.tt; refine pq 1 hF rfl fun a hF => ?_; replace hF := hF.tt; refine pq 2 hF rfl fun a hF => ?_; replace hF := hF.tt; refine pq 1 hF rfl fun a hF => ?_; replace hF := hF.tt; refine pq 1 hF rfl fun a hF => ?_; replace hF := hF.tt; refine l_nil <| t_n <| wp_ret <| t_r <| ret1 Tryz.results4 hF (rv_t hF rfl) ?_
  exact ⟨rfl, hW.below⟩
  refine pq 1 hF rfl fun a hF => l_nil ?_; replace hF := hF.ks [0, 1, 2, 3, 4, 5, 6, 11, 13, 14, 15, 17, 18, 19, 20, 21, 22, 23, 24, 25, 26, 27, 28, 29, 30, 31, 77, 102, 108, 160] rfl; refine t_n <| c_f hF rfl <| wp_skip <| t_n ?_
  have hAa := hA.a Om
  have hAb := hA.b Om
  obtain ⟨rfl, rfl⟩ := hJ1.uniq hAa.1
  obtain ⟨rfl, rfl⟩ := hJ2.uniq hAb.1
  refine c_sr <| pe <| e_callK hF hW rfl rfl en_9 Rl (deskBegun_any (hL.wd hW)) fun a w1 hW hF => pq 3 hF rfl fun a hF => ?_; refine Fr.splitD hF (fun h19 hF => ?_) (fun h19 hF => ?_); refine pq 4 hF rfl fun a hF => ?_; refine Fr.splitD hF (fun h20 hF => ?_) (fun h20 hF => ?_); refine pq 4 hF rfl fun a hF => pvg hF hW (y_add hF rfl rfl (IntWalk.i64_in _ Om)) (ws hF rfl rfl) fun a hF => ?_; replace hF := Fr.cast (v' := .int .i64 ((u + 1 : Nat) : Int)) Rl hF; refine pe (e_callK hF hW rfl rfl en_15 Rl (lineOf_any _ (u + 1) hAa.2 Om _) ?_) (ws hF rfl rfl); intro a w1 hW hF; refine pq 2 hF rfl fun a hF => pvg hF hW (y_add hF rfl rfl (IntWalk.i64_in _ Om)) (ws hF rfl rfl) fun a hF => ?_; replace hF := Fr.cast (v' := .int .i64 ((u + 1 : Nat) : Int)) Rl hF; refine pe (e_callK hF hW rfl rfl en_15 Rl (lineOf_any _ (u + 1) hAb.2 Om _) ?_) (ws hF rfl rfl); intro a w1 hW hF; refine pvg hF hW (y_eqB hF rfl rfl) (ws hF rfl rfl) fun a hF => ?_; refine Fr.splitD hF (fun h21 hF => ?_) (fun h21 hF => ?_); refine pq 3 hF rfl fun a hF => ?_; refine pe (e_callK hF hW rfl rfl en_15 Rl (lineOf_any _ 0 hAa.2 Om _) ?_) (ws hF rfl rfl); intro a w1 hW hF; refine pvg hF hW (y_eqB hF rfl rfl) (ws hF rfl rfl) fun a hF => ?_; refine Fr.splitD hF (fun h22 hF => ?_) (fun h22 hF => ?_); refine pq 3 hF rfl fun a hF => ?_; refine pe (e_callK hF hW rfl rfl en_15 Rl (lineOf_any _ 0 hAb.2 Om _) ?_) (ws hF rfl rfl); intro a w1 hW hF; refine pvg hF hW (y_eqB hF rfl rfl) (ws hF rfl rfl) fun a hF => ?_; refine Fr.splitD hF (fun h23 hF => ?_) (fun h23 hF => ?_); refine pq 2 hF rfl fun a hF => l_nil ?_; replace hF := hF.ks [0, 1, 2, 3, 4, 5, 6, 11, 12, 13, 14, 15, 17, 18, 19, 20, 21, 22, 23, 24, 25, 26, 27, 28, 29, 30, 31, 77, 102, 108, 160] rfl; refine t_n <| wp_ret <| ret1 Tryz.results4 hF (rv_t hF rfl) ?_
  exact ⟨rfl, hW.below⟩
  exfalso
  exact h23 (line_first _)
  exfalso
  exact h22 (line_first _)
  exfalso
  exact h21 hA.line
  exfalso
  exact h20 rfl
  exfalso
  exact h19 rfl
  refine pq 1 hF rfl fun a hF => pe <| e_alloc hF hW ze_46 rfl rfl rfl fun b24 a wc hF hW => pe <| e_storeAll rfl hF hW rfl rfl 0 rfl rfl rfl Kr sz_46 fun wc hW => pq 3 hF rfl fun a hF => l_nil ?_; replace hF := hF.ks [0, 1, 2, 3, 4, 5, 6, 11, 12, 13, 14, 15, 17, 18] rfl; refine t_n <| c_s <| c_sr <| pq 2 hF rfl fun a hF => ?_; refine Fr.splitD hF (fun h25 hF => ?_) (fun h25 hF => ?_); refine pq 31 hF rfl fun a hF => l_nil ?_; replace hF := hF.ks [0, 1, 2, 3, 4, 5, 6, 11, 12, 13, 14, 15, 17, 18, 77] rfl; refine t_n <| c_t hF rfl <| c_sr <| pe <| e_callK hF hW rfl rfl en_9 Rl (deskBegun_any (hL.wd hW)) fun a w1 hW hF => pq 1 hF rfl fun a hF => l_nil <| t_n <| wp_ret <| t_r <| ret1 Tryz.results4 hF (rv_t hF rfl) ?_
  exact ⟨rfl, hW.below⟩
  refine pq 3 hF rfl fun a hF => ?_; refine Fr.splitD hF (fun h26 hF => ?_) (fun h26 hF => ?_); refine pq 28 hF rfl fun a hF => l_nil ?_; replace hF := hF.ks [0, 1, 2, 3, 4, 5, 6, 11, 12, 13, 14, 15, 17, 18, 77] rfl; refine t_n <| c_t hF rfl <| c_sr <| pe <| e_callK hF hW rfl rfl en_9 Rl (deskBegun_any (hL.wd hW)) fun a w1 hW hF => pq 1 hF rfl fun a hF => l_nil <| t_n <| wp_ret <| t_r <| ret1 Tryz.results4 hF (rv_t hF rfl) ?_
  exact ⟨rfl, hW.below⟩
  refine pq 5 hF rfl fun a hF => ?_; replace hF := hF.tt; refine pq 1 hF rfl fun a hF => ?_; replace hF := hF.tt; refine pq 22 hF rfl fun a hF => l_nil ?_; replace hF := hF.ks [0, 1, 2, 3, 4, 5, 6, 11, 12, 13, 14, 15, 17, 18, 77] rfl; refine t_n <| c_t hF rfl <| c_sr <| pe <| e_callK hF hW rfl rfl en_9 Rl (deskBegun_any (hL.wd hW)) fun a w1 hW hF => pq 1 hF rfl fun a hF => l_nil <| t_n <| wp_ret <| t_r <| ret1 Tryz.results4 hF (rv_t hF rfl) ?_
  exact ⟨rfl, hW.below⟩
theorem sound_bulk {H : Type} {d0 d1 d2 d3 d5 : DataW H} {l : List UInt8} (h : Rows.uptoBulkAll [d0, DataW.lit (H := H) (.string l), d1, d2, d3, d5] ≤ 1048576) : l.length ≤ 1048576 ∧ Rows.uptoBulk d5 ≤ 1048576 := by
  simp only [Rows.uptoBulkAll, Rows.uptoBulk] at h
  omega

set_option maxRecDepth 100000 in
theorem deskSound_contract (H : Type) (enc : TypeId × Value → H) (W : World) (base : Nat) (args : Array Value) (ds gs : List (DataW H)) (before : List MemPlace)
    (hval : ∀ (j : Nat) t v, Tryz.f4.params[j]? = some t → args[j]? = some v → Value.okWide Tryz.prog W .any base t v)
    (hW : DataW.Whole enc Tryz.prog Tryz.f4.params.toList Rows.deskSoundSpec.vars false W args.toList ds gs before) (hL0 : laidMetH Tryz.prog laidL W) (hbk : Rows.uptoBulkAll ds ≤ 1048576) :
    Calls Tryz.prog 4 args W fun e W' => ∃ v, e = .returned v ∧ Rows.deskSoundSpec.post enc Tryz.prog Tryz.f4 false true false false W args v W' := by
  have hL := lay_of_laid hL0
  have hW' := hW
  obtain ⟨p, q, hA0, hV, rfl, hfz, hnd⟩ := hW
  have hA : DataW.TrodAll enc Tryz.prog W 0 (fun _ => true) true Tryz.f4.params.toList args.toList ds p := hA0
  rw [Tryz.params4] at hA hval
  obtain ⟨v0, v1, v2, v3, v4, v5, d0, d1, d2, d3, d4, d5, p0, p1, p2, p3, p4, p5, rfl, rfl, rfl, h0, h1, h2, h3, h4, h5⟩ := trodAll_six hA
  obtain ⟨x, rfl, hx, hxr⟩ := sysR_open (hval 0 39 v0 rfl rfl) h0
  obtain ⟨s, rfl, rfl⟩ := str_open (hval 1 9 v1 rfl rfl) h1
  obtain ⟨part, rfl, rfl, rfl, wk2⟩ := open_int Tryz.underlying3 (hval 2 3 v2 rfl rfl) h2
  obtain ⟨by_, rfl, rfl, rfl, wk3⟩ := open_int Tryz.underlying3 (hval 3 3 v3 rfl rfl) h3
  obtain ⟨n, rfl, rfl, rfl, wk4⟩ := open_int Tryz.underlying3 (hval 4 3 v4 rfl rfl) h4
  obtain ⟨q, rfl, hq, hqr, hq1, hq2⟩ := partB_open (hval 5 43 v5 rfl rfl) h5
  refine (deskSound_run x s part by_ n q hx hxr hq hqr (by have := (sound_bulk hbk).2; omega) (sound_bulk hbk).1 (bounds_i64 wk2) (bounds_i64 wk3) hL).mono fun e W' ⟨he, hb⟩ => ?_
  subst he
  exact ⟨_, rfl, law_post Tryz.laidOut hW' hb rfl Kr Tryz.underlying4 Kr rfl⟩

theorem deskSound_reads (os : Os) {H : Type} (enc : TypeId × Value → H) : ∃ places, DataW.whole enc Tryz.prog ((laidWorld os).forCall (fun _ _ => 0) ⟨#[], #[.agg #[.slice none 0 0, .slice none 0 0, .slice none 0 0], .string ⟨#[]⟩, .int .i64 0, .int .i64 0, .int .i64 0, .agg #[.slice none 0 0, .slice none 0 0]], []⟩).memory Tryz.f4.params.toList Rows.deskSoundSpec.vars false #[.agg #[.slice none 0 0, .slice none 0 0, .slice none 0 0], .string ⟨#[]⟩, .int .i64 0, .int .i64 0, .int .i64 0, .agg #[.slice none 0 0, .slice none 0 0]].toList 8 = some ([.agg [.nil, .nil, .nil], .lit (.string []), .lit (.int .i64 0), .lit (.int .i64 0), .lit (.int .i64 0), .agg [.nil, .nil]], [], places) :=
  ⟨[], by kernel_rfl⟩
set_option maxRecDepth 100000 in
theorem deskSound_lifted (os : Os) (started : os.Started) (H : Type) (enc : TypeId × Value → H) (F0 : Stop.Interp) :
    ReturnsInHanded {} Tryz.checked os 4 .any ((Rows.OpenSpec.upto Rows.deskSoundSpec).preRow enc Tryz.prog Tryz.f4 Rows.deskSoundUptoRow.domain false Rows.deskSoundUptoRow.laid) (((Rows.OpenSpec.upto Rows.deskSoundSpec).at F0).post enc Tryz.prog Tryz.f4 false true false false) := by
  obtain ⟨places, hx⟩ := deskSound_reads os enc
  refine returnsInHanded_of_row (C := Tryz.checked) (s := (Rows.OpenSpec.upto Rows.deskSoundSpec)) Tryz.own started Kr Tryz.func4
    (witness_row_atRef (enc := enc) (C := Tryz.checked) false (laidWorld os) #[.agg #[.slice none 0 0, .slice none 0 0, .slice none 0 0], .string ⟨#[]⟩, .int .i64 0, .int .i64 0, .int .i64 0, .agg #[.slice none 0 0, .slice none 0 0]] rfl Kr Kr Kr
      (OpenSpec.preRow_of_cond 8 hx Kr (fun k hk => by cases hk; kernel_rfl) Kr (laid_met os _))) ?_
  intro W base args ds gs before hval hW _ hcond _ hL _ _
  have hgs : gs = [] := by
    obtain ⟨p, q, _, hV, _⟩ := hW
    cases gs with
    | nil => rfl
    | cons _ _ => exact hV.elim
  subst hgs
  try rw [List.append_nil] at hcond
  exact deskSound_contract H enc W base args ds [] before hval hW hL (of_decide_eq_true (hcond _ rfl))

theorem deskSound_said : Rows.DeskSoundUptoSaid :=
  OpenClaim.holds_of_cond 4 Tryz.f4 rfl rfl rfl rfl rfl rfl rfl ⟨rfl, rfl, rfl, rfl, rfl⟩ rfl rfl rfl rfl rfl Kr Tryz.func4 Kr
    (of_decide_eq_true Kr) (by unfold Func.isWrapper; first | (rw [if_pos (by decide +kernel)]; kernel_rfl) | (rw [if_neg (by decide +kernel)]; exact ⟨rfl, rfl⟩))
    (fun os started H enc _ F0 => by rw [OpenClaim.pre_eq_preRow]; exact deskSound_lifted os started H enc F0)

theorem deskSound_plain (f : FuncId) (fn : Func) (hf : Tryz.pinned.checked.prog.funcNamed "lychgate/lychgatelaw.DeskSound" = some f) (hfn : Tryz.pinned.checked.prog.funcs[f]? = some fn) :
    true = Tryz.pinned.checked.prog.looks [] ∧ ∀ (j : Nat) t, fn.params[j]? = some t → Tryz.pinned.checked.prog.wantsStandIn t = false := by
  obtain rfl : f = 4 := Option.some.inj ((show Tryz.prog.funcNamed "lychgate/lychgatelaw.DeskSound" = some 4 by kernel_rfl).symm.trans hf) |>.symm
  obtain rfl : fn = Tryz.f4 := (Option.some.inj (Tryz.func4.symm.trans hfn)).symm
  refine ⟨by kernel_rfl, fun j t ht => ?_⟩
  rw [Tryz.params4] at ht
  have ht2 : t = 39 ∨ t = 9 ∨ t = 3 ∨ t = 3 ∨ t = 3 ∨ t = 43 := by simpa using Array.mem_of_getElem? ht
  rcases ht2 with rfl | rfl | rfl | rfl | rfl | rfl <;> first | exact (show Tryz.prog.wantsStandIn 39 = false by kernel_rfl) | exact (show Tryz.prog.wantsStandIn 9 = false by kernel_rfl) | exact (show Tryz.prog.wantsStandIn 3 = false by kernel_rfl) | exact (show Tryz.prog.wantsStandIn 3 = false by kernel_rfl) | exact (show Tryz.prog.wantsStandIn 3 = false by kernel_rfl) | exact (show Tryz.prog.wantsStandIn 43 = false by kernel_rfl)

/-- THE CARD -/
theorem deskSound_holds : Rows.DeskSoundUptoCardSaid :=
  Claim7.holds_tied_plain_at .later [] _ _ _ _ deskSound_said (fun _ h => by cases h) Kr (fun _ h => by cases h) deskSoundUpto_row_tie rfl ⟨rfl, rfl⟩ Kr rfl deskSound_plain Kr
end Go.Proofs.YtndcjmopebcdgaaGreatDoor
