/- codeBegun answers true. -/
import Derived.Test.YtfkngjglnhfdcaaGreatDoorCodRe
import Derived.Test.YtfkngjglnhfdcaaGreatDoorCodFr
import Derived.Test.YtfkngjglnhfdcaaGreatDoorRefSi
namespace Go.Proofs.YtfkngjglnhfdcaaGreatDoor
set_option linter.unusedVariables false
set_option linter.unusedSimpArgs false
open Go.ChangeShapes Go.WideShapes Go.ChangeAt Go.RowKit
theorem bs_CodBg_23_1_0 (x0 : Int) (w : World) : (Instr.buildSlice 23 1 #[(0, (.int .i64 x0))]).run Tryz.prog w = .ok (.slice (some ⟨w.heap.size, 0, none⟩) 1 1) (w.alloc (.cells #[(.int .i64 x0)] 3)) := by kernel_rfl
set_option maxRecDepth 100000

theorem in64_sm {n : Int} (h : -1000 ≤ n ∧ n ≤ 1000) : In64 n := by unfold In64; omega
theorem itoa_dg (k : Nat) (h : k < 10) : Lib.itoa (k : Int) = [UInt8.ofNat (48 + k)] := by
  unfold Lib.itoa
  rw [if_neg (by omega), Int.toNat_natCast, Lib.decDigits_one h]
theorem txt_dg (o : Nat) (p q r : Nat) (ho : 1 ≤ (o : Int) ∧ (o : Int) ≤ 15) (hp : p < 10) (hq : q < 10) (hr : r < 10) : txtI ⟨o, p, q, r⟩ = wordL o ++ ((if hasA o then [32, UInt8.ofNat (48 + p)] else []) ++ ((if hasB o then [32, UInt8.ofNat (48 + q)] else []) ++ (if hasN o then [32, UInt8.ofNat (48 + r)] else []))) := by
  rw [txt_has ho]
  simp only [itoa_dg p hp, itoa_dg q hq, itoa_dg r hr]
def tellT : List UInt8 := [103, 101, 116, 32, 48, 32, 49, 32, 48, 10, 122, 101, 114, 111, 32, 49, 32, 48, 10, 111, 117, 116, 32, 48, 10, 112, 117, 116, 32, 48, 32, 49, 10, 106, 117, 109, 112, 32, 48, 10]
theorem tell_txt : codeTxt tellerL = tellT := by
  unfold codeTxt tellerL
  simp only [List.flatMap_cons, List.flatMap_nil]
  show txtI ⟨((13 : Nat) : Int), ((0 : Nat) : Int), ((1 : Nat) : Int), ((0 : Nat) : Int)⟩ ++ [10] ++ (txtI ⟨((9 : Nat) : Int), ((1 : Nat) : Int), ((0 : Nat) : Int), ((0 : Nat) : Int)⟩ ++ [10] ++ (txtI ⟨((11 : Nat) : Int), ((0 : Nat) : Int), ((0 : Nat) : Int), ((0 : Nat) : Int)⟩ ++ [10] ++ (txtI ⟨((12 : Nat) : Int), ((0 : Nat) : Int), ((0 : Nat) : Int), ((1 : Nat) : Int)⟩ ++ [10] ++ (txtI ⟨((8 : Nat) : Int), ((0 : Nat) : Int), ((0 : Nat) : Int), ((0 : Nat) : Int)⟩ ++ [10] ++ [])))) = _
  rw [txt_dg 13 0 1 0 (by decide) (by decide) (by decide) (by decide), txt_dg 9 1 0 0 (by decide) (by decide) (by decide) (by decide), txt_dg 11 0 0 0 (by decide) (by decide) (by decide) (by decide), txt_dg 12 0 0 1 (by decide) (by decide) (by decide) (by decide), txt_dg 8 0 0 0 (by decide) (by decide) (by decide) (by decide)]
  decide +kernel
theorem tell_chk : chkCode tellerL = 0 := by decide +kernel
theorem tell_in : ∀ i ∈ tellerL, i.In := by
  intro i hi
  simp only [tellerL, List.mem_cons, List.not_mem_nil, or_false] at hi
  rcases hi with rfl | rfl | rfl | rfl | rfl <;> exact ⟨in64_sm (by decide), in64_sm (by decide), in64_sm (by decide)⟩
theorem tell_says : SaysC tellT tellerL := ⟨tell_chk, tell_in, tell_txt⟩
theorem show_tell {A : Option Addr} {n c : Nat} {w : World} (h : Code_ w (.slice A n c) tellerL) (hL : Lay w) :
    Calls Tryz.prog 13 #[.slice A n c] w fun e w' => e = .returned (.tuple #[.string (bstr tellT), .int .i64 0]) ∧ Below w.heap.size w w' := by
  have := codeShow_any h tell_in hL
  rwa [tell_chk, if_pos rfl, tell_txt] at this
theorem read_tell {w : World} (hL : Lay w) : Calls Tryz.prog 15 #[.string (bstr tellT)] w fun e w' => ∃ A c, e = .returned (.tuple #[.slice A 5 c, .int .i64 0]) ∧ Below w.heap.size w w' ∧ OwnRes w w' (fun u => Code_ u (.slice A 5 c) tellerL) := by
  refine (codeRead_any tellT (by decide) hL).mono ?_
  rintro e w' ⟨L, A, c, x, rfl, hb, hr, h⟩
  cases x with
  | true =>
    obtain rfl := (h.yes rfl).unique tell_says
    exact ⟨A, c, rfl, hb, hr⟩
  | false => exact absurd tell_says ((h.no rfl).2 _)
theorem puts_tell {A : Option Addr} {n c : Nat} {w : World} (h : Code_ w (.slice A n c) tellerL) : Calls Tryz.prog 6 #[.slice A n c] w fun e w' => ∃ A c, e = .returned (.tuple #[.slice A 1 c, .int .i64 0]) ∧ Below w.heap.size w w' ∧ OwnRes w w' (fun u => Ints u (.slice A 1 c) [1]) := by
  refine (puts_any h).mono ?_
  rintro e w' ⟨A', c', rfl, hb, hr⟩
  have e1 : namesOr 12 tellerL = [1] := by decide +kernel
  rw [e1] at hr
  exact ⟨A', c', by rw [e1, tell_chk]; rfl, hb, hr⟩
theorem gets_tell {A : Option Addr} {n c : Nat} {w : World} (h : Code_ w (.slice A n c) tellerL) : Calls Tryz.prog 7 #[.slice A n c] w fun e w' => ∃ A c, e = .returned (.tuple #[.slice A 1 c, .int .i64 0]) ∧ Below w.heap.size w w' ∧ OwnRes w w' (fun u => Ints u (.slice A 1 c) [0]) := by
  refine (gets_any h).mono ?_
  rintro e w' ⟨A', c', rfl, hb, hr⟩
  have e1 : namesOr 13 tellerL = [0] := by decide +kernel
  rw [e1] at hr
  exact ⟨A', c', by rw [e1, tell_chk]; rfl, hb, hr⟩
theorem check_tell {A : Option Addr} {n c : Nat} {w : World} (h : Code_ w (.slice A n c) tellerL) : Calls Tryz.prog 11 #[.slice A n c] w fun e w' => e = .returned (.int .i64 0) ∧ Below w.heap.size w w' := by
  have := codeCheck_any _ _ w h
  rwa [tell_chk] at this
theorem check_nil {w : World} : Calls Tryz.prog 11 #[.slice none 0 0] w fun e w' => e = .returned (.int .i64 2) ∧ Below w.heap.size w w' := codeCheck_any _ [] w Flat.nil_
set_option maxHeartbeats 8000000 in
theorem codeBegun_any {w : World} (hL : Lay w) : Calls Tryz.prog 10 #[] w fun e w' => e = .returned (.bool true) ∧ Below w.heap.size w w' := by
  refine enter Tryz.func10 rfl Tryz.ntmps10 rfl fun a hF => ?_
  have hW := Wd.start w NoB
  refine c_sr <| pv hF hW (y_assign hF rfl) fun a hF => l_nil <| t_n <| c_sr ?_; refine pe (e_call hF rfl rfl en_21 (by rfl) rfl rfl (teller_any _) ?_); rintro e w1 ⟨A1, rfl, hr, hb⟩; replace hW := hW.gotR hb hr; refine ⟨_, rfl, fun a hF => ?_⟩; refine pe (e_call hF rfl rfl en_13 (by rfl) rfl rfl (show_tell (hW.res 0 rfl) (hL.wd hW)) ?_); rintro e w1 ⟨rfl, hb⟩; replace hW := hW.kept hb; clear hb; refine ⟨_, rfl, fun a hF => ?_⟩; refine pv hF hW (y_move hF rfl) fun a hF => pv hF hW (y_extract hF rfl rfl) fun a hF => pv hF hW (y_extract hF rfl rfl) fun a hF => pv hF hW (y_assign hF rfl) fun a hF => pv hF hW (y_assign hF rfl) fun a hF => l_nil ?_; replace hF := hF.ks [0, 1, 2] rfl; refine t_n <| c_sr <| pv hF hW (y_move hF rfl) fun a hF => ?_; refine pe (e_call hF rfl rfl en_15 (by rfl) rfl rfl (read_tell (hL.wd hW)) ?_); rintro e w1 ⟨A2, c2, rfl, hb, hr⟩; replace hW := hW.gotR hb hr; refine ⟨_, rfl, fun a hF => ?_⟩; refine pv hF hW (y_move hF rfl) fun a hF => pv hF hW (y_extract hF rfl rfl) fun a hF => pv hF hW (y_extract hF rfl rfl) fun a hF => pv hF hW (y_assign hF rfl) fun a hF => pv hF hW (y_assign hF rfl) fun a hF => l_nil ?_; replace hF := hF.ks [0, 1, 2, 3, 4] rfl; refine t_n <| c_sr ?_; refine pe (e_call hF rfl rfl en_21 (by rfl) rfl rfl (teller_any _) ?_); rintro e w1 ⟨A3, rfl, hr, hb⟩; replace hW := hW.gotR hb hr; refine ⟨_, rfl, fun a hF => ?_⟩; refine pe (e_call hF rfl rfl en_6 (by rfl) rfl rfl (puts_tell (hW.res 0 rfl)) ?_); rintro e w1 ⟨A4, c4, rfl, hb, hr⟩; replace hW := hW.gotR hb hr; refine ⟨_, rfl, fun a hF => ?_⟩; refine pv hF hW (y_move hF rfl) fun a hF => pv hF hW (y_extract hF rfl rfl) fun a hF => pv hF hW (y_extract hF rfl rfl) fun a hF => pv hF hW (y_assign hF rfl) fun a hF => pv hF hW (y_assign hF rfl) fun a hF => l_nil ?_; replace hF := hF.ks [0, 1, 2, 3, 4, 5, 6] rfl; refine t_n <| c_sr ?_; refine pe (e_call hF rfl rfl en_21 (by rfl) rfl rfl (teller_any _) ?_); rintro e w1 ⟨A5, rfl, hr, hb⟩; replace hW := hW.gotR hb hr; refine ⟨_, rfl, fun a hF => ?_⟩; refine pe (e_call hF rfl rfl en_7 (by rfl) rfl rfl (gets_tell (hW.res 0 rfl)) ?_); rintro e w1 ⟨A6, c6, rfl, hb, hr⟩; replace hW := hW.gotR hb hr; refine ⟨_, rfl, fun a hF => ?_⟩; refine pv hF hW (y_move hF rfl) fun a hF => pv hF hW (y_extract hF rfl rfl) fun a hF => pv hF hW (y_extract hF rfl rfl) fun a hF => pv hF hW (y_assign hF rfl) fun a hF => pv hF hW (y_assign hF rfl) fun a hF => l_nil ?_; replace hF := hF.ks [0, 1, 2, 3, 4, 5, 6, 7, 8] rfl; refine t_n <| c_sr ?_; refine pe (e_call hF rfl rfl en_21 (by rfl) rfl rfl (teller_any _) ?_); rintro e w1 ⟨A7, rfl, hr, hb⟩; replace hW := hW.gotR hb hr; refine ⟨_, rfl, fun a hF => ?_⟩
  refine pe (e_call hF rfl rfl en_11 (by rfl) rfl rfl (check_tell (hW.res 0 rfl)) ?_); rintro e w1 ⟨rfl, hb⟩; replace hW := hW.kept hb; clear hb; refine ⟨_, rfl, fun a hF => ?_⟩; refine pv hF hW (y_eql hF rfl rfl) fun a hF => ?_; replace hF := hF.tt; refine pv hF hW (y_move hF rfl) fun a hF => ?_; replace hF := hF.tt; refine pe (e_call hF rfl rfl en_11 (by rfl) rfl rfl (check_nil) ?_) (ws hF rfl rfl); rintro e w1 ⟨rfl, hb⟩; replace hW := hW.kept hb; clear hb; refine ⟨_, rfl, fun a hF => ?_⟩; refine pvg hF hW (y_eql hF rfl rfl) (ws hF rfl rfl) fun a hF => ?_; replace hF := hF.tt; refine pv hF hW (y_pick hF rfl rfl) fun a hF => ?_; replace hF := hF.tt; refine pv hF hW (y_move hF rfl) fun a hF => ?_; replace hF := hF.tt; refine pvg hF hW (y_move hF rfl) (ws hF rfl rfl) fun a hF => pvg hF hW (y_eql hF rfl rfl) (ws hF rfl rfl) fun a hF => ?_; replace hF := hF.tt; refine pv hF hW (y_pick hF rfl rfl) fun a hF => ?_; replace hF := hF.tt; refine pv hF hW (y_move hF rfl) fun a hF => ?_; replace hF := hF.tt; refine pvg hF hW (y_move hF rfl) (ws hF rfl rfl) fun a hF => pvg hF hW (y_eql hF rfl rfl) (ws hF rfl rfl) fun a hF => ?_; replace hF := hF.tt; refine pv hF hW (y_pick hF rfl rfl) fun a hF => ?_; replace hF := hF.tt; refine pv hF hW (y_move hF rfl) fun a hF => ?_; replace hF := hF.tt; refine pvg hF hW (y_move hF rfl) (ws hF rfl rfl) fun a hF => pvg hF hW (y_eql hF rfl rfl) (ws hF rfl rfl) fun a hF => ?_; replace hF := hF.tt; refine pv hF hW (y_pick hF rfl rfl) fun a hF => ?_; replace hF := hF.tt; refine pv hF hW (y_move hF rfl) fun a hF => ?_; replace hF := hF.tt; refine pvg hF hW (y_move hF rfl) (ws hF rfl rfl) fun a hF => pvg hF hW (y_eql hF rfl rfl) (ws hF rfl rfl) fun a hF => ?_; replace hF := hF.tt; refine pv hF hW (y_pick hF rfl rfl) fun a hF => ?_; replace hF := hF.tt; refine pv hF hW (y_move hF rfl) fun a hF => ?_; replace hF := hF.tt; refine pvg hF hW (y_move hF rfl) (ws hF rfl rfl) fun a hF => pvg hF hW (y_eqB hF rfl rfl) (ws hF rfl rfl) fun a hF => ?_; refine Fr.splitD hF ?_ ?_
  · intro h1 hF; refine pv hF hW (y_pick hF rfl rfl) fun a hF => pv hF hW (y_move hF rfl) fun a hF => pvg hF hW (y_move hF rfl) (ws hF rfl rfl) fun a hF => ?_; refine pe (e_call hF rfl rfl en_21 (by rfl) rfl rfl (teller_any _) ?_) (ws hF rfl rfl); rintro e w1 ⟨A8, rfl, hr, hb⟩; replace hW := hW.gotR hb hr; refine ⟨_, rfl, fun a hF => ?_⟩; refine pe (e_call hF rfl rfl en_17 (by rfl) rfl rfl (sameCode_any (hW.res 6 rfl) (hW.res 0 rfl) rfl) ?_) (ws hF rfl rfl); rintro e w1 ⟨rfl, hb⟩; replace hW := hW.kept hb; clear hb; refine ⟨_, rfl, fun a hF => ?_⟩; refine pv hF hW (y_pick hF rfl rfl) fun a hF => pv hF hW (y_move hF rfl) fun a hF => pvg hF hW (y_move hF rfl) (ws hF rfl rfl) fun a hF => ?_; refine pe (e_buildSlice hF hW rfl (fun w => bs_CodBg_23_1_0 _ w) rfl rfl rfl ?_) (ws hF rfl rfl); intro b2 a wc hF hW; refine pe (e_call hF rfl rfl en_12 (by rfl) rfl rfl (same_ints (hW.res 5 rfl) (ints_blk (hW.blk 0 rfl) (xs := [1]) rfl rfl (by decide)) rfl) ?_) (ws hF rfl rfl); rintro e w1 ⟨rfl, hb⟩; replace hW := hW.kept hb; clear hb; refine ⟨_, rfl, fun a hF => ?_⟩; refine pv hF hW (y_pick hF rfl rfl) fun a hF => pv hF hW (y_move hF rfl) fun a hF => pvg hF hW (y_move hF rfl) (ws hF rfl rfl) fun a hF => ?_; refine pe (e_buildSlice hF hW rfl (fun w => bs_CodBg_23_1_0 _ w) rfl rfl rfl ?_) (ws hF rfl rfl); intro b3 a wc hF hW; refine pe (e_call hF rfl rfl en_12 (by rfl) rfl rfl (same_ints (hW.res 4 rfl) (ints_blk (hW.blk 0 rfl) (xs := [0]) rfl rfl (by decide)) rfl) ?_) (ws hF rfl rfl); rintro e w1 ⟨rfl, hb⟩; replace hW := hW.kept hb; clear hb; refine ⟨_, rfl, fun a hF => ?_⟩; refine pv hF hW (y_pick hF rfl rfl) fun a hF => ?_; replace hF := hF.drop 0; refine pv hF hW (y_assign hF rfl) fun a hF => l_nil ?_; replace hF := hF.ks [0, 1, 2, 3, 4, 5, 6, 7, 8] rfl; refine t_n <| wp_ret <| ret1 Tryz.results10 hF (rv_t hF rfl) ?_
    exact ⟨rfl, hW.below⟩
  · intro h1 hF; exfalso
    exact h1 rfl
end Go.Proofs.YtfkngjglnhfdcaaGreatDoor
