/- image.Write: a pen writes bytes. -/
import Derived.Test.YtnpflhaggfabnaaEngI
import Derived.Test.YtnpflhaggfabnaaImgP
import Derived.Test.YtnpflhaggfabnaaConfC1
namespace Go.Proofs.Ytnpflhaggfabnaa
set_option linter.unusedVariables false
set_option linter.unusedSimpArgs false
open Go.ChangeShapes Go.WideShapes Go.ChangeAt Go.RowKit
theorem cw_ImgW_3_5 (n : Int) (w : World) : (convert 3 5 (.int .i64 n)).run Try.prog w = .ok (.int .u8 ((byt n).toNat : Int)) w := by
  rw [← byt_wrap]
  simp [convert, run_underlying Try.underlying3, run_underlying Try.underlying5, Conv.intToInt]
theorem bs_ImgW_40_1_0 (x0 : Int) (w : World) : (Instr.buildSlice 40 1 #[(0, (.int .u8 x0))]).run Try.prog w = .ok (.slice (some ⟨w.heap.size, 0, none⟩) 1 1) (w.alloc (.cells #[(.int .u8 x0)] 5)) := by kernel_rfl
theorem bs_ImgW_45_1_0 (x0 : Int) (w : World) : (Instr.buildSlice 45 1 #[(0, (.int .i64 x0))]).run Try.prog w = .ok (.slice (some ⟨w.heap.size, 0, none⟩) 1 1) (w.alloc (.cells #[(.int .i64 x0)] 3)) := by kernel_rfl
theorem bs_ImgW_45_2_0_1 (x0 : Int) (x1 : Int) (w : World) : (Instr.buildSlice 45 2 #[(0, (.int .i64 x0)), (1, (.int .i64 x1))]).run Try.prog w = .ok (.slice (some ⟨w.heap.size, 0, none⟩) 2 2) (w.alloc (.cells #[(.int .i64 x0), (.int .i64 x1)] 3)) := by kernel_rfl
theorem bs_ImgW_45_3_0_1_2 (x0 : Int) (x1 : Int) (x2 : Int) (w : World) : (Instr.buildSlice 45 3 #[(0, (.int .i64 x0)), (1, (.int .i64 x1)), (2, (.int .i64 x2))]).run Try.prog w = .ok (.slice (some ⟨w.heap.size, 0, none⟩) 3 3) (w.alloc (.cells #[(.int .i64 x0), (.int .i64 x1), (.int .i64 x2)] 3)) := by kernel_rfl
theorem bu_ImgW_42_  (w : World) : (Instr.build 42 #[]).run Try.prog w = .ok (.agg #[(.slice none 0 0)]) w := by kernel_rfl
set_option maxRecDepth 100000

abbrev rowU (A : Option Addr) (c : Nat) (L : List UInt8) : Asn := .row 5 1 (.slice A L.length c) L.length (bcs L)
/-- the pen, and what it wrote -/
abbrev penB (bp : Nat) (A : Option Addr) (c : Nat) (L : List UInt8) : Asn := .blk bp 42 [.slice A L.length c]
theorem bytes_in {w : World} {X : Nat → Prop} {bp : Nat} {A A2 : Option Addr} {c c2 : Nat} {L : List UInt8} {M : List Int} (hW : Wd w X [penB bp A c L, rowU A c L] w) (hM : ∀ u, Wd w X [] u → RowAt u 1 A2 M.length (M.map (.int .i64))) (hb : L.length + M.length ≤ 100000) :
    Calls Try.prog 13 #[.pointer (some ⟨bp, 0, none⟩), .slice A2 M.length c2] w fun e w' => ∃ A' c', e = .returned (.tuple #[]) ∧ Wd w X [penB bp A' c' (L ++ M.map byt), rowU A' c' (L ++ M.map byt)] w' := by
  have hR := rfs_ints hM
  refine enter Try.func13 rfl Try.ntmps13 rfl fun a hF => c_sr <| pv hF hW (y_move hF rfl) fun a hF => pv hF hW (y_len hF rfl Try.underlying45) fun a hF => pv hF hW (y_move hF rfl) fun a hF => l_nil <| t_n <| wp_block ?_; replace hW := hW.front 1 rfl rfl; replace hW := hW.front 1 rfl rfl; refine c_loop (G := Nat × List UInt8 × Option Addr × Nat) (fun (gq : Nat × List UInt8 × Option Addr × Nat) => match gq with | ⟨k, F, B, d⟩ => [(8, .int .i64 (k : Int))]) (fun (gq : Nat × List UInt8 × Option Addr × Nat) => match gq with | ⟨k, F, B, d⟩ => [penB bp B d F, rowU B d F]) (fun (gq : Nat × List UInt8 × Option Addr × Nat) => match gq with | ⟨k, F, B, d⟩ => k ≤ M.length ∧ F = L ++ (M.take k).map byt) (fun (gq : Nat × List UInt8 × Option Addr × Nat) => match gq with | ⟨k, F, B, d⟩ => M.length - k) (0, L, A, c) (hF.ks [0, 1, 6, 7] rfl) (Fr.cons hF (t := 8) rfl (by first | rfl | (simp; done)) (Fr.nil hF)) (hW) ?_ ?_
  · exact ⟨by omega, by simp⟩
  clear hF hW
  try clear a
  intro gq a wc hC hF hW
  obtain ⟨k, F, B, d⟩ := gq
  dsimp only at hC
  obtain ⟨hkl, hF0⟩ := hC
  refine c_sr <| pv hF hW (y_lss hF rfl rfl) fun a hF => ?_; refine Fr.splitD hF ?_ ?_
  · intro h1 hF; refine l_nil <| t_n <| c_s <| c_t hF rfl <| wp_skip <| t_n <| c_s <| wp_block ?_
    have hk1 : k < M.length := (by omega)
    have hFl : F.length = L.length + k := (by rw [hF0, List.length_append, List.length_map, List.length_take]; omega)
    refine c_sr <| pv hF hW (y_indexS hF rfl rfl (by exact hk1) Try.underlying45 sz_3 (fun w h => (hR).wd h)) fun a hF => pv hF hW (y_loadRow hF rfl (fun w h => (hR).wd h) (by exact hk1) rfl Try.underlying3 rfl) fun a hF => pv hF hW (y_assign hF rfl) fun a hF => l_nil ?_; replace hF := hF.ks [0, 1, 5, 6, 7, 8, 9] rfl; refine t_n <| c_r <| pv hF hW (y_move hF rfl) fun a hF => pv hF hW (y_move hF rfl) fun a hF => pv hF hW (y_nilCheck hF rfl) fun a hF => pv hF hW (y_fieldOwn hF rfl fa_42_0) fun a hF => pv hF hW (y_loadOwn hF rfl 0 rfl rfl Try.underlying40 rfl) fun a hF => pv hF hW (y_move hF rfl) fun a hF => pv hF hW (y_convert hF rfl (cw_ImgW_3_5 _)) fun a hF => ?_; refine pe (e_buildSlice hF hW rfl (fun w => bs_ImgW_40_1_0 _ w) rfl rfl rfl ?_); intro b2 a wc hF hW; refine pe (e_append hF hW 2 rfl rfl rfl Try.underlying40 inf_5 rfl (by decide) (rowAt_blk (hW.blk 0 rfl) 1 1 rfl) (by simp [Value.oneCell']) (show _ = (F ++ [byt (M.getD k 0)]).length by simp) (show _ = bcs (F ++ [byt (M.getD k 0)]) by rw [bcs_app]; rfl) (by first | omega | (simp; omega)) (by unfold maxLen; first | omega | (simp; omega)) rfl rfl ?_); intro A3 c4 a wc hF hW; refine pv hF hW (y_nilCheck hF rfl) fun a hF => pv hF hW (y_fieldOwn hF rfl fa_42_0) fun a hF => ?_; refine pe (e_store rfl hF hW rfl rfl 1 rfl rfl rfl sz_40 ?_); intro wc hW; refine l_nil ?_; replace hF := hF.ks [0, 1, 5, 6, 7, 8, 9] rfl; refine b_n <| t_n <| c_r <| pv hF hW (y_add hF rfl rfl (IntWalk.i64_in _ (by omega))) fun a hF => ?_; replace hF := hF.drop 8; refine pv hF hW (y_move hF rfl) fun a hF => l_nil ?_; replace hF := hF.ks [0, 1, 5, 6, 7, 8, 9] rfl; replace hW := hW.del 0 rfl; refine t_n ?_; refine ⟨(k + 1, F ++ [byt (M.getD k 0)], A3, c4), ?_, ?_, ?_, ?_⟩
    · exact ⟨by omega, by rw [hF0, takeB_getD hk1, List.map_append, List.append_assoc]; rfl⟩
    · first | omega | (dsimp only; omega)
    · exact Fr.app (Fr.cons hF (t := 8) rfl (by first | rfl | (simp; done) | omega) (Fr.nil hF)) (hF.ks [0, 1, 6, 7] rfl)
    · exact hW
  · intro h1 hF; refine l_nil <| t_n <| c_s <| c_f hF rfl <| wp_exit <| t_x <| t_x <| b_h <| end0 Try.results13 hF ?_
    rw [show k = M.length by omega, List.take_of_length_le (Nat.le_refl _)] at hF0
    subst hF0
    exact ⟨_, _, rfl, hW⟩
theorem bytes_call {w0 w : World} {X : Nat → Prop} {es : List Asn} {bp : Nat} {A A2 : Option Addr} {c c2 m : Nat} {L : List UInt8} {M : List Int} (hW : Wd w0 X (penB bp A c L :: rowU A c L :: es) w) (hM : ∀ u, Wd w0 X es u → RowAt u 1 A2 m (M.map (.int .i64))) (hm : m = M.length) (hb : L.length + M.length ≤ 100000) :
    Calls Try.prog 13 #[.pointer (some ⟨bp, 0, none⟩), .slice A2 m c2] w fun e w' => ∃ A' c', e = .returned (.tuple #[]) ∧ Wd w0 X (penB bp A' c' (L ++ M.map byt) :: rowU A' c' (L ++ M.map byt) :: es) w' := by
  subst hm
  obtain ⟨X', hL, hback⟩ := Own.lendI [_, _] hW
  refine (bytes_in hL (fun u h => hM u (hback _ _ h)) hb).mono ?_
  rintro e w' ⟨A', c', rfl, hN⟩
  exact ⟨A', c', rfl, hback _ _ hN⟩
set_option maxHeartbeats 4000000 in
theorem num_in {w : World} {X : Nat → Prop} {bp : Nat} {A : Option Addr} {c : Nat} {L : List UInt8} {n : Int} (hW : Wd w X [penB bp A c L, rowU A c L] w) (hb : L.length ≤ 90000) :
    Calls Try.prog 14 #[.pointer (some ⟨bp, 0, none⟩), .int .i64 n] w fun e w' => ∃ A' c', e = .returned (.tuple #[]) ∧ Wd w X [penB bp A' c' (L ++ num8 n), rowU A' c' (L ++ num8 n)] w' := by
  refine enter Try.func14 rfl Try.ntmps14 rfl fun a hF => c_sr <| pv hF hW (y_assign hF rfl) fun a hF => l_nil <| t_n <| wp_block ?_; replace hW := hW.front 1 rfl rfl; replace hW := hW.front 1 rfl rfl; refine c_loop (G := Nat × List UInt8 × Option Addr × Nat) (fun (gq : Nat × List UInt8 × Option Addr × Nat) => match gq with | ⟨k, F, B, d⟩ => [(4, .int .i64 (56 - 8 * (k : Int)))]) (fun (gq : Nat × List UInt8 × Option Addr × Nat) => match gq with | ⟨k, F, B, d⟩ => [penB bp B d F, rowU B d F]) (fun (gq : Nat × List UInt8 × Option Addr × Nat) => match gq with | ⟨k, F, B, d⟩ => k ≤ 8 ∧ F = L ++ (num8 n).take k) (fun (gq : Nat × List UInt8 × Option Addr × Nat) => match gq with | ⟨k, F, B, d⟩ => 8 - k) (0, L, A, c) (hF.ks [0, 1] rfl) (Fr.cons hF (t := 4) rfl (by first | rfl | (simp; done)) (Fr.nil hF)) (hW) ?_ ?_
  · exact ⟨by omega, by simp⟩
  clear hF hW
  try clear a
  intro gq a wc hC hF hW
  obtain ⟨k, F, B, d⟩ := gq
  dsimp only at hC
  obtain ⟨hkl, hF0⟩ := hC
  refine c_s <| c_sr <| pv hF hW (y_move hF rfl) fun a hF => pv hF hW (y_geq hF rfl rfl) fun a hF => ?_; refine Fr.splitD hF ?_ ?_
  · intro h1 hF; refine l_nil ?_; replace hF := hF.ks [0, 1, 4, 6] rfl; refine t_n <| c_t hF rfl <| wp_skip <| t_n <| c_s <| wp_block ?_
    have hk8 : k < 8 := (by omega)
    have hFl : F.length = L.length + k := (by rw [hF0, List.length_append, List.length_take, num8_len]; omega)
    refine c_r <| pv hF hW (y_move hF rfl) fun a hF => pv hF hW (y_move hF rfl) fun a hF => pv hF hW (y_move hF rfl) fun a hF => ?_; replace hF := Fr.cast (v' := .int .i64 ((56 - 8 * k : Nat) : Int)) (by congr 1; omega) hF; refine pv hF hW (y_shr hF rfl rfl (by show _ ≤ 64; omega)) fun a hF => ?_; refine pe (e_buildSlice hF hW rfl (fun w => bs_ImgW_45_1_0 _ w) rfl rfl rfl ?_); intro b2 a wc hF hW; refine pe (e_call hF rfl rfl en_13 (by rfl) rfl rfl (bytes_call (M := [n / 2 ^ (56 - 8 * k)]) ((hW.front 2 rfl rfl).front 2 rfl rfl) (fun _ h => rowAt_blk (h.blk 0 rfl) 1 1 rfl) rfl (by simp only [List.length_cons, List.length_nil]; omega)) ?_); rintro e w1 ⟨A3, c3, rfl, hN⟩; replace hW := hN; refine ⟨_, rfl, fun a hF => ?_⟩; refine l_nil ?_; replace hF := hF.ks [0, 1, 4, 6] rfl; refine b_n <| t_n <| c_r <| pv hF hW (y_move hF rfl) fun a hF => pv hF hW (y_sub hF rfl rfl (IntWalk.i64_in _ (by omega))) fun a hF => ?_; replace hF := hF.drop 4; refine pv hF hW (y_assign hF rfl) fun a hF => l_nil ?_; replace hF := hF.ks [0, 1, 4, 6] rfl; replace hW := hW.del 2 rfl; refine t_n ?_; refine ⟨(k + 1, F ++ [byt (n / 2 ^ (56 - 8 * k))], A3, c3), ?_, ?_, ?_, ?_⟩
    · exact ⟨by omega, by rw [hF0, num8_take n hk8, List.append_assoc]⟩
    · first | omega | (dsimp only; omega)
    · exact Fr.app (Fr.cons hF (t := 4) rfl (by first | rfl | (congr 1; omega) | (simp; done) | omega) (Fr.nil hF)) (hF.ks [0, 1] rfl)
    · exact hW
  · intro h1 hF; refine l_nil ?_; replace hF := hF.ks [0, 1, 4, 6] rfl; refine t_n <| c_f hF rfl <| wp_exit <| t_x <| t_x <| b_h <| end0 Try.results14 hF ?_
    rw [show k = 8 by omega, List.take_of_length_le (by rw [num8_len]; exact Nat.le_refl _)] at hF0
    subst hF0
    exact ⟨_, _, rfl, hW⟩
theorem num_call {w0 w : World} {X : Nat → Prop} {es : List Asn} {bp : Nat} {A : Option Addr} {c : Nat} {L : List UInt8} {n : Int} (hW : Wd w0 X (penB bp A c L :: rowU A c L :: es) w) (hb : L.length ≤ 90000) :
    Calls Try.prog 14 #[.pointer (some ⟨bp, 0, none⟩), .int .i64 n] w fun e w' => ∃ A' c', e = .returned (.tuple #[]) ∧ Wd w0 X (penB bp A' c' (L ++ num8 n) :: rowU A' c' (L ++ num8 n) :: es) w' := by
  obtain ⟨X', hL, hback⟩ := Own.lendI [_, _] hW
  refine (num_in hL hb).mono ?_
  rintro e w' ⟨A', c', rfl, hN⟩
  exact ⟨A', c', rfl, hback _ _ hN⟩
structure ImgSz (x : SysD) : Prop where
  np : x.parts.length ≤ 4
  nc : x.chans.length ≤ 6
  ns : x.slots.length ≤ 6
  pos : 1 ≤ x.parts.length
  part : ∀ q, q ∈ x.parts → q.1.code.length ≤ 20 ∧ q.1.inp.length ≤ 12
theorem imgSz {x : SysD} (h : chkSys x.sys = 0) : ImgSz x := by
  obtain ⟨h1, h2, -⟩ := chkSys_zero h
  obtain ⟨⟨hp1, hp2⟩, hc6, ⟨hs1, hs2⟩, hin⟩ := sizes_get h1
  refine ⟨hp2, hc6, hs2, hp1, fun q hq => ⟨?_, ?_⟩⟩
  · exact (chkCode_all (firstCode_zeroI h2 q.1 (List.mem_map.2 ⟨q, hq, rfl⟩))).1.2
  · obtain ⟨k, hk, rfl⟩ := List.mem_iff_getElem.1 hq
    have := hin k hk
    rwa [List.getD, List.getElem?_eq_getElem hk] at this
/-- what stands of the partitions, so far -/
def parB (x : SysD) (k : Nat) : List UInt8 := byt (x.parts.length : Int) :: (x.parts.take k).flatMap (fun q => prtB q.1)
theorem parB_succ {x : SysD} {k : Nat} {q : PP} (hk : k < x.parts.length) (hq : x.parts.getD k P0 = q) : parB x (k + 1) = parB x k ++ prtB q.1 := by
  unfold parB
  rw [takeB_flat P0 _ hk, hq]
  rfl
theorem parB_len {x : SysD} (h : ImgSz x) {k : Nat} : (parB x k).length ≤ 1300 := by
  have h1 := rowsB_len (f := fun q : PP => prtB q.1) (n := 318) (x.parts.take k) fun q hq => prtB_len (h.part q (List.mem_of_mem_take hq)).1 (h.part q (List.mem_of_mem_take hq)).2
  have h2 := h.np
  unfold parB
  rw [List.length_cons]
  rw [List.length_take] at h1
  omega
theorem imgL_eq (x : SysD) : imgL x.sys = (parB x x.parts.length ++ encB8 chnB x.chans) ++ encB8 sltB x.slots := by
  unfold imgL parB encB8
  rw [List.take_of_length_le (Nat.le_refl _)]
  show byt ((x.parts.map Prod.fst).length : Int) :: (x.parts.map Prod.fst).flatMap prtB ++ (byt (x.chans.length : Int) :: x.chans.flatMap chnB ++ (byt (x.slots.length : Int) :: x.slots.flatMap sltB)) = _
  rw [List.length_map, List.flatMap_map]
  simp
theorem imgL_len {x : SysD} (h : ImgSz x) : (imgL x.sys).length ≤ 1400 := by
  have h1 := parB_len h (k := x.parts.length)
  have h2 := rowsB_len (f := chnB) (n := 3) x.chans fun _ _ => Nat.le_refl _
  have h3 := rowsB_len (f := sltB) (n := 2) x.slots fun _ _ => Nat.le_refl _
  have h4 := h.nc
  have h5 := h.ns
  rw [imgL_eq]
  unfold encB8
  simp only [List.length_append, List.length_cons]
  omega
set_option maxHeartbeats 32000000 in
theorem imageWrite_any {x : SysD} {w : World} (hx : x.At w) : Calls Try.prog 5 #[x.val] w fun e w' => e = .returned (.tuple #[.string (bstr (imgOr x.sys)), .int .i64 (chkSys x.sys)]) ∧ Below w.heap.size w w' := by
  have hck := fun w1 (hb : Below w.heap.size w w1) => confCheck_any (hx.below hb)
  unfold imgOr
  by_cases h0 : chkSys x.sys = 0
  · have hz := imgSz h0
    have hnp := hz.np
    have hnc := hz.nc
    have hns := hz.ns
    rw [h0] at hck ⊢
    rw [if_pos rfl]
    have hie := imgL_eq x
    have hpl := fun k => parB_len hz (k := k)
    rw [x.val_eq] at *
    refine enter Try.func5 rfl Try.ntmps5 rfl fun a hF => ?_
    have hW := Wd.start w NoB
    refine c_sr ?_; refine pe (e_box hF hW rfl rfl rfl rfl ?_); intro b1 a wc hF hW; refine pv hF hW (y_assign hF rfl) fun a hF => pv hF hW (y_assign hF rfl) fun a hF => l_nil <| t_n <| c_s <| c_sr <| pv hF hW (y_loadAll hF rfl 0 rfl Try.underlying26 rfl sz_26) fun a hF => ?_; refine pe (e_call hF rfl rfl en_12 (by rfl) rfl rfl (hck _ hW.below) ?_); rintro e w1 ⟨rfl, hb⟩; replace hW := hW.kept hb; clear hb; refine ⟨_, rfl, fun a hF => ?_⟩; refine pv hF hW (y_assign hF rfl) fun a hF => l_nil ?_; replace hF := hF.ks [0, 1, 2, 3, 4] rfl; refine t_n <| c_sr <| pv hF hW (y_move hF rfl) fun a hF => pv hF hW (y_neq hF rfl rfl) fun a hF => ?_; replace hF := hF.ff; refine l_nil ?_; replace hF := hF.ks [0, 1, 2, 3, 4, 19] rfl; refine t_n <| c_f hF rfl <| wp_skip <| t_n <| c_sr <| pv hF hW (y_build hF rfl (fun w => bu_ImgW_42_  w)) fun a hF => ?_; refine pe (e_box hF hW rfl rfl rfl rfl ?_); intro b2 a wc hF hW; refine pv hF hW (y_assign hF rfl) fun a hF => l_nil ?_; replace hF := hF.ks [0, 1, 2, 3, 4, 5, 19] rfl; refine t_n ?_; replace hW := hW.nil_row 5 1; refine c_sr <| pv hF hW (y_move hF rfl) fun a hF => pv hF hW (y_fieldOwn hF rfl fa_26_0) fun a hF => pv hF hW (y_loadOwn hF rfl 2 rfl rfl Try.underlying22 rfl) fun a hF => pv hF hW (y_len hF rfl Try.underlying22) fun a hF => ?_; refine pe (e_buildSlice hF hW rfl (fun w => bs_ImgW_45_1_0 _ w) rfl rfl rfl ?_); intro b3 a wc hF hW; refine pe (e_call hF rfl rfl en_13 (by rfl) rfl rfl (bytes_call (L := []) (M := [(x.parts.length : Int)]) ((hW.front 1 rfl rfl).front 2 rfl rfl) (fun _ h => rowAt_blk (h.blk 0 rfl) 1 1 rfl) rfl (by simp)) ?_); rintro e w1 ⟨A3, c3, rfl, hN⟩; replace hW := hN; refine ⟨_, rfl, fun a hF => ?_⟩; refine l_nil ?_; replace hF := hF.ks [0, 1, 2, 3, 4, 5, 19] rfl; refine t_n <| c_s <| c_sr <| pv hF hW (y_fieldOwn hF rfl fa_26_0) fun a hF => pv hF hW (y_loadOwn hF rfl 3 rfl rfl Try.underlying22 rfl) fun a hF => pv hF hW (y_len hF rfl Try.underlying22) fun a hF => pv hF hW (y_move hF rfl) fun a hF => l_nil ?_; replace hF := hF.ks [0, 1, 2, 3, 4, 5, 19, 30, 31, 32] rfl; refine t_n <| wp_block ?_; replace hW := hW.front 1 rfl rfl; replace hW := hW.front 1 rfl rfl
    refine c_loop (G := Nat × List UInt8 × Option Addr × Nat) (fun (gq : Nat × List UInt8 × Option Addr × Nat) => match gq with | ⟨k, F, A, c⟩ => [(32, .int .i64 (k : Int))]) (fun (gq : Nat × List UInt8 × Option Addr × Nat) => match gq with | ⟨k, F, A, c⟩ => [penB b2 A c F, rowU A c F]) (fun (gq : Nat × List UInt8 × Option Addr × Nat) => match gq with | ⟨k, F, A, c⟩ => k ≤ x.parts.length ∧ F = parB x k) (fun (gq : Nat × List UInt8 × Option Addr × Nat) => match gq with | ⟨k, F, A, c⟩ => x.parts.length - k) (0, [byt (x.parts.length : Int)], A3, c3) (hF.ks [0, 1, 2, 3, 4, 5, 19, 30, 31] rfl) (Fr.cons hF (t := 32) rfl (by first | rfl | (simp; done)) (Fr.nil hF)) (hW) ?_ ?_
    · exact ⟨by omega, rfl⟩
    clear hF hW
    try clear a
    intro gq a wc hC hF hW
    obtain ⟨k, F, A, c⟩ := gq
    dsimp only at hC
    obtain ⟨hkl, hF0⟩ := hC
    refine c_sr <| pv hF hW (y_lss hF rfl rfl) fun a hF => ?_; refine Fr.splitD hF ?_ ?_
    · intro h4 hF; refine l_nil <| t_n <| c_s <| c_t hF rfl <| wp_skip <| t_n <| c_s <| wp_block ?_
      have hk1 : k < x.parts.length := (by omega)
      obtain ⟨q, hq⟩ : ∃ q, x.parts.getD k P0 = q := ⟨_, rfl⟩
      have hqc := hx.codeR hk1
      have hqi := hx.inpR hk1
      have hqz := hz.part q (by rw [← hq]; exact mem_getD P0 hk1)
      have hFl : F.length ≤ 1300 := (by rw [hF0]; exact hpl k)
      rw [hq] at hqc hqi
      obtain ⟨⟨code, inp⟩, ⟨ca, cc, ia, ic⟩⟩ := q
      dsimp only at hqc hqi hqz
      obtain ⟨hq20, hq12⟩ := hqz
      refine c_sr <| pv hF hW (y_indexS hF rfl rfl (by exact hk1) Try.underlying22 sz_47 (fun w h => (hx.partsR).wd h)) fun a hF => pv hF hW (y_loadRowW hF rfl (fun w h => (hx.partsR).wd h) (by exact hk1) Try.underlying47 rfl (by rw [hq]; exact sz_47)) fun a hF => ?_; replace hF := Fr.cast (v' := .agg #[.slice ca code.length cc, .slice ia inp.length ic]) (by rw [hq]; rfl) hF; refine pe (e_alloc hF hW ze_47 rfl rfl rfl ?_); intro b5 a wc hF hW; refine pe (e_storeAll rfl hF hW rfl rfl 0 rfl rfl rfl (by kernel_rfl) sz_47 ?_); intro wc hW; refine l_nil ?_; replace hF := hF.ks [0, 1, 2, 3, 4, 5, 7, 19, 30, 31, 32, 33] rfl; refine t_n <| c_sr <| pv hF hW (y_move hF rfl) fun a hF => pv hF hW (y_fieldOwn hF rfl fa_47_0) fun a hF => pv hF hW (y_loadOwn hF rfl 0 rfl rfl Try.underlying44 rfl) fun a hF => pv hF hW (y_len hF rfl Try.underlying44) fun a hF => ?_; refine pe (e_buildSlice hF hW rfl (fun w => bs_ImgW_45_1_0 _ w) rfl rfl rfl ?_); intro b6 a wc hF hW; refine pe (e_call hF rfl rfl en_13 (by rfl) rfl rfl (bytes_call (M := [(code.length : Int)]) ((hW.front 3 rfl rfl).front 3 rfl rfl) (fun _ h => rowAt_blk (h.blk 0 rfl) 1 1 rfl) rfl (by simp only [List.length_cons, List.length_nil]; omega)) ?_); rintro e w1 ⟨A4, c4, rfl, hN⟩; replace hW := hN; refine ⟨_, rfl, fun a hF => ?_⟩; refine l_nil ?_; replace hF := hF.ks [0, 1, 2, 3, 4, 5, 7, 19, 30, 31, 32, 33] rfl; refine t_n <| c_s <| c_sr <| pv hF hW (y_fieldOwn hF rfl fa_47_0) fun a hF => pv hF hW (y_loadOwn hF rfl 3 rfl rfl Try.underlying44 rfl) fun a hF => pv hF hW (y_len hF rfl Try.underlying44) fun a hF => pv hF hW (y_move hF rfl) fun a hF => l_nil ?_; replace hF := hF.ks [0, 1, 2, 3, 4, 5, 7, 19, 30, 31, 32, 33, 43, 44, 45] rfl; refine t_n <| wp_block ?_; replace hW := hW.front 1 rfl rfl; replace hW := hW.front 1 rfl rfl; refine c_loop (G := Nat × List UInt8 × Option Addr × Nat) (fun (gq : Nat × List UInt8 × Option Addr × Nat) => match gq with | ⟨j, H, B, d⟩ => [(45, .int .i64 (j : Int))]) (fun (gq : Nat × List UInt8 × Option Addr × Nat) => match gq with | ⟨j, H, B, d⟩ => [penB b2 B d H, rowU B d H]) (fun (gq : Nat × List UInt8 × Option Addr × Nat) => match gq with | ⟨j, H, B, d⟩ => j ≤ code.length ∧ H = (F ++ [byt (code.length : Int)]) ++ (code.take j).flatMap insB) (fun (gq : Nat × List UInt8 × Option Addr × Nat) => match gq with | ⟨j, H, B, d⟩ => code.length - j) (0, F ++ [byt (code.length : Int)], A4, c4) (hF.ks [0, 1, 2, 3, 4, 5, 7, 19, 30, 31, 32, 33, 43, 44] rfl) (Fr.cons hF (t := 45) rfl (by first | rfl | (simp; done)) (Fr.nil hF)) (hW) ?_ ?_
      · exact ⟨by omega, by simp⟩
      clear hF hW
      try clear a
      intro gq a wc hC hF hW
      obtain ⟨j, H, B, d⟩ := gq
      dsimp only at hC
      obtain ⟨hjl, hH0⟩ := hC
      refine c_sr <| pv hF hW (y_lss hF rfl rfl) fun a hF => ?_; refine Fr.splitD hF ?_ ?_
      · intro h7 hF; refine l_nil <| t_n <| c_s <| c_t hF rfl <| wp_skip <| t_n <| c_s <| wp_block ?_
        have hj1 : j < code.length := (by omega)
        obtain ⟨i0, hi⟩ : ∃ i, code.getD j I0 = i := ⟨_, rfl⟩
        obtain ⟨op, ra, rb, n⟩ := i0
        have hHl := rowsB_len (f := insB) (n := 11) (code.take j) fun q _ => Nat.le_of_eq (insB_len q)
        rw [List.length_take] at hHl
        have hHl2 := congrArg List.length hH0
        simp only [List.length_append, List.length_cons, List.length_nil] at hHl2
        refine c_sr <| pv hF hW (y_indexS hF rfl rfl (by exact hj1) Try.underlying44 sz_49 (fun w h => (hqc).wd h)) fun a hF => pv hF hW (y_loadRowW hF rfl (fun w h => (hqc).wd h) (by exact hj1) Try.underlying49 rfl (by rw [hi]; exact sz_49)) fun a hF => ?_; replace hF := Fr.cast (v' := .agg #[.int .i64 op, .int .i64 ra, .int .i64 rb, .int .i64 n]) (by rw [hi]; rfl) hF; refine pe (e_alloc hF hW ze_49 rfl rfl rfl ?_); intro b8 a wc hF hW; refine pe (e_storeAll rfl hF hW rfl rfl 0 rfl rfl rfl (by kernel_rfl) sz_49 ?_); intro wc hW; refine l_nil ?_; replace hF := hF.ks [0, 1, 2, 3, 4, 5, 7, 9, 19, 30, 31, 32, 33, 43, 44, 45, 46] rfl; refine t_n <| c_sr <| pv hF hW (y_move hF rfl) fun a hF => pv hF hW (y_fieldOwn hF rfl fa_49_0) fun a hF => pv hF hW (y_loadOwn hF rfl 0 rfl rfl Try.underlying3 rfl) fun a hF => pv hF hW (y_fieldOwn hF rfl fa_49_1) fun a hF => pv hF hW (y_loadOwn hF rfl 0 rfl rfl Try.underlying3 rfl) fun a hF => pv hF hW (y_fieldOwn hF rfl fa_49_2) fun a hF => pv hF hW (y_loadOwn hF rfl 0 rfl rfl Try.underlying3 rfl) fun a hF => ?_; refine pe (e_buildSlice hF hW rfl (fun w => bs_ImgW_45_3_0_1_2 _ _ _ w) rfl rfl rfl ?_); intro b9 a wc hF hW; refine pe (e_call hF rfl rfl en_13 (by rfl) rfl rfl (bytes_call (M := [op, ra, rb]) ((hW.front 3 rfl rfl).front 3 rfl rfl) (fun _ h => rowAt_blk (h.blk 0 rfl) 1 3 rfl) rfl (by simp only [List.length_cons, List.length_nil]; omega)) ?_); rintro e w1 ⟨A5, c5, rfl, hN⟩; replace hW := hN; refine ⟨_, rfl, fun a hF => ?_⟩; refine l_nil ?_; replace hF := hF.ks [0, 1, 2, 3, 4, 5, 7, 9, 19, 30, 31, 32, 33, 43, 44, 45, 46] rfl; refine t_n <| c_r <| pv hF hW (y_move hF rfl) fun a hF => pv hF hW (y_fieldOwn hF rfl fa_49_3) fun a hF => pv hF hW (y_loadOwn hF rfl 3 rfl rfl Try.underlying3 rfl) fun a hF => ?_; refine pe (e_call hF rfl rfl en_14 (by rfl) rfl rfl (num_call (L := H ++ [byt op, byt ra, byt rb]) ((hW.front 1 rfl rfl).front 1 rfl rfl) (by simp only [List.length_append, List.length_cons, List.length_nil]; omega)) ?_); rintro e w1 ⟨A6, c6, rfl, hN⟩; replace hW := hN; refine ⟨_, rfl, fun a hF => ?_⟩; refine l_nil ?_; replace hF := hF.ks [0, 1, 2, 3, 4, 5, 7, 9, 19, 30, 31, 32, 33, 43, 44, 45, 46] rfl; refine b_n <| t_n <| c_r <| pv hF hW (y_add hF rfl rfl (IntWalk.i64_in _ (by omega))) fun a hF => ?_; replace hF := hF.drop 45; refine pv hF hW (y_move hF rfl) fun a hF => l_nil ?_; replace hF := hF.ks [0, 1, 2, 3, 4, 5, 7, 9, 19, 30, 31, 32, 33, 43, 44, 45, 46] rfl; replace hW := hW.del 2 rfl; replace hW := hW.del 2 rfl; refine t_n ?_; refine ⟨(j + 1, (H ++ [byt op, byt ra, byt rb]) ++ num8 n, A6, c6), ?_, ?_, ?_, ?_⟩
        · exact ⟨by omega, by rw [hH0, takeB_flat I0 _ hj1, hi]; simp [insB]⟩
        · first | omega | (dsimp only; omega)
        · exact Fr.app (Fr.cons hF (t := 45) rfl (by first | rfl | (simp; done) | omega) (Fr.nil hF)) (hF.ks [0, 1, 2, 3, 4, 5, 7, 19, 30, 31, 32, 33, 43, 44] rfl)
        · exact hW
      · intro h7 hF; refine l_nil <| t_n <| c_s <| c_f hF rfl <| wp_exit <| t_x <| t_x <| b_h <| t_n ?_
        have hHl := rowsB_len (f := insB) (n := 11) (code.take j) fun q _ => Nat.le_of_eq (insB_len q)
        rw [List.length_take] at hHl
        have hHl2 := congrArg List.length hH0
        simp only [List.length_append, List.length_cons, List.length_nil] at hHl2
        refine c_sr <| pv hF hW (y_move hF rfl) fun a hF => pv hF hW (y_fieldOwn hF rfl fa_47_1) fun a hF => pv hF hW (y_loadOwn hF rfl 3 rfl rfl Try.underlying45 rfl) fun a hF => pv hF hW (y_len hF rfl Try.underlying45) fun a hF => ?_; refine pe (e_buildSlice hF hW rfl (fun w => bs_ImgW_45_1_0 _ w) rfl rfl rfl ?_); intro b10 a wc hF hW; refine pe (e_call hF rfl rfl en_13 (by rfl) rfl rfl (bytes_call (M := [(inp.length : Int)]) ((hW.front 2 rfl rfl).front 2 rfl rfl) (fun _ h => rowAt_blk (h.blk 0 rfl) 1 1 rfl) rfl (by simp only [List.length_cons, List.length_nil]; omega)) ?_); rintro e w1 ⟨A7, c7, rfl, hN⟩; replace hW := hN; refine ⟨_, rfl, fun a hF => ?_⟩; refine l_nil ?_; replace hF := hF.ks [0, 1, 2, 3, 4, 5, 7, 19, 30, 31, 32, 33, 43, 44, 45, 46] rfl; refine t_n <| c_sr <| pv hF hW (y_fieldOwn hF rfl fa_47_1) fun a hF => pv hF hW (y_loadOwn hF rfl 4 rfl rfl Try.underlying45 rfl) fun a hF => pv hF hW (y_len hF rfl Try.underlying45) fun a hF => pv hF hW (y_move hF rfl) fun a hF => l_nil ?_; replace hF := hF.ks [0, 1, 2, 3, 4, 5, 7, 19, 30, 31, 32, 33, 43, 44, 45, 46, 70, 71, 72] rfl; refine t_n <| wp_block ?_; replace hW := hW.front 1 rfl rfl; replace hW := hW.front 1 rfl rfl; refine c_loop (G := Nat × List UInt8 × Option Addr × Nat) (fun (gq : Nat × List UInt8 × Option Addr × Nat) => match gq with | ⟨i, H2, B2, d2⟩ => [(72, .int .i64 (i : Int))]) (fun (gq : Nat × List UInt8 × Option Addr × Nat) => match gq with | ⟨i, H2, B2, d2⟩ => [penB b2 B2 d2 H2, rowU B2 d2 H2]) (fun (gq : Nat × List UInt8 × Option Addr × Nat) => match gq with | ⟨i, H2, B2, d2⟩ => i ≤ inp.length ∧ H2 = (H ++ [byt (inp.length : Int)]) ++ (inp.take i).flatMap num8) (fun (gq : Nat × List UInt8 × Option Addr × Nat) => match gq with | ⟨i, H2, B2, d2⟩ => inp.length - i) (0, H ++ [byt (inp.length : Int)], A7, c7) (hF.ks [0, 1, 2, 3, 4, 5, 7, 19, 30, 31, 32, 33, 43, 44, 45, 46, 70, 71] rfl) (Fr.cons hF (t := 72) rfl (by first | rfl | (simp; done)) (Fr.nil hF)) (hW) ?_ ?_
        · exact ⟨by omega, by simp⟩
        clear hF hW
        try clear a
        intro gq a wc hC hF hW
        obtain ⟨i, H2, B2, d2⟩ := gq
        dsimp only at hC
        obtain ⟨hil, hH20⟩ := hC
        refine c_sr <| pv hF hW (y_lss hF rfl rfl) fun a hF => ?_; refine Fr.splitD hF ?_ ?_
        · intro h11 hF; refine l_nil <| t_n <| c_s <| c_t hF rfl <| wp_skip <| t_n <| c_s <| wp_block ?_
          have hi1 : i < inp.length := (by omega)
          have hIl := rowsB_len (f := num8) (n := 8) (inp.take i) fun q _ => Nat.le_of_eq (num8_len q)
          rw [List.length_take] at hIl
          have hIl2 := congrArg List.length hH20
          simp only [List.length_append, List.length_cons, List.length_nil] at hIl2
          refine c_sr <| pv hF hW (y_indexS hF rfl rfl (by exact hi1) Try.underlying45 sz_3 (fun w h => (hqi).wd h)) fun a hF => pv hF hW (y_loadRow hF rfl (fun w h => (hqi).wd h) (by exact hi1) rfl Try.underlying3 rfl) fun a hF => pv hF hW (y_assign hF rfl) fun a hF => l_nil ?_; replace hF := hF.ks [0, 1, 2, 3, 4, 5, 7, 11, 19, 30, 31, 32, 33, 43, 44, 45, 46, 70, 71, 72, 73] rfl; refine t_n <| c_r <| pv hF hW (y_move hF rfl) fun a hF => pv hF hW (y_move hF rfl) fun a hF => ?_; refine pe (e_call hF rfl rfl en_14 (by rfl) rfl rfl (num_call (L := H2) ((hW.front 1 rfl rfl).front 1 rfl rfl) (by omega)) ?_); rintro e w1 ⟨A8, c8, rfl, hN⟩; replace hW := hN; refine ⟨_, rfl, fun a hF => ?_⟩; refine l_nil ?_; replace hF := hF.ks [0, 1, 2, 3, 4, 5, 7, 11, 19, 30, 31, 32, 33, 43, 44, 45, 46, 70, 71, 72, 73] rfl; refine b_n <| t_n <| c_r <| pv hF hW (y_add hF rfl rfl (IntWalk.i64_in _ (by omega))) fun a hF => ?_; replace hF := hF.drop 72; refine pv hF hW (y_move hF rfl) fun a hF => l_nil ?_; replace hF := hF.ks [0, 1, 2, 3, 4, 5, 7, 11, 19, 30, 31, 32, 33, 43, 44, 45, 46, 70, 71, 72, 73] rfl; refine t_n ?_; refine ⟨(i + 1, H2 ++ num8 (inp.getD i 0), A8, c8), ?_, ?_, ?_, ?_⟩
          · exact ⟨by omega, by rw [hH20, takeB_flat 0 _ hi1, List.append_assoc]⟩
          · first | omega | (dsimp only; omega)
          · exact Fr.app (Fr.cons hF (t := 72) rfl (by first | rfl | (simp; done) | omega) (Fr.nil hF)) (hF.ks [0, 1, 2, 3, 4, 5, 7, 19, 30, 31, 32, 33, 43, 44, 45, 46, 70, 71] rfl)
          · exact hW
        · intro h11 hF; refine l_nil <| t_n <| c_s <| c_f hF rfl <| wp_exit <| t_x <| t_x <| b_h <| b_n <| t_n <| c_r <| pv hF hW (y_add hF rfl rfl (IntWalk.i64_in _ (by omega))) fun a hF => ?_; replace hF := hF.drop 32; refine pv hF hW (y_move hF rfl) fun a hF => l_nil ?_; replace hF := hF.ks [0, 1, 2, 3, 4, 5, 7, 19, 30, 31, 32, 33, 43, 44, 45, 46, 70, 71, 72, 73] rfl; replace hW := hW.del 2 rfl; replace hW := hW.del 2 rfl; replace hW := hW.del 2 rfl; refine t_n ?_; refine ⟨(k + 1, H2, B2, d2), ?_, ?_, ?_, ?_⟩
          · exact ⟨by omega, by rw [parB_succ hk1 hq, ← hF0, hH20, hH0, show j = code.length by omega, show i = inp.length by omega, List.take_of_length_le (Nat.le_refl _), List.take_of_length_le (Nat.le_refl _)]; simp [prtB, encB8]⟩
          · first | omega | (dsimp only; omega)
          · exact Fr.app (Fr.cons hF (t := 32) rfl (by first | rfl | (simp; done) | omega) (Fr.nil hF)) (hF.ks [0, 1, 2, 3, 4, 5, 19, 30, 31] rfl)
          · exact hW
    · intro h4 hF; refine l_nil <| t_n <| c_s <| c_f hF rfl <| wp_exit <| t_x <| t_x <| b_h <| t_n ?_
      have hFl : F.length ≤ 1300 := (by rw [hF0]; exact hpl k)
      rw [show k = x.parts.length by omega] at hF0
      refine c_sr <| pv hF hW (y_move hF rfl) fun a hF => pv hF hW (y_fieldOwn hF rfl fa_26_1) fun a hF => pv hF hW (y_loadOwn hF rfl 3 rfl rfl Try.underlying23 rfl) fun a hF => pv hF hW (y_len hF rfl Try.underlying23) fun a hF => ?_; refine pe (e_buildSlice hF hW rfl (fun w => bs_ImgW_45_1_0 _ w) rfl rfl rfl ?_); intro b12 a wc hF hW; refine pe (e_call hF rfl rfl en_13 (by rfl) rfl rfl (bytes_call (M := [(x.chans.length : Int)]) ((hW.front 2 rfl rfl).front 2 rfl rfl) (fun _ h => rowAt_blk (h.blk 0 rfl) 1 1 rfl) rfl (by simp only [List.length_cons, List.length_nil]; omega)) ?_); rintro e w1 ⟨A4, c4, rfl, hN⟩; replace hW := hN; refine ⟨_, rfl, fun a hF => ?_⟩; refine l_nil ?_; replace hF := hF.ks [0, 1, 2, 3, 4, 5, 19, 30, 31, 32, 33] rfl; refine t_n <| c_s <| c_sr <| pv hF hW (y_fieldOwn hF rfl fa_26_1) fun a hF => pv hF hW (y_loadOwn hF rfl 4 rfl rfl Try.underlying23 rfl) fun a hF => pv hF hW (y_len hF rfl Try.underlying23) fun a hF => pv hF hW (y_move hF rfl) fun a hF => l_nil ?_; replace hF := hF.ks [0, 1, 2, 3, 4, 5, 19, 30, 31, 32, 33, 88, 89, 90] rfl; refine t_n <| wp_block ?_; replace hW := hW.front 1 rfl rfl; replace hW := hW.front 1 rfl rfl; refine c_loop (G := Nat × List UInt8 × Option Addr × Nat) (fun (gq : Nat × List UInt8 × Option Addr × Nat) => match gq with | ⟨j, H, B, d⟩ => [(90, .int .i64 (j : Int))]) (fun (gq : Nat × List UInt8 × Option Addr × Nat) => match gq with | ⟨j, H, B, d⟩ => [penB b2 B d H, rowU B d H]) (fun (gq : Nat × List UInt8 × Option Addr × Nat) => match gq with | ⟨j, H, B, d⟩ => j ≤ x.chans.length ∧ H = (F ++ [byt (x.chans.length : Int)]) ++ (x.chans.take j).flatMap chnB) (fun (gq : Nat × List UInt8 × Option Addr × Nat) => match gq with | ⟨j, H, B, d⟩ => x.chans.length - j) (0, F ++ [byt (x.chans.length : Int)], A4, c4) (hF.ks [0, 1, 2, 3, 4, 5, 19, 30, 31, 32, 33, 88, 89] rfl) (Fr.cons hF (t := 90) rfl (by first | rfl | (simp; done)) (Fr.nil hF)) (hW) ?_ ?_
      · exact ⟨by omega, by simp⟩
      clear hF hW
      try clear a
      intro gq a wc hC hF hW
      obtain ⟨j, H, B, d⟩ := gq
      dsimp only at hC
      obtain ⟨hjl, hH0⟩ := hC
      refine c_sr <| pv hF hW (y_lss hF rfl rfl) fun a hF => ?_; refine Fr.splitD hF ?_ ?_
      · intro h13 hF; refine l_nil <| t_n <| c_s <| c_t hF rfl <| wp_skip <| t_n <| c_s <| wp_block ?_
        have hj1 : j < x.chans.length := (by omega)
        obtain ⟨i0, hi⟩ : ∃ i, x.chans.getD j C0 = i := ⟨_, rfl⟩
        obtain ⟨kd, fr, tt⟩ := i0
        have hHl := rowsB_len (f := chnB) (n := 3) (x.chans.take j) fun q _ => Nat.le_refl _
        rw [List.length_take] at hHl
        have hHl2 := congrArg List.length hH0
        simp only [List.length_append, List.length_cons, List.length_nil] at hHl2
        refine c_sr <| pv hF hW (y_indexS hF rfl rfl (by exact hj1) Try.underlying23 sz_52 (fun w h => (hx.chansR).wd h)) fun a hF => pv hF hW (y_loadRowW hF rfl (fun w h => (hx.chansR).wd h) (by exact hj1) Try.underlying52 rfl (by rw [hi]; exact sz_52)) fun a hF => ?_; replace hF := Fr.cast (v' := .agg #[.int .i64 kd, .int .i64 fr, .int .i64 tt]) (by rw [hi]; rfl) hF; refine pe (e_alloc hF hW ze_52 rfl rfl rfl ?_); intro b14 a wc hF hW; refine pe (e_storeAll rfl hF hW rfl rfl 0 rfl rfl rfl (by kernel_rfl) sz_52 ?_); intro wc hW; refine l_nil ?_; replace hF := hF.ks [0, 1, 2, 3, 4, 5, 13, 19, 30, 31, 32, 33, 88, 89, 90, 91] rfl; refine t_n <| c_r <| pv hF hW (y_move hF rfl) fun a hF => pv hF hW (y_fieldOwn hF rfl fa_52_0) fun a hF => pv hF hW (y_loadOwn hF rfl 0 rfl rfl Try.underlying3 rfl) fun a hF => pv hF hW (y_fieldOwn hF rfl fa_52_1) fun a hF => pv hF hW (y_loadOwn hF rfl 0 rfl rfl Try.underlying3 rfl) fun a hF => pv hF hW (y_fieldOwn hF rfl fa_52_2) fun a hF => pv hF hW (y_loadOwn hF rfl 0 rfl rfl Try.underlying3 rfl) fun a hF => ?_; refine pe (e_buildSlice hF hW rfl (fun w => bs_ImgW_45_3_0_1_2 _ _ _ w) rfl rfl rfl ?_); intro b15 a wc hF hW; refine pe (e_call hF rfl rfl en_13 (by rfl) rfl rfl (bytes_call (M := [kd, fr, tt]) ((hW.front 3 rfl rfl).front 3 rfl rfl) (fun _ h => rowAt_blk (h.blk 0 rfl) 1 3 rfl) rfl (by simp only [List.length_cons, List.length_nil]; omega)) ?_); rintro e w1 ⟨A5, c5, rfl, hN⟩; replace hW := hN; refine ⟨_, rfl, fun a hF => ?_⟩; refine l_nil ?_; replace hF := hF.ks [0, 1, 2, 3, 4, 5, 13, 19, 30, 31, 32, 33, 88, 89, 90, 91] rfl; refine b_n <| t_n <| c_r <| pv hF hW (y_add hF rfl rfl (IntWalk.i64_in _ (by omega))) fun a hF => ?_; replace hF := hF.drop 90; refine pv hF hW (y_move hF rfl) fun a hF => l_nil ?_; replace hF := hF.ks [0, 1, 2, 3, 4, 5, 13, 19, 30, 31, 32, 33, 88, 89, 90, 91] rfl; replace hW := hW.del 2 rfl; replace hW := hW.del 2 rfl; refine t_n ?_; refine ⟨(j + 1, H ++ [byt kd, byt fr, byt tt], A5, c5), ?_, ?_, ?_, ?_⟩
        · exact ⟨by omega, by rw [hH0, takeB_flat C0 _ hj1, hi]; simp [chnB]⟩
        · first | omega | (dsimp only; omega)
        · exact Fr.app (Fr.cons hF (t := 90) rfl (by first | rfl | (simp; done) | omega) (Fr.nil hF)) (hF.ks [0, 1, 2, 3, 4, 5, 19, 30, 31, 32, 33, 88, 89] rfl)
        · exact hW
      · intro h13 hF; refine l_nil <| t_n <| c_s <| c_f hF rfl <| wp_exit <| t_x <| t_x <| b_h <| t_n ?_
        have hHl := rowsB_len (f := chnB) (n := 3) (x.chans.take j) fun q _ => Nat.le_refl _
        rw [List.length_take] at hHl
        have hHl2 := congrArg List.length hH0
        simp only [List.length_append, List.length_cons, List.length_nil] at hHl2
        refine c_sr <| pv hF hW (y_move hF rfl) fun a hF => pv hF hW (y_fieldOwn hF rfl fa_26_2) fun a hF => pv hF hW (y_loadOwn hF rfl 4 rfl rfl Try.underlying24 rfl) fun a hF => pv hF hW (y_len hF rfl Try.underlying24) fun a hF => ?_; refine pe (e_buildSlice hF hW rfl (fun w => bs_ImgW_45_1_0 _ w) rfl rfl rfl ?_); intro b16 a wc hF hW; refine pe (e_call hF rfl rfl en_13 (by rfl) rfl rfl (bytes_call (M := [(x.slots.length : Int)]) ((hW.front 2 rfl rfl).front 2 rfl rfl) (fun _ h => rowAt_blk (h.blk 0 rfl) 1 1 rfl) rfl (by simp only [List.length_cons, List.length_nil]; omega)) ?_); rintro e w1 ⟨A7, c7, rfl, hN⟩; replace hW := hN; refine ⟨_, rfl, fun a hF => ?_⟩; refine l_nil ?_; replace hF := hF.ks [0, 1, 2, 3, 4, 5, 19, 30, 31, 32, 33, 88, 89, 90, 91] rfl; refine t_n <| c_s <| c_sr <| pv hF hW (y_fieldOwn hF rfl fa_26_2) fun a hF => pv hF hW (y_loadOwn hF rfl 5 rfl rfl Try.underlying24 rfl) fun a hF => pv hF hW (y_len hF rfl Try.underlying24) fun a hF => pv hF hW (y_move hF rfl) fun a hF => l_nil ?_; replace hF := hF.ks [0, 1, 2, 3, 4, 5, 19, 30, 31, 32, 33, 88, 89, 90, 91, 111, 112, 113] rfl; refine t_n <| wp_block ?_; replace hW := hW.front 1 rfl rfl; replace hW := hW.front 1 rfl rfl; refine c_loop (G := Nat × List UInt8 × Option Addr × Nat) (fun (gq : Nat × List UInt8 × Option Addr × Nat) => match gq with | ⟨i, H2, B2, d2⟩ => [(113, .int .i64 (i : Int))]) (fun (gq : Nat × List UInt8 × Option Addr × Nat) => match gq with | ⟨i, H2, B2, d2⟩ => [penB b2 B2 d2 H2, rowU B2 d2 H2]) (fun (gq : Nat × List UInt8 × Option Addr × Nat) => match gq with | ⟨i, H2, B2, d2⟩ => i ≤ x.slots.length ∧ H2 = (H ++ [byt (x.slots.length : Int)]) ++ (x.slots.take i).flatMap sltB) (fun (gq : Nat × List UInt8 × Option Addr × Nat) => match gq with | ⟨i, H2, B2, d2⟩ => x.slots.length - i) (0, H ++ [byt (x.slots.length : Int)], A7, c7) (hF.ks [0, 1, 2, 3, 4, 5, 19, 30, 31, 32, 33, 88, 89, 90, 91, 111, 112] rfl) (Fr.cons hF (t := 113) rfl (by first | rfl | (simp; done)) (Fr.nil hF)) (hW) ?_ ?_
        · exact ⟨by omega, by simp⟩
        clear hF hW
        try clear a
        intro gq a wc hC hF hW
        obtain ⟨i, H2, B2, d2⟩ := gq
        dsimp only at hC
        obtain ⟨hil, hH20⟩ := hC
        refine c_sr <| pv hF hW (y_lss hF rfl rfl) fun a hF => ?_; refine Fr.splitD hF ?_ ?_
        · intro h17 hF; refine l_nil <| t_n <| c_s <| c_t hF rfl <| wp_skip <| t_n <| c_s <| wp_block ?_
          have hi1 : i < x.slots.length := (by omega)
          obtain ⟨s0, hs⟩ : ∃ s, x.slots.getD i S0 = s := ⟨_, rfl⟩
          obtain ⟨pt, tk⟩ := s0
          have hIl := rowsB_len (f := sltB) (n := 2) (x.slots.take i) fun q _ => Nat.le_refl _
          rw [List.length_take] at hIl
          have hIl2 := congrArg List.length hH20
          simp only [List.length_append, List.length_cons, List.length_nil] at hIl2
          refine c_sr <| pv hF hW (y_indexS hF rfl rfl (by exact hi1) Try.underlying24 sz_54 (fun w h => (hx.slotsR).wd h)) fun a hF => pv hF hW (y_loadRowW hF rfl (fun w h => (hx.slotsR).wd h) (by exact hi1) Try.underlying54 rfl (by rw [hs]; exact sz_54)) fun a hF => ?_; replace hF := Fr.cast (v' := .agg #[.int .i64 pt, .int .i64 tk]) (by rw [hs]; rfl) hF; refine pe (e_alloc hF hW ze_54 rfl rfl rfl ?_); intro b18 a wc hF hW; refine pe (e_storeAll rfl hF hW rfl rfl 0 rfl rfl rfl (by kernel_rfl) sz_54 ?_); intro wc hW; refine l_nil ?_; replace hF := hF.ks [0, 1, 2, 3, 4, 5, 15, 19, 30, 31, 32, 33, 88, 89, 90, 91, 111, 112, 113, 114] rfl; refine t_n <| c_r <| pv hF hW (y_move hF rfl) fun a hF => pv hF hW (y_fieldOwn hF rfl fa_54_0) fun a hF => pv hF hW (y_loadOwn hF rfl 0 rfl rfl Try.underlying3 rfl) fun a hF => pv hF hW (y_fieldOwn hF rfl fa_54_1) fun a hF => pv hF hW (y_loadOwn hF rfl 0 rfl rfl Try.underlying3 rfl) fun a hF => ?_; refine pe (e_buildSlice hF hW rfl (fun w => bs_ImgW_45_2_0_1 _ _ w) rfl rfl rfl ?_); intro b19 a wc hF hW; refine pe (e_call hF rfl rfl en_13 (by rfl) rfl rfl (bytes_call (M := [pt, tk]) ((hW.front 3 rfl rfl).front 3 rfl rfl) (fun _ h => rowAt_blk (h.blk 0 rfl) 1 2 rfl) rfl (by simp only [List.length_cons, List.length_nil]; omega)) ?_); rintro e w1 ⟨A8, c8, rfl, hN⟩; replace hW := hN; refine ⟨_, rfl, fun a hF => ?_⟩; refine l_nil ?_; replace hF := hF.ks [0, 1, 2, 3, 4, 5, 15, 19, 30, 31, 32, 33, 88, 89, 90, 91, 111, 112, 113, 114] rfl; refine b_n <| t_n <| c_r <| pv hF hW (y_add hF rfl rfl (IntWalk.i64_in _ (by omega))) fun a hF => ?_; replace hF := hF.drop 113; refine pv hF hW (y_move hF rfl) fun a hF => l_nil ?_; replace hF := hF.ks [0, 1, 2, 3, 4, 5, 15, 19, 30, 31, 32, 33, 88, 89, 90, 91, 111, 112, 113, 114] rfl; replace hW := hW.del 2 rfl; replace hW := hW.del 2 rfl; refine t_n ?_; refine ⟨(i + 1, H2 ++ [byt pt, byt tk], A8, c8), ?_, ?_, ?_, ?_⟩
          · exact ⟨by omega, by rw [hH20, takeB_flat S0 _ hi1, hs]; simp [sltB]⟩
          · first | omega | (dsimp only; omega)
          · exact Fr.app (Fr.cons hF (t := 113) rfl (by first | rfl | (simp; done) | omega) (Fr.nil hF)) (hF.ks [0, 1, 2, 3, 4, 5, 19, 30, 31, 32, 33, 88, 89, 90, 91, 111, 112] rfl)
          · exact hW
        · intro h17 hF; refine l_nil <| t_n <| c_s <| c_f hF rfl <| wp_exit <| t_x <| t_x <| b_h <| t_n ?_
          have hE : H2 = imgL x.sys := (by rw [hie, hH20, hH0, hF0, show j = x.chans.length by omega, show i = x.slots.length by omega, List.take_of_length_le (Nat.le_refl _), List.take_of_length_le (Nat.le_refl _)]; simp [encB8])
          have hpos : 0 < H2.length := (by rw [hH20, List.length_append, List.length_append, List.length_cons]; omega)
          refine c_sr <| pv hF hW (y_move hF rfl) fun a hF => pv hF hW (y_nilCheck hF rfl) fun a hF => pv hF hW (y_fieldOwn hF rfl fa_42_0) fun a hF => pv hF hW (y_loadOwn hF rfl 0 rfl rfl Try.underlying40 rfl) fun a hF => pv hF hW (y_bytesStr hF rfl (fun w h => RowAt.of_own (h.row 1 rfl)) (by exact hpos) Try.underlying40 Try.underlying5 Try.underlying9) fun a hF => ?_; replace hF := hF.drop 2; refine pv hF hW (y_assign hF rfl) fun a hF => ?_; replace hF := hF.drop 3; refine pv hF hW (y_assign hF rfl) fun a hF => l_nil ?_; replace hF := hF.ks [0, 1, 2, 3, 4, 5, 19, 30, 31, 32, 33, 88, 89, 90, 91, 111, 112, 113, 114] rfl; refine t_n <| wp_ret <| ret2 Try.results5 hF (rv_t hF rfl) (rv_t hF rfl) ?_
          exact ⟨by rw [hE], hW.below⟩
  · rw [if_neg h0]
    generalize chkSys x.sys = E at *
    rw [x.val_eq] at *
    refine enter Try.func5 rfl Try.ntmps5 rfl fun a hF => ?_
    have hW := Wd.start w NoB
    refine c_sr ?_; refine pe (e_box hF hW rfl rfl rfl rfl ?_); intro b1 a wc hF hW; refine pv hF hW (y_assign hF rfl) fun a hF => pv hF hW (y_assign hF rfl) fun a hF => l_nil <| t_n <| c_s <| c_sr <| pv hF hW (y_loadAll hF rfl 0 rfl Try.underlying26 rfl sz_26) fun a hF => ?_; refine pe (e_call hF rfl rfl en_12 (by rfl) rfl rfl (hck _ hW.below) ?_); rintro e w1 ⟨rfl, hb⟩; replace hW := hW.kept hb; clear hb; refine ⟨_, rfl, fun a hF => ?_⟩; refine pv hF hW (y_assign hF rfl) fun a hF => l_nil ?_; replace hF := hF.ks [0, 1, 2, 3, 4] rfl; refine t_n <| c_sr <| pv hF hW (y_move hF rfl) fun a hF => pv hF hW (y_neq hF rfl rfl) fun a hF => ?_; refine Fr.splitD hF ?_ ?_
    · intro h2 hF; refine l_nil ?_; replace hF := hF.ks [0, 1, 2, 3, 4, 19] rfl; refine t_n <| c_t hF rfl <| c_sr <| pv hF hW (y_move hF rfl) fun a hF => ?_; replace hF := hF.drop 2; refine pv hF hW (y_assign hF rfl) fun a hF => ?_; replace hF := hF.drop 3; refine pv hF hW (y_assign hF rfl) fun a hF => l_nil ?_; replace hF := hF.ks [0, 1, 2, 3, 4, 19] rfl; refine t_n <| wp_ret <| t_r <| ret2 Try.results5 hF (rv_t hF rfl) (rv_t hF rfl) ?_
      exact ⟨rfl, hW.below⟩
    · intro h2 hF; exfalso
      exact h2 h0
end Go.Proofs.Ytnpflhaggfabnaa
