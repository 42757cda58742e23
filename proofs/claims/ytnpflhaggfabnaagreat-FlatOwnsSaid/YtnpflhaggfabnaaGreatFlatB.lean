/- flat.Lay. -/
import Derived.Test.YtnpflhaggfabnaaGreatFlatA
import Derived.Test.YtnpflhaggfabnaaGreatKernE
namespace Go.Proofs.YtnpflhaggfabnaaGreat
set_option linter.unusedVariables false
set_option linter.unusedSimpArgs false
open Go.ChangeShapes Go.WideShapes Go.ChangeAt Go.RowKit
theorem bs_FlatB_31_1_0 (x0 : Int) (w : World) : (Instr.buildSlice 31 1 #[(0, (.int .i64 x0))]).run Tryz.prog w = .ok (.slice (some ⟨w.heap.size, 0, none⟩) 1 1) (w.alloc (.cells #[(.int .i64 x0)] 3)) := by kernel_rfl
theorem bs_FlatB_31_2_0_1 (x0 : Int) (x1 : Int) (w : World) : (Instr.buildSlice 31 2 #[(0, (.int .i64 x0)), (1, (.int .i64 x1))]).run Tryz.prog w = .ok (.slice (some ⟨w.heap.size, 0, none⟩) 2 2) (w.alloc (.cells #[(.int .i64 x0), (.int .i64 x1)] 3)) := by kernel_rfl
theorem bu_FlatB_78_  (w : World) : (Instr.build 78 #[]).run Tryz.prog w = .ok (.agg #[(.slice none 0 0)]) w := by kernel_rfl
set_option maxRecDepth 100000

theorem wd_row {w0 : World} {es : List Asn} {A : Option Addr} {c n : Nat} {l : List Int} (h : Ints w0 (.slice A n c) l) : ∀ w', Wd w0 NoB es w' → RowAt w' 1 A n (l.map (.int .i64)) := fun w' hW => (Ints.below h hW.below).rowAt
theorem rowTo_cells {k : Nat} {l : List CD} {f : Cel → List Int} (hk : k < l.length) : ((l.map CD.c).take (k + 1)).flatMap f = ((l.map CD.c).take k).flatMap f ++ f (l.getD k CD0).c := by
  have h1 : k < (l.map CD.c).length := by simpa using hk
  rw [List.take_add_one, List.getElem?_eq_getElem h1, List.flatMap_append]
  congr 1
  simp [List.getD, hk]
theorem rowTo_lines {k : Nat} {l : List LD} {f : List Int → List Int} (hk : k < l.length) : ((l.map LD.vals).take (k + 1)).flatMap f = ((l.map LD.vals).take k).flatMap f ++ f (l.getD k LD0).vals := by
  have h1 : k < (l.map LD.vals).length := by simpa using hk
  rw [List.take_add_one, List.getElem?_eq_getElem h1, List.flatMap_append]
  congr 1
  simp [List.getD, hk]
theorem cellRowL_len {c : Cel} (hw : c.wf) (ho : c.out.length ≤ 16) : (cellRowL c).length = 32 := by
  unfold cellRowL
  simp only [List.length_cons, List.length_append, hw.1, hw.2, padL_len ho, List.length_nil]
theorem rows_len {α : Type} {f : α → List Int} {n : Nat} : ∀ (l : List α), (∀ x, x ∈ l → (f x).length = n) → (l.flatMap f).length = l.length * n
  | [], _ => by simp
  | x :: r, h => by
    rw [List.flatMap_cons, List.length_append, h x List.mem_cons_self, rows_len r fun y hy => h y (List.mem_cons_of_mem _ hy), List.length_cons, Nat.succ_mul, Nat.add_comm]
def rowOr (s : Sys) (w : Wrl) : List Int := if chkWorld s w = 0 then rowL w else []
/-- a row of its own, and an error -/
def LayBack (w : World) (x : SysD) (y : WD) (e : Ending) (w' : World) : Prop := ∃ (L : List Int) (A : Option Addr) (c : Nat), e = .returned (.tuple #[.slice A L.length c, .int .i64 (chkWorld x.sys y.wrl)]) ∧ L = rowOr x.sys y.wrl ∧ Below w.heap.size w w' ∧ OwnRes w w' (fun u => Ints u (.slice A L.length c) L)
theorem world_small {x : SysD} {y : WD} (h : chkWorld x.sys y.wrl = 0) : chkSys x.sys = 0 ∧ y.cells.length = x.parts.length ∧ y.lines.length = x.chans.length ∧ (∀ q, q ∈ y.cells → q.c.out.length ≤ 16) ∧ ∀ q, q ∈ y.lines → q.vals.length ≤ 3 := by
  obtain ⟨h1, h2⟩ := chkWorld_zero h
  have hr := right_iff.1 h2
  have e1 : y.wrl.cells.length = y.cells.length := List.length_map _
  have e2 : y.wrl.lines.length = y.lines.length := List.length_map _
  have e3 : x.sys.parts.length = x.parts.length := by simp [SysD.sys]
  refine ⟨h1, by rw [← e1, hr.cl, e3], by rw [← e2, hr.ll]; rfl, fun q hq => ?_, fun q hq => ?_⟩
  · obtain ⟨k, hk, rfl⟩ := List.mem_iff_getElem.1 hq
    have h3 := (hr.cell k (by rw [e1]; exact hk)).1
    have e4 : y.wrl.cells.getD k Cel.zero = (y.cells[k]).c := by simp [WD.wrl, List.getD, hk]
    rw [e4] at h3
    simp only [cellFine, decide_eq_true_eq] at h3
    omega
  · obtain ⟨k, hk, rfl⟩ := List.mem_iff_getElem.1 hq
    have h3 := chk_len (hr.line k (by rw [e2]; exact hk))
    have e4 : y.wrl.lines.getD k [] = (y.lines[k]).vals := by simp [WD.wrl, List.getD, hk]
    rwa [e4] at h3
set_option maxHeartbeats 16000000 in
theorem flatLay_any {x : SysD} {y : WD} {w : World} (hx : x.At w) (hy : y.At w) : Calls Tryz.prog 6 #[x.val, y.val] w (LayBack w x y) := by
  have hck := fun w1 (hb : Below w.heap.size w w1) => kernCheck_any (hx.below hb) (hy.below hb)
  unfold LayBack rowOr
  by_cases h0 : chkWorld x.sys y.wrl = 0
  · obtain ⟨hk, hcl, hll, hco, hlv⟩ := world_small h0
    obtain ⟨⟨hp1, hp2⟩, hc6, -⟩ := sizes_get (chkSys_zero hk).1
    rw [h0] at hck ⊢
    rw [if_pos rfl]
    have hrow : rowL y.wrl = y.tick :: (((y.cells.map CD.c).take y.cells.length).flatMap cellRowL ++ ((y.lines.map LD.vals).take y.lines.length).flatMap (padL 3)) := by rw [List.take_of_length_le (by simp), List.take_of_length_le (by simp)]; rfl
    have hclen : ∀ k, k ≤ y.cells.length → (((y.cells.map CD.c).take k).flatMap cellRowL).length ≤ 128 := fun k hkl => by
      rw [rows_len (n := 32) _ fun c hc => by obtain ⟨q, hq, rfl⟩ := List.mem_map.1 (List.mem_of_mem_take hc); exact cellRowL_len q.wf (hco q hq), List.length_take, List.length_map]
      omega
    have hllen : ∀ k, k ≤ y.lines.length → (((y.lines.map LD.vals).take k).flatMap (padL 3)).length ≤ 24 := fun k hkl => by
      rw [rows_len (n := 4) _ fun c hc => by obtain ⟨q, hq, rfl⟩ := List.mem_map.1 (List.mem_of_mem_take hc); exact padL_len (hlv q hq), List.length_take, List.length_map]
      omega
    rw [x.val_eq, y.val_eq] at *
    refine enter Tryz.func6 rfl Tryz.ntmps6 rfl fun a hF => ?_
    have hW := Wd.start w NoB
    refine c_sr ?_; refine pe (e_box hF hW rfl rfl rfl rfl ?_); intro b1 a wc hF hW; refine pe (e_box hF hW rfl rfl rfl rfl ?_); intro b2 a wc hF hW; refine pv hF hW (y_assign hF rfl) fun a hF => pv hF hW (y_assign hF rfl) fun a hF => l_nil <| t_n <| c_s <| c_sr <| pv hF hW (y_loadAll hF rfl 1 rfl Tryz.underlying26 rfl sz_26) fun a hF => pv hF hW (y_loadAll hF rfl 0 rfl Tryz.underlying30 rfl sz_30) fun a hF => ?_; refine pe (e_call hF rfl rfl en_27 (by rfl) rfl rfl (hck _ hW.below) ?_); rintro e w1 ⟨rfl, hb⟩; replace hW := hW.kept hb; clear hb; refine ⟨_, rfl, fun a hF => ?_⟩; refine pv hF hW (y_assign hF rfl) fun a hF => l_nil ?_; replace hF := hF.ks [0, 1, 2, 3, 4, 5, 6] rfl; refine t_n <| c_sr <| pv hF hW (y_move hF rfl) fun a hF => pv hF hW (y_neq hF rfl rfl) fun a hF => ?_; replace hF := hF.ff; refine l_nil ?_; replace hF := hF.ks [0, 1, 2, 3, 4, 5, 6, 16] rfl; refine t_n <| c_f hF rfl <| wp_skip <| t_n <| c_sr <| pv hF hW (y_build hF rfl (fun w => bu_FlatB_78_  w)) fun a hF => ?_; refine pe (e_box hF hW rfl rfl rfl rfl ?_); intro b3 a wc hF hW; refine pv hF hW (y_assign hF rfl) fun a hF => l_nil ?_; replace hF := hF.ks [0, 1, 2, 3, 4, 5, 6, 7, 16] rfl; refine t_n ?_; replace hW := hW.nil_row 3 1; refine c_sr <| pv hF hW (y_move hF rfl) fun a hF => pv hF hW (y_fieldOwn hF rfl fa_30_0) fun a hF => pv hF hW (y_loadOwn hF rfl 2 rfl rfl Tryz.underlying3 rfl) fun a hF => ?_; refine pe (e_buildSlice hF hW rfl (fun w => bs_FlatB_31_1_0 _ w) rfl rfl rfl ?_); intro b4 a wc hF hW; refine pe (e_call hF rfl rfl en_28 (by rfl) rfl rfl (put_call (L := []) (M := [y.tick]) ((hW.front 1 rfl rfl).front 2 rfl rfl) (rowAt_blk (hW.blk 0 rfl) 1 1 rfl) rfl (by simp)) ?_); rintro e w1 ⟨A3, c3, rfl, hN⟩; replace hW := hN; refine ⟨_, rfl, fun a hF => ?_⟩; refine l_nil ?_; replace hF := hF.ks [0, 1, 2, 3, 4, 5, 6, 7, 16] rfl; refine t_n <| c_s <| c_sr <| pv hF hW (y_fieldOwn hF rfl fa_30_1) fun a hF => pv hF hW (y_loadOwn hF rfl 3 rfl rfl Tryz.underlying27 rfl) fun a hF => pv hF hW (y_len hF rfl Tryz.underlying27) fun a hF => pv hF hW (y_move hF rfl) fun a hF => l_nil ?_; replace hF := hF.ks [0, 1, 2, 3, 4, 5, 6, 7, 16, 26, 27, 28] rfl; refine t_n <| wp_block ?_; replace hW := hW.front 1 rfl rfl; replace hW := hW.front 1 rfl rfl
    refine c_loop (G := Nat × List Int × Option Addr × Nat) (fun (gq : Nat × List Int × Option Addr × Nat) => match gq with | ⟨k, F, A, c⟩ => [(28, .int .i64 (k : Int))]) (fun (gq : Nat × List Int × Option Addr × Nat) => match gq with | ⟨k, F, A, c⟩ => [rowB b3 A c (y.tick :: F), rowI A c (y.tick :: F)]) (fun (gq : Nat × List Int × Option Addr × Nat) => match gq with | ⟨k, F, A, c⟩ => k ≤ y.cells.length ∧ F = ((y.cells.map CD.c).take k).flatMap cellRowL) (fun (gq : Nat × List Int × Option Addr × Nat) => match gq with | ⟨k, F, A, c⟩ => y.cells.length - k) (0, [], A3, c3) (hF.ks [0, 1, 2, 3, 4, 5, 6, 7, 16, 26, 27] rfl) (Fr.cons hF (t := 28) rfl (by first | rfl | (simp; done)) (Fr.nil hF)) (hW) ?_ ?_
    · exact ⟨by omega, rfl⟩
    clear hF hW
    try clear a
    intro gq a wc hC hF hW
    obtain ⟨k, F, A, c⟩ := gq
    dsimp only at hC
    obtain ⟨hkl, hF0⟩ := hC
    refine c_sr <| pv hF hW (y_lss hF rfl rfl) fun a hF => ?_; refine Fr.splitD hF ?_ ?_
    · intro h5 hF; refine l_nil <| t_n <| c_s <| c_t hF rfl <| wp_skip <| t_n <| c_s <| wp_block ?_
      have hk1 : k < y.cells.length := (by omega)
      obtain ⟨q, hq⟩ : ∃ p, y.cells.getD k CD0 = p := ⟨_, rfl⟩
      have hqm : q ∈ y.cells := (by rw [← hq]; exact mem_getD CD0 hk1)
      have hqA := hy.eachC q hqm
      have hqo := hco q hqm
      have hFl := hclen k (by omega)
      rw [← hF0] at hFl
      obtain ⟨⟨at_, rg, mm, rd, out, en⟩, wf, qa, qk⟩ := q
      obtain ⟨r0, r1, r2, r3, hrr⟩ := len_four wf.1
      obtain ⟨m0, m1, m2, m3, m4, m5, m6, m7, hmm⟩ := len_eight wf.2
      dsimp only at hrr hmm hqo
      subst hrr hmm
      have hqR := fun (es : List Asn) => wd_row (es := es) (show Ints w (.slice qa out.length qk) out from hqA)
      refine c_sr <| pv hF hW (y_indexS hF rfl rfl (by exact hk1) Tryz.underlying27 sz_58 (fun w h => (hy.cellsR).wd h)) fun a hF => pv hF hW (y_loadRowW hF rfl (fun w h => (hy.cellsR).wd h) (by exact hk1) Tryz.underlying58 rfl (by rw [hq]; exact sz_58)) fun a hF => ?_; replace hF := Fr.cast (v' := .agg #[.int .i64 at_, .int .i64 r0, .int .i64 r1, .int .i64 r2, .int .i64 r3, .int .i64 m0, .int .i64 m1, .int .i64 m2, .int .i64 m3, .int .i64 m4, .int .i64 m5, .int .i64 m6, .int .i64 m7, .int .i64 rd, .slice qa out.length qk, .int .i64 en]) (by rw [hq]; rfl) hF; refine pe (e_alloc hF hW ze_58 rfl rfl rfl ?_); intro b6 a wc hF hW; refine pe (e_storeAll rfl hF hW rfl rfl 0 rfl rfl rfl (by kernel_rfl) sz_58 ?_); intro wc hW; refine l_nil ?_; replace hF := hF.ks [0, 1, 2, 3, 4, 5, 6, 7, 9, 16, 26, 27, 28, 29] rfl; refine t_n <| c_sr <| pv hF hW (y_move hF rfl) fun a hF => pv hF hW (y_fieldOwn hF rfl fa_58_0) fun a hF => pv hF hW (y_loadOwn hF rfl 0 rfl rfl Tryz.underlying3 rfl) fun a hF => ?_; refine pe (e_buildSlice hF hW rfl (fun w => bs_FlatB_31_1_0 _ w) rfl rfl rfl ?_); intro b7 a wc hF hW; refine pe (e_call hF rfl rfl en_28 (by rfl) rfl rfl (put_call (M := [at_]) ((hW.front 3 rfl rfl).front 3 rfl rfl) (rowAt_blk (hW.blk 0 rfl) 1 1 rfl) rfl (by simp; omega)) ?_); rintro e w1 ⟨A4, c4, rfl, hN⟩; replace hW := hN; refine ⟨_, rfl, fun a hF => ?_⟩; refine l_nil ?_; replace hF := hF.ks [0, 1, 2, 3, 4, 5, 6, 7, 9, 16, 26, 27, 28, 29] rfl; refine t_n <| c_sr <| pv hF hW (y_move hF rfl) fun a hF => pv hF hW (y_fieldOwn hF rfl fa_58_1) fun a hF => pv hF hW (y_sliceArr' hF rfl Tryz.underlying55 sz_3) fun a hF => ?_; refine pe (e_call hF rfl rfl en_28 (by rfl) rfl rfl (put_call (M := [r0, r1, r2, r3]) ((hW.front 1 rfl rfl).front 1 rfl rfl) (rowAt_part (hW.blk 3 rfl) rfl rfl) rfl (by simp; omega)) ?_); rintro e w1 ⟨A5, c5, rfl, hN⟩; replace hW := hN; refine ⟨_, rfl, fun a hF => ?_⟩; refine l_nil ?_; replace hF := hF.ks [0, 1, 2, 3, 4, 5, 6, 7, 9, 16, 26, 27, 28, 29] rfl; refine t_n <| c_sr <| pv hF hW (y_move hF rfl) fun a hF => pv hF hW (y_fieldOwn hF rfl fa_58_2) fun a hF => pv hF hW (y_sliceArr' hF rfl Tryz.underlying56 sz_3) fun a hF => ?_; refine pe (e_call hF rfl rfl en_28 (by rfl) rfl rfl (put_call (M := [m0, m1, m2, m3, m4, m5, m6, m7]) ((hW.front 1 rfl rfl).front 1 rfl rfl) (rowAt_part (hW.blk 3 rfl) rfl rfl) rfl (by simp; omega)) ?_); rintro e w1 ⟨A6, c6, rfl, hN⟩; replace hW := hN; refine ⟨_, rfl, fun a hF => ?_⟩; refine l_nil ?_; replace hF := hF.ks [0, 1, 2, 3, 4, 5, 6, 7, 9, 16, 26, 27, 28, 29] rfl; refine t_n <| c_sr <| pv hF hW (y_move hF rfl) fun a hF => pv hF hW (y_fieldOwn hF rfl fa_58_3) fun a hF => pv hF hW (y_loadOwn hF rfl 3 rfl rfl Tryz.underlying3 rfl) fun a hF => pv hF hW (y_fieldOwn hF rfl fa_58_5) fun a hF => ?_
      refine pv hF hW (y_loadOwn hF rfl 3 rfl rfl Tryz.underlying3 rfl) fun a hF => ?_; refine pe (e_buildSlice hF hW rfl (fun w => bs_FlatB_31_2_0_1 _ _ w) rfl rfl rfl ?_); intro b8 a wc hF hW; refine pe (e_call hF rfl rfl en_28 (by rfl) rfl rfl (put_call (M := [rd, en]) ((hW.front 2 rfl rfl).front 2 rfl rfl) (rowAt_blk (hW.blk 0 rfl) 1 2 rfl) rfl (by simp; omega)) ?_); rintro e w1 ⟨A7, c7, rfl, hN⟩; replace hW := hN; refine ⟨_, rfl, fun a hF => ?_⟩; refine l_nil ?_; replace hF := hF.ks [0, 1, 2, 3, 4, 5, 6, 7, 9, 16, 26, 27, 28, 29] rfl; refine t_n <| c_r <| pv hF hW (y_move hF rfl) fun a hF => pv hF hW (y_fieldOwn hF rfl fa_58_4) fun a hF => pv hF hW (y_loadOwn hF rfl 4 rfl rfl Tryz.underlying31 rfl) fun a hF => ?_; refine pe (e_call hF rfl rfl en_29 (by rfl) rfl rfl (list_call (M := out) (size := 16) ((hW.front 1 rfl rfl).front 1 rfl rfl) (hqR _) rfl hqo (by omega) (by simp; omega)) ?_); rintro e w1 ⟨A8, c8, rfl, hN⟩; replace hW := hN; refine ⟨_, rfl, fun a hF => ?_⟩; refine l_nil ?_; replace hF := hF.ks [0, 1, 2, 3, 4, 5, 6, 7, 9, 16, 26, 27, 28, 29] rfl; refine b_n <| t_n <| c_r <| pv hF hW (y_add hF rfl rfl (IntWalk.i64_in _ (by omega))) fun a hF => ?_; replace hF := hF.drop 28; refine pv hF hW (y_move hF rfl) fun a hF => l_nil ?_; replace hF := hF.ks [0, 1, 2, 3, 4, 5, 6, 7, 9, 16, 26, 27, 28, 29] rfl; replace hW := hW.del 2 rfl; replace hW := hW.del 2 rfl; replace hW := hW.del 2 rfl; refine t_n ?_
      rw [show ((((y.tick :: F ++ [at_]) ++ [r0, r1, r2, r3]) ++ [m0, m1, m2, m3, m4, m5, m6, m7]) ++ [rd, en]) ++ padL 16 out = y.tick :: (F ++ cellRowL ⟨at_, [r0, r1, r2, r3], [m0, m1, m2, m3, m4, m5, m6, m7], rd, out, en⟩) by simp [cellRowL]] at hW
      refine ⟨(k + 1, F ++ cellRowL ⟨at_, [r0, r1, r2, r3], [m0, m1, m2, m3, m4, m5, m6, m7], rd, out, en⟩, A8, c8), ?_, ?_, ?_, ?_⟩
      · exact ⟨by omega, by rw [rowTo_cells hk1, hq, ← hF0]⟩
      · first | omega | (dsimp only; omega)
      · exact Fr.app (Fr.cons hF (t := 28) rfl (by first | rfl | (simp; done) | omega) (Fr.nil hF)) (hF.ks [0, 1, 2, 3, 4, 5, 6, 7, 16, 26, 27] rfl)
      · exact hW
    · intro h5 hF; refine l_nil <| t_n <| c_s <| c_f hF rfl <| wp_exit <| t_x <| t_x <| b_h <| t_n <| c_s ?_
      have hFl := hclen k (by omega)
      rw [← hF0] at hFl
      rw [show k = y.cells.length by omega] at hF0
      refine c_sr <| pv hF hW (y_fieldOwn hF rfl fa_30_2) fun a hF => pv hF hW (y_loadOwn hF rfl 3 rfl rfl Tryz.underlying28 rfl) fun a hF => pv hF hW (y_len hF rfl Tryz.underlying28) fun a hF => pv hF hW (y_move hF rfl) fun a hF => l_nil ?_; replace hF := hF.ks [0, 1, 2, 3, 4, 5, 6, 7, 16, 26, 27, 28, 29, 58, 59, 60] rfl; refine t_n <| wp_block ?_; replace hW := hW.front 1 rfl rfl; replace hW := hW.front 1 rfl rfl
      rw [← List.append_nil F] at hW
      refine c_loop (G := Nat × List Int × Option Addr × Nat) (fun (gq : Nat × List Int × Option Addr × Nat) => match gq with | ⟨j, H, B, d⟩ => [(60, .int .i64 (j : Int))]) (fun (gq : Nat × List Int × Option Addr × Nat) => match gq with | ⟨j, H, B, d⟩ => [rowB b3 B d (y.tick :: (F ++ H)), rowI B d (y.tick :: (F ++ H))]) (fun (gq : Nat × List Int × Option Addr × Nat) => match gq with | ⟨j, H, B, d⟩ => j ≤ y.lines.length ∧ H = ((y.lines.map LD.vals).take j).flatMap (padL 3)) (fun (gq : Nat × List Int × Option Addr × Nat) => match gq with | ⟨j, H, B, d⟩ => y.lines.length - j) (0, [], A, c) (hF.ks [0, 1, 2, 3, 4, 5, 6, 7, 16, 26, 27, 28, 29, 58, 59] rfl) (Fr.cons hF (t := 60) rfl (by first | rfl | (simp; done)) (Fr.nil hF)) (hW) ?_ ?_
      · exact ⟨by omega, rfl⟩
      clear hF hW
      try clear a
      intro gq a wc hC hF hW
      obtain ⟨j, H, B, d⟩ := gq
      dsimp only at hC
      obtain ⟨hjl, hH0⟩ := hC
      refine c_sr <| pv hF hW (y_lss hF rfl rfl) fun a hF => ?_; refine Fr.splitD hF ?_ ?_
      · intro h9 hF; refine l_nil <| t_n <| c_s <| c_t hF rfl <| wp_skip <| t_n <| c_s <| wp_block ?_
        have hj1 : j < y.lines.length := (by omega)
        obtain ⟨v, hv⟩ : ∃ p, y.lines.getD j LD0 = p := ⟨_, rfl⟩
        have hvm : v ∈ y.lines := (by rw [← hv]; exact mem_getD LD0 hj1)
        have hvA := hy.eachL v hvm
        have hvo := hlv v hvm
        have hHl := hllen j (by omega)
        rw [← hH0] at hHl
        obtain ⟨vs, va, vk⟩ := v
        dsimp only at hvo
        have hvR := fun (es : List Asn) => wd_row (es := es) (show Ints w (.slice va vs.length vk) vs from hvA)
        refine c_sr <| pv hF hW (y_indexS hF rfl rfl (by exact hj1) Tryz.underlying28 sz_60 (fun w h => (hy.linesR).wd h)) fun a hF => pv hF hW (y_loadRowW hF rfl (fun w h => (hy.linesR).wd h) (by exact hj1) Tryz.underlying60 rfl (by rw [hv]; exact sz_60)) fun a hF => ?_; replace hF := Fr.cast (v' := .agg #[.slice va vs.length vk]) (by rw [hv]; rfl) hF; refine pe (e_alloc hF hW ze_60 rfl rfl rfl ?_); intro b10 a wc hF hW; refine pe (e_storeAll rfl hF hW rfl rfl 0 rfl rfl rfl (by kernel_rfl) sz_60 ?_); intro wc hW; refine l_nil ?_; replace hF := hF.ks [0, 1, 2, 3, 4, 5, 6, 7, 11, 16, 26, 27, 28, 29, 58, 59, 60, 61] rfl; refine t_n <| c_r <| pv hF hW (y_move hF rfl) fun a hF => pv hF hW (y_fieldOwn hF rfl fa_60_0) fun a hF => pv hF hW (y_loadOwn hF rfl 0 rfl rfl Tryz.underlying31 rfl) fun a hF => ?_; refine pe (e_call hF rfl rfl en_29 (by rfl) rfl rfl (list_call (M := vs) (size := 3) ((hW.front 2 rfl rfl).front 2 rfl rfl) (hvR _) rfl hvo (by omega) (by simp; omega)) ?_); rintro e w1 ⟨A9, c9, rfl, hN⟩; replace hW := hN; refine ⟨_, rfl, fun a hF => ?_⟩; refine l_nil ?_; replace hF := hF.ks [0, 1, 2, 3, 4, 5, 6, 7, 11, 16, 26, 27, 28, 29, 58, 59, 60, 61] rfl; refine b_n <| t_n <| c_r <| pv hF hW (y_add hF rfl rfl (IntWalk.i64_in _ (by omega))) fun a hF => ?_; replace hF := hF.drop 60; refine pv hF hW (y_move hF rfl) fun a hF => l_nil ?_; replace hF := hF.ks [0, 1, 2, 3, 4, 5, 6, 7, 11, 16, 26, 27, 28, 29, 58, 59, 60, 61] rfl; replace hW := hW.del 2 rfl; refine t_n ?_
        rw [show (y.tick :: (F ++ H)) ++ padL 3 vs = y.tick :: (F ++ (H ++ padL 3 vs)) by simp] at hW
        refine ⟨(j + 1, H ++ padL 3 vs, A9, c9), ?_, ?_, ?_, ?_⟩
        · exact ⟨by omega, by rw [rowTo_lines hj1, hv, ← hH0]⟩
        · first | omega | (dsimp only; omega)
        · exact Fr.app (Fr.cons hF (t := 60) rfl (by first | rfl | (simp; done) | omega) (Fr.nil hF)) (hF.ks [0, 1, 2, 3, 4, 5, 6, 7, 16, 26, 27, 28, 29, 58, 59] rfl)
        · exact hW
      · intro h9 hF; refine l_nil <| t_n <| c_s <| c_f hF rfl <| wp_exit <| t_x <| t_x <| b_h <| t_n <| c_sr <| pv hF hW (y_move hF rfl) fun a hF => pv hF hW (y_nilCheck hF rfl) fun a hF => pv hF hW (y_fieldOwn hF rfl fa_78_0) fun a hF => pv hF hW (y_loadOwn hF rfl 0 rfl rfl Tryz.underlying31 rfl) fun a hF => ?_; replace hF := hF.drop 4; refine pv hF hW (y_assign hF rfl) fun a hF => ?_; replace hF := hF.drop 5; refine pv hF hW (y_assign hF rfl) fun a hF => l_nil ?_; replace hF := hF.ks [0, 1, 2, 3, 4, 5, 6, 7, 16, 26, 27, 28, 29, 58, 59, 60, 61] rfl; refine t_n <| wp_ret <| ret2 Tryz.results6 hF (rv_t hF rfl) (rv_t hF rfl) ?_; replace hW := hW.del 0 rfl; replace hW := hW.del 1 rfl; replace hW := hW.del 1 rfl; replace hW := hW.del 1 rfl
        rw [show j = y.lines.length by omega] at hH0
        exact ⟨_, _, _, rfl, by rw [hrow, ← hF0, ← hH0], hW.below, ((hW.row_res 0 rfl).res_res 0 rfl).mono fun u h => Ints.of_own h⟩
  · rw [if_neg h0]
    generalize chkWorld x.sys y.wrl = E at *
    rw [x.val_eq, y.val_eq] at *
    refine enter Tryz.func6 rfl Tryz.ntmps6 rfl fun a hF => ?_
    have hW := Wd.start w NoB
    refine c_sr ?_; refine pe (e_box hF hW rfl rfl rfl rfl ?_); intro b1 a wc hF hW; refine pe (e_box hF hW rfl rfl rfl rfl ?_); intro b2 a wc hF hW; refine pv hF hW (y_assign hF rfl) fun a hF => pv hF hW (y_assign hF rfl) fun a hF => l_nil <| t_n <| c_s <| c_sr <| pv hF hW (y_loadAll hF rfl 1 rfl Tryz.underlying26 rfl sz_26) fun a hF => pv hF hW (y_loadAll hF rfl 0 rfl Tryz.underlying30 rfl sz_30) fun a hF => ?_; refine pe (e_call hF rfl rfl en_27 (by rfl) rfl rfl (hck _ hW.below) ?_); rintro e w1 ⟨rfl, hb⟩; replace hW := hW.kept hb; clear hb; refine ⟨_, rfl, fun a hF => ?_⟩; refine pv hF hW (y_assign hF rfl) fun a hF => l_nil ?_; replace hF := hF.ks [0, 1, 2, 3, 4, 5, 6] rfl; refine t_n <| c_sr <| pv hF hW (y_move hF rfl) fun a hF => pv hF hW (y_neq hF rfl rfl) fun a hF => ?_; refine Fr.splitD hF ?_ ?_
    · intro h3 hF; refine l_nil ?_; replace hF := hF.ks [0, 1, 2, 3, 4, 5, 6, 16] rfl; refine t_n <| c_t hF rfl <| c_sr <| pv hF hW (y_move hF rfl) fun a hF => ?_; replace hF := hF.drop 4; refine pv hF hW (y_assign hF rfl) fun a hF => ?_; replace hF := hF.drop 5; refine pv hF hW (y_assign hF rfl) fun a hF => l_nil ?_; replace hF := hF.ks [0, 1, 2, 3, 4, 5, 6, 16] rfl; refine t_n <| wp_ret <| t_r <| ret2 Tryz.results6 hF (rv_t hF rfl) (rv_t hF rfl) ?_
      exact ⟨[], none, 0, rfl, rfl, hW.below, fun _ _ => Ints.nil_⟩
    · intro h3 hF; exfalso
      exact h3 h0
end Go.Proofs.YtnpflhaggfabnaaGreat
