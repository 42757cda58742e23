/- cell.Reply answers replyOf. -/
import Derived.Test.YtebklpbbglojmaaCellStepM
namespace Go.Proofs.Ytebklpbbglojmaa
set_option linter.unusedVariables false
set_option linter.unusedSimpArgs false
open Go.RowKit

def replyErr (c : Cel) (k : Wnt) (kind : Int) : Int :=
  if cellFine c = false then 1 else if (k.kind ≠ 12 ∧ k.kind ≠ 13) ∨ (kind ≠ 1 ∧ kind ≠ 2) then 4 else if (regOk k.reg && regOk k.flag) = true then 0 else 3
theorem cellErrBack_zero {w0 w' : World} {x : Int} (hb : Below w0.heap.size w0 w') : CelErrBack w0 Cel.zero x (.returned (.tuple #[.agg zeros16.toArray, .int .i64 x])) w' :=
  ⟨_, rfl, Cel.zero_wf, OwnAs.nil_, hb⟩
theorem register_any (n : Int) (w : World) :
    Calls Try.prog 52 #[.int .i64 n] w fun e w' => e = .returned (.bool (regOk n)) ∧ w = w' := by
  have e : regOk n = (decide (0 ≤ n) && decide (n < 4)) := by unfold regOk; rw [Bool.eq_iff_iff]; simp
  rw [e]
  cases hn : decide (0 ≤ n)
  all_goals
    go_enter Try.func52, Try.ntmps52
    go_wp2
    go_ret
    exact ⟨by simp, rfl⟩
theorem cell_set_reg {c : Cel} {ov : Value} (h : c.wf) {a : Nat} (ha : a < 4) (v : Int) : (cellL c ov).set (1 + a) (.int .i64 v) = cellL { c with regs := c.regs.set a v } ov := by
  obtain ⟨at_, regs, mem, read, out, end_⟩ := c
  obtain ⟨a0, a1, a2, a3, hr⟩ := len_four h.1
  simp only at hr
  subst hr
  match a, ha with
  | 0, _ => rfl
  | 1, _ => rfl
  | 2, _ => rfl
  | 3, _ => rfl
theorem cell_set_out {c : Cel} {ov : Value} (h : c.wf) (o : List Int) (u : Value) : (cellL c ov).set 14 u = cellL { c with out := o } u := by
  obtain ⟨at_, regs, mem, read, out, end_⟩ := c
  obtain ⟨a0, a1, a2, a3, hr⟩ := len_four h.1
  obtain ⟨m0, m1, m2, m3, m4, m5, m6, m7, hm⟩ := len_eight h.2
  simp only at hr hm
  subst hr hm
  rfl
theorem cell_reg {c : Cel} {ov : Value} (h : c.wf) {a : Nat} (ha : a < 4) : (cellL c ov)[1 + a]? = some (.int .i64 (c.regs.getD a 0)) := by
  obtain ⟨at_, regs, mem, read, out, end_⟩ := c
  obtain ⟨a0, a1, a2, a3, hr⟩ := len_four h.1
  simp only at hr
  subst hr
  match a, ha with
  | 0, _ => rfl
  | 1, _ => rfl
  | 2, _ => rfl
  | 3, _ => rfl

set_option maxRecDepth 100000 in
set_option maxHeartbeats 1000000 in
theorem reply_form (c : Cel) (k : Wnt) (kind val : Int) (is : Bool) (ov : Value) (w : World) (hwf : c.wf) (ho : Ints w ov c.out) (hf : cellFine c = false) :
    Calls Try.prog 28 #[celV c ov, wntV k, .int .i64 kind, .int .i64 val, .bool is] w (CelErrBack w Cel.zero 1) := by
  have hce := fun w1 (hb : Below w.heap.size w w1) => cellCheck_any c ov hwf w1 (ho.below hb)
  have HLEN := hide (cellL_len (ov := ov) hwf)
  have kk0 : (wantL k)[0]? = some (.int .i64 k.kind) := rfl
  have kk2 : (wantL k)[2]? = some (.int .i64 k.reg) := rfl
  have kk3 : (wantL k)[3]? = some (.int .i64 k.flag) := rfl
  have he : cellErr c = 1 := by simp [cellErr, hf]
  rw [he] at hce
  have HCE := hide hce
  clear hce he hf ho hwf
  unfold celV wntV at *
  go_enter Try.func28, Try.ntmps28
  go_upto_region 2 with (first
    | (refine wpList_load_whole rfl 46 _ rfl _ _ _ (Blk.alloc (Blk.alloc (Blk.new w _ _) _) _) rfl _ Try.underlying46 rfl (info_cell.trans (congrArg some HLEN.out.symm)) ?_)
    | (go_at_call 25; refine (HCE.out _ (by exact (by repeat' (first | with_reducible exact Below.refl _ _ | with_reducible assumption | with_reducible refine Below.alloc1 ?_ _ | with_reducible refine Below.drewN1 ?_ _ | with_reducible refine Below.drew ?_ | with_reducible refine Below.setCell1 ?_ ?_ _ | with_reducible refine Below.via ?_ (by with_reducible assumption) | with_reducible refine Below.viaD ?_ (by with_reducible assumption) | omega | (simp; done) | (simp; omega))))).mono ?_; rintro e w1 ⟨rfl, hb1⟩; have HA1 := ((Blk.new w _ _).alloc _ |>.alloc _).kept hb1; have HB1 := ((Blk.new1 w _ _ _).alloc _).kept hb1; have HC1 := (Blk.new2 w _ _ _ _).kept hb1; have ea1 := HA1.cell; have eb1 := HB1.cell; have ec1 := HC1.cell; have fa1 := HA1.frozen; have fb1 := HB1.frozen; have fc1 := HC1.frozen; have bw1 : Below w.heap.size w _ := (Below.alloc1 (Below.alloc1 (Below.alloc1 (Below.refl w.heap.size w) _) _) _).via hb1; have sz1 := HC1.lt; clear hb1))
  clear fa1 fb1 fc1
  go_wp2_with (first
    | (go_at_call 52; refine (register_any _ _).mono ?_; rintro e w' ⟨rfl, rfl⟩)
    | (refine wpList_store_whole rfl 46 _ _ rfl _ _ _ zeros16.toArray HC1 rfl rfl rfl info_cell zeros16_one ?_; intro ws1 hs1 ho1))
  refine bodyPost_ret (v := .tuple #[.agg zeros16.toArray, .int .i64 1]) (results_ct Try.results28 _ rfl rfl (run_load_blk hs1 Try.underlying46 rfl info_cell)) rfl (cellErrBack_zero ?_)
  exact bw1.only ho1 (by omega)
set_option maxRecDepth 100000 in
set_option maxHeartbeats 1000000 in
theorem reply_kind (c : Cel) (k : Wnt) (kind val : Int) (is : Bool) (ov : Value) (w : World) (hwf : c.wf) (ho : Ints w ov c.out) (hf : cellFine c = true) (hk : (k.kind ≠ 12 ∧ k.kind ≠ 13) ∨ (kind ≠ 1 ∧ kind ≠ 2)) :
    Calls Try.prog 28 #[celV c ov, wntV k, .int .i64 kind, .int .i64 val, .bool is] w (CelErrBack w Cel.zero 4) := by
  have hce := fun w1 (hb : Below w.heap.size w w1) => cellCheck_any c ov hwf w1 (ho.below hb)
  have HLEN := hide (cellL_len (ov := ov) hwf)
  have kk0 : (wantL k)[0]? = some (.int .i64 k.kind) := rfl
  have kk2 : (wantL k)[2]? = some (.int .i64 k.reg) := rfl
  have kk3 : (wantL k)[3]? = some (.int .i64 k.flag) := rfl
  have he : cellErr c = 0 := by simp [cellErr, hf]
  rw [he] at hce
  have HCE := hide hce
  clear hce he hf ho hwf
  unfold celV wntV at *
  go_enter Try.func28, Try.ntmps28
  go_upto_region 3 with (first
    | (refine wpList_load_whole rfl 46 _ rfl _ _ _ (Blk.alloc (Blk.alloc (Blk.new w _ _) _) _) rfl _ Try.underlying46 rfl (info_cell.trans (congrArg some HLEN.out.symm)) ?_)
    | (go_at_call 25; refine (HCE.out _ (by exact (by repeat' (first | with_reducible exact Below.refl _ _ | with_reducible assumption | with_reducible refine Below.alloc1 ?_ _ | with_reducible refine Below.drewN1 ?_ _ | with_reducible refine Below.drew ?_ | with_reducible refine Below.setCell1 ?_ ?_ _ | with_reducible refine Below.via ?_ (by with_reducible assumption) | with_reducible refine Below.viaD ?_ (by with_reducible assumption) | omega | (simp; done) | (simp; omega))))).mono ?_; rintro e w1 ⟨rfl, hb1⟩; have HA1 := ((Blk.new w _ _).alloc _ |>.alloc _).kept hb1; have HB1 := ((Blk.new1 w _ _ _).alloc _).kept hb1; have HC1 := (Blk.new2 w _ _ _ _).kept hb1; have ea1 := HA1.cell; have eb1 := HB1.cell; have ec1 := HC1.cell; have fa1 := HA1.frozen; have fb1 := HB1.frozen; have fc1 := HC1.frozen; have bw1 : Below w.heap.size w _ := (Below.alloc1 (Below.alloc1 (Below.alloc1 (Below.refl w.heap.size w) _) _) _).via hb1; have sz1 := HC1.lt; clear hb1))
  clear fa1 fb1 fc1
  cases b1 : (k.kind != 12)
  · have hk' : kind ≠ 1 ∧ kind ≠ 2 := by simp at b1; omega
    have b2 : (kind != 1) = true := by simpa using hk'.1
    have b3 : (kind != 2) = true := by simpa using hk'.2
    clear hk hk'
    go_wp2_with (first
      | (go_at_call 52; refine (register_any _ _).mono ?_; rintro e w' ⟨rfl, rfl⟩)
      | (refine wpList_store_whole rfl 46 _ _ rfl _ _ _ zeros16.toArray HC1 rfl rfl rfl info_cell zeros16_one ?_; intro ws1 hs1 ho1))
    refine bodyPost_ret (v := .tuple #[.agg zeros16.toArray, .int .i64 4]) (results_ct Try.results28 _ rfl rfl (run_load_blk hs1 Try.underlying46 rfl info_cell)) rfl (cellErrBack_zero ?_)
    exact bw1.only ho1 (by omega)
  · cases b4 : (k.kind != 13)
    · have hk' : kind ≠ 1 ∧ kind ≠ 2 := by simp at b4; omega
      have b2 : (kind != 1) = true := by simpa using hk'.1
      have b3 : (kind != 2) = true := by simpa using hk'.2
      clear hk hk'
      go_wp2_with (first
        | (go_at_call 52; refine (register_any _ _).mono ?_; rintro e w' ⟨rfl, rfl⟩)
        | (refine wpList_store_whole rfl 46 _ _ rfl _ _ _ zeros16.toArray HC1 rfl rfl rfl info_cell zeros16_one ?_; intro ws1 hs1 ho1))
      refine bodyPost_ret (v := .tuple #[.agg zeros16.toArray, .int .i64 4]) (results_ct Try.results28 _ rfl rfl (run_load_blk hs1 Try.underlying46 rfl info_cell)) rfl (cellErrBack_zero ?_)
      exact bw1.only ho1 (by omega)
    · clear hk
      go_wp2_with (first
        | (go_at_call 52; refine (register_any _ _).mono ?_; rintro e w' ⟨rfl, rfl⟩)
        | (refine wpList_store_whole rfl 46 _ _ rfl _ _ _ zeros16.toArray HC1 rfl rfl rfl info_cell zeros16_one ?_; intro ws1 hs1 ho1))
      refine bodyPost_ret (v := .tuple #[.agg zeros16.toArray, .int .i64 4]) (results_ct Try.results28 _ rfl rfl (run_load_blk hs1 Try.underlying46 rfl info_cell)) rfl (cellErrBack_zero ?_)
      exact bw1.only ho1 (by omega)
set_option maxRecDepth 100000 in
set_option maxHeartbeats 4000000 in
theorem reply_range (c : Cel) (k : Wnt) (kind val : Int) (is : Bool) (ov : Value) (w : World) (hwf : c.wf) (ho : Ints w ov c.out) (hf : cellFine c = true) (hk : ¬ ((k.kind ≠ 12 ∧ k.kind ≠ 13) ∨ (kind ≠ 1 ∧ kind ≠ 2))) (hr : (regOk k.reg && regOk k.flag) = false) :
    Calls Try.prog 28 #[celV c ov, wntV k, .int .i64 kind, .int .i64 val, .bool is] w (CelErrBack w Cel.zero 3) := by
  have hce := fun w1 (hb : Below w.heap.size w w1) => cellCheck_any c ov hwf w1 (ho.below hb)
  have HLEN := hide (cellL_len (ov := ov) hwf)
  have kk0 : (wantL k)[0]? = some (.int .i64 k.kind) := rfl
  have kk2 : (wantL k)[2]? = some (.int .i64 k.reg) := rfl
  have kk3 : (wantL k)[3]? = some (.int .i64 k.flag) := rfl
  have he : cellErr c = 0 := by simp [cellErr, hf]
  rw [he] at hce
  have HCE := hide hce
  clear hce he hf ho hwf
  unfold celV wntV at *
  have hk' : (k.kind = 12 ∨ k.kind = 13) ∧ (kind = 1 ∨ kind = 2) := by omega
  obtain ⟨h1, h2⟩ := hk'
  clear hk
  go_enter Try.func28, Try.ntmps28
  go_upto_region 3 with (first
    | (refine wpList_load_whole rfl 46 _ rfl _ _ _ (Blk.alloc (Blk.alloc (Blk.new w _ _) _) _) rfl _ Try.underlying46 rfl (info_cell.trans (congrArg some HLEN.out.symm)) ?_)
    | (go_at_call 25; refine (HCE.out _ (by exact (by repeat' (first | with_reducible exact Below.refl _ _ | with_reducible assumption | with_reducible refine Below.alloc1 ?_ _ | with_reducible refine Below.drewN1 ?_ _ | with_reducible refine Below.drew ?_ | with_reducible refine Below.setCell1 ?_ ?_ _ | with_reducible refine Below.via ?_ (by with_reducible assumption) | with_reducible refine Below.viaD ?_ (by with_reducible assumption) | omega | (simp; done) | (simp; omega))))).mono ?_; rintro e w1 ⟨rfl, hb1⟩; have HA1 := ((Blk.new w _ _).alloc _ |>.alloc _).kept hb1; have HB1 := ((Blk.new1 w _ _ _).alloc _).kept hb1; have HC1 := (Blk.new2 w _ _ _ _).kept hb1; have ea1 := HA1.cell; have eb1 := HB1.cell; have ec1 := HC1.cell; have fa1 := HA1.frozen; have fb1 := HB1.frozen; have fc1 := HC1.frozen; have bw1 : Below w.heap.size w _ := (Below.alloc1 (Below.alloc1 (Below.alloc1 (Below.refl w.heap.size w) _) _) _).via hb1; have sz1 := HC1.lt; clear hb1))
  clear fa1 fb1 fc1
  rcases h1 with h1 | h1 <;> rcases h2 with rfl | rfl
  all_goals
    rw [h1] at kk0
    clear h1
    go_upto_region 6 with fail
    cases r1 : regOk k.reg
    · clear hr
      go_wp2_with (first
        | (go_at_call 52; refine (register_any _ _).mono ?_; rintro e w' ⟨rfl, rfl⟩)
        | (refine wpList_store_whole rfl 46 _ _ rfl _ _ _ zeros16.toArray HC1 rfl rfl rfl info_cell zeros16_one ?_; intro ws1 hs1 ho1))
      refine bodyPost_ret (v := .tuple #[.agg zeros16.toArray, .int .i64 3]) (results_ct Try.results28 _ rfl rfl (run_load_blk hs1 Try.underlying46 rfl info_cell)) rfl (cellErrBack_zero ?_)
      exact bw1.only ho1 (by omega)
    · have r2 : regOk k.flag = false := by simpa [r1] using hr
      clear hr
      go_wp2_with (first
        | (go_at_call 52; refine (register_any _ _).mono ?_; rintro e w' ⟨rfl, rfl⟩)
        | (refine wpList_store_whole rfl 46 _ _ rfl _ _ _ zeros16.toArray HC1 rfl rfl rfl info_cell zeros16_one ?_; intro ws1 hs1 ho1))
      refine bodyPost_ret (v := .tuple #[.agg zeros16.toArray, .int .i64 3]) (results_ct Try.results28 _ rfl rfl (run_load_blk hs1 Try.underlying46 rfl info_cell)) rfl (cellErrBack_zero ?_)
      exact bw1.only ho1 (by omega)
end Go.Proofs.Ytebklpbbglojmaa
