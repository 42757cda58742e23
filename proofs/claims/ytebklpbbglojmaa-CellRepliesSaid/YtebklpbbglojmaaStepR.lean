/- The reference's StepOf answers stepOf: a cell that has ended, or stands behind the program. -/
import Derived.Test.YtebklpbbglojmaaCellRepM
namespace Go.Proofs.Ytebklpbbglojmaa
set_option linter.unusedVariables false
set_option linter.unusedSimpArgs false
open Go.RowKit

/-- a cell and a want come back -/
def CelWantBack (w0 : World) (r : Cel × Wnt) (e : Ending) (w' : World) : Prop :=
  ∃ ov, e = .returned (.tuple #[celV r.1 ov, wntV r.2]) ∧ r.1.wf ∧ OwnAs 3 w' w0.heap.size ov r.1.out ∧ Below w0.heap.size w0 w'

theorem ownCell_abs (c : Cel) (ov : Value) (hwf : c.wf) (w : World) (ho : Ints w ov c.out) (hlen : c.out.length ≤ 1048576) (w1 : World) (hb : Below w.heap.size w w1) :
    Calls Try.prog 49 #[.agg (cellL c ov).toArray] w1 fun e w' => ∃ A k, e = .returned (.agg (cellL c (.slice A c.out.length k)).toArray) ∧ OwnAs 3 w' w1.heap.size (.slice A c.out.length k) c.out ∧ Below w1.heap.size w1 w' :=
  (ownCell_any c ov hwf w1 (ho.below hb) hlen).mono fun e w' ⟨ov', he, _, hown, hb'⟩ => by
    obtain ⟨A, k, rfl⟩ := hown.form rfl
    exact ⟨A, k, he, hown, hb'⟩

theorem cell_set_end {c : Cel} {ov : Value} (h : c.wf) (v : Int) : (cellL c ov).set 15 (.int .i64 v) = cellL { c with end_ := v } ov := by
  obtain ⟨at_, regs, mem, read, out, end_⟩ := c
  obtain ⟨a0, a1, a2, a3, hr⟩ := len_four h.1
  obtain ⟨m0, m1, m2, m3, m4, m5, m6, m7, hm⟩ := len_eight h.2
  simp only at hr hm
  subst hr hm
  rfl
set_option maxRecDepth 100000 in
set_option maxHeartbeats 1000000 in
theorem stepR_ended (p : Prt) (c : Cel) (cv iv ov : Value) (w : World) (hwf : c.wf) (ho : Ints w ov c.out) (hol : c.out.length ≤ 1048576) (he : c.end_ ≠ 0) :
    Calls Try.prog 23 #[.agg #[cv, iv], celV c ov] w (CelWantBack w (stepOf p c)) := by
  have hst : stepOf p c = (c, Wnt.zero) := by unfold stepOf; rw [if_pos he]
  rw [hst]
  have d4 : (c.end_ != 0) = true := by simpa using he
  have HWF := hide hwf
  have hen := cell_end (ov := ov) hwf
  have HLEN := hide (cellL_len (ov := ov) hwf)
  have HOWN := hide (ownCell_abs c ov hwf w ho hol)
  have HONE := hide (fun A1 c1 => cellL_one c hwf A1 c.out.length c1)
  have HL2 := hide (fun A1 c1 => cellL_len (ov := .slice A1 c.out.length c1) hwf)
  have hen2 := fun A1 c1 => cell_end (ov := .slice A1 c.out.length c1) hwf
  clear he hst ho hol hwf
  unfold celV at *
  go_enter Try.func23, Try.ntmps23
  go_upto_region 2 with (first
    | (refine wpList_load_whole rfl 46 _ rfl _ _ _ ((Blk.new1 w _ _ _).alloc _ |>.alloc _) rfl _ Try.underlying46 rfl (info_cell.trans (congrArg some HLEN.out.symm)) ?_)
    | (go_at_call 49; refine (HOWN.out _ (by exact (by repeat' (first | with_reducible exact Below.refl _ _ | with_reducible assumption | with_reducible refine Below.alloc1 ?_ _ | with_reducible refine Below.drewN1 ?_ _ | with_reducible refine Below.drew ?_ | with_reducible refine Below.setCell1 ?_ ?_ _ | with_reducible refine Below.via ?_ (by with_reducible assumption) | with_reducible refine Below.viaD ?_ (by with_reducible assumption) | omega | (simp; done) | (simp; omega))))).mono ?_; rintro e w1 ⟨A1, c1, rfl, hown1, hb1⟩; have HA1 := (((Blk.new w _ _).alloc _).alloc _ |>.alloc _).kept hb1; have HB1 := ((Blk.new1 w _ _ _).alloc _ |>.alloc _).kept hb1; have HC1 := ((Blk.new2 w _ _ _ _).alloc _).kept hb1; have HD1 := (Blk.new3 w _ _ _ _ _).kept hb1; have ea1 := HA1.cell; have eb1 := HB1.cell; have ec1 := HC1.cell; have ed1 := HD1.cell; have fa1 := HA1.frozen; have fb1 := HB1.frozen; have fc1 := HC1.frozen; have fd1 := HD1.frozen; have bw1 : Below w.heap.size w _ := (Below.alloc1 (Below.alloc1 (Below.alloc1 (Below.alloc1 (Below.refl w.heap.size w) _) _) _) _).via hb1; have sz1 := HD1.lt; clear hb1)
    | (refine wpList_store_list rfl 46 _ _ rfl _ _ _ (cellL c (.slice A1 c.out.length c1)) HB1 rfl rfl HLEN.out (HL2.out A1 c1) info_cell (HONE.out A1 c1) ?_; intro w2 HB2 hO2; have HA2 := hO2.blk HA1 (by omega); have HC2 := hO2.blk HC1 (by omega); have HD2 := hO2.blk HD1 (by omega); have bw2 := bw1.only hO2 (by omega); have own2 : OwnAs 3 w2 (w.heap.size + 1 + 1 + 1 + 1) (.slice A1 c.out.length c1) c.out := hO2.ownAs (OwnAs.less hown1 (by simp)) (by omega); have sz2 := HD2.lt; clear HA1 HB1 HC1 HD1 bw1 ea1 eb1 ec1 ed1 fa1 fb1 fc1 fd1 hown1 hO2 sz1))
  have ea2 := HA2.cell
  have eb2 := HB2.cell
  have fb2 := HB2.frozen
  replace hen2 := hen2 A1 c1
  go_wp2_with (first
    | (refine wpList_load_whole rfl 46 _ rfl _ _ _ HB2 rfl _ Try.underlying46 rfl (info_cell.trans (congrArg some (HL2.out A1 c1).symm)) ?_)
    | (refine wpList_store_list rfl 46 _ _ rfl _ _ _ (cellL c (.slice A1 c.out.length c1)) HC2 rfl rfl rfl (HL2.out A1 c1) info_cell (HONE.out A1 c1) ?_; intro ws1 hs1 ho1; have HS2 := ho1.blk HD2 (by omega))
    | (refine wpList_store_list rfl 48 _ _ rfl _ _ _ zeros5 HS2 rfl rfl rfl rfl info_want zeros5_one ?_; intro ws2 hs2 ho2; have hs3 := ho2.blk hs1 (by omega)))
  refine bodyPost_ret (v := .tuple #[.agg (cellL c (.slice A1 c.out.length c1)).toArray, .agg zeros5.toArray]) (results_cc Try.results23 _ rfl rfl (run_load_blk hs3 Try.underlying46 rfl (info_cell.trans (congrArg some (HL2.out A1 c1).symm))) (run_load_blk hs2 Try.underlying48 rfl info_want)) rfl ⟨_, rfl, HWF.out, OwnAs.less (ho2.ownAs (ho1.ownAs own2 (by omega)) (by omega)) (by omega), (bw2.only ho1 (by omega)).only ho2 (by omega)⟩

set_option maxRecDepth 100000 in
set_option maxHeartbeats 1000000 in
theorem stepR_past (p : Prt) (c : Cel) (cv iv ov : Value) (w : World) (hwf : c.wf) (ho : Ints w ov c.out) (hol : c.out.length ≤ 1048576) (hc : Code_ w cv p.code) (he : c.end_ = 0) (h0 : 0 ≤ c.at_) (hp : p.code.length ≤ c.at_) :
    Calls Try.prog 23 #[.agg #[cv, iv], celV c ov] w (CelWantBack w (stepOf p c)) := by
  have hst : stepOf p c = ({ c with end_ := 2 }, Wnt.zero) := by
    unfold stepOf
    rw [if_neg (by simp [he]), List.getElem?_eq_none (by omega)]
  rw [hst]
  have d4 : (c.end_ != 0) = false := by simp [he]
  obtain ⟨A, cap, rfl⟩ := hc.form rfl
  have d5 : decide ((p.code.length : Int) ≤ c.at_) = true := by simpa using hp
  generalize p.code.length = m at *
  have HWF := hide hwf
  have hen := cell_end (ov := ov) hwf
  have HLEN := hide (cellL_len (ov := ov) hwf)
  have HOWN := hide (ownCell_abs c ov hwf w ho hol)
  have HONE := hide (fun A1 c1 => cellL_one c hwf A1 c.out.length c1)
  have HL2 := hide (fun A1 c1 => cellL_len (ov := .slice A1 c.out.length c1) hwf)
  have hen2 := fun A1 c1 => cell_end (ov := .slice A1 c.out.length c1) hwf
  have hat2 := fun A1 c1 => cell_at (c := c) (ov := .slice A1 c.out.length c1)
  clear he hst ho hol hwf hc hp h0
  unfold celV at *
  go_enter Try.func23, Try.ntmps23
  go_upto_region 2 with (first
    | (refine wpList_load_whole rfl 46 _ rfl _ _ _ ((Blk.new1 w _ _ _).alloc _ |>.alloc _) rfl _ Try.underlying46 rfl (info_cell.trans (congrArg some HLEN.out.symm)) ?_)
    | (go_at_call 49; refine (HOWN.out _ (by exact (by repeat' (first | with_reducible exact Below.refl _ _ | with_reducible assumption | with_reducible refine Below.alloc1 ?_ _ | with_reducible refine Below.drewN1 ?_ _ | with_reducible refine Below.drew ?_ | with_reducible refine Below.setCell1 ?_ ?_ _ | with_reducible refine Below.via ?_ (by with_reducible assumption) | with_reducible refine Below.viaD ?_ (by with_reducible assumption) | omega | (simp; done) | (simp; omega))))).mono ?_; rintro e w1 ⟨A1, c1, rfl, hown1, hb1⟩; have HA1 := (((Blk.new w _ _).alloc _).alloc _ |>.alloc _).kept hb1; have HB1 := ((Blk.new1 w _ _ _).alloc _ |>.alloc _).kept hb1; have HC1 := ((Blk.new2 w _ _ _ _).alloc _).kept hb1; have HD1 := (Blk.new3 w _ _ _ _ _).kept hb1; have ea1 := HA1.cell; have eb1 := HB1.cell; have ec1 := HC1.cell; have ed1 := HD1.cell; have fa1 := HA1.frozen; have fb1 := HB1.frozen; have fc1 := HC1.frozen; have fd1 := HD1.frozen; have bw1 : Below w.heap.size w _ := (Below.alloc1 (Below.alloc1 (Below.alloc1 (Below.alloc1 (Below.refl w.heap.size w) _) _) _) _).via hb1; have sz1 := HD1.lt; clear hb1)
    | (refine wpList_store_list rfl 46 _ _ rfl _ _ _ (cellL c (.slice A1 c.out.length c1)) HB1 rfl rfl HLEN.out (HL2.out A1 c1) info_cell (HONE.out A1 c1) ?_; intro w2 HB2 hO2; have HA2 := hO2.blk HA1 (by omega); have HC2 := hO2.blk HC1 (by omega); have HD2 := hO2.blk HD1 (by omega); have bw2 := bw1.only hO2 (by omega); have own2 : OwnAs 3 w2 (w.heap.size + 1 + 1 + 1 + 1) (.slice A1 c.out.length c1) c.out := hO2.ownAs (OwnAs.less hown1 (by simp)) (by omega); have sz2 := HD2.lt; clear HA1 HB1 HC1 HD1 bw1 ea1 eb1 ec1 ed1 fa1 fb1 fc1 fd1 hown1 hO2 sz1))
  have ea2 := HA2.cell
  have eb2 := HB2.cell
  have fb2 := HB2.frozen
  replace hen2 := hen2 A1 c1
  replace hat2 := hat2 A1 c1
  go_upto_region 6 with fail
  have HB3 := (HB2.set 15 (.int .i64 2)).same (cell_set_end HWF.out 2)
  have hO3 := Only.set w2 (w.heap.size + 1) 15 (.int .i64 2)
  have HC3 := hO3.blk HC2 (by omega)
  have HD3 := hO3.blk HD2 (by omega)
  have bw3 := bw2.only hO3 (by omega)
  have own3 := hO3.ownAs own2 (by omega)
  generalize w2.setCell ⟨w.heap.size + 1, 15, none⟩ (.int .i64 2) = w3 at *
  have hwf3 : ({ c with end_ := 2 } : Cel).wf := HWF.out
  go_wp2_with (first
    | (refine wpList_load_whole rfl 46 _ rfl _ _ _ HB3 rfl _ Try.underlying46 rfl (info_cell.trans (congrArg some (cellL_len (ov := .slice A1 c.out.length c1) hwf3).symm)) ?_)
    | (refine wpList_store_list rfl 46 _ _ rfl _ _ _ (cellL { c with end_ := 2 } (.slice A1 c.out.length c1)) HC3 rfl rfl rfl (cellL_len (ov := .slice A1 c.out.length c1) hwf3) info_cell (cellL_one _ hwf3 A1 c.out.length c1) ?_; intro ws1 hs1 ho1; have HS2 := ho1.blk HD3 (by omega))
    | (refine wpList_store_list rfl 48 _ _ rfl _ _ _ zeros5 HS2 rfl rfl rfl rfl info_want zeros5_one ?_; intro ws2 hs2 ho2; have hs3 := ho2.blk hs1 (by omega)))
  refine bodyPost_ret (v := .tuple #[.agg (cellL { c with end_ := 2 } (.slice A1 c.out.length c1)).toArray, .agg zeros5.toArray]) (results_cc Try.results23 _ rfl rfl (run_load_blk hs3 Try.underlying46 rfl (info_cell.trans (congrArg some (cellL_len (ov := .slice A1 c.out.length c1) hwf3).symm))) (run_load_blk hs2 Try.underlying48 rfl info_want)) rfl ⟨_, rfl, hwf3, OwnAs.less (ho2.ownAs (ho1.ownAs own3 (by omega)) (by omega)) (by omega), (bw3.only ho1 (by omega)).only ho2 (by omega)⟩
end Go.Proofs.Ytebklpbbglojmaa
