/- cell.Reply answers replyOf: where nothing is wrong. -/
import Derived.Test.YtebklpbbglojmaaCellRep
namespace Go.Proofs.Ytebklpbbglojmaa
set_option linter.unusedVariables false
set_option linter.unusedSimpArgs false
open Go.RowKit

theorem Cel.wf_set {c : Cel} (h : c.wf) (a : Nat) (v : Int) : ({ c with regs := c.regs.set a v } : Cel).wf := ⟨by simpa using h.1, h.2⟩
theorem Only.drew (b : Nat) (w : World) : Only b w w.drew := ⟨rfl, rfl, rfl, rfl, fun _ _ => rfl⟩
theorem Only.drewN (b : Nat) (w : World) (n : Nat) : Only b w (w.drewN n) := ⟨rfl, rfl, rfl, rfl, fun _ _ => rfl⟩

set_option maxRecDepth 100000 in
set_option maxHeartbeats 2000000 in
theorem reply_sample (c : Cel) (k : Wnt) (val : Int) (is : Bool) (ov : Value) (w : World) (hwf : c.wf) (ho : Ints w ov c.out) (hf : cellFine c = true) (hk : k.kind = 12) (r1 : regOk k.reg = true) (r2 : regOk k.flag = true) :
    Calls Try.prog 28 #[celV c ov, wntV k, .int .i64 1, .int .i64 val, .bool is] w (CelErrBack w c 0) := by
  have hce := fun w1 (hb : Below w.heap.size w w1) => cellCheck_any c ov hwf w1 (ho.below hb)
  have HLEN := hide (cellL_len (ov := ov) hwf)
  have kk0 : (wantL k)[0]? = some (.int .i64 k.kind) := rfl
  have kk2 : (wantL k)[2]? = some (.int .i64 k.reg) := rfl
  have kk3 : (wantL k)[3]? = some (.int .i64 k.flag) := rfl
  rw [hk] at kk0
  have HK := hide hk
  clear hk
  have he : cellErr c = 0 := by simp [cellErr, hf]
  rw [he] at hce
  have HCE := hide hce
  have hol : c.out.length ≤ 1048576 := by unfold cellFine at hf; simp only [decide_eq_true_eq] at hf; omega
  have HCL := hide (fun w1 (hb : Below w.heap.size w w1) => cloneInt_any (ho.below hb) hol)
  have hou := cell_out (ov := ov) hwf
  have HWF := hide hwf
  clear hce he hf ho hwf hol
  unfold celV wntV at *
  go_enter Try.func28, Try.ntmps28
  go_upto_region 3 with (first
    | (refine wpList_load_whole rfl 46 _ rfl _ _ _ (Blk.alloc (Blk.alloc (Blk.new w _ _) _) _) rfl _ Try.underlying46 rfl (info_cell.trans (congrArg some HLEN.out.symm)) ?_)
    | (go_at_call 25; refine (HCE.out _ (by exact (by repeat' (first | with_reducible exact Below.refl _ _ | with_reducible assumption | with_reducible refine Below.alloc1 ?_ _ | with_reducible refine Below.drewN1 ?_ _ | with_reducible refine Below.drew ?_ | with_reducible refine Below.setCell1 ?_ ?_ _ | with_reducible refine Below.via ?_ (by with_reducible assumption) | with_reducible refine Below.viaD ?_ (by with_reducible assumption) | omega | (simp; done) | (simp; omega))))).mono ?_; rintro e w1 ⟨rfl, hb1⟩; have HA1 := ((Blk.new w _ _).alloc _ |>.alloc _).kept hb1; have HB1 := ((Blk.new1 w _ _ _).alloc _).kept hb1; have HC1 := (Blk.new2 w _ _ _ _).kept hb1; have ea1 := HA1.cell; have eb1 := HB1.cell; have ec1 := HC1.cell; have fa1 := HA1.frozen; have fb1 := HB1.frozen; have fc1 := HC1.frozen; have bw1 : Below w.heap.size w _ := (Below.alloc1 (Below.alloc1 (Below.alloc1 (Below.refl w.heap.size w) _) _) _).via hb1; have sz1 := HC1.lt; clear hb1))
  clear fa1 fb1 fc1
  go_upto_region 9 with (go_at_call 52; refine (register_any _ _).mono ?_; rintro e w' ⟨rfl, rfl⟩)
  have hwf := HWF.out
  go_upto_region 10 with (go_at_call 43; refine (HCL.out _ bw1).mono ?_; rintro e w2 ⟨A2, c2, rfl, hown2, hb2⟩; have HA2 := HA1.kept hb2; have HB2 := HB1.kept hb2; have HC2 := HC1.kept hb2; have bw2 := bw1.via hb2; have ea2 := HA2.cell; have fa2 := HA2.frozen; have sz2 := hb2.size; clear hb2)
  have hOn := Only.set w2 w.heap.size 14 (.slice A2 c.out.length c2)
  have HA5 : Blk (w2.setCell ⟨w.heap.size, 14, none⟩ (.slice A2 c.out.length c2)) w.heap.size 46 (cellL c (.slice A2 c.out.length c2)) := (HA2.set 14 _).same (cell_set_out hwf c.out _)
  have HB5 := hOn.blk HB2 (by omega)
  have HC5 := hOn.blk HC2 (by omega)
  have bw5 := bw2.only hOn (by omega)
  have own5 : OwnAs 3 (w2.setCell ⟨w.heap.size, 14, none⟩ (.slice A2 c.out.length c2)) (w.heap.size + 1 + 1 + 1) (.slice A2 c.out.length c2) c.out := hOn.ownAs (OwnAs.of_own hown2 (by omega)) (by omega)
  generalize w2.setCell ⟨w.heap.size, 14, none⟩ (.slice A2 c.out.length c2) = W5 at *
  clear HA1 HB1 HC1 ea1 eb1 ec1 bw1 HA2 HB2 HC2 ea2 fa2 bw2 hown2 hOn
  have eb5 := HB5.cell
  have fa5 := HA5.frozen
  have LEN := hide (cellL_len (ov := .slice A2 c.out.length c2) hwf)
  have ONE := hide (cellL_one c hwf A2 c.out.length c2)
  go_wp2_with (first
    | (refine wpList_load_whole rfl 46 _ rfl _ _ _ HA5 rfl _ Try.underlying46 rfl (info_cell.trans (congrArg some LEN.out.symm)) ?_)
    | (refine wpList_store_whole rfl 46 _ _ rfl _ _ _ (cellL c (.slice A2 c.out.length c2)).toArray HC5 rfl rfl (by rw [List.size_toArray, LEN.out]; rfl) (info_cell.trans (congrArg some (by rw [List.size_toArray, LEN.out]))) ONE.out ?_; intro ws1 hs1 ho1))
  refine bodyPost_ret (v := .tuple #[.agg (cellL c (.slice A2 c.out.length c2)).toArray, .int .i64 0]) (results_ct Try.results28 _ rfl rfl (run_load_blk hs1 Try.underlying46 rfl (info_cell.trans (congrArg some LEN.out.symm)))) rfl ⟨_, rfl, hwf, OwnAs.less (ho1.ownAs own5 (by omega)) (by omega), (bw5).only ho1 (by omega)⟩

set_option maxRecDepth 100000 in
set_option maxHeartbeats 2000000 in
theorem reply_queue (c : Cel) (k : Wnt) (val : Int) (is : Bool) (ov : Value) (w : World) (hwf : c.wf) (ho : Ints w ov c.out) (hf : cellFine c = true) (hk : k.kind = 12) (r1 : regOk k.reg = true) (r2 : regOk k.flag = true) :
    Calls Try.prog 28 #[celV c ov, wntV k, .int .i64 2, .int .i64 val, .bool is] w (CelErrBack w { c with regs := c.regs.set k.reg.toNat (bitI is) } 0) := by
  have hce := fun w1 (hb : Below w.heap.size w w1) => cellCheck_any c ov hwf w1 (ho.below hb)
  have HLEN := hide (cellL_len (ov := ov) hwf)
  have kk0 : (wantL k)[0]? = some (.int .i64 k.kind) := rfl
  have kk2 : (wantL k)[2]? = some (.int .i64 k.reg) := rfl
  have kk3 : (wantL k)[3]? = some (.int .i64 k.flag) := rfl
  rw [hk] at kk0
  have HK := hide hk
  clear hk
  have he : cellErr c = 0 := by simp [cellErr, hf]
  rw [he] at hce
  have HCE := hide hce
  have hol : c.out.length ≤ 1048576 := by unfold cellFine at hf; simp only [decide_eq_true_eq] at hf; omega
  have HCL := hide (fun w1 (hb : Below w.heap.size w w1) => cloneInt_any (ho.below hb) hol)
  have hou := cell_out (ov := ov) hwf
  have HWF := hide hwf
  clear hce he hf ho hwf hol
  unfold celV wntV at *
  go_enter Try.func28, Try.ntmps28
  go_upto_region 3 with (first
    | (refine wpList_load_whole rfl 46 _ rfl _ _ _ (Blk.alloc (Blk.alloc (Blk.new w _ _) _) _) rfl _ Try.underlying46 rfl (info_cell.trans (congrArg some HLEN.out.symm)) ?_)
    | (go_at_call 25; refine (HCE.out _ (by exact (by repeat' (first | with_reducible exact Below.refl _ _ | with_reducible assumption | with_reducible refine Below.alloc1 ?_ _ | with_reducible refine Below.drewN1 ?_ _ | with_reducible refine Below.drew ?_ | with_reducible refine Below.setCell1 ?_ ?_ _ | with_reducible refine Below.via ?_ (by with_reducible assumption) | with_reducible refine Below.viaD ?_ (by with_reducible assumption) | omega | (simp; done) | (simp; omega))))).mono ?_; rintro e w1 ⟨rfl, hb1⟩; have HA1 := ((Blk.new w _ _).alloc _ |>.alloc _).kept hb1; have HB1 := ((Blk.new1 w _ _ _).alloc _).kept hb1; have HC1 := (Blk.new2 w _ _ _ _).kept hb1; have ea1 := HA1.cell; have eb1 := HB1.cell; have ec1 := HC1.cell; have fa1 := HA1.frozen; have fb1 := HB1.frozen; have fc1 := HC1.frozen; have bw1 : Below w.heap.size w _ := (Below.alloc1 (Below.alloc1 (Below.alloc1 (Below.refl w.heap.size w) _) _) _).via hb1; have sz1 := HC1.lt; clear hb1))
  clear fa1 fb1 fc1
  go_upto_region 9 with (go_at_call 52; refine (register_any _ _).mono ?_; rintro e w' ⟨rfl, rfl⟩)
  have hwf := HWF.out
  go_upto_region 10 with (go_at_call 43; refine (HCL.out _ bw1).mono ?_; rintro e w2 ⟨A2, c2, rfl, hown2, hb2⟩; have HA2 := HA1.kept hb2; have HB2 := HB1.kept hb2; have HC2 := HC1.kept hb2; have bw2 := bw1.via hb2; have ea2 := HA2.cell; have fa2 := HA2.frozen; have sz2 := hb2.size; clear hb2)
  have hOn := Only.set w2 w.heap.size 14 (.slice A2 c.out.length c2)
  have HA5 : Blk (w2.setCell ⟨w.heap.size, 14, none⟩ (.slice A2 c.out.length c2)) w.heap.size 46 (cellL c (.slice A2 c.out.length c2)) := (HA2.set 14 _).same (cell_set_out hwf c.out _)
  have HB5 := hOn.blk HB2 (by omega)
  have HC5 := hOn.blk HC2 (by omega)
  have bw5 := bw2.only hOn (by omega)
  have own5 : OwnAs 3 (w2.setCell ⟨w.heap.size, 14, none⟩ (.slice A2 c.out.length c2)) (w.heap.size + 1 + 1 + 1) (.slice A2 c.out.length c2) c.out := hOn.ownAs (OwnAs.of_own hown2 (by omega)) (by omega)
  generalize w2.setCell ⟨w.heap.size, 14, none⟩ (.slice A2 c.out.length c2) = W5 at *
  clear HA1 HB1 HC1 ea1 eb1 ec1 bw1 HA2 HB2 HC2 ea2 fa2 bw2 hown2 hOn
  have eb5 := HB5.cell
  have fa5 := HA5.frozen
  have LEN := hide (cellL_len (ov := .slice A2 c.out.length c2) hwf)
  have ONE := hide (cellL_one c hwf A2 c.out.length c2)
  have hr1 := r1
  unfold regOk at hr1
  simp only [decide_eq_true_eq] at hr1
  have hrr : (k.reg.toNat : Int) = k.reg := Int.toNat_of_nonneg hr1.1
  rw [← hrr] at kk2 hr1
  generalize k.reg.toNat = r at *
  have hr4 : r < 4 := by omega
  have hr0 : (0 : Int) ≤ r := by omega
  have hr4' : (r : Int) < 4 := by omega
  have kr : W5.cell? ⟨w.heap.size, 1 + r, none⟩ = some (.int .i64 (c.regs.getD r 0)) := (HA5.cell _).trans (cell_reg hwf hr4)
  clear hrr r1 r2 kk3
  go_wp2_with fail
  go_region_with (go_at_call 53; refine (bit_any _ _).mono ?_; rintro e w' ⟨rfl, rfl⟩)
  all_goals
    have HA6 := ((HA5.set (1 + r) (.int .i64 (bitI is))).same (cell_set_reg hwf hr4 _)).drew
    have hOn := (Only.set W5 w.heap.size (1 + r) (.int .i64 (bitI is))).trans (Only.drew w.heap.size _)
    have HC6 := hOn.blk HC5 (by omega)
    have bw6 := bw5.only hOn (by omega)
    have own6 := hOn.ownAs own5 (by omega)
    generalize (W5.setCell ⟨w.heap.size, 1 + r, none⟩ (.int .i64 (bitI is))).drew = W6 at *
    have hwf6 := Cel.wf_set hwf r (bitI is)
    have LEN6 := hide (cellL_len (ov := .slice A2 c.out.length c2) hwf6)
    have ONE6 := hide (cellL_one _ hwf6 A2 c.out.length c2)
    go_wp2_with (first
      | (refine wpList_load_whole rfl 46 _ rfl _ _ _ HA6 rfl _ Try.underlying46 rfl (info_cell.trans (congrArg some LEN6.out.symm)) ?_)
      | (refine wpList_store_whole rfl 46 _ _ rfl _ _ _ (cellL { c with regs := c.regs.set r (bitI is) } (.slice A2 c.out.length c2)).toArray HC6 rfl rfl (by rw [List.size_toArray, LEN6.out]; rfl) (info_cell.trans (congrArg some (by rw [List.size_toArray, LEN6.out]))) ONE6.out ?_; intro ws1 hs1 ho1))
    refine bodyPost_ret (v := .tuple #[.agg (cellL { c with regs := c.regs.set r (bitI is) } (.slice A2 c.out.length c2)).toArray, .int .i64 0]) (results_ct Try.results28 _ rfl rfl (run_load_blk hs1 Try.underlying46 rfl (info_cell.trans (congrArg some LEN6.out.symm)))) rfl ⟨_, rfl, hwf6, OwnAs.less (ho1.ownAs own6 (by omega)) (by omega), (bw6).only ho1 (by omega)⟩

set_option maxRecDepth 100000 in
set_option maxHeartbeats 4000000 in
theorem reply_get (c : Cel) (k : Wnt) (kind val : Int) (is : Bool) (ov : Value) (w : World) (hwf : c.wf) (ho : Ints w ov c.out) (hf : cellFine c = true) (hk : k.kind = 13) (hkk : kind = 1 ∨ kind = 2) (r1 : regOk k.reg = true) (r2 : regOk k.flag = true) :
    Calls Try.prog 28 #[celV c ov, wntV k, .int .i64 kind, .int .i64 val, .bool is] w (CelErrBack w { c with regs := (if is then c.regs.set k.reg.toNat val else c.regs).set k.flag.toNat (bitI is) } 0) := by
  have b12 : (kind != 1 && kind != 2) = false := by rcases hkk with rfl | rfl <;> rfl
  cases b1 : kind != 1
  all_goals
    (try (have b2 : (kind != 2) = false := by simpa [b1] using b12))
    clear b12 hkk
    have hce := fun w1 (hb : Below w.heap.size w w1) => cellCheck_any c ov hwf w1 (ho.below hb)
    have HLEN := hide (cellL_len (ov := ov) hwf)
    have kk0 : (wantL k)[0]? = some (.int .i64 k.kind) := rfl
    have kk2 : (wantL k)[2]? = some (.int .i64 k.reg) := rfl
    have kk3 : (wantL k)[3]? = some (.int .i64 k.flag) := rfl
    rw [hk] at kk0
    have HK := hide hk
    clear hk
    have he : cellErr c = 0 := by simp [cellErr, hf]
    rw [he] at hce
    have HCE := hide hce
    have hol : c.out.length ≤ 1048576 := by unfold cellFine at hf; simp only [decide_eq_true_eq] at hf; omega
    have HCL := hide (fun w1 (hb : Below w.heap.size w w1) => cloneInt_any (ho.below hb) hol)
    have hou := cell_out (ov := ov) hwf
    have HWF := hide hwf
    clear hce he hf ho hwf hol
    unfold celV wntV at *
    go_enter Try.func28, Try.ntmps28
    go_upto_region 3 with (first
      | (refine wpList_load_whole rfl 46 _ rfl _ _ _ (Blk.alloc (Blk.alloc (Blk.new w _ _) _) _) rfl _ Try.underlying46 rfl (info_cell.trans (congrArg some HLEN.out.symm)) ?_)
      | (go_at_call 25; refine (HCE.out _ (by exact (by repeat' (first | with_reducible exact Below.refl _ _ | with_reducible assumption | with_reducible refine Below.alloc1 ?_ _ | with_reducible refine Below.drewN1 ?_ _ | with_reducible refine Below.drew ?_ | with_reducible refine Below.setCell1 ?_ ?_ _ | with_reducible refine Below.via ?_ (by with_reducible assumption) | with_reducible refine Below.viaD ?_ (by with_reducible assumption) | omega | (simp; done) | (simp; omega))))).mono ?_; rintro e w1 ⟨rfl, hb1⟩; have HA1 := ((Blk.new w _ _).alloc _ |>.alloc _).kept hb1; have HB1 := ((Blk.new1 w _ _ _).alloc _).kept hb1; have HC1 := (Blk.new2 w _ _ _ _).kept hb1; have ea1 := HA1.cell; have eb1 := HB1.cell; have ec1 := HC1.cell; have fa1 := HA1.frozen; have fb1 := HB1.frozen; have fc1 := HC1.frozen; have bw1 : Below w.heap.size w _ := (Below.alloc1 (Below.alloc1 (Below.alloc1 (Below.refl w.heap.size w) _) _) _).via hb1; have sz1 := HC1.lt; clear hb1))
    clear fa1 fb1 fc1
    go_upto_region 9 with (go_at_call 52; refine (register_any _ _).mono ?_; rintro e w' ⟨rfl, rfl⟩)
    have hwf := HWF.out
    go_upto_region 10 with (go_at_call 43; refine (HCL.out _ bw1).mono ?_; rintro e w2 ⟨A2, c2, rfl, hown2, hb2⟩; have HA2 := HA1.kept hb2; have HB2 := HB1.kept hb2; have HC2 := HC1.kept hb2; have bw2 := bw1.via hb2; have ea2 := HA2.cell; have fa2 := HA2.frozen; have sz2 := hb2.size; clear hb2)
    have hOn := Only.set w2 w.heap.size 14 (.slice A2 c.out.length c2)
    have HA5 : Blk (w2.setCell ⟨w.heap.size, 14, none⟩ (.slice A2 c.out.length c2)) w.heap.size 46 (cellL c (.slice A2 c.out.length c2)) := (HA2.set 14 _).same (cell_set_out hwf c.out _)
    have HB5 := hOn.blk HB2 (by omega)
    have HC5 := hOn.blk HC2 (by omega)
    have bw5 := bw2.only hOn (by omega)
    have own5 : OwnAs 3 (w2.setCell ⟨w.heap.size, 14, none⟩ (.slice A2 c.out.length c2)) (w.heap.size + 1 + 1 + 1) (.slice A2 c.out.length c2) c.out := hOn.ownAs (OwnAs.of_own hown2 (by omega)) (by omega)
    generalize w2.setCell ⟨w.heap.size, 14, none⟩ (.slice A2 c.out.length c2) = W5 at *
    clear HA1 HB1 HC1 ea1 eb1 ec1 bw1 HA2 HB2 HC2 ea2 fa2 bw2 hown2 hOn
    have eb5 := HB5.cell
    have fa5 := HA5.frozen
    have LEN := hide (cellL_len (ov := .slice A2 c.out.length c2) hwf)
    have ONE := hide (cellL_one c hwf A2 c.out.length c2)
    have hr1 := r1
    have hr2 := r2
    unfold regOk at hr1 hr2
    simp only [decide_eq_true_eq] at hr1 hr2
    have hrr : (k.reg.toNat : Int) = k.reg := Int.toNat_of_nonneg hr1.1
    have hff : (k.flag.toNat : Int) = k.flag := Int.toNat_of_nonneg hr2.1
    rw [← hrr] at kk2 hr1
    rw [← hff] at kk3 hr2
    generalize k.reg.toNat = r at *
    generalize k.flag.toNat = f at *
    have hr4 : r < 4 := by omega
    have hf4 : f < 4 := by omega
    have hr0 : (0 : Int) ≤ r := by omega
    have hr4' : (r : Int) < 4 := by omega
    have hf0 : (0 : Int) ≤ f := by omega
    have hf4' : (f : Int) < 4 := by omega
    have kr : W5.cell? ⟨w.heap.size, 1 + r, none⟩ = some (.int .i64 (c.regs.getD r 0)) := (HA5.cell _).trans (cell_reg hwf hr4)
    clear hrr hff r1 r2
    cases is
    · have kf : W5.cell? ⟨w.heap.size, 1 + f, none⟩ = some (.int .i64 (c.regs.getD f 0)) := (HA5.cell _).trans (cell_reg hwf hf4)
      clear kr
      go_wp2_with fail
      go_region_with (go_at_call 53; refine (bit_any _ _).mono ?_; rintro e w' ⟨rfl, rfl⟩)
      all_goals
        have HA6 := ((HA5.set (1 + f) (.int .i64 (bitI false))).same (cell_set_reg hwf hf4 _)).drew
        have hOn := (Only.set W5 w.heap.size (1 + f) (.int .i64 (bitI false))).trans (Only.drew w.heap.size _)
        have HC6 := hOn.blk HC5 (by omega)
        have bw6 := bw5.only hOn (by omega)
        have own6 := hOn.ownAs own5 (by omega)
        generalize (W5.setCell ⟨w.heap.size, 1 + f, none⟩ (.int .i64 (bitI false))).drew = W6 at *
        have hwf6 := Cel.wf_set hwf f (bitI false)
        have LEN6 := hide (cellL_len (ov := .slice A2 c.out.length c2) hwf6)
        have ONE6 := hide (cellL_one _ hwf6 A2 c.out.length c2)
        go_wp2_with (first
          | (refine wpList_load_whole rfl 46 _ rfl _ _ _ HA6 rfl _ Try.underlying46 rfl (info_cell.trans (congrArg some LEN6.out.symm)) ?_)
          | (refine wpList_store_whole rfl 46 _ _ rfl _ _ _ (cellL { c with regs := c.regs.set f (bitI false) } (.slice A2 c.out.length c2)).toArray HC6 rfl rfl (by rw [List.size_toArray, LEN6.out]; rfl) (info_cell.trans (congrArg some (by rw [List.size_toArray, LEN6.out]))) ONE6.out ?_; intro ws1 hs1 ho1))
        refine bodyPost_ret (v := .tuple #[.agg (cellL { c with regs := c.regs.set f (bitI false) } (.slice A2 c.out.length c2)).toArray, .int .i64 0]) (results_ct Try.results28 _ rfl rfl (run_load_blk hs1 Try.underlying46 rfl (info_cell.trans (congrArg some LEN6.out.symm)))) rfl ⟨_, rfl, hwf6, OwnAs.less (ho1.ownAs own6 (by omega)) (by omega), (bw6).only ho1 (by omega)⟩
    · go_upto_region 16 with fail
      have HA4 := (HA5.set (1 + r) (.int .i64 val)).same (cell_set_reg hwf hr4 _)
      have hOn := Only.set W5 w.heap.size (1 + r) (.int .i64 val)
      have HB4 := hOn.blk HB5 (by omega)
      have HC4 := hOn.blk HC5 (by omega)
      have bw4 := bw5.only hOn (by omega)
      have own4 := hOn.ownAs own5 (by omega)
      generalize W5.setCell ⟨w.heap.size, 1 + r, none⟩ (.int .i64 val) = W4 at *
      have hwf4 := Cel.wf_set hwf r val
      clear hOn HA5 HB5 HC5 bw5 own5 eb5 fa5 kr
      have eb4 := HB4.cell
      have fa4 := HA4.frozen
      have kf : W4.cell? ⟨w.heap.size, 1 + f, none⟩ = some (.int .i64 ((c.regs.set r val).getD f 0)) := (HA4.cell _).trans (cell_reg hwf4 hf4)
      generalize (c.regs.set r val).getD f 0 = oldf at kf
      go_region_with (go_at_call 53; refine (bit_any _ _).mono ?_; rintro e w' ⟨rfl, rfl⟩)
      all_goals
        have HA6 := ((HA4.set (1 + f) (.int .i64 (bitI true))).same (cell_set_reg hwf4 hf4 _)).drew
        have hOn := (Only.set W4 w.heap.size (1 + f) (.int .i64 (bitI true))).trans (Only.drew w.heap.size _)
        have HC6 := hOn.blk HC4 (by omega)
        have bw6 := bw4.only hOn (by omega)
        have own6 := hOn.ownAs own4 (by omega)
        generalize (W4.setCell ⟨w.heap.size, 1 + f, none⟩ (.int .i64 (bitI true))).drew = W6 at *
        have hwf6 := Cel.wf_set hwf4 f (bitI true)
        have LEN6 := hide (cellL_len (ov := .slice A2 c.out.length c2) hwf6)
        have ONE6 := hide (cellL_one _ hwf6 A2 c.out.length c2)
        go_wp2_with (first
          | (refine wpList_load_whole rfl 46 _ rfl _ _ _ HA6 rfl _ Try.underlying46 rfl (info_cell.trans (congrArg some LEN6.out.symm)) ?_)
          | (refine wpList_store_whole rfl 46 _ _ rfl _ _ _ (cellL { c with regs := (c.regs.set r val).set f (bitI true) } (.slice A2 c.out.length c2)).toArray HC6 rfl rfl (by rw [List.size_toArray, LEN6.out]; rfl) (info_cell.trans (congrArg some (by rw [List.size_toArray, LEN6.out]))) ONE6.out ?_; intro ws1 hs1 ho1))
        refine bodyPost_ret (v := .tuple #[.agg (cellL { c with regs := (c.regs.set r val).set f (bitI true) } (.slice A2 c.out.length c2)).toArray, .int .i64 0]) (results_ct Try.results28 _ rfl rfl (run_load_blk hs1 Try.underlying46 rfl (info_cell.trans (congrArg some LEN6.out.symm)))) rfl ⟨_, rfl, hwf6, OwnAs.less (ho1.ownAs own6 (by omega)) (by omega), (bw6).only ho1 (by omega)⟩
end Go.Proofs.Ytebklpbbglojmaa
