/- The law ChansTells answers true for every input. -/
import Derived.Test.YtebklpbbglojmaaChansB
import Derived.Test.YtebklpbbglojmaaLift
import Derived.Deep.RegionHeld
namespace Go.Proofs.Ytebklpbbglojmaa
open Go.ChangeShapes Go.WideShapes Go.ChangeAt Go.RowKit
attribute [local go_sem] World.cell?_alloc_some

theorem putOf_err (k : Int) (l : List Int) (x : Int) : (putOf k l x).2.2 = chkLine k l.length := by
  unfold putOf
  by_cases h : chkLine k l.length = 0
  · rw [if_pos h, h]
    split
    · rfl
    · split <;> rfl
  · rw [if_neg h]
theorem getOf_err (k : Int) (l : List Int) : (getOf k l).2.2.2 = chkLine k l.length := by
  unfold getOf
  by_cases h : chkLine k l.length = 0
  · rw [if_pos h, h]
    split <;> rfl
  · rw [if_neg h]

set_option maxRecDepth 100000 in
set_option maxHeartbeats 2000000 in
theorem chansTells_ok (k x : Int) (v : Value) (l : List Int) (w : World) (hv : Ints w v l) (h0 : chkLine k l.length = 0) :
    Calls Try.prog 3 #[.int .i64 k, .agg #[v], .int .i64 x] w fun e w' => e = .returned (.bool true) ∧ Below w.heap.size w w' := by
  have hput := fun w h => put_any k x v l w h
  have hget := fun w h => get_any k v l w h
  have hchk := fun w h => chansCheck_any k v l w h
  have hchR := fun w h => checkLine_any k v l w h
  have hputR := fun w h => putOfR_any k x v l w h h0
  have hgetR := fun w h => getOfR_any k v l w h h0
  have e1 := putOf_err k l x
  have e2 := getOf_err k l
  rw [h0] at hchk hchR e1 e2
  generalize putOf k l x = rp at *
  generalize getOf k l = rg at *
  obtain ⟨pl, pis, pe⟩ := rp
  obtain ⟨gl, gn, gis, ge⟩ := rg
  (try dsimp only at e1)
  (try dsimp only at e2)
  (try dsimp only at hputR)
  (try dsimp only at hgetR)
  subst e1 e2
  have HPUT := hide hput
  have HGET := hide hget
  have HCHK := hide hchk
  have HCHR := hide hchR
  have HPUTR := hide hputR
  have HGETR := hide hgetR
  clear hput hget hchk hchR hputR hgetR h0
  obtain ⟨A0, c0, rfl⟩ := hv.form rfl
  obtain ⟨n, hn⟩ : ∃ n, l.length = n := ⟨_, rfl⟩
  rw [hn] at hv HPUT HGET HCHK HCHR HPUTR HGETR ⊢
  clear hn
  go_enter Try.func3, Try.ntmps3
  go_wp2_with fail
  refine (HPUT.out _ (by exact hv.below (by repeat' (first | exact Below.refl _ _ | assumption | refine Below.alloc1 ?_ _ | refine Below.drewN1 ?_ _ | refine Below.drew ?_ | refine Below.setCell1 ?_ ?_ _ | refine Below.via ?_ (by assumption) | refine Below.viaD ?_ (by assumption) | omega | (simp; done) | (simp; omega))))).mono ?_
  rintro e w1 ⟨v1, rfl, hv1, hb1⟩
  obtain ⟨A1, c1, rfl⟩ := hv1.form (n := pl.length) rfl
  have l1 : w1.cell? ⟨w.heap.size, 0, none⟩ = some (.slice A0 n c0) := by repeat' (first | with_reducible assumption | with_reducible refine And.intro ?_ ?_ | (simp [World.cell?_alloc_new]; done) | with_reducible refine cell_drew ?_ | with_reducible refine cell_drewN ?_ | with_reducible refine cell_alloc ?_ | (with_reducible apply cell_below; (with_reducible assumption)) | (with_reducible apply cell_same; (with_reducible assumption)) | (with_reducible apply cell_set; (focus (first | with_reducible assumption | (simp; done) | (simp; omega)))))
  go_wp2_with fail
  refine (HGET.out _ (by exact hv.below (by repeat' (first | exact Below.refl _ _ | assumption | refine Below.alloc1 ?_ _ | refine Below.drewN1 ?_ _ | refine Below.drew ?_ | refine Below.setCell1 ?_ ?_ _ | refine Below.via ?_ (by assumption) | refine Below.viaD ?_ (by assumption) | omega | (simp; done) | (simp; omega))))).mono ?_
  rintro e w2 ⟨v2, rfl, hv2, hb2⟩
  obtain ⟨A2, c2, rfl⟩ := hv2.form (n := gl.length) rfl
  have l2 : w2.cell? ⟨w.heap.size, 0, none⟩ = some (.slice A0 n c0) := by repeat' (first | with_reducible assumption | with_reducible refine And.intro ?_ ?_ | (simp [World.cell?_alloc_new]; done) | with_reducible refine cell_drew ?_ | with_reducible refine cell_drewN ?_ | with_reducible refine cell_alloc ?_ | (with_reducible apply cell_below; (with_reducible assumption)) | (with_reducible apply cell_same; (with_reducible assumption)) | (with_reducible apply cell_set; (focus (first | with_reducible assumption | (simp; done) | (simp; omega)))))
  have a2 : w2.cell? ⟨w1.heap.size, 0, none⟩ = some (.slice A1 pl.length c1) := by repeat' (first | with_reducible assumption | with_reducible refine And.intro ?_ ?_ | (simp [World.cell?_alloc_new]; done) | with_reducible refine cell_drew ?_ | with_reducible refine cell_drewN ?_ | with_reducible refine cell_alloc ?_ | (with_reducible apply cell_below; (with_reducible assumption)) | (with_reducible apply cell_same; (with_reducible assumption)) | (with_reducible apply cell_set; (focus (first | with_reducible assumption | (simp; done) | (simp; omega)))))
  go_wp2_with fail
  refine (HCHR.out _ (by exact hv.below (by repeat' (first | exact Below.refl _ _ | assumption | refine Below.alloc1 ?_ _ | refine Below.drewN1 ?_ _ | refine Below.drew ?_ | refine Below.setCell1 ?_ ?_ _ | refine Below.via ?_ (by assumption) | refine Below.viaD ?_ (by assumption) | omega | (simp; done) | (simp; omega))))).mono ?_
  rintro e w3 ⟨rfl, hb3⟩
  have l3 : w3.cell? ⟨w.heap.size, 0, none⟩ = some (.slice A0 n c0) := by repeat' (first | with_reducible assumption | with_reducible refine And.intro ?_ ?_ | (simp [World.cell?_alloc_new]; done) | with_reducible refine cell_drew ?_ | with_reducible refine cell_drewN ?_ | with_reducible refine cell_alloc ?_ | (with_reducible apply cell_below; (with_reducible assumption)) | (with_reducible apply cell_same; (with_reducible assumption)) | (with_reducible apply cell_set; (focus (first | with_reducible assumption | (simp; done) | (simp; omega)))))
  have a3 : w3.cell? ⟨w1.heap.size, 0, none⟩ = some (.slice A1 pl.length c1) := by repeat' (first | with_reducible assumption | with_reducible refine And.intro ?_ ?_ | (simp [World.cell?_alloc_new]; done) | with_reducible refine cell_drew ?_ | with_reducible refine cell_drewN ?_ | with_reducible refine cell_alloc ?_ | (with_reducible apply cell_below; (with_reducible assumption)) | (with_reducible apply cell_same; (with_reducible assumption)) | (with_reducible apply cell_set; (focus (first | with_reducible assumption | (simp; done) | (simp; omega)))))
  have b3 : w3.cell? ⟨w2.heap.size, 0, none⟩ = some (.slice A2 gl.length c2) := by repeat' (first | with_reducible assumption | with_reducible refine And.intro ?_ ?_ | (simp [World.cell?_alloc_new]; done) | with_reducible refine cell_drew ?_ | with_reducible refine cell_drewN ?_ | with_reducible refine cell_alloc ?_ | (with_reducible apply cell_below; (with_reducible assumption)) | (with_reducible apply cell_same; (with_reducible assumption)) | (with_reducible apply cell_set; (focus (first | with_reducible assumption | (simp; done) | (simp; omega)))))
  go_wp2_with fail
  refine (HPUTR.out _ (by exact hv.below (by repeat' (first | exact Below.refl _ _ | assumption | refine Below.alloc1 ?_ _ | refine Below.drewN1 ?_ _ | refine Below.drew ?_ | refine Below.setCell1 ?_ ?_ _ | refine Below.via ?_ (by assumption) | refine Below.viaD ?_ (by assumption) | omega | (simp; done) | (simp; omega))))).mono ?_
  rintro e w4 ⟨v4, rfl, hv4, hb4⟩
  have s2 := hb2.size
  have s3 := hb3.size
  have s4 := hb4.size
  simp only [World.size_alloc] at s2 s3 s4
  have s1 := hb1.size
  simp only [World.size_alloc] at s1
  have ne_w3_w : ¬ w3.heap.size = w.heap.size := (by omega); have ne1_w3_w : ¬ w3.heap.size + 1 = w.heap.size := (by omega)
  have ne_w3_w1 : ¬ w3.heap.size = w1.heap.size := (by omega); have ne1_w3_w1 : ¬ w3.heap.size + 1 = w1.heap.size := (by omega)
  have ne_w3_w2 : ¬ w3.heap.size = w2.heap.size := (by omega); have ne1_w3_w2 : ¬ w3.heap.size + 1 = w2.heap.size := (by omega)
  obtain ⟨p4, pf4⟩ : Free w4 ⟨w3.heap.size, 0, none⟩ (.slice none 0 0) := by repeat' (first | with_reducible assumption | with_reducible exact Free.new _ _ _ _ _ rfl | with_reducible exact Free.new1 _ _ _ _ _ _ rfl | with_reducible exact Free.new2 _ _ _ _ _ _ _ rfl | with_reducible refine Free.drew ?_ | with_reducible refine Free.drewN ?_ | with_reducible refine Free.alloc ?_ | (with_reducible apply Free.below; (with_reducible assumption)) | (with_reducible apply Free.same; (with_reducible assumption)) | (with_reducible apply Free.set; (focus (first | with_reducible assumption | (simp; done) | (simp; omega)))))
  have Fq4 : Free w4 ⟨w3.heap.size + 1, 0, none⟩ (.slice none 0 0) := by repeat' (first | with_reducible assumption | with_reducible exact Free.new _ _ _ _ _ rfl | with_reducible exact Free.new1 _ _ _ _ _ _ rfl | with_reducible exact Free.new2 _ _ _ _ _ _ _ rfl | with_reducible refine Free.drew ?_ | with_reducible refine Free.drewN ?_ | with_reducible refine Free.alloc ?_ | (with_reducible apply Free.below; (with_reducible assumption)) | (with_reducible apply Free.same; (with_reducible assumption)) | (with_reducible apply Free.set; (focus (first | with_reducible assumption | (simp; done) | (simp; omega)))))
  obtain ⟨q4, qf4⟩ := id Fq4
  obtain ⟨A4, c4, rfl⟩ := hv4.form (n := pl.length) rfl
  have l4 : w4.cell? ⟨w.heap.size, 0, none⟩ = some (.slice A0 n c0) := by repeat' (first | with_reducible assumption | with_reducible refine And.intro ?_ ?_ | (simp [World.cell?_alloc_new]; done) | with_reducible refine cell_drew ?_ | with_reducible refine cell_drewN ?_ | with_reducible refine cell_alloc ?_ | (with_reducible apply cell_below; (with_reducible assumption)) | (with_reducible apply cell_same; (with_reducible assumption)) | (with_reducible apply cell_set; (focus (first | with_reducible assumption | (simp; done) | (simp; omega)))))
  have a4 : w4.cell? ⟨w1.heap.size, 0, none⟩ = some (.slice A1 pl.length c1) := by repeat' (first | with_reducible assumption | with_reducible refine And.intro ?_ ?_ | (simp [World.cell?_alloc_new]; done) | with_reducible refine cell_drew ?_ | with_reducible refine cell_drewN ?_ | with_reducible refine cell_alloc ?_ | (with_reducible apply cell_below; (with_reducible assumption)) | (with_reducible apply cell_same; (with_reducible assumption)) | (with_reducible apply cell_set; (focus (first | with_reducible assumption | (simp; done) | (simp; omega)))))
  have b4 : w4.cell? ⟨w2.heap.size, 0, none⟩ = some (.slice A2 gl.length c2) := by repeat' (first | with_reducible assumption | with_reducible refine And.intro ?_ ?_ | (simp [World.cell?_alloc_new]; done) | with_reducible refine cell_drew ?_ | with_reducible refine cell_drewN ?_ | with_reducible refine cell_alloc ?_ | (with_reducible apply cell_below; (with_reducible assumption)) | (with_reducible apply cell_same; (with_reducible assumption)) | (with_reducible apply cell_set; (focus (first | with_reducible assumption | (simp; done) | (simp; omega)))))
  have hv4a := hv4.set (p := ⟨w3.heap.size, 0, none⟩) (by simp only [World.size_alloc]; omega) (.slice A4 pl.length c4)
  go_wp2_with fail
  refine (HGETR.out _ (by exact hv.below (by repeat' (first | exact Below.refl _ _ | assumption | refine Below.alloc1 ?_ _ | refine Below.drewN1 ?_ _ | refine Below.drew ?_ | refine Below.setCell1 ?_ ?_ _ | refine Below.via ?_ (by assumption) | refine Below.viaD ?_ (by assumption) | omega | (simp; done) | (simp; omega))))).mono ?_
  rintro e w5 ⟨v5, rfl, hv5, hb5⟩
  obtain ⟨A5, c5, rfl⟩ := hv5.form (n := gl.length) rfl
  have l5 : w5.cell? ⟨w.heap.size, 0, none⟩ = some (.slice A0 n c0) := by repeat' (first | with_reducible assumption | with_reducible refine And.intro ?_ ?_ | (simp [World.cell?_alloc_new]; done) | with_reducible refine cell_drew ?_ | with_reducible refine cell_drewN ?_ | with_reducible refine cell_alloc ?_ | (with_reducible apply cell_below; (with_reducible assumption)) | (with_reducible apply cell_same; (with_reducible assumption)) | (with_reducible apply cell_set; (focus (first | with_reducible assumption | (simp; done) | (simp; omega)))))
  have a5 : w5.cell? ⟨w1.heap.size, 0, none⟩ = some (.slice A1 pl.length c1) := by repeat' (first | with_reducible assumption | with_reducible refine And.intro ?_ ?_ | (simp [World.cell?_alloc_new]; done) | with_reducible refine cell_drew ?_ | with_reducible refine cell_drewN ?_ | with_reducible refine cell_alloc ?_ | (with_reducible apply cell_below; (with_reducible assumption)) | (with_reducible apply cell_same; (with_reducible assumption)) | (with_reducible apply cell_set; (focus (first | with_reducible assumption | (simp; done) | (simp; omega)))))
  have b5 : w5.cell? ⟨w2.heap.size, 0, none⟩ = some (.slice A2 gl.length c2) := by repeat' (first | with_reducible assumption | with_reducible refine And.intro ?_ ?_ | (simp [World.cell?_alloc_new]; done) | with_reducible refine cell_drew ?_ | with_reducible refine cell_drewN ?_ | with_reducible refine cell_alloc ?_ | (with_reducible apply cell_below; (with_reducible assumption)) | (with_reducible apply cell_same; (with_reducible assumption)) | (with_reducible apply cell_set; (focus (first | with_reducible assumption | (simp; done) | (simp; omega)))))
  have p5 : w5.cell? ⟨w3.heap.size, 0, none⟩ = some (.slice A4 pl.length c4) := by repeat' (first | with_reducible assumption | with_reducible refine And.intro ?_ ?_ | (simp [World.cell?_alloc_new]; done) | with_reducible refine cell_drew ?_ | with_reducible refine cell_drewN ?_ | with_reducible refine cell_alloc ?_ | (with_reducible apply cell_below; (with_reducible assumption)) | (with_reducible apply cell_same; (with_reducible assumption)) | (with_reducible apply cell_set; (focus (first | with_reducible assumption | (simp; done) | (simp; omega)))))
  have Fq5 : Free w5 ⟨w3.heap.size + 1, 0, none⟩ (.slice none 0 0) := by repeat' (first | with_reducible assumption | with_reducible exact Free.new _ _ _ _ _ rfl | with_reducible exact Free.new1 _ _ _ _ _ _ rfl | with_reducible exact Free.new2 _ _ _ _ _ _ _ rfl | with_reducible refine Free.drew ?_ | with_reducible refine Free.drewN ?_ | with_reducible refine Free.alloc ?_ | (with_reducible apply Free.below; (with_reducible assumption)) | (with_reducible apply Free.same; (with_reducible assumption)) | (with_reducible apply Free.set; (focus (first | with_reducible assumption | (simp; done) | (simp; omega)))))
  obtain ⟨q5, qf5⟩ := id Fq5
  have hv4b := (hv4a.below hb5).set (p := ⟨w3.heap.size + 1, 0, none⟩) (by simp only [World.size_alloc]; omega) (.slice A5 gl.length c5)
  have hv5b := hv5.set (p := ⟨w3.heap.size + 1, 0, none⟩) (by have := hb4.size; simp only [World.size_alloc] at this; simp [World.setCell]; omega) (.slice A5 gl.length c5)
  go_wp2_with fail
  refine (chansBegun_any _).mono ?_
  rintro e w6 ⟨rfl, hb6⟩
  have l6 : w6.cell? ⟨w.heap.size, 0, none⟩ = some (.slice A0 n c0) := by repeat' (first | with_reducible assumption | with_reducible refine And.intro ?_ ?_ | (simp [World.cell?_alloc_new]; done) | with_reducible refine cell_drew ?_ | with_reducible refine cell_drewN ?_ | with_reducible refine cell_alloc ?_ | (with_reducible apply cell_below; (with_reducible assumption)) | (with_reducible apply cell_same; (with_reducible assumption)) | (with_reducible apply cell_set; (focus (first | with_reducible assumption | (simp; done) | (simp; omega)))))
  have a6 : w6.cell? ⟨w1.heap.size, 0, none⟩ = some (.slice A1 pl.length c1) := by repeat' (first | with_reducible assumption | with_reducible refine And.intro ?_ ?_ | (simp [World.cell?_alloc_new]; done) | with_reducible refine cell_drew ?_ | with_reducible refine cell_drewN ?_ | with_reducible refine cell_alloc ?_ | (with_reducible apply cell_below; (with_reducible assumption)) | (with_reducible apply cell_same; (with_reducible assumption)) | (with_reducible apply cell_set; (focus (first | with_reducible assumption | (simp; done) | (simp; omega)))))
  have b6 : w6.cell? ⟨w2.heap.size, 0, none⟩ = some (.slice A2 gl.length c2) := by repeat' (first | with_reducible assumption | with_reducible refine And.intro ?_ ?_ | (simp [World.cell?_alloc_new]; done) | with_reducible refine cell_drew ?_ | with_reducible refine cell_drewN ?_ | with_reducible refine cell_alloc ?_ | (with_reducible apply cell_below; (with_reducible assumption)) | (with_reducible apply cell_same; (with_reducible assumption)) | (with_reducible apply cell_set; (focus (first | with_reducible assumption | (simp; done) | (simp; omega)))))
  have p6 : w6.cell? ⟨w3.heap.size, 0, none⟩ = some (.slice A4 pl.length c4) := by repeat' (first | with_reducible assumption | with_reducible refine And.intro ?_ ?_ | (simp [World.cell?_alloc_new]; done) | with_reducible refine cell_drew ?_ | with_reducible refine cell_drewN ?_ | with_reducible refine cell_alloc ?_ | (with_reducible apply cell_below; (with_reducible assumption)) | (with_reducible apply cell_same; (with_reducible assumption)) | (with_reducible apply cell_set; (focus (first | with_reducible assumption | (simp; done) | (simp; omega)))))
  have q6 : w6.cell? ⟨w3.heap.size + 1, 0, none⟩ = some (.slice A5 gl.length c5) := by repeat' (first | with_reducible assumption | with_reducible refine And.intro ?_ ?_ | (simp [World.cell?_alloc_new]; done) | with_reducible refine cell_drew ?_ | with_reducible refine cell_drewN ?_ | with_reducible refine cell_alloc ?_ | (with_reducible apply cell_below; (with_reducible assumption)) | (with_reducible apply cell_same; (with_reducible assumption)) | (with_reducible apply cell_set; (focus (first | with_reducible assumption | (simp; done) | (simp; omega)))))
  go_wp2_with fail
  refine (HCHK.out _ (by exact hv.below (by repeat' (first | exact Below.refl _ _ | assumption | refine Below.alloc1 ?_ _ | refine Below.drewN1 ?_ _ | refine Below.drew ?_ | refine Below.setCell1 ?_ ?_ _ | refine Below.via ?_ (by assumption) | refine Below.viaD ?_ (by assumption) | omega | (simp; done) | (simp; omega))))).mono ?_
  rintro e w7 ⟨rfl, hb7⟩
  have a7 : w7.cell? ⟨w1.heap.size, 0, none⟩ = some (.slice A1 pl.length c1) := by repeat' (first | with_reducible assumption | with_reducible refine And.intro ?_ ?_ | (simp [World.cell?_alloc_new]; done) | with_reducible refine cell_drew ?_ | with_reducible refine cell_drewN ?_ | with_reducible refine cell_alloc ?_ | (with_reducible apply cell_below; (with_reducible assumption)) | (with_reducible apply cell_same; (with_reducible assumption)) | (with_reducible apply cell_set; (focus (first | with_reducible assumption | (simp; done) | (simp; omega)))))
  have b7 : w7.cell? ⟨w2.heap.size, 0, none⟩ = some (.slice A2 gl.length c2) := by repeat' (first | with_reducible assumption | with_reducible refine And.intro ?_ ?_ | (simp [World.cell?_alloc_new]; done) | with_reducible refine cell_drew ?_ | with_reducible refine cell_drewN ?_ | with_reducible refine cell_alloc ?_ | (with_reducible apply cell_below; (with_reducible assumption)) | (with_reducible apply cell_same; (with_reducible assumption)) | (with_reducible apply cell_set; (focus (first | with_reducible assumption | (simp; done) | (simp; omega)))))
  have p7 : w7.cell? ⟨w3.heap.size, 0, none⟩ = some (.slice A4 pl.length c4) := by repeat' (first | with_reducible assumption | with_reducible refine And.intro ?_ ?_ | (simp [World.cell?_alloc_new]; done) | with_reducible refine cell_drew ?_ | with_reducible refine cell_drewN ?_ | with_reducible refine cell_alloc ?_ | (with_reducible apply cell_below; (with_reducible assumption)) | (with_reducible apply cell_same; (with_reducible assumption)) | (with_reducible apply cell_set; (focus (first | with_reducible assumption | (simp; done) | (simp; omega)))))
  have q7 : w7.cell? ⟨w3.heap.size + 1, 0, none⟩ = some (.slice A5 gl.length c5) := by repeat' (first | with_reducible assumption | with_reducible refine And.intro ?_ ?_ | (simp [World.cell?_alloc_new]; done) | with_reducible refine cell_drew ?_ | with_reducible refine cell_drewN ?_ | with_reducible refine cell_alloc ?_ | (with_reducible apply cell_below; (with_reducible assumption)) | (with_reducible apply cell_same; (with_reducible assumption)) | (with_reducible apply cell_set; (focus (first | with_reducible assumption | (simp; done) | (simp; omega)))))
  go_wp2_with fail
  refine (sameInts_any (by exact (hv1.below (by repeat' (first | exact Below.refl _ _ | assumption | refine Below.alloc1 ?_ _ | refine Below.drewN1 ?_ _ | refine Below.drew ?_ | refine Below.setCell1 ?_ ?_ _ | refine Below.via ?_ (by assumption) | refine Below.viaD ?_ (by assumption) | omega | (simp; done) | (simp; omega)))).ints) (by exact (hv4b.below (by repeat' (first | exact Below.refl _ _ | assumption | refine Below.alloc1 ?_ _ | refine Below.drewN1 ?_ _ | refine Below.drew ?_ | refine Below.setCell1 ?_ ?_ _ | refine Below.via ?_ (by assumption) | refine Below.viaD ?_ (by assumption) | omega | (simp; done) | (simp; omega)))).ints)).mono ?_
  rintro e w8 ⟨rfl, q8, rfl⟩
  go_wp2_with fail
  refine (sameInts_any (by exact (hv2.below (by repeat' (first | exact Below.refl _ _ | assumption | refine Below.alloc1 ?_ _ | refine Below.drewN1 ?_ _ | refine Below.drew ?_ | refine Below.setCell1 ?_ ?_ _ | refine Below.via ?_ (by assumption) | refine Below.viaD ?_ (by assumption) | omega | (simp; done) | (simp; omega)))).ints) (by exact (hv5b.below (by repeat' (first | exact Below.refl _ _ | assumption | refine Below.alloc1 ?_ _ | refine Below.drewN1 ?_ _ | refine Below.drew ?_ | refine Below.setCell1 ?_ ?_ _ | refine Below.via ?_ (by assumption) | refine Below.viaD ?_ (by assumption) | omega | (simp; done) | (simp; omega)))).ints)).mono ?_
  rintro e w9 ⟨rfl, q9, rfl⟩
  go_wp2_with fail
  go_ret
  exact ⟨rfl, (by repeat' (first | exact Below.refl _ _ | assumption | refine Below.alloc1 ?_ _ | refine Below.drewN1 ?_ _ | refine Below.drew ?_ | refine Below.setCell1 ?_ ?_ _ | refine Below.via ?_ (by assumption) | refine Below.viaD ?_ (by assumption) | omega | (simp; done) | (simp; omega)))⟩

set_option maxRecDepth 100000 in
set_option maxHeartbeats 2000000 in
theorem chansTells_err (k x : Int) (v : Value) (l : List Int) (w : World) (hv : Ints w v l) (h0 : ¬ chkLine k l.length = 0) :
    Calls Try.prog 3 #[.int .i64 k, .agg #[v], .int .i64 x] w fun e w' => e = .returned (.bool true) ∧ Below w.heap.size w w' := by
  have hput := fun w h => put_any k x v l w h
  have hget := fun w h => get_any k v l w h
  have hchk := fun w h => chansCheck_any k v l w h
  have hchR := fun w h => checkLine_any k v l w h
  have e1 : putOf k l x = ([], false, chkLine k l.length) := by simp [putOf, h0]
  have e2 : getOf k l = ([], 0, false, chkLine k l.length) := by simp only [getOf, if_neg h0]
  rw [e1] at hput
  rw [e2] at hget
  generalize chkLine k l.length = E at *
  have hE : (E == 0) = false := by simpa using h0
  have HPUT := hide hput
  have HGET := hide hget
  have HCHK := hide hchk
  have HCHR := hide hchR
  clear hput hget hchk hchR h0 e1 e2
  obtain ⟨A0, c0, rfl⟩ := hv.form rfl
  obtain ⟨n, hn⟩ : ∃ n, l.length = n := ⟨_, rfl⟩
  rw [hn] at hv HPUT HGET HCHK HCHR ⊢
  clear hn
  go_enter Try.func3, Try.ntmps3
  go_wp2_with fail
  refine (HPUT.out _ (by exact hv.below (by repeat' (first | exact Below.refl _ _ | assumption | refine Below.alloc1 ?_ _ | refine Below.drewN1 ?_ _ | refine Below.drew ?_ | refine Below.setCell1 ?_ ?_ _ | refine Below.via ?_ (by assumption) | refine Below.viaD ?_ (by assumption) | omega | (simp; done) | (simp; omega))))).mono ?_
  rintro e w1 ⟨v1, rfl, hv1, hb1⟩
  obtain ⟨A1, c1, rfl⟩ := hv1.form (n := 0) rfl
  have l1 : w1.cell? ⟨w.heap.size, 0, none⟩ = some (.slice A0 n c0) := by repeat' (first | with_reducible assumption | with_reducible refine And.intro ?_ ?_ | (simp [World.cell?_alloc_new]; done) | with_reducible refine cell_drew ?_ | with_reducible refine cell_drewN ?_ | with_reducible refine cell_alloc ?_ | (with_reducible apply cell_below; (with_reducible assumption)) | (with_reducible apply cell_same; (with_reducible assumption)) | (with_reducible apply cell_set; (focus (first | with_reducible assumption | (simp; done) | (simp; omega)))))
  go_wp2_with fail
  refine (HGET.out _ (by exact hv.below (by repeat' (first | exact Below.refl _ _ | assumption | refine Below.alloc1 ?_ _ | refine Below.drewN1 ?_ _ | refine Below.drew ?_ | refine Below.setCell1 ?_ ?_ _ | refine Below.via ?_ (by assumption) | refine Below.viaD ?_ (by assumption) | omega | (simp; done) | (simp; omega))))).mono ?_
  rintro e w2 ⟨v2, rfl, hv2, hb2⟩
  obtain ⟨A2, c2, rfl⟩ := hv2.form (n := 0) rfl
  have l2 : w2.cell? ⟨w.heap.size, 0, none⟩ = some (.slice A0 n c0) := by repeat' (first | with_reducible assumption | with_reducible refine And.intro ?_ ?_ | (simp [World.cell?_alloc_new]; done) | with_reducible refine cell_drew ?_ | with_reducible refine cell_drewN ?_ | with_reducible refine cell_alloc ?_ | (with_reducible apply cell_below; (with_reducible assumption)) | (with_reducible apply cell_same; (with_reducible assumption)) | (with_reducible apply cell_set; (focus (first | with_reducible assumption | (simp; done) | (simp; omega)))))
  have a2 : w2.cell? ⟨w1.heap.size, 0, none⟩ = some (.slice A1 0 c1) := by repeat' (first | with_reducible assumption | with_reducible refine And.intro ?_ ?_ | (simp [World.cell?_alloc_new]; done) | with_reducible refine cell_drew ?_ | with_reducible refine cell_drewN ?_ | with_reducible refine cell_alloc ?_ | (with_reducible apply cell_below; (with_reducible assumption)) | (with_reducible apply cell_same; (with_reducible assumption)) | (with_reducible apply cell_set; (focus (first | with_reducible assumption | (simp; done) | (simp; omega)))))
  go_wp2_with fail
  refine (HCHR.out _ (by exact hv.below (by repeat' (first | exact Below.refl _ _ | assumption | refine Below.alloc1 ?_ _ | refine Below.drewN1 ?_ _ | refine Below.drew ?_ | refine Below.setCell1 ?_ ?_ _ | refine Below.via ?_ (by assumption) | refine Below.viaD ?_ (by assumption) | omega | (simp; done) | (simp; omega))))).mono ?_
  rintro e w3 ⟨rfl, hb3⟩
  have l3 : w3.cell? ⟨w.heap.size, 0, none⟩ = some (.slice A0 n c0) := by repeat' (first | with_reducible assumption | with_reducible refine And.intro ?_ ?_ | (simp [World.cell?_alloc_new]; done) | with_reducible refine cell_drew ?_ | with_reducible refine cell_drewN ?_ | with_reducible refine cell_alloc ?_ | (with_reducible apply cell_below; (with_reducible assumption)) | (with_reducible apply cell_same; (with_reducible assumption)) | (with_reducible apply cell_set; (focus (first | with_reducible assumption | (simp; done) | (simp; omega)))))
  have a3 : w3.cell? ⟨w1.heap.size, 0, none⟩ = some (.slice A1 0 c1) := by repeat' (first | with_reducible assumption | with_reducible refine And.intro ?_ ?_ | (simp [World.cell?_alloc_new]; done) | with_reducible refine cell_drew ?_ | with_reducible refine cell_drewN ?_ | with_reducible refine cell_alloc ?_ | (with_reducible apply cell_below; (with_reducible assumption)) | (with_reducible apply cell_same; (with_reducible assumption)) | (with_reducible apply cell_set; (focus (first | with_reducible assumption | (simp; done) | (simp; omega)))))
  have b3 : w3.cell? ⟨w2.heap.size, 0, none⟩ = some (.slice A2 0 c2) := by repeat' (first | with_reducible assumption | with_reducible refine And.intro ?_ ?_ | (simp [World.cell?_alloc_new]; done) | with_reducible refine cell_drew ?_ | with_reducible refine cell_drewN ?_ | with_reducible refine cell_alloc ?_ | (with_reducible apply cell_below; (with_reducible assumption)) | (with_reducible apply cell_same; (with_reducible assumption)) | (with_reducible apply cell_set; (focus (first | with_reducible assumption | (simp; done) | (simp; omega)))))
  go_wp2_with fail
  refine (chansBegun_any _).mono ?_
  rintro e w6 ⟨rfl, hb6⟩
  have l6 : w6.cell? ⟨w.heap.size, 0, none⟩ = some (.slice A0 n c0) := by repeat' (first | with_reducible assumption | with_reducible refine And.intro ?_ ?_ | (simp [World.cell?_alloc_new]; done) | with_reducible refine cell_drew ?_ | with_reducible refine cell_drewN ?_ | with_reducible refine cell_alloc ?_ | (with_reducible apply cell_below; (with_reducible assumption)) | (with_reducible apply cell_same; (with_reducible assumption)) | (with_reducible apply cell_set; (focus (first | with_reducible assumption | (simp; done) | (simp; omega)))))
  have a6 : w6.cell? ⟨w1.heap.size, 0, none⟩ = some (.slice A1 0 c1) := by repeat' (first | with_reducible assumption | with_reducible refine And.intro ?_ ?_ | (simp [World.cell?_alloc_new]; done) | with_reducible refine cell_drew ?_ | with_reducible refine cell_drewN ?_ | with_reducible refine cell_alloc ?_ | (with_reducible apply cell_below; (with_reducible assumption)) | (with_reducible apply cell_same; (with_reducible assumption)) | (with_reducible apply cell_set; (focus (first | with_reducible assumption | (simp; done) | (simp; omega)))))
  have b6 : w6.cell? ⟨w2.heap.size, 0, none⟩ = some (.slice A2 0 c2) := by repeat' (first | with_reducible assumption | with_reducible refine And.intro ?_ ?_ | (simp [World.cell?_alloc_new]; done) | with_reducible refine cell_drew ?_ | with_reducible refine cell_drewN ?_ | with_reducible refine cell_alloc ?_ | (with_reducible apply cell_below; (with_reducible assumption)) | (with_reducible apply cell_same; (with_reducible assumption)) | (with_reducible apply cell_set; (focus (first | with_reducible assumption | (simp; done) | (simp; omega)))))
  have p6 : w6.cell? ⟨w3.heap.size, 0, none⟩ = some (.slice none 0 0) := by repeat' (first | with_reducible assumption | with_reducible refine And.intro ?_ ?_ | (simp [World.cell?_alloc_new]; done) | with_reducible refine cell_drew ?_ | with_reducible refine cell_drewN ?_ | with_reducible refine cell_alloc ?_ | (with_reducible apply cell_below; (with_reducible assumption)) | (with_reducible apply cell_same; (with_reducible assumption)) | (with_reducible apply cell_set; (focus (first | with_reducible assumption | (simp; done) | (simp; omega)))))
  have q6 : w6.cell? ⟨w3.heap.size + 1, 0, none⟩ = some (.slice none 0 0) := by repeat' (first | with_reducible assumption | with_reducible refine And.intro ?_ ?_ | (simp [World.cell?_alloc_new]; done) | with_reducible refine cell_drew ?_ | with_reducible refine cell_drewN ?_ | with_reducible refine cell_alloc ?_ | (with_reducible apply cell_below; (with_reducible assumption)) | (with_reducible apply cell_same; (with_reducible assumption)) | (with_reducible apply cell_set; (focus (first | with_reducible assumption | (simp; done) | (simp; omega)))))
  go_wp2_with fail
  refine (HCHK.out _ (by exact hv.below (by repeat' (first | exact Below.refl _ _ | assumption | refine Below.alloc1 ?_ _ | refine Below.drewN1 ?_ _ | refine Below.drew ?_ | refine Below.setCell1 ?_ ?_ _ | refine Below.via ?_ (by assumption) | refine Below.viaD ?_ (by assumption) | omega | (simp; done) | (simp; omega))))).mono ?_
  rintro e w7 ⟨rfl, hb7⟩
  have a7 : w7.cell? ⟨w1.heap.size, 0, none⟩ = some (.slice A1 0 c1) := by repeat' (first | with_reducible assumption | with_reducible refine And.intro ?_ ?_ | (simp [World.cell?_alloc_new]; done) | with_reducible refine cell_drew ?_ | with_reducible refine cell_drewN ?_ | with_reducible refine cell_alloc ?_ | (with_reducible apply cell_below; (with_reducible assumption)) | (with_reducible apply cell_same; (with_reducible assumption)) | (with_reducible apply cell_set; (focus (first | with_reducible assumption | (simp; done) | (simp; omega)))))
  have b7 : w7.cell? ⟨w2.heap.size, 0, none⟩ = some (.slice A2 0 c2) := by repeat' (first | with_reducible assumption | with_reducible refine And.intro ?_ ?_ | (simp [World.cell?_alloc_new]; done) | with_reducible refine cell_drew ?_ | with_reducible refine cell_drewN ?_ | with_reducible refine cell_alloc ?_ | (with_reducible apply cell_below; (with_reducible assumption)) | (with_reducible apply cell_same; (with_reducible assumption)) | (with_reducible apply cell_set; (focus (first | with_reducible assumption | (simp; done) | (simp; omega)))))
  have p7 : w7.cell? ⟨w3.heap.size, 0, none⟩ = some (.slice none 0 0) := by repeat' (first | with_reducible assumption | with_reducible refine And.intro ?_ ?_ | (simp [World.cell?_alloc_new]; done) | with_reducible refine cell_drew ?_ | with_reducible refine cell_drewN ?_ | with_reducible refine cell_alloc ?_ | (with_reducible apply cell_below; (with_reducible assumption)) | (with_reducible apply cell_same; (with_reducible assumption)) | (with_reducible apply cell_set; (focus (first | with_reducible assumption | (simp; done) | (simp; omega)))))
  have q7 : w7.cell? ⟨w3.heap.size + 1, 0, none⟩ = some (.slice none 0 0) := by repeat' (first | with_reducible assumption | with_reducible refine And.intro ?_ ?_ | (simp [World.cell?_alloc_new]; done) | with_reducible refine cell_drew ?_ | with_reducible refine cell_drewN ?_ | with_reducible refine cell_alloc ?_ | (with_reducible apply cell_below; (with_reducible assumption)) | (with_reducible apply cell_same; (with_reducible assumption)) | (with_reducible apply cell_set; (focus (first | with_reducible assumption | (simp; done) | (simp; omega)))))
  go_wp2_with fail
  refine (sameInts_any (by exact (hv1.below (by repeat' (first | exact Below.refl _ _ | assumption | refine Below.alloc1 ?_ _ | refine Below.drewN1 ?_ _ | refine Below.drew ?_ | refine Below.setCell1 ?_ ?_ _ | refine Below.via ?_ (by assumption) | refine Below.viaD ?_ (by assumption) | omega | (simp; done) | (simp; omega)))).ints) Ints.nil_).mono ?_
  rintro e w8 ⟨rfl, q8, rfl⟩
  go_wp2_with fail
  refine (sameInts_any (by exact (hv2.below (by repeat' (first | exact Below.refl _ _ | assumption | refine Below.alloc1 ?_ _ | refine Below.drewN1 ?_ _ | refine Below.drew ?_ | refine Below.setCell1 ?_ ?_ _ | refine Below.via ?_ (by assumption) | refine Below.viaD ?_ (by assumption) | omega | (simp; done) | (simp; omega)))).ints) Ints.nil_).mono ?_
  rintro e w9 ⟨rfl, q9, rfl⟩
  go_wp2_with fail
  go_ret
  exact ⟨rfl, (by repeat' (first | exact Below.refl _ _ | assumption | refine Below.alloc1 ?_ _ | refine Below.drewN1 ?_ _ | refine Below.drew ?_ | refine Below.setCell1 ?_ ?_ _ | refine Below.via ?_ (by assumption) | refine Below.viaD ?_ (by assumption) | omega | (simp; done) | (simp; omega)))⟩

set_option maxRecDepth 100000 in
theorem chansTells_contract (H : Type) (enc : TypeId × Value → H) (W : World) (base : Nat) (args : Array Value) (ds gs : List (DataW H)) (before : List MemPlace)
    (hval : ∀ (j : Nat) t v, Try.f3.params[j]? = some t → args[j]? = some v → Value.okWide Try.prog W .any base t v)
    (hW : DataW.Whole enc Try.prog Try.f3.params.toList Rows.chansTellsSpec.vars false W args.toList ds gs before) :
    Calls Try.prog 3 args W fun e W' => ∃ v, e = .returned v ∧ Rows.chansTellsSpec.post enc Try.prog Try.f3 false true false false W args v W' := by
  have hW' := hW
  obtain ⟨p, q, hA0, hV, rfl, hfz, hnd⟩ := hW
  have hA : DataW.TrodAll enc Try.prog W 0 (fun _ => true) true Try.f3.params.toList args.toList ds p := hA0
  rw [Try.params3] at hA hval
  obtain ⟨v0, v1, v2, d0, d1, d2, p0, p1, p2, rfl, rfl, rfl, h0, h1, h2⟩ := trodAll_three hA
  obtain ⟨k, rfl, rfl, rfl, wk⟩ := open_int Try.underlying3 (hval 0 3 v0 rfl rfl) h0
  obtain ⟨x, rfl, rfl, rfl, wx⟩ := open_int Try.underlying3 (hval 2 3 v2 rfl rfl) h2
  obtain ⟨v, rfl, l, hl⟩ := line_open (hval 1 24 v1 rfl rfl) h1
  have hcall : Calls Try.prog 3 #[.int .i64 k, .agg #[v], .int .i64 x] W fun e w' => e = .returned (.bool true) ∧ Below W.heap.size W w' := by
    by_cases h : chkLine k l.length = 0
    · exact chansTells_ok k x v l W hl h
    · exact chansTells_err k x v l W hl h
  refine hcall.mono fun e W' ⟨he, hb⟩ => ?_
  subst he
  exact ⟨_, rfl, law_post Try.laidOut hW' hb rfl (by kernel_rfl) Try.underlying4 (by kernel_rfl) rfl⟩

set_option maxRecDepth 100000 in
theorem chansTells_lifted (os : Os) (started : os.Started) (H : Type) (enc : TypeId × Value → H) :
    ReturnsInHanded {} Try.checked os 3 .any (Rows.chansTellsSpec.pre6 enc Try.prog Try.f3 Rows.chansTellsRow.domain false) (Rows.chansTellsSpec.post enc Try.prog Try.f3 false true false false) := by
  refine returnsInHanded_of_change (C := Try.checked) Try.own started (by kernel_rfl) Try.func3
    (ChangeSpec.witness6 (enc := enc) (C := Try.checked) false ⟨#[], #[.int .i64 0, .agg #[.slice none 0 0], .int .i64 0], []⟩ 8 (by kernel_rfl) (by kernel_rfl) (by kernel_rfl) (by kernel_rfl)) ?_
  intro W base args ds gs before hval hW _ _
  exact chansTells_contract H enc W base args ds gs before hval hW

theorem chansTells_holds : Rows.ChansTellsSaid :=
  OpenClaim.holds_of_wide 3 Try.f3 rfl rfl rfl rfl rfl rfl rfl ⟨rfl, rfl, rfl, rfl, rfl⟩ rfl rfl rfl rfl rfl (by kernel_rfl) Try.func3 (by kernel_rfl)
    (of_decide_eq_true (by kernel_rfl)) (by unfold Func.isWrapper; first | (rw [if_pos (by decide +kernel)]; kernel_rfl) | (rw [if_neg (by decide +kernel)]; exact ⟨rfl, rfl⟩))
    (fun os started H enc _ => chansTells_lifted os started H enc)
end Go.Proofs.Ytebklpbbglojmaa
