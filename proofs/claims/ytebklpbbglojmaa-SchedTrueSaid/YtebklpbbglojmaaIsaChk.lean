/- isa.Check answers chkI. -/
import Derived.Test.YtebklpbbglojmaaIsaCR
import Derived.Test.YtebklpbbglojmaaIter
namespace Go.Proofs.Ytebklpbbglojmaa
set_option linter.unusedVariables false
set_option linter.unusedSimpArgs false
open Go.RowKit

/-- the field that a letter names -/
def selF (t a b n : Int) : Int := if t = 65 then a else if t = 66 then b else n
/-- what is left of a field behind the first k letters -/
def zf (fs : ByteArray) (k : Nat) (t : Nat) (v : Int) : Int := if t ∈ (fs.data.toList.take k).map (·.toNat) then 0 else v
theorem zf_zero (fs : ByteArray) (t : Nat) (v : Int) : zf fs 0 t v = v := by simp [zf]
theorem zf_same (fs : ByteArray) (k : Nat) (h : k < fs.size) (t : Nat) (ht : (fs[k]'h).toNat = t) (v : Int) : zf fs (k + 1) t v = 0 := by
  have hl : k < fs.data.toList.length := by simpa using h
  unfold zf
  rw [List.take_succ_eq_append_getElem hl, if_pos]
  have : fs.data.toList[k] = fs[k]'h := rfl
  simp [this, ht]
theorem zf_other (fs : ByteArray) (k : Nat) (h : k < fs.size) (t u : Nat) (ht : (fs[k]'h).toNat = t) (hu : u ≠ t) (v : Int) : zf fs (k + 1) u v = zf fs k u v := by
  have hl : k < fs.data.toList.length := by simpa using h
  unfold zf
  rw [List.take_succ_eq_append_getElem hl]
  have : fs.data.toList[k] = fs[k]'h := rfl
  simp [this, ht, hu]
/-- all letters so far are fine -/
def fineTo (op a b n : Int) (fs : ByteArray) (k : Nat) : Bool := (fs.data.toList.take k).all fun c => fineOf op c.toNat (selF c.toNat a b n)
theorem fineTo_succ (op a b n : Int) (fs : ByteArray) (k : Nat) (h : k < fs.size) : fineTo op a b n fs (k + 1) = (fineTo op a b n fs k && fineOf op (fs[k]'h).toNat (selF (fs[k]'h).toNat a b n)) := by
  have hl : k < fs.data.toList.length := by simpa using h
  unfold fineTo
  rw [List.take_succ_eq_append_getElem hl, List.all_append]
  have : fs.data.toList[k] = fs[k]'h := rfl
  simp [this]
theorem fineTo_false (op a b n : Int) (fs : ByteArray) (k : Nat) (h : fineTo op a b n fs k = false) : fineTo op a b n fs fs.size = false := by
  unfold fineTo at *
  rw [List.take_of_length_le (by simp)]
  rw [List.all_eq_false] at h ⊢
  obtain ⟨x, hx, h2⟩ := h
  exact ⟨x, List.mem_of_mem_take hx, h2⟩

/-- the letters' own law -/
theorem chk_fields (op a b n : Int) (h : 1 ≤ op ∧ op ≤ 15) : chkI op a b n = if fineTo op a b n (fieldB op) (fieldB op).size = false then 3 else if (zf (fieldB op) (fieldB op).size 65 a == 0 && zf (fieldB op) (fieldB op).size 66 b == 0 && zf (fieldB op) (fieldB op).size 78 n == 0) = true then 0 else 1 := by
  rcases op_cases h with rfl | rfl | rfl | rfl | rfl | rfl | rfl | rfl | rfl | rfl | rfl | rfl | rfl | rfl | rfl
  all_goals
    cases ra : regOk a <;> cases rb : regOk b <;> simp [chkI, hasA, hasB, hasN, numOk, fineTo, zf, fieldB, fineOf, selF, ra, rb, ByteArray.size]
  all_goals (by_cases e1 : a = 0 <;> by_cases e2 : b = 0 <;> by_cases e3 : n = 0 <;> simp [e1, e2, e3])
theorem field_byte (op : Int) (h : 1 ≤ op ∧ op ≤ 15) (k : Nat) (hk : k < (fieldB op).size) : ((fieldB op)[k]'hk).toNat = 65 ∨ ((fieldB op)[k]'hk).toNat = 66 ∨ ((fieldB op)[k]'hk).toNat = 78 := by
  have : ∀ c ∈ (fieldB op).data.toList, c.toNat = 65 ∨ c.toNat = 66 ∨ c.toNat = 78 := by
    rcases op_cases h with rfl | rfl | rfl | rfl | rfl | rfl | rfl | rfl | rfl | rfl | rfl | rfl | rfl | rfl | rfl
    all_goals decide
  exact this _ (by show (fieldB op).data.toList[k]'(by simpa using hk) ∈ _; exact List.getElem_mem _)

/-- what isa.Check's loop keeps -/
def ChkLoop (op a b n : Int) (fs : ByteArray) (w : World) (bs br bi g : Nat) (wr : World) : Prop :=
  ∃ k, g + k = fs.size ∧ fineTo op a b n fs k = true ∧ wr.heap[bi]? = some (.stringIter fs k) ∧
    Free wr ⟨br, 0, none⟩ (.int .i64 op) ∧ Free wr ⟨br, 1, none⟩ (.int .i64 (zf fs k 65 a)) ∧ Free wr ⟨br, 2, none⟩ (.int .i64 (zf fs k 66 b)) ∧ Free wr ⟨br, 3, none⟩ (.int .i64 (zf fs k 78 n)) ∧
    wr.cell? ⟨w.heap.size, 0, none⟩ = some (.int .i64 op) ∧ wr.cell? ⟨w.heap.size, 1, none⟩ = some (.int .i64 a) ∧ wr.cell? ⟨w.heap.size, 2, none⟩ = some (.int .i64 b) ∧ wr.cell? ⟨w.heap.size, 3, none⟩ = some (.int .i64 n) ∧
    bi < wr.heap.size ∧ Below w.heap.size w wr

theorem place_at (b : Nat) (f : Int) (j : Nat) (h : placeOf f = j) (w : World) :
    Calls Try.prog 96 #[.pointer (some ⟨b, 0, none⟩), .int .i32 f] w fun e w' => e = .returned (.pointer (some ⟨b, j, none⟩)) ∧ w = w' := by
  have := place_any b 0 f w
  rwa [h, Nat.zero_add] at this
theorem set_free_below {w wr : World} {b o : Nat} (h : Below w.heap.size w wr) (hb : w.heap.size ≤ b) (v : Value) : Below w.heap.size w (wr.setCell ⟨b, o, none⟩ v) := h.setCell hb v
theorem iter_set {w : World} {k : Nat} {s : ByteArray} {pos b o : Nat} (h : w.heap[k]? = some (.stringIter s pos)) (hb : ¬ b = k) (v : Value) : (w.setCell ⟨b, o, none⟩ v).heap[k]? = some (.stringIter s pos) := by
  rw [Below.heap_setCell _ _ _ _ (fun e => hb e.symm)]
  exact h


set_option maxRecDepth 100000 in
set_option maxHeartbeats 2000000 in
theorem isaCheck_is (op a b n : Int) (h : 1 ≤ op ∧ op ≤ 15) (w : World) : Calls Try.prog 81 #[.agg #[.int .i64 op, .int .i64 a, .int .i64 b, .int .i64 n]] w fun e w' => e = .returned (.int .i64 (chkI op a b n)) ∧ Below w.heap.size w w' := by
  have HF := hide (field_byte op h)
  have HC := hide (chk_fields op a b n h)
  have HO := hide (of_any op h)
  clear h
  generalize fieldB op = fs at *
  generalize wordB op = ws at *
  go_enter Try.func81, Try.ntmps81
  go_wp2_with (first
    | (go_at_call 94; refine (HO.out _).mono ?_; rintro e w1 ⟨rfl, hb⟩; obtain ⟨hc1, hf1⟩ := bcell hb; (try simp only [World.heap_drewN, World.cell?_drewN, World.frozen?_drewN] at hc1 hf1); have hs1 := hb.size; (try simp at hs1); have z0w1 : w.heap.size < w1.heap.size := (by omega)))
  go_loopg [] fs.size (fun g wr => ChkLoop op a b n fs w w1.heap.size (w1.heap.size + 1) (w1.heap.size + 1 + 1) g wr)
  case atStart =>
    generalize hX : ((w1.alloc (.cells #[.string ws, .string fs] 131)).alloc (.cells #[.int .i64 op, .int .i64 a, .int .i64 b, .int .i64 n] 95)) = X
    have hs : X.heap.size = w1.heap.size + 1 + 1 := by rw [← hX]; simp
    have hB : Below w.heap.size w X := by rw [← hX]; exact (by repeat' (first | exact Below.refl _ _ | assumption | refine Below.alloc1 ?_ _ | refine Below.drewN1 ?_ _ | refine Below.drew ?_ | refine Below.setCell1 ?_ ?_ _ | refine Below.via ?_ (by assumption) | refine Below.viaD ?_ (by assumption) | omega | (simp; done) | (simp; omega)))
    have hC : ∀ o u, w1.cell? ⟨w.heap.size, o, none⟩ = some u → X.cell? ⟨w.heap.size, o, none⟩ = some u := by rw [← hX]; exact fun o u h => cell_alloc (cell_alloc h)
    refine ⟨0, by omega, rfl, by rw [← hs]; exact World.iter_heap X fs 0, ?_, ?_, ?_, ?_, ?_, ?_, ?_, ?_, ?_, ?_⟩
    · rw [← hX]; exact Free.alloc (Free.new1 _ _ _ _ _ _ rfl)
    · rw [← hX, zf_zero]; exact Free.alloc (Free.new1 _ _ _ _ _ _ rfl)
    · rw [← hX, zf_zero]; exact Free.alloc (Free.new1 _ _ _ _ _ _ rfl)
    · rw [← hX, zf_zero]; exact Free.alloc (Free.new1 _ _ _ _ _ _ rfl)
    · exact cell_alloc (hC _ _ (cell_below hb (Free.new w _ _ _ _ rfl).1))
    · exact cell_alloc (hC _ _ (cell_below hb (Free.new w _ _ _ _ rfl).1))
    · exact cell_alloc (hC _ _ (cell_below hb (Free.new w _ _ _ _ rfl).1))
    · exact cell_alloc (hC _ _ (cell_below hb (Free.new w _ _ _ _ rfl).1))
    · simp [World.iter]; omega
    · exact hB.alloc1 _
  case round =>
    obtain ⟨k, hg, hfine, hit, F0, F1, F2, F3, c0, c1, c2, c3, hz, hbw⟩ := hrel
    by_cases hk : k < fs.size
    · have hcase := HF.out k hk
      have HFI := hide (fineTo_succ op a b n fs k hk)
      have HG := hide hg
      have HFN := hide hfine
      clear hg hfine
      obtain ⟨t, ht⟩ : ∃ t, (fs[k]'hk).toNat = t := ⟨_, rfl⟩
      rw [ht] at hcase
      have HT := hide ht
      clear ht
      rcases hcase with rfl | rfl | rfl
      · skip
        obtain ⟨wn, hn, tk⟩ := next_ascii wr _ fs k hit hk 65 HT.out (by decide)
        replace F0 := tk.free F0
        replace F1 := tk.free F1
        replace F2 := tk.free F2
        replace F3 := tk.free F3
        rw [← tk.cell] at c0 c1 c2 c3
        have hbw2 : Below w.heap.size w wn := hbw.trans (tk.below.mono (by omega))
        obtain ⟨F0c, F0f⟩ := id F0
        obtain ⟨F1c, F1f⟩ := id F1
        obtain ⟨F2c, F2f⟩ := id F2
        obtain ⟨F3c, F3f⟩ := id F3
        have HIT := hide tk.iter
        have hz' := tk.size
        have HB := hide hbw2
        clear tk hit hbw hbw2
        have HPL := hide (fun b w => place_at b 65 1 rfl w)
        cases hff : fineOf op 65 a
        · have hfz := fine_any op 65 a
          rw [hff] at hfz
          have HFZ := hide hfz
          have HR := hide (show chkI op a b n = 3 by rw [HC.out, if_pos (fineTo_false op a b n fs (k + 1) (by have h := HFI.out; rw [HT.out] at h; rw [h]; simp [selF, hff]))])
          clear hfz hff
          go_wp2_with fail
          go_quiet ((first | (go_at_call 96; first | exact quiet_left (HPL.out _ _) | exact quiet_add_left (HPL.out _ _)) | (go_at_call 95; first | exact quiet_left (HFZ.out _) | exact quiet_add_left (HFZ.out _))))
          go_wp2_with fail
          go_ret
          exact ⟨by rw [HR.out]; rfl, HB.out.drewN1 _⟩
        · have hfz := fine_any op 65 a
          rw [hff] at hfz
          have HFZ := hide hfz
          have HFN' := hide (show fineTo op a b n fs (k + 1) = true by have h := HFI.out; rw [HT.out] at h; rw [h, HFN.out]; simp [selF, hff])
          clear hfz hff
          go_wp2_with fail
          go_quiet ((first | (go_at_call 96; first | exact quiet_left (HPL.out _ _) | exact quiet_add_left (HPL.out _ _)) | (go_at_call 95; first | exact quiet_left (HFZ.out _) | exact quiet_add_left (HFZ.out _))))
          go_wp2_with (go_at_call 96; refine (HPL.out _ _).mono ?_; rintro e w2 ⟨rfl, rfl⟩)
          obtain ⟨g', rfl⟩ : ∃ g', gk = g' + 1 := ⟨gk - 1, by have := HG.out; omega⟩
          go_roundg g'
          case measure => omega
          case rel =>
            refine ⟨k + 1, by have := HG.out; omega, HFN'.out, iter_set HIT.out (by omega) _, ?_⟩
            have za : ∀ v u : Nat, True := fun _ _ => trivial
            refine ⟨?_, ?_, ?_, ?_, ?_, ?_, ?_, ?_, ?_, ?_⟩
            · exact Free.set (by simp) F0.drewN
            · first | (rw [zf_same fs k hk 65 HT.out]; exact Free.same F1.drewN) | (rw [zf_other fs k hk 65 65 HT.out (by decide)]; exact Free.set (by simp) F1.drewN)
            · first | (rw [zf_same fs k hk 66 HT.out]; exact Free.same F2.drewN) | (rw [zf_other fs k hk 65 66 HT.out (by decide)]; exact Free.set (by simp) F2.drewN)
            · first | (rw [zf_same fs k hk 78 HT.out]; exact Free.same F3.drewN) | (rw [zf_other fs k hk 65 78 HT.out (by decide)]; exact Free.set (by simp) F3.drewN)
            · exact cell_set (by simp; try omega) c0
            · exact cell_set (by simp; try omega) c1
            · exact cell_set (by simp; try omega) c2
            · exact cell_set (by simp; try omega) c3
            · simp [World.setCell]; omega
            · exact set_free_below (HB.out.drewN1 _) (by omega) _
      · skip
        obtain ⟨wn, hn, tk⟩ := next_ascii wr _ fs k hit hk 66 HT.out (by decide)
        replace F0 := tk.free F0
        replace F1 := tk.free F1
        replace F2 := tk.free F2
        replace F3 := tk.free F3
        rw [← tk.cell] at c0 c1 c2 c3
        have hbw2 : Below w.heap.size w wn := hbw.trans (tk.below.mono (by omega))
        obtain ⟨F0c, F0f⟩ := id F0
        obtain ⟨F1c, F1f⟩ := id F1
        obtain ⟨F2c, F2f⟩ := id F2
        obtain ⟨F3c, F3f⟩ := id F3
        have HIT := hide tk.iter
        have hz' := tk.size
        have HB := hide hbw2
        clear tk hit hbw hbw2
        have HPL := hide (fun b w => place_at b 66 2 rfl w)
        cases hff : fineOf op 66 b
        · have hfz := fine_any op 66 b
          rw [hff] at hfz
          have HFZ := hide hfz
          have HR := hide (show chkI op a b n = 3 by rw [HC.out, if_pos (fineTo_false op a b n fs (k + 1) (by have h := HFI.out; rw [HT.out] at h; rw [h]; simp [selF, hff]))])
          clear hfz hff
          go_wp2_with fail
          go_quiet ((first | (go_at_call 96; first | exact quiet_left (HPL.out _ _) | exact quiet_add_left (HPL.out _ _)) | (go_at_call 95; first | exact quiet_left (HFZ.out _) | exact quiet_add_left (HFZ.out _))))
          go_wp2_with fail
          go_ret
          exact ⟨by rw [HR.out]; rfl, HB.out.drewN1 _⟩
        · have hfz := fine_any op 66 b
          rw [hff] at hfz
          have HFZ := hide hfz
          have HFN' := hide (show fineTo op a b n fs (k + 1) = true by have h := HFI.out; rw [HT.out] at h; rw [h, HFN.out]; simp [selF, hff])
          clear hfz hff
          go_wp2_with fail
          go_quiet ((first | (go_at_call 96; first | exact quiet_left (HPL.out _ _) | exact quiet_add_left (HPL.out _ _)) | (go_at_call 95; first | exact quiet_left (HFZ.out _) | exact quiet_add_left (HFZ.out _))))
          go_wp2_with (go_at_call 96; refine (HPL.out _ _).mono ?_; rintro e w2 ⟨rfl, rfl⟩)
          obtain ⟨g', rfl⟩ : ∃ g', gk = g' + 1 := ⟨gk - 1, by have := HG.out; omega⟩
          go_roundg g'
          case measure => omega
          case rel =>
            refine ⟨k + 1, by have := HG.out; omega, HFN'.out, iter_set HIT.out (by omega) _, ?_⟩
            have za : ∀ v u : Nat, True := fun _ _ => trivial
            refine ⟨?_, ?_, ?_, ?_, ?_, ?_, ?_, ?_, ?_, ?_⟩
            · exact Free.set (by simp) F0.drewN
            · first | (rw [zf_same fs k hk 65 HT.out]; exact Free.same F1.drewN) | (rw [zf_other fs k hk 66 65 HT.out (by decide)]; exact Free.set (by simp) F1.drewN)
            · first | (rw [zf_same fs k hk 66 HT.out]; exact Free.same F2.drewN) | (rw [zf_other fs k hk 66 66 HT.out (by decide)]; exact Free.set (by simp) F2.drewN)
            · first | (rw [zf_same fs k hk 78 HT.out]; exact Free.same F3.drewN) | (rw [zf_other fs k hk 66 78 HT.out (by decide)]; exact Free.set (by simp) F3.drewN)
            · exact cell_set (by simp; try omega) c0
            · exact cell_set (by simp; try omega) c1
            · exact cell_set (by simp; try omega) c2
            · exact cell_set (by simp; try omega) c3
            · simp [World.setCell]; omega
            · exact set_free_below (HB.out.drewN1 _) (by omega) _
      · skip
        obtain ⟨wn, hn, tk⟩ := next_ascii wr _ fs k hit hk 78 HT.out (by decide)
        replace F0 := tk.free F0
        replace F1 := tk.free F1
        replace F2 := tk.free F2
        replace F3 := tk.free F3
        rw [← tk.cell] at c0 c1 c2 c3
        have hbw2 : Below w.heap.size w wn := hbw.trans (tk.below.mono (by omega))
        obtain ⟨F0c, F0f⟩ := id F0
        obtain ⟨F1c, F1f⟩ := id F1
        obtain ⟨F2c, F2f⟩ := id F2
        obtain ⟨F3c, F3f⟩ := id F3
        have HIT := hide tk.iter
        have hz' := tk.size
        have HB := hide hbw2
        clear tk hit hbw hbw2
        have HPL := hide (fun b w => place_at b 78 3 rfl w)
        cases hff : fineOf op 78 n
        · have hfz := fine_any op 78 n
          rw [hff] at hfz
          have HFZ := hide hfz
          have HR := hide (show chkI op a b n = 3 by rw [HC.out, if_pos (fineTo_false op a b n fs (k + 1) (by have h := HFI.out; rw [HT.out] at h; rw [h]; simp [selF, hff]))])
          clear hfz hff
          go_wp2_with fail
          go_quiet ((first | (go_at_call 96; first | exact quiet_left (HPL.out _ _) | exact quiet_add_left (HPL.out _ _)) | (go_at_call 95; first | exact quiet_left (HFZ.out _) | exact quiet_add_left (HFZ.out _))))
          go_wp2_with fail
          go_ret
          exact ⟨by rw [HR.out]; rfl, HB.out.drewN1 _⟩
        · have hfz := fine_any op 78 n
          rw [hff] at hfz
          have HFZ := hide hfz
          have HFN' := hide (show fineTo op a b n fs (k + 1) = true by have h := HFI.out; rw [HT.out] at h; rw [h, HFN.out]; simp [selF, hff])
          clear hfz hff
          go_wp2_with fail
          go_quiet ((first | (go_at_call 96; first | exact quiet_left (HPL.out _ _) | exact quiet_add_left (HPL.out _ _)) | (go_at_call 95; first | exact quiet_left (HFZ.out _) | exact quiet_add_left (HFZ.out _))))
          go_wp2_with (go_at_call 96; refine (HPL.out _ _).mono ?_; rintro e w2 ⟨rfl, rfl⟩)
          obtain ⟨g', rfl⟩ : ∃ g', gk = g' + 1 := ⟨gk - 1, by have := HG.out; omega⟩
          go_roundg g'
          case measure => omega
          case rel =>
            refine ⟨k + 1, by have := HG.out; omega, HFN'.out, iter_set HIT.out (by omega) _, ?_⟩
            have za : ∀ v u : Nat, True := fun _ _ => trivial
            refine ⟨?_, ?_, ?_, ?_, ?_, ?_, ?_, ?_, ?_, ?_⟩
            · exact Free.set (by simp) F0.drewN
            · first | (rw [zf_same fs k hk 65 HT.out]; exact Free.same F1.drewN) | (rw [zf_other fs k hk 78 65 HT.out (by decide)]; exact Free.set (by simp) F1.drewN)
            · first | (rw [zf_same fs k hk 66 HT.out]; exact Free.same F2.drewN) | (rw [zf_other fs k hk 78 66 HT.out (by decide)]; exact Free.set (by simp) F2.drewN)
            · first | (rw [zf_same fs k hk 78 HT.out]; exact Free.same F3.drewN) | (rw [zf_other fs k hk 78 78 HT.out (by decide)]; exact Free.set (by simp) F3.drewN)
            · exact cell_set (by simp; try omega) c0
            · exact cell_set (by simp; try omega) c1
            · exact cell_set (by simp; try omega) c2
            · exact cell_set (by simp; try omega) c3
            · simp [World.setCell]; omega
            · exact set_free_below (HB.out.drewN1 _) (by omega) _
    · obtain rfl : k = fs.size := by omega
      have hn := next_done wr _ fs fs.size hit (by omega)
      obtain ⟨F0c, F0f⟩ := id F0
      obtain ⟨F1c, F1f⟩ := id F1
      obtain ⟨F2c, F2f⟩ := id F2
      obtain ⟨F3c, F3f⟩ := id F3
      have HR := hide (HC.out)
      rw [if_neg (by rw [hfine]; simp)] at HR
      clear hfine hg F0 F1 F2 F3
      generalize zf fs fs.size 65 a = za at *
      generalize zf fs fs.size 66 b = zb at *
      generalize zf fs fs.size 78 n = zn at *
      go_wp2_with fail
      all_goals
        go_ret
        refine ⟨?_, hbw⟩
        rw [HR.out]
        first | (rw [if_pos (by simp [*])]; rfl) | (rw [if_neg (by simp_all)]; rfl)

theorem isaCheck_none (op a b n : Int) (h : ¬ (1 ≤ op ∧ op ≤ 15)) (w : World) : Calls Try.prog 81 #[.agg #[.int .i64 op, .int .i64 a, .int .i64 b, .int .i64 n]] w fun e w' => e = .returned (.int .i64 4) ∧ Below w.heap.size w w' := by
  have HO := hide (of_none op h)
  clear h
  go_enter Try.func81, Try.ntmps81
  go_wp2_with (first
    | (go_at_call 94; refine (HO.out _).mono ?_; rintro e w1 ⟨rfl, hb⟩; obtain ⟨hc1, hf1⟩ := bcell hb; (try simp only [World.heap_drewN, World.cell?_drewN, World.frozen?_drewN] at hc1 hf1); have hs1 := hb.size; (try simp at hs1); have z0w1 : w.heap.size < w1.heap.size := (by omega)))
  go_ret
  exact ⟨rfl, (by repeat' (first | exact Below.refl _ _ | assumption | refine Below.alloc1 ?_ _ | refine Below.drewN1 ?_ _ | refine Below.drew ?_ | refine Below.setCell1 ?_ ?_ _ | refine Below.via ?_ (by assumption) | refine Below.viaD ?_ (by assumption) | omega | (simp; done) | (simp; omega)))⟩

theorem isaCheck_any (op a b n : Int) (w : World) : Calls Try.prog 81 #[.agg #[.int .i64 op, .int .i64 a, .int .i64 b, .int .i64 n]] w fun e w' => e = .returned (.int .i64 (chkI op a b n)) ∧ Below w.heap.size w w' := by
  by_cases h : 1 ≤ op ∧ op ≤ 15
  · exact isaCheck_is op a b n h w
  · have e : chkI op a b n = 4 := by unfold chkI; rw [if_pos h]
    rw [e]
    exact isaCheck_none op a b n h w
end Go.Proofs.Ytebklpbbglojmaa
