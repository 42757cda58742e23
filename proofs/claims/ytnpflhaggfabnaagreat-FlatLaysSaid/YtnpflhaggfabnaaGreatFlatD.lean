/- flat's glass: a list that was laid is taken off. -/
import Derived.Test.YtnpflhaggfabnaaGreatFlatC
namespace Go.Proofs.YtnpflhaggfabnaaGreat
set_option linter.unusedVariables false
set_option linter.unusedSimpArgs false
open Go.ChangeShapes Go.WideShapes Go.ChangeAt Go.RowKit
theorem bu_FlatD_92_  (w : World) : (Instr.build 92 #[]).run Tryz.prog w = .ok (.agg #[]) w := by kernel_rfl
set_option maxRecDepth 100000

theorem take_call {w0 w : World} {X : Nat → Prop} {es : List Asn} {bg : Nat} {A : Option Addr} {c k : Nat} {l : List Int} (hW : Wd w0 X (glassB bg A c l :: es) w) (hI : ∀ w' es, Wd w0 X es w' → Ints w' (.slice A l.length c) l) (hk : k ≤ 1024) :
    Calls Tryz.prog 37 #[.pointer (some ⟨bg, 0, none⟩), .int .i64 k] w fun e w' => (∃ A1 c1 A2 c2, e = .returned (.slice A1 k c1) ∧ k ≤ l.length ∧ (∀ u, Ints u (.slice A l.length c) l → Ints u (.slice A2 (l.drop k).length c2) (l.drop k)) ∧ Wd w0 X (.res (fun u => Ints u (.slice A1 k c1) (l.take k)) :: glassB bg A2 c2 (l.drop k) :: es) w') ∨ (e = .panicked brk ∧ l.length < k ∧ Wd w0 X es w') := by
  obtain ⟨X', hL, hback⟩ := Own.lendX [_] hW
  refine (take_in hL (fun w' E' h => hI w' _ (hback _ _ h)) hk).mono ?_
  rintro e w' (⟨A1, c1, A2, c2, rfl, h1, h2, hN⟩ | ⟨rfl, h1, hN⟩)
  · exact .inl ⟨A1, c1, A2, c2, rfl, h1, h2, hback _ _ hN⟩
  · exact .inr ⟨rfl, h1, hback _ _ hN⟩
theorem takeList_eq {size : Nat} {l : List Int} (h : 1 ≤ l.length) : takeList size l = if (0 ≤ l.getD 0 0 ∧ l.getD 0 0 ≤ size) ∧ size ≤ (l.drop 1).length ∧ (((l.drop 1).drop (l.getD 0 0).toNat).take (size - (l.getD 0 0).toNat)).all (fun m => m == 0) = true then some ((l.drop 1).take (l.getD 0 0).toNat, (l.drop 1).drop size) else none := by
  cases l with
  | nil => simp at h
  | cons n r =>
    have e1 : (n :: r).getD 0 0 = n := rfl
    have e2 : (n :: r).drop 1 = r := rfl
    rw [e1, e2, ← List.drop_take]
    rfl
theorem takeList_short {size : Nat} {l : List Int} (h : l.length < 1) : takeList size l = none := by
  cases l with
  | nil => rfl
  | cons n r => simp at h
theorem nz_any {m : Int} {w : World} : Calls Tryz.prog 85 #[.int .i64 m] w fun e w' => e = .returned (.bool (decide (m ≠ 0))) ∧ Below w.heap.size w w' := by
  refine enter Tryz.func85 rfl Tryz.ntmps85 rfl fun a hF => ?_
  have hW := Wd.start w NoB
  refine c_sr <| pv hF hW (y_assign hF rfl) fun a hF => l_nil <| t_n <| c_sr <| pv hF hW (y_move hF rfl) fun a hF => pv hF hW (y_neq hF rfl rfl) fun a hF => ?_; refine Fr.splitD hF ?_ ?_
  · intro h1 hF; replace hF := hF.drop 2; refine pv hF hW (y_assign hF rfl) fun a hF => l_nil ?_; replace hF := hF.ks [0, 2] rfl; refine t_n <| wp_ret <| ret1 Tryz.results85 hF (rv_t hF rfl) ?_
    exact ⟨by simp_all, hW.below⟩
  · intro h1 hF; replace hF := hF.drop 2; refine pv hF hW (y_assign hF rfl) fun a hF => l_nil ?_; replace hF := hF.ks [0, 2] rfl; refine t_n <| wp_ret <| ret1 Tryz.results85 hF (rv_t hF rfl) ?_
    exact ⟨by simp_all, hW.below⟩
theorem tellsNz {w : World} {n : Nat} {l : List Int} : Tells w n (fun k => .int .i64 (l.getD k 0)) 85 #[] (fun k => decide (l.getD k 0 ≠ 0)) := fun _ _ _ _ => nz_any
theorem any_nz {l : List Int} {n : Nat} (hn : n = l.length) : ((List.range n).any fun k => decide (l.getD k 0 ≠ 0)) = !l.all (fun m => m == 0) := by
  subst hn
  rw [any_getD 0 (fun m : Int => decide (m ≠ 0)) l, ← any_not]
  congr 1
  funext m
  by_cases h : m = 0 <;> simp [h]
set_option maxHeartbeats 4000000 in
theorem glist_in {w : World} {X : Nat → Prop} {bg : Nat} {A : Option Addr} {c size : Nat} {l : List Int} (hW : Wd w X [glassB bg A c l] w) (hI : ∀ w' es, Wd w X es w' → Ints w' (.slice A l.length c) l) (hs : size ≤ 16) :
    Calls Tryz.prog 38 #[.pointer (some ⟨bg, 0, none⟩), .int .i64 size] w fun e w' => (∃ o r A1 c1 A2 c2, e = .returned (.slice A1 o.length c1) ∧ takeList size l = some (o, r) ∧ (∀ u, Ints u (.slice A l.length c) l → Ints u (.slice A2 r.length c2) r) ∧ Wd w X [.res (fun u => Ints u (.slice A1 o.length c1) o), glassB bg A2 c2 r] w') ∨ (e = .panicked brk ∧ takeList size l = none ∧ Wd w X [] w') := by
  refine enter Tryz.func38 rfl Tryz.ntmps38 rfl fun a hF => c_sr <| pv hF hW (y_assign hF rfl) fun a hF => l_nil <| t_n <| c_sr <| pv hF hW (y_move hF rfl) fun a hF => ?_; refine pe (e_callp hF rfl rfl en_37 (by rfl) rfl rfl (take_call (k := 1) (c := c) (l := l) (hW.front 0 rfl rfl) hI (by omega)) ?_); rintro e w1 (⟨A1, c1, A2, c2, rfl, hk1, hd1, hN⟩ | ⟨rfl, hlt, hN⟩)
  · replace hW := hN; refine .inl ⟨_, rfl, fun a hF => ?_⟩
    have hT := takeList_eq (size := size) hk1
    obtain ⟨n, hn⟩ : ∃ n, l.getD 0 0 = n := ⟨_, rfl⟩
    rw [hn] at hT
    refine pv hF hW (y_indexS hF rfl rfl (by exact Nat.one_pos) Tryz.underlying31 sz_3 (fun w h => (h.res 0 rfl).rf)) fun a hF => pv hF hW (y_loadRow hF rfl (fun w h => (h.res 0 rfl).rf) (by exact Nat.one_pos) rfl Tryz.underlying3 rfl) fun a hF => ?_; replace hF := Fr.cast (v' := .int .i64 n) (by rw [← hn]; cases l <;> rfl) hF; refine pv hF hW (y_assign hF rfl) fun a hF => l_nil ?_; replace hF := hF.ks [0, 1, 4, 5] rfl; refine t_n <| c_s <| c_sr <| pv hF hW (y_move hF rfl) fun a hF => pv hF hW (y_lss hF rfl rfl) fun a hF => ?_; refine Fr.splitD hF ?_ ?_
    · intro h1 hF; refine pv hF hW (y_move hF rfl) fun a hF => pk hF (wn hF rfl rfl rfl) fun a hF => pk hF (wn hF rfl rfl rfl) fun a hF => pk hF (wn hF rfl rfl rfl) fun a hF => pv hF hW (y_pick hF rfl rfl) fun a hF => l_nil ?_; replace hF := hF.ks [0, 1, 4, 5, 17] rfl; refine t_n <| c_t hF rfl <| c_r <| pv hF hW (y_build hF rfl (fun w => bu_FlatD_92_  w)) fun a hF => pv hF hW (y_makeIface hF rfl Tryz.underlying92 (by intro ms h; cases h)) fun a hF => ?_; refine pe (e_panic hF rfl ?_); refine t_p <| endp hF ?_
      exact .inr ⟨rfl, by rw [hT, if_neg fun h => by have := h.1; omega], hW.none_⟩
    · intro h1 hF; refine pv hF hW (y_move hF rfl) fun a hF => pvg hF hW (y_move hF rfl) (ws hF rfl rfl) fun a hF => pvg hF hW (y_move hF rfl) (ws hF rfl rfl) fun a hF => pvg hF hW (y_gtr hF rfl rfl) (ws hF rfl rfl) fun a hF => ?_; refine Fr.splitD hF ?_ ?_
      · intro h2 hF; refine pv hF hW (y_pick hF rfl rfl) fun a hF => l_nil ?_; replace hF := hF.ks [0, 1, 4, 5, 17] rfl; refine t_n <| c_t hF rfl <| c_r <| pv hF hW (y_build hF rfl (fun w => bu_FlatD_92_  w)) fun a hF => pv hF hW (y_makeIface hF rfl Tryz.underlying92 (by intro ms h; cases h)) fun a hF => ?_; refine pe (e_panic hF rfl ?_); refine t_p <| endp hF ?_
        exact .inr ⟨rfl, by rw [hT, if_neg fun h => by have := h.1; omega], hW.none_⟩
      · intro h2 hF; refine pv hF hW (y_pick hF rfl rfl) fun a hF => l_nil ?_; replace hF := hF.ks [0, 1, 4, 5, 17] rfl; refine t_n <| c_f hF rfl <| wp_skip <| t_n ?_
        obtain ⟨m, rfl⟩ := Int.eq_ofNat_of_zero_le (show 0 ≤ n by omega)
        refine c_sr <| pv hF hW (y_move hF rfl) fun a hF => pv hF hW (y_move hF rfl) fun a hF => ?_; refine pe (e_callp hF rfl rfl en_37 (by rfl) rfl rfl (take_call (k := m) (c := c2) (l := l.drop 1) (hW.front 1 rfl rfl) (fun _ _ h => hd1 _ (hI _ _ h)) (by omega)) ?_); rintro e w1 (⟨A3, c3, A4, c4, rfl, hk2, hd2, hN⟩ | ⟨rfl, hlt, hN⟩)
        · replace hW := hN; refine .inl ⟨_, rfl, fun a hF => ?_⟩; refine pv hF hW (y_assign hF rfl) fun a hF => l_nil ?_; replace hF := hF.ks [0, 1, 4, 5, 6, 17] rfl; refine t_n <| c_s <| c_sr <| pv hF hW (y_move hF rfl) fun a hF => pv hF hW (y_move hF rfl) fun a hF => pv hF hW (y_move hF rfl) fun a hF => pv hF hW (y_sub hF rfl rfl (IntWalk.i64_in _ (by omega))) fun a hF => ?_; replace hF := Fr.cast (v' := .int .i64 ((size - m : Nat) : Int)) (by congr 1; omega) hF; refine pe (e_callp hF rfl rfl en_37 (by rfl) rfl rfl (take_call (k := size - m) (c := c4) (l := (l.drop 1).drop m) (hW.front 1 rfl rfl) (fun _ _ h => hd2 _ (hd1 _ (hI _ _ h))) (by omega)) ?_); rintro e w1 (⟨A5, c5, A6, c6, rfl, hk3, hd3, hN⟩ | ⟨rfl, hlt, hN⟩)
          · replace hW := hN; refine .inl ⟨_, rfl, fun a hF => ?_⟩; refine pe (e_call hF rfl rfl en_84 (by rfl) rfl rfl (has_int (c := c5) (by unfold maxLen; omega) (hW.res 0 rfl).rf en_85 tellsNz) ?_); rintro e w1 ⟨rfl, hb⟩; replace hW := hW.kept hb; clear hb; refine ⟨_, rfl, fun a hF => ?_⟩; refine Fr.splitB hF ?_ ?_
            · intro h3 hF; refine l_nil ?_; replace hF := hF.ks [0, 1, 4, 5, 6, 17, 28] rfl; refine t_n <| c_t hF rfl <| c_r <| pv hF hW (y_build hF rfl (fun w => bu_FlatD_92_  w)) fun a hF => pv hF hW (y_makeIface hF rfl Tryz.underlying92 (by intro ms h; cases h)) fun a hF => ?_; refine pe (e_panic hF rfl ?_); refine t_p <| endp hF ?_
              have ha := any_nz (l := ((l.drop 1).drop m).take (size - m)) (n := size - m) (by rw [List.length_take]; omega)
              rw [Int.toNat_natCast] at hT
              exact .inr ⟨rfl, by rw [hT, if_neg fun h => by rw [h.2.2, ‹(List.any _ _) = true›] at ha; cases ha], hW.none_⟩
            · intro h3 hF; refine l_nil ?_; replace hF := hF.ks [0, 1, 4, 5, 6, 17, 28] rfl; refine t_n <| c_f hF rfl <| wp_skip <| t_n <| c_sr <| pv hF hW (y_move hF rfl) fun a hF => ?_; replace hF := hF.drop 4; refine pv hF hW (y_assign hF rfl) fun a hF => l_nil ?_; replace hF := hF.ks [0, 1, 4, 5, 6, 17, 28] rfl; refine t_n <| wp_ret <| ret1 Tryz.results38 hF (rv_t hF rfl) ?_; replace hW := hW.del 0 rfl; replace hW := hW.del 2 rfl; replace hW := hW.front 1 rfl rfl
              have ha := any_nz (l := ((l.drop 1).drop m).take (size - m)) (n := size - m) (by rw [List.length_take]; omega)
              rw [‹(List.any _ _) = false›] at ha
              rw [Int.toNat_natCast] at hT
              have e1 : ((l.drop 1).take m).length = m := (by rw [List.length_take]; omega)
              have e2 : ((l.drop 1).drop m).drop (size - m) = (l.drop 1).drop size := (by rw [List.drop_drop]; congr 1; omega)
              rw [e2] at hW hd3
              rw [List.length_drop] at hk3
              exact .inl ⟨(l.drop 1).take m, (l.drop 1).drop size, A3, c3, A6, c6, by rw [e1], by rw [hT, if_pos ⟨⟨by omega, by omega⟩, by omega, by simpa using ha.symm⟩], fun u h => hd3 u (hd2 u (hd1 u h)), by rw [e1]; exact hW⟩
          · replace hW := hN; refine .inr ⟨_, rfl, ?_⟩; refine t_p <| t_p <| endp hF ?_
            rw [List.length_drop] at hlt
            exact .inr ⟨rfl, by rw [hT, if_neg fun h => by have := h.2.1; omega], hW.none_⟩
        · replace hW := hN; refine .inr ⟨_, rfl, ?_⟩; refine t_p <| endp hF ?_
          exact .inr ⟨rfl, by rw [hT, if_neg fun h => by have := h.2.1; omega], hW.none_⟩
  · replace hW := hN; refine .inr ⟨_, rfl, ?_⟩; refine t_p <| endp hF ?_
    exact .inr ⟨rfl, takeList_short hlt, hW.none_⟩
theorem glist_call {w0 w : World} {X : Nat → Prop} {es : List Asn} {bg : Nat} {A : Option Addr} {c size : Nat} {l : List Int} (hW : Wd w0 X (glassB bg A c l :: es) w) (hI : ∀ w' es, Wd w0 X es w' → Ints w' (.slice A l.length c) l) (hs : size ≤ 16) :
    Calls Tryz.prog 38 #[.pointer (some ⟨bg, 0, none⟩), .int .i64 size] w fun e w' => (∃ o r A1 c1 A2 c2, e = .returned (.slice A1 o.length c1) ∧ takeList size l = some (o, r) ∧ (∀ u, Ints u (.slice A l.length c) l → Ints u (.slice A2 r.length c2) r) ∧ Wd w0 X (.res (fun u => Ints u (.slice A1 o.length c1) o) :: glassB bg A2 c2 r :: es) w') ∨ (e = .panicked brk ∧ takeList size l = none ∧ Wd w0 X es w') := by
  obtain ⟨X', hL, hback⟩ := Own.lendX [_] hW
  refine (glist_in hL (fun w' E' h => hI w' _ (hback _ _ h)) hs).mono ?_
  rintro e w' (⟨o, r, A1, c1, A2, c2, rfl, h1, h2, hN⟩ | ⟨rfl, h1, hN⟩)
  · exact .inl ⟨o, r, A1, c1, A2, c2, rfl, h1, h2, hback _ _ hN⟩
  · exact .inr ⟨rfl, h1, hback _ _ hN⟩
end Go.Proofs.YtnpflhaggfabnaaGreat
