/- slices.Repeat of one bool. -/
import Derived.Test.YtnpflhaggfabnaaGreatEngC
import Derived.Test.YtnpflhaggfabnaaGreatEngU
import Derived.Test.YtnpflhaggfabnaaGreatTys
import Derived.Test.YtnpflhaggfabnaaGreatFlowB
import Derived.Shelf.Bits.Mul64
namespace Go.Proofs.YtnpflhaggfabnaaGreat
set_option linter.unusedVariables false
set_option linter.unusedSimpArgs false
open Go.ChangeShapes Go.WideShapes Go.ChangeAt Go.RowKit
namespace Rep
theorem ck_139_3 (n : Int) (h : -9223372036854775808 ≤ n ∧ n ≤ 9223372036854775807) (w : World) : (convert 139 3 (.int .u64 n)).run Tryz.prog w = .ok (.int .i64 n) w := by
  have := IntWalk.i64_in n h
  simp [convert, run_underlying Tryz.underlying139, run_underlying Tryz.underlying3, Conv.intToInt, this]
theorem ck_3_139 (n : Int) (h : 0 ≤ n ∧ n ≤ 18446744073709551615) (w : World) : (convert 3 139 (.int .i64 n)).run Tryz.prog w = .ok (.int .u64 n) w := by
  have := IntWalk.u64_in n h
  simp [convert, run_underlying Tryz.underlying3, run_underlying Tryz.underlying139, Conv.intToInt, this]
set_option maxRecDepth 100000
def lays212_ren : Go.Shelf.Ren := ⟨fun | 212 => 89 | 263 => 112 | 264 => 113 | n => n, fun | 46 => 139 | 51 => 168 | 53 => 171 | 146 => 169 | 148 => 172 | n => n, fun n => n⟩
theorem lays212 : Go.Proofs.Lays.n212 Tryz.prog lays212_ren := {
  mixed := by kernel_rfl,
  f212 := Tryz.func89.trans (congrArg some (by kernel_rfl)),
  f263 := Tryz.func112.trans (congrArg some (by kernel_rfl)),
  f264 := Tryz.func113.trans (congrArg some (by kernel_rfl)),
  t46 := Tryz.underlying139,
  a46 := Tryz.isAgg139,
  z46 := Tryz.sizeOf139,
  v46 := Tryz.zeroValue139,
  t51 := Tryz.underlying168,
  a51 := Tryz.isAgg168,
  z51 := Tryz.sizeOf168,
  v51 := Tryz.zeroValue168,
  t53 := Tryz.underlying171,
  a53 := Tryz.isAgg171,
  z53 := Tryz.sizeOf171,
  v53 := Tryz.zeroValue171,
  t146 := Tryz.underlying169,
  a146 := Tryz.isAgg169,
  z146 := Tryz.sizeOf169,
  v146 := Tryz.zeroValue169,
  t148 := Tryz.underlying172,
  a148 := Tryz.isAgg172,
  z148 := Tryz.sizeOf172,
  v148 := Tryz.zeroValue172 }

section
variable {P : Program} {w0 w : World} {X : Nat → Prop} {es : List Asn} {a : Act} {ds : List Deferred} {N : Nat} {env : List (Nat × Value)} {ty : TypeId} {ps : String} {af : Array Edge} {gd : Option (Nat × Bool)} {K : Act → World → Prop} {Q : Exit → Act → World → Prop} {d : Tmp} {t t' : TypeId} {x y : Operand}
theorem e_copyG {b o n n2 m c : Nat} {A : Option Addr} {ad : Addr} {T T0 : TypeId} {l cs l' : List Value} {r : Nat} (hF : Fr ds N env a) (hW : Wd w0 X es w) (hx : ev env x = some (.slice (some ⟨b, o, none⟩) n n2)) (hy : ev env y = some (.slice A m c)) (i : Nat) (hi : es[i]? = some (.blk b T l))
    (ht : P.underlying t = some (.slice T0)) (hs : (P.info? T0).map (·.size) = some 1) (hA : A = some ad) (hc : ∀ j v, cs[j]? = some v → w.cell? (ad.add j) = some v) (hn : cs.length = Nat.min m n) (hr : cs.length = r) (ho : o + r ≤ l.length) (h1 : ∀ u ∈ cs, u.oneCell' = true) (hl' : splice l o cs = l') (hd : Nat.blt d N = true) (hf : fresh env d = true)
    (k : ∀ a w, Fr ds N ((d, .int .i64 r) :: env) a → Wd w0 X (es.set i (.blk b T l')) w → K a w) : (⟨some d, .call ⟨.builtin .copy, #[x, y], #[t, t']⟩, ty, ps, af, gd⟩ : Oper).wp P a w K Q := by
  subst hA hl' hr
  have hB := hW.blk i hi
  have hst := setCells_blk cs w l o hB
  have hrun := run_copy_cells (P := P) w t t' ty T0 b o n n2 ad m c cs ht hs hn hc (fun j hj => by
      have := hB.cell (o + j)
      rw [this, List.getElem?_eq_getElem (by omega)]
      rfl) (fun j _ => hB.frozen _) h1
  unfold Oper.wp
  simp [execOp, resolve, invoke, builtin, hF.ev hx, hF.ev hy, hrun, Result.andThen]
  refine k _ _ ?_ (hW.only i hi hst.2 hst.1)
  have := hF.put (.int .i64 cs.length) hd hf
  simpa [goInt] using this
end
theorem bitsMul_any (n : Nat) (hn : n ≤ 1000) (w : World) : Calls Tryz.prog 89 #[.int .u64 ((1 : Nat) : Int), .int .u64 (n : Int)] w fun e w' => e = .returned (.tuple #[.int .u64 0, .int .u64 (n : Int)]) ∧ Below w.heap.size w w' :=
  (Any.bits_Mul { lays212 with } 1 n (by omega) (by omega) w).mono fun e w' ⟨h, hw⟩ => by
    have e1 : 1 * n / 18446744073709551616 = 0 := by omega
    have e2 : 1 * n % 18446744073709551616 = n := by omega
    rw [e1, e2] at h
    exact ⟨h, hw ▸ Below.refl _ _⟩
def reps (n m : Nat) (b : Bool) : List Value := List.replicate m (.bool b) ++ List.replicate (n - m) (.bool false)
theorem reps_len {n m : Nat} {b : Bool} (h : m ≤ n) : (reps n m b).length = n := by simp [reps]; omega
theorem reps_one {n m : Nat} {b : Bool} : ∀ u ∈ reps n m b, u.oneCell' = true := by
  intro u hu
  rcases List.mem_append.1 hu with h | h <;> (rw [(List.mem_replicate.1 h).2]; rfl)
theorem reps_zero (n : Nat) (b : Bool) : (List.replicate n (Value.bool false).cells.toList).flatten = reps n 0 b := by
  unfold reps
  rw [List.replicate_zero, List.nil_append, Nat.sub_zero]
  induction n with
  | zero => rfl
  | succ n ih => rw [List.replicate_succ, List.flatten_cons, ih]; rfl
theorem reps_more {n m k : Nat} {b : Bool} (h : m + k ≤ n) : splice (reps n m b) m (List.replicate k (.bool b)) = reps n (m + k) b := by
  apply List.ext_getElem?
  intro j
  rw [splice_eq _ _ _ (by rw [reps_len (by omega)]; simp; omega)]
  simp only [reps, List.getElem?_append, List.getElem?_take, List.getElem?_drop, List.length_take, List.length_append, List.length_replicate, List.getElem?_replicate]
  repeat' split
  all_goals first | rfl | omega
theorem reps_take {n m k : Nat} {b : Bool} (h : k ≤ m) : (reps n m b).take k = List.replicate k (.bool b) := by
  unfold reps
  rw [List.take_append_of_le_length (by simpa using h), List.take_replicate, Nat.min_eq_left h]
set_option maxHeartbeats 4000000 in
theorem repeat_any {w : World} {A : Option Addr} {c n : Nat} {bb : Bool} (hr : RowAt w 1 A 1 [.bool bb]) (h0 : 0 < n) (hn : n ≤ 1000) :
    Calls Tryz.prog 49 #[.slice A 1 c, .int .i64 n] w fun e w' => ∃ g, e = .returned (.slice (some ⟨g, 0, none⟩) n n) ∧ Wd w NoB [.blk g 4 (List.replicate n (.bool bb))] w' := by
  obtain ⟨ad, rfl, hcell⟩ := hr.2 (by omega)
  have hcc := fun w1 (hb : Below w.heap.size w w1) j v (h : [Value.bool bb][j]? = some v) => cell_below hb (hcell j v h)
  have hmul := bitsMul_any n hn
  refine enter Tryz.func49 rfl Tryz.ntmps49 rfl fun a hF => ?_
  have hW := Wd.start w NoB
  refine c_sr <| pv hF hW (y_assign hF rfl) fun a hF => l_nil <| t_n <| c_s <| c_sr <| pv hF hW (y_move hF rfl) fun a hF => pv hF hW (y_lss hF rfl rfl) fun a hF => ?_; refine Fr.splitD hF ?_ ?_
  · intro h1 hF; exfalso
    omega
  · intro h1 hF; refine l_nil ?_; replace hF := hF.ks [0, 1, 4, 10] rfl; refine t_n <| c_f hF rfl <| wp_skip <| t_n <| c_sr <| pv hF hW (y_move hF rfl) fun a hF => pv hF hW (y_len hF rfl Tryz.underlying46) fun a hF => pv hF hW (y_convert hF rfl (ck_3_139 _ (by omega))) fun a hF => pv hF hW (y_move hF rfl) fun a hF => pv hF hW (y_convert hF rfl (ck_3_139 _ (by omega))) fun a hF => ?_; refine pe (e_call hF rfl rfl en_89 (by rfl) rfl rfl (hmul _) ?_); rintro e w1 ⟨rfl, hb⟩; replace hW := hW.kept hb; clear hb; refine ⟨_, rfl, fun a hF => ?_⟩; refine pv hF hW (y_move hF rfl) fun a hF => pv hF hW (y_extract hF rfl rfl) fun a hF => pv hF hW (y_extract hF rfl rfl) fun a hF => pv hF hW (y_assign hF rfl) fun a hF => pv hF hW (y_assign hF rfl) fun a hF => l_nil ?_; replace hF := hF.ks [0, 1, 4, 5, 6, 10] rfl; refine t_n <| c_s <| c_sr <| pv hF hW (y_move hF rfl) fun a hF => pv hF hW (y_gtr hF rfl rfl) fun a hF => ?_; replace hF := hF.ff; refine pv hF hW (y_move hF rfl) fun a hF => ?_; replace hF := hF.ff; refine pvg hF hW (y_move hF rfl) (ws hF rfl rfl) fun a hF => pvg hF hW (y_gtr hF rfl rfl) (ws hF rfl rfl) fun a hF => ?_; refine Fr.splitD hF ?_ ?_
    · intro h2 hF; exfalso
      omega
    · intro h2 hF; refine pv hF hW (y_pick hF rfl rfl) fun a hF => l_nil ?_; replace hF := hF.ks [0, 1, 4, 5, 6, 10, 26] rfl; refine t_n <| c_f hF rfl <| wp_skip <| t_n <| c_sr <| pv hF hW (y_move hF rfl) fun a hF => pv hF hW (y_convert hF rfl (ck_139_3 _ (by omega))) fun a hF => ?_; refine pe (e_makeSlice hF hW rfl rfl Tryz.underlying46 inf_4 rfl rfl (by omega) (by unfold maxLen; omega) rfl rfl ?_); intro b3 a wc hF hW; refine pv hF hW (y_assign hF rfl) fun a hF => l_nil ?_; replace hF := hF.ks [0, 1, 4, 5, 6, 7, 10, 26] rfl; refine t_n ?_
      rw [reps_zero n bb] at hW
      refine c_sr <| pv hF hW (y_move hF rfl) fun a hF => pv hF hW (y_move hF rfl) fun a hF => ?_; refine pe (e_copyG hF hW rfl rfl 0 rfl Tryz.underlying46 sz_4 rfl (hcc _ hW.below) (by show 1 = Nat.min 1 n; exact (Nat.min_eq_left (by omega)).symm) rfl (by rw [reps_len (by omega)]; simp; omega) (by simp [Value.oneCell']) (reps_more (k := 1) (by omega)) rfl rfl ?_); intro a wc hF hW; refine pv hF hW (y_assign hF rfl) fun a hF => l_nil ?_; replace hF := hF.ks [0, 1, 4, 5, 6, 7, 8, 10, 26] rfl; refine t_n <| c_s <| wp_block ?_; refine c_loop (G := Nat) (fun m : Nat => [(8, .int .i64 (m : Int))]) (fun m : Nat => [.blk b3 4 (reps n m bb)]) (fun m : Nat => 0 < m ∧ m ≤ n) (fun m : Nat => n - m) 1 (hF.ks [0, 1, 4, 5, 6, 7, 10, 26] rfl) (Fr.cons hF (t := 8) rfl (by first | rfl | (simp; done)) (Fr.nil hF)) (hW) ?_ ?_
      · exact ⟨by omega, by omega⟩
      clear hF hW
      try clear a
      intro m a wc hC hF hW
      obtain ⟨hm0, hmn⟩ := hC
      refine c_s <| c_sr <| pv hF hW (y_move hF rfl) fun a hF => pv hF hW (y_move hF rfl) fun a hF => pv hF hW (y_len hF rfl Tryz.underlying46) fun a hF => pv hF hW (y_lss hF rfl rfl) fun a hF => ?_; refine Fr.splitD hF ?_ ?_
      · intro h4 hF; refine l_nil ?_; replace hF := hF.ks [0, 1, 4, 5, 6, 7, 8, 10, 26, 37] rfl; refine t_n <| c_t hF rfl <| wp_skip <| t_n <| wp_block ?_
        obtain ⟨k, hk⟩ : ∃ k, k = Nat.min m (n - m) := ⟨_, rfl⟩
        have hk1 : k ≤ m := (by rw [hk]; exact Nat.min_le_left _ _)
        have hk2 : k ≤ n - m := (by rw [hk]; exact Nat.min_le_right _ _)
        have hk3 : 0 < k := (by rw [hk]; exact Nat.lt_min.2 ⟨by omega, by omega⟩)
        refine c_d mixed_ok hW ((hW.del 0 rfl)) ?_
        clear hW; intro wc hW hS
        refine dv 0 rfl hF hS (y_move hF rfl) fun a hF => dv 1 rfl hF hS (y_move hF rfl) fun a hF => dv 2 rfl hF hS (y_move hF rfl) fun a hF => dv 3 rfl hF hS (y_sliceL hF rfl rfl (by omega) Tryz.underlying46 sz_4) fun a hF => ?_; replace hF := Fr.cast (v' := .slice (some ⟨b3, m, none⟩) (n - m) (n - m)) (by rw [if_neg (by omega), Nat.mul_one, Option.map_some, add_own, Nat.zero_add]) hF; refine dv 4 rfl hF hS (y_move hF rfl) fun a hF => dv 5 rfl hF hS (y_move hF rfl) fun a hF => dv 6 rfl hF hS (y_sliceH hF rfl rfl (by omega) Tryz.underlying46 sz_4) fun a hF => d_1 7 (by kernel_rfl) ?_; refine d_op rfl rfl (e_copyG (cs := List.replicate k (.bool bb)) hF hW rfl rfl 0 rfl Tryz.underlying46 sz_4 rfl (fun j v h => by have := (hW.blk 0 rfl).cell (0 + j); rw [add_own, this]; rw [← reps_take (n := n) hk1, List.getElem?_take] at h; split at h; simpa using h; cases h) (by rw [List.length_replicate]; exact hk) (List.length_replicate) (by rw [reps_len (by omega)]; omega) (fun u hu => by rw [(List.mem_replicate.1 hu).2]; rfl) (reps_more (by omega)) rfl rfl ?_); intro a wc hF hW; replace hS := (hW.del 0 rfl); refine ⟨hS, ?_⟩; refine dv 8 rfl hF hS (y_add hF rfl rfl (IntWalk.i64_in _ (by omega))) fun a hF => ?_; replace hF := hF.drop 8; refine dv 9 rfl hF hS (y_assign hF rfl) fun a hF => ?_; clear hS; refine d_nil (by kernel_rfl) ?_; replace hF := hF.ks [0, 1, 4, 5, 6, 7, 8, 10, 26, 37] rfl; refine b_n <| t_n ?_; refine ⟨m + k, ?_, ?_, ?_, ?_⟩
        · exact ⟨by omega, by omega⟩
        · first | omega | (dsimp only; omega)
        · exact Fr.app (Fr.cons hF (t := 8) rfl (by first | rfl | (simp; done) | omega) (Fr.nil hF)) (hF.ks [0, 1, 4, 5, 6, 7, 10, 26] rfl)
        · exact hW
      · intro h4 hF; refine l_nil ?_; replace hF := hF.ks [0, 1, 4, 5, 6, 7, 8, 10, 26, 37] rfl; refine t_n <| c_f hF rfl <| wp_exit <| t_x <| t_x <| b_h <| t_n <| c_sr <| pv hF hW (y_move hF rfl) fun a hF => ?_; replace hF := hF.drop 4; refine pv hF hW (y_assign hF rfl) fun a hF => l_nil ?_; replace hF := hF.ks [0, 1, 4, 5, 6, 7, 8, 10, 26, 37] rfl; refine t_n <| wp_ret <| ret1 Tryz.results49 hF (rv_t hF rfl) ?_
        rw [show m = n by omega] at hW
        refine ⟨_, rfl, ?_⟩
        have e : reps n n bb = List.replicate n (.bool bb) := (by simp [reps])
        rw [← e]
        exact hW
end Rep
end Go.Proofs.YtnpflhaggfabnaaGreat
