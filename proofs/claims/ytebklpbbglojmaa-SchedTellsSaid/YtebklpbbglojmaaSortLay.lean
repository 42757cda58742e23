/- The library's Sort at []int over this program: the shelf's contract, laid; and over a row of the call's own. -/
import Derived.Shelf.Sort.Plain
import Derived.Sort.OwnSortedInts
import Derived.Test.YtebklpbbglojmaaEngT
import Derived.Test.YtebklpbbglojmaaTys
namespace Go.Proofs.Ytebklpbbglojmaa
set_option linter.unusedVariables false
set_option linter.unusedSimpArgs false
open Go.ChangeShapes Go.WideShapes Go.ChangeAt Go.RowKit Go.Sort
theorem ck_3_152 (n : Int) (h : 0 ≤ n ∧ n ≤ 18446744073709551615) (w : World) : (convert 3 152 (.int .i64 n)).run Try.prog w = .ok (.int .u64 n) w := by
  have := IntWalk.u64_in n h
  simp [convert, run_underlying Try.underlying3, run_underlying Try.underlying152, Conv.intToInt, this]
set_option maxRecDepth 100000
def lays189_ren : Go.Shelf.Ren := ⟨fun | 125 => 109 | 128 => 119 | 129 => 120 | 189 => 104 | 215 => 126 | 216 => 116 | 257 => 108 | 294 => 110 | 295 => 111 | 296 => 112 | 297 => 113 | 298 => 114 | 299 => 115 | 300 => 117 | 301 => 118 | 328 => 121 | 329 => 122 | 330 => 123 | 331 => 124 | 332 => 125 | 343 => 127 | n => n, fun | 0 => 0 | 3 => 3 | 4 => 4 | 5 => 5 | 9 => 9 | 28 => 22 | 46 => 152 | 51 => 162 | 53 => 164 | 131 => 86 | 182 => 154 | 183 => 155 | 218 => 165 | 222 => 135 | 228 => 170 | 229 => 171 | n => n, fun n => n⟩
theorem lays189 : Go.Proofs.Lays.n189 Try.prog lays189_ren := {
  mixed := by kernel_rfl,
  f125 := Try.func109.trans (congrArg some (by kernel_rfl)),
  f128 := Try.func119.trans (congrArg some (by kernel_rfl)),
  f129 := Try.func120.trans (congrArg some (by kernel_rfl)),
  f189 := Try.func104.trans (congrArg some (by kernel_rfl)),
  f215 := Try.func126.trans (congrArg some (by kernel_rfl)),
  f216 := Try.func116.trans (congrArg some (by kernel_rfl)),
  f257 := Try.func108.trans (congrArg some (by kernel_rfl)),
  f294 := Try.func110.trans (congrArg some (by kernel_rfl)),
  f295 := Try.func111.trans (congrArg some (by kernel_rfl)),
  f296 := Try.func112.trans (congrArg some (by kernel_rfl)),
  f297 := Try.func113.trans (congrArg some (by kernel_rfl)),
  f298 := Try.func114.trans (congrArg some (by kernel_rfl)),
  f299 := Try.func115.trans (congrArg some (by kernel_rfl)),
  f300 := Try.func117.trans (congrArg some (by kernel_rfl)),
  f301 := Try.func118.trans (congrArg some (by kernel_rfl)),
  f328 := Try.func121.trans (congrArg some (by kernel_rfl)),
  f329 := Try.func122.trans (congrArg some (by kernel_rfl)),
  f330 := Try.func123.trans (congrArg some (by kernel_rfl)),
  f331 := Try.func124.trans (congrArg some (by kernel_rfl)),
  f332 := Try.func125.trans (congrArg some (by kernel_rfl)),
  f343 := Try.func127.trans (congrArg some (by kernel_rfl)),
  t0 := Try.underlying0,
  a0 := Try.isAgg0,
  z0 := Try.sizeOf0,
  v0 := Try.zeroValue0,
  t3 := Try.underlying3,
  a3 := Try.isAgg3,
  z3 := Try.sizeOf3,
  v3 := Try.zeroValue3,
  t4 := Try.underlying4,
  a4 := Try.isAgg4,
  z4 := Try.sizeOf4,
  v4 := Try.zeroValue4,
  t5 := Try.underlying5,
  a5 := Try.isAgg5,
  z5 := Try.sizeOf5,
  v5 := Try.zeroValue5,
  t9 := Try.underlying9,
  a9 := Try.isAgg9,
  z9 := Try.sizeOf9,
  v9 := Try.zeroValue9,
  t28 := Try.underlying22,
  a28 := Try.isAgg22,
  z28 := Try.sizeOf22,
  v28 := Try.zeroValue22,
  t46 := Try.underlying152,
  a46 := Try.isAgg152,
  z46 := Try.sizeOf152,
  v46 := Try.zeroValue152,
  t51 := Try.underlying162,
  a51 := Try.isAgg162,
  z51 := Try.sizeOf162,
  v51 := Try.zeroValue162,
  t53 := Try.underlying164,
  a53 := Try.isAgg164,
  z53 := Try.sizeOf164,
  v53 := Try.zeroValue164,
  t131 := Try.underlying86,
  a131 := Try.isAgg86,
  z131 := Try.sizeOf86,
  v131 := Try.zeroValue86,
  t182 := Try.underlying154,
  a182 := Try.isAgg154,
  z182 := Try.sizeOf154,
  v182 := Try.zeroValue154,
  t183 := Try.underlying155,
  a183 := Try.isAgg155,
  z183 := Try.sizeOf155,
  v183 := Try.zeroValue155,
  t218 := Try.underlying165,
  a218 := Try.isAgg165,
  z218 := Try.sizeOf165,
  v218 := Try.zeroValue165,
  t222 := Try.underlying135,
  a222 := Try.isAgg135,
  z222 := Try.sizeOf135,
  v222 := Try.zeroValue135,
  t228 := Try.underlying170,
  a228 := Try.isAgg170,
  z228 := Try.sizeOf170,
  v228 := Try.zeroValue170,
  t229 := Try.underlying171,
  a229 := Try.isAgg171,
  z229 := Try.sizeOf171,
  v229 := Try.zeroValue171 }
theorem bitsLen_any (x : Int) (w : World) (h0 : 0 ≤ x) (h1 : x ≤ 18446744073709551615) : Calls Try.prog 109 #[.int .u64 x] w fun e w' => (∃ m : Nat, e = .returned (.int .i64 (m : Int))) ∧ Below w.heap.size w w' :=
  (calls_of_every_depth fun D => AnyS.bits_LenIn { lays189 with } D x w h0 h1).mono fun e w' ⟨h, hw⟩ => ⟨⟨_, h⟩, hw ▸ Below.refl _ _⟩
theorem insort_nil {A : Option Addr} {n c : Nat} {w : World} :
    Calls Try.prog 110 #[.slice A n c, .int .i64 0, .int .i64 0] w fun e w' => e = .returned (.tuple #[]) ∧ Below w.heap.size w w' := by
  refine enter Try.func110 rfl Try.ntmps110 rfl (fun a hF => ?_)
  have hW := Wd.start w NoB
  refine c_sr ?_
  refine pv hF hW (y_move hF rfl) (fun a hF => ?_)
  refine pv hF hW (y_add hF rfl rfl (IntWalk.i64_in _ (by omega))) (fun a hF => ?_)
  refine pv hF hW (y_assign hF rfl) (fun a hF => ?_)
  refine l_nil ?_
  replace hF := (hF.k 0 rfl (hF.k 1 rfl (hF.k 2 rfl (hF.k 6 rfl hF.nil))))
  refine t_n ?_
  refine wp_block ?_
  refine c_loop (G := Nat) (fun k : Nat => [(6, .int .i64 1)]) (fun k : Nat => []) (fun k : Nat => True) (fun k : Nat => 0) 0 (Fr.cons hF (t := 0) rfl rfl (Fr.cons hF (t := 1) rfl rfl (Fr.cons hF (t := 2) rfl rfl (Fr.nil hF)))) (Fr.cons hF (t := 6) rfl (by first | rfl | (simp; done)) (Fr.nil hF)) (hW) ?_ ?_
  · simp
  clear hF hW
  try clear a
  intro k a wc hC hF hW
  refine c_s ?_
  refine c_sr ?_
  refine pv hF hW (y_move hF rfl) (fun a hF => ?_)
  refine pv hF hW (y_move hF rfl) (fun a hF => ?_)
  refine pv hF hW (y_lss hF rfl rfl) (fun a hF => ?_)
  replace hF := Fr.bool (t := false) (by first | decide | (simp; done) | rfl) hF
  refine l_nil ?_
  replace hF := (hF.k 0 rfl (hF.k 1 rfl (hF.k 2 rfl (hF.k 6 rfl (hF.k 12 rfl hF.nil)))))
  refine t_n ?_
  refine c_f hF rfl ?_
  refine wp_exit ?_
  refine t_x ?_
  refine t_x ?_
  refine b_h ?_
  refine end0 Try.results110 hF ?_
  exact ⟨rfl, hW.below⟩
theorem pdq_nil {A : Option Addr} {n c : Nat} {m : Int} {w : World} :
    Calls Try.prog 108 #[.slice A n c, .int .i64 0, .int .i64 0, .int .i64 m] w fun e w' => e = .returned (.tuple #[]) ∧ Below w.heap.size w w' := by
  refine enter Try.func108 rfl Try.ntmps108 rfl (fun a hF => ?_)
  have hW := Wd.start w NoB
  refine c_sr ?_
  refine pv hF hW (y_assign hF rfl) (fun a hF => ?_)
  refine l_nil ?_
  refine t_n ?_
  refine c_sr ?_
  refine pv hF hW (y_assign hF rfl) (fun a hF => ?_)
  refine l_nil ?_
  refine t_n ?_
  refine wp_block ?_
  refine c_loop (G := Nat) (fun k : Nat => [(1, .int .i64 0), (2, .int .i64 0), (3, .int .i64 m)]) (fun k : Nat => []) (fun k : Nat => True) (fun k : Nat => 0) 0 (Fr.cons hF (t := 0) rfl rfl (Fr.nil hF)) (Fr.cons hF (t := 1) rfl (by first | rfl | (simp; done)) (Fr.cons hF (t := 2) rfl (by first | rfl | (simp; done)) (Fr.cons hF (t := 3) rfl (by first | rfl | (simp; done)) (Fr.nil hF)))) (hW) ?_ ?_
  · simp
  clear hF hW
  try clear a
  intro k a wc hC hF hW
  refine wp_block ?_
  refine c_sr ?_
  refine pv hF hW (y_move hF rfl) (fun a hF => ?_)
  refine pv hF hW (y_move hF rfl) (fun a hF => ?_)
  refine pv hF hW (y_sub hF rfl rfl (IntWalk.i64_in _ (by omega))) (fun a hF => ?_)
  refine pv hF hW (y_assign hF rfl) (fun a hF => ?_)
  refine l_nil ?_
  replace hF := (hF.k 0 rfl (hF.k 1 rfl (hF.k 2 rfl (hF.k 3 rfl (hF.k 10 rfl hF.nil)))))
  refine t_n ?_
  refine c_s ?_
  refine c_sr ?_
  refine pv hF hW (y_move hF rfl) (fun a hF => ?_)
  refine pv hF hW (y_leq hF rfl rfl) (fun a hF => ?_)
  refine Fr.splitD hF ?_ ?_
  · intro h1 hF
    refine l_nil ?_
    replace hF := (hF.k 0 rfl (hF.k 1 rfl (hF.k 2 rfl (hF.k 3 rfl (hF.k 10 rfl (hF.k 23 rfl hF.nil))))))
    refine t_n ?_
    refine c_t hF rfl ?_
    refine c_sr ?_
    refine pv hF hW (y_move hF rfl) (fun a hF => ?_)
    refine pv hF hW (y_move hF rfl) (fun a hF => ?_)
    refine pv hF hW (y_move hF rfl) (fun a hF => ?_)
    refine pe (e_call hF rfl rfl en_110 (by rfl) rfl rfl (insort_nil) ?_)
    rintro e w1 ⟨rfl, hb⟩
    replace hW := hW.kept hb
    clear hb
    refine ⟨_, rfl, fun a hF => ?_⟩
    refine l_nil ?_
    replace hF := (hF.k 0 rfl (hF.k 1 rfl (hF.k 2 rfl (hF.k 3 rfl (hF.k 10 rfl (hF.k 23 rfl hF.nil))))))
    refine t_n ?_
    refine wp_ret ?_
    refine t_r ?_
    refine b_r ?_
    refine t_r ?_
    refine b_r ?_
    refine ret0 Try.results108 hF  ?_
    exact ⟨rfl, hW.below⟩
  · intro h1 hF
    exfalso
    exact absurd (by decide : (0 : Int) - 0 ≤ 12) h1
theorem sort_nil {A : Option Addr} {c : Nat} {w : World} :
    Calls Try.prog 104 #[.slice A 0 c] w fun e w' => e = .returned (.tuple #[]) ∧ Below w.heap.size w w' := by
  refine enter Try.func104 rfl Try.ntmps104 rfl (fun a hF => ?_)
  have hW := Wd.start w NoB
  refine c_sr ?_
  refine pv hF hW (y_move hF rfl) (fun a hF => ?_)
  refine pv hF hW (y_len hF rfl Try.underlying22) (fun a hF => ?_)
  refine pv hF hW (y_assign hF rfl) (fun a hF => ?_)
  refine l_nil ?_
  replace hF := (hF.k 0 rfl (hF.k 2 rfl hF.nil))
  refine t_n ?_
  refine c_r ?_
  refine pv hF hW (y_move hF rfl) (fun a hF => ?_)
  refine pv hF hW (y_move hF rfl) (fun a hF => ?_)
  refine pv hF hW (y_move hF rfl) (fun a hF => ?_)
  refine pv hF hW (y_convert hF rfl (ck_3_152 _ (by omega))) (fun a hF => ?_)
  refine pe (e_call hF rfl rfl en_109 (by rfl) rfl rfl (bitsLen_any _ _ (by omega) (by omega)) ?_)
  rintro e w1 ⟨⟨m, rfl⟩, hb⟩
  replace hW := hW.kept hb
  clear hb
  refine ⟨_, rfl, fun a hF => ?_⟩
  refine pe (e_call hF rfl rfl en_108 (by rfl) rfl rfl (pdq_nil) ?_)
  rintro e w1 ⟨rfl, hb⟩
  replace hW := hW.kept hb
  clear hb
  refine ⟨_, rfl, fun a hF => ?_⟩
  refine l_nil ?_
  replace hF := (hF.k 0 rfl (hF.k 2 rfl hF.nil))
  refine end0 Try.results104 hF ?_
  exact ⟨rfl, hW.below⟩
def sorted (xs : List Int) : List Int := xs.mergeSort fun x y => decide (x ≤ y)
theorem sorted_len (xs : List Int) : (sorted xs).length = xs.length := List.length_mergeSort xs
theorem mem_sorted {xs : List Int} {m : Int} : m ∈ sorted xs ↔ m ∈ xs := (List.mergeSort_perm xs _).mem_iff
theorem sort_own {w0 w : World} {X : Nat → Prop} {es : List Asn} (hW : Wd w0 X es w) (i : Nat) {T : TypeId} {n : Nat} {v : Value} {xs : List Int} (hn : n < 4611686018427387904) (hi : es[i]? = some (.row T 1 v n (xs.map (.int .i64)))) :
    Calls Try.prog 104 #[v] w fun e w' => e = .returned (.tuple #[]) ∧ Wd w0 X (es.set i (.row T 1 v n ((sorted xs).map (.int .i64)))) w' := by
  have hrow := hW.row i hi
  have hl : n = xs.length := by simpa using hrow.1.symm
  rcases hrow.2 with ⟨rfl, h0⟩ | ⟨g, cap, cur, rfl, _, hg, h1, h2, h3, h4⟩
  · refine sort_nil.mono fun e w' ⟨he, hb⟩ => ⟨he, ?_⟩
    have hx : xs = [] := List.eq_nil_of_length_eq_zero (by omega)
    subst hx
    have hself : es.set i (.row T 1 (.slice none 0 0) n (([] : List Int).map (.int .i64))) = es := by
      apply List.ext_getElem?
      intro j
      rw [List.getElem?_set]
      split
      · rename_i h
        subst h
        rw [if_pos (List.getElem?_eq_some_iff.1 hi).1, hi]
      · rfl
    rw [show sorted [] = [] by simp [sorted], hself]
    exact hW.kept hb
  · subst hl
    have hlt := (Array.getElem?_eq_some_iff.1 hg).1
    have ht : cur.toList.take xs.length = xs.map (Value.int .i64) := by rw [← h4, Nat.mul_one]
    refine (Any.slices_Sort_int lays189 g 0 cap xs w (holds_of_blockI hg ht) hlt hn).mono fun e w' ⟨he, m, os, hw'⟩ => ⟨he, ?_⟩
    subst hw'
    refine hW.grown i hi (ownsRow_sortedI (sorted_len xs) (Nat.zero_le _) hg h1 h2 h3) (grownBy_sortedI _) (.inl rfl)
end Go.Proofs.Ytebklpbbglojmaa
