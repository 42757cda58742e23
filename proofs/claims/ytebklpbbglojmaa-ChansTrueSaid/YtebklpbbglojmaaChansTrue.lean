/- The law ChansTrue answers true for every input. -/
import Derived.Test.YtebklpbbglojmaaChansB
import Derived.Test.YtebklpbbglojmaaEngS
import Derived.Test.YtebklpbbglojmaaTys
namespace Go.Proofs.Ytebklpbbglojmaa
set_option linter.unusedVariables false
set_option linter.unusedSimpArgs false
open Go.ChangeShapes Go.WideShapes Go.ChangeAt Go.RowKit
theorem bs_ChansTrue_22_1_0 (x0 : Int) (w : World) : (Instr.buildSlice 22 1 #[(0, (.int .i64 x0))]).run Try.prog w = .ok (.slice (some ⟨w.heap.size, 0, none⟩) 1 1) (w.alloc (.cells #[(.int .i64 x0)] 3)) := by kernel_rfl
theorem bu_ChansTrue_24_  (w : World) : (Instr.build 24 #[]).run Try.prog w = .ok (.agg #[(.slice none 0 0)]) w := by kernel_rfl
set_option maxRecDepth 100000

theorem intsArg {H : Type} {enc : TypeId × Value → H} {w : World} {base base' : Nat} {r : Reach} {spare : Nat → Bool} {held : Bool} {v : Value} {d : DataW H} {p : List MemPlace}
    (hv : Value.okWide Try.prog w r base' 22 v) (h : DataW.Trod enc Try.prog w base spare held 22 v d p) : ∃ l, Ints w v l := by
  obtain ⟨A, n, c, rfl⟩ := okWide_slice Try.underlying22 hv
  obtain ⟨u, l, e, hl⟩ := Rd.intsS (d := 0) Try.underlying22 Try.underlying3 (by kernel_rfl) (rd_of 2 h)
  have e' : [Value.slice A n c] = [u] := e
  obtain rfl : Value.slice A n c = u := by simpa using e'
  exact ⟨l, hl⟩
/-- choose, whatever the raw number is -/
theorem chooseW (c n : Int) (hn : n ≠ 0) (w : World) : Calls Try.prog 20 #[.int .i64 c, .int .i64 n] w fun e w' => ∃ r, e = .returned (.int .i64 r) ∧ Below w.heap.size w w' := by
  refine enter Try.func20 rfl Try.ntmps20 rfl (fun a hF => ?_)
  have hW := Wd.start w NoB
  refine c_sr ?_
  refine pv hF hW (y_assign hF rfl) (fun a hF => ?_)
  refine l_nil ?_
  refine t_n ?_
  refine c_s ?_
  refine c_sr ?_
  refine pv hF hW (y_move hF rfl) (fun a hF => ?_)
  refine pv hF hW (y_lss hF rfl rfl) (fun a hF => ?_)
  refine Fr.splitD hF ?_ ?_
  · intro h1 hF
    refine l_nil ?_
    replace hF := (hF.k 0 rfl (hF.k 1 rfl (hF.k 4 rfl (hF.k 6 rfl hF.nil))))
    refine t_n ?_
    refine c_t hF rfl ?_
    refine c_r ?_
    refine pv hF hW (y_move hF rfl) (fun a hF => ?_)
    refine pv hF hW (y_add hF rfl rfl rfl) (fun a hF => ?_)
    refine pv hF hW (y_neg hF rfl rfl) (fun a hF => ?_)
    replace hF := hF.drop 0
    refine pv hF hW (y_assign hF rfl) (fun a hF => ?_)
    refine l_nil ?_
    replace hF := (hF.k 0 rfl (hF.k 1 rfl (hF.k 4 rfl (hF.k 6 rfl hF.nil))))
    refine t_n ?_
    refine c_sr ?_
    refine pv hF hW (y_move hF rfl) (fun a hF => ?_)
    refine pv hF hW (y_move hF rfl) (fun a hF => ?_)
    refine pv hF hW (y_rem hF rfl rfl (by exact hn) rfl) (fun a hF => ?_)
    replace hF := hF.drop 4
    refine pv hF hW (y_assign hF rfl) (fun a hF => ?_)
    refine l_nil ?_
    replace hF := (hF.k 0 rfl (hF.k 1 rfl (hF.k 4 rfl (hF.k 6 rfl hF.nil))))
    refine t_n ?_
    refine wp_ret ?_
    refine ret1 Try.results20 hF (rv_t hF rfl) ?_
    exact ⟨_, rfl, hW.below⟩
  · intro h1 hF
    refine l_nil ?_
    replace hF := (hF.k 0 rfl (hF.k 1 rfl (hF.k 4 rfl (hF.k 6 rfl hF.nil))))
    refine t_n ?_
    refine c_f hF rfl ?_
    refine wp_skip ?_
    refine t_n ?_
    refine c_sr ?_
    refine pv hF hW (y_move hF rfl) (fun a hF => ?_)
    refine pv hF hW (y_move hF rfl) (fun a hF => ?_)
    refine pv hF hW (y_rem hF rfl rfl (by exact hn) rfl) (fun a hF => ?_)
    replace hF := hF.drop 4
    refine pv hF hW (y_assign hF rfl) (fun a hF => ?_)
    refine l_nil ?_
    replace hF := (hF.k 0 rfl (hF.k 1 rfl (hF.k 4 rfl (hF.k 6 rfl hF.nil))))
    refine t_n ?_
    refine wp_ret ?_
    refine ret1 Try.results20 hF (rv_t hF rfl) ?_
    exact ⟨_, rfl, hW.below⟩
def qput (q : List Int) (x : Int) : List Int := if q.length < 3 then q ++ [x] else q
theorem chk2 {n : Nat} (h : n ≤ 3) : chkLine 2 n = 0 := by
  have e1 : roomIs 2 = true := rfl
  have e2 : roomOf 2 = 3 := rfl
  unfold chkLine
  rw [if_pos e1, e2, if_neg (by omega)]
theorem chk1 {n : Nat} (h : n ≤ 1) : chkLine 1 n = 0 := by
  have e1 : roomIs 1 = true := rfl
  have e2 : roomOf 1 = 1 := rfl
  unfold chkLine
  rw [if_pos e1, e2, if_neg (by omega)]
theorem qput_len {q : List Int} {x : Int} (h : q.length ≤ 3) : (qput q x).length ≤ 3 := by
  unfold qput
  split
  · simp; omega
  · exact h
theorem qtail_len {q : List Int} {x : Int} (h : q.length ≤ 3) : (qput q x).tail.length ≤ 3 := by
  have := qput_len (x := x) h
  rw [List.length_tail]
  omega
theorem putQ {q : List Int} {x : Int} {v : Value} {w : World} (h : q.length ≤ 3) (hv : Ints w v q) :
    Calls Try.prog 12 #[.int .i64 2, .agg #[v], .int .i64 x] w fun e w' => ∃ A n, e = .returned (.tuple #[.agg #[.slice A (qput q x).length n], .bool (decide (q.length < 3)), .int .i64 0]) ∧ OwnRes w w' (fun u => Ints u (.slice A (qput q x).length n) (qput q x)) ∧ Below w.heap.size w w' := by
  refine (put_any 2 x v q w hv).mono fun e w' hl => ?_
  have hp : putOf 2 q x = (qput q x, decide (q.length < 3), 0) := by
    unfold putOf qput
    rw [if_pos (chk2 h), if_neg (by decide)]
    by_cases h3 : q.length < 3
    · rw [if_pos h3, if_pos h3, decide_eq_true h3]
    · rw [if_neg h3, if_neg h3, decide_eq_false h3]
  rw [hp] at hl
  obtain ⟨v', rfl, hown, hb⟩ := hl
  obtain ⟨A, n, rfl⟩ := hown.form rfl
  exact ⟨A, n, rfl, OwnRes.intsB hown, hb⟩
theorem putS {s : List Int} {x : Int} {v : Value} {w : World} (h : s.length ≤ 1) (hv : Ints w v s) :
    Calls Try.prog 12 #[.int .i64 1, .agg #[v], .int .i64 x] w fun e w' => ∃ A n, e = .returned (.tuple #[.agg #[.slice A 1 n], .bool true, .int .i64 0]) ∧ OwnRes w w' (fun u => Ints u (.slice A 1 n) [x]) ∧ Below w.heap.size w w' := by
  refine (put_any 1 x v s w hv).mono fun e w' hl => ?_
  have hp : putOf 1 s x = ([x], true, 0) := by
    unfold putOf
    rw [if_pos (chk1 h), if_pos rfl]
  rw [hp] at hl
  obtain ⟨v', rfl, hown, hb⟩ := hl
  obtain ⟨A, n, rfl⟩ := hown.form rfl
  exact ⟨A, n, rfl, OwnRes.intsB hown, hb⟩
theorem getQ {q : List Int} {v : Value} {w : World} (h : q.length ≤ 3) (hv : Ints w v q) :
    Calls Try.prog 13 #[.int .i64 2, .agg #[v]] w fun e w' => ∃ A n, e = .returned (.tuple #[.agg #[.slice A q.tail.length n], .int .i64 (q.headD 0), .bool (decide (0 < q.length)), .int .i64 0]) ∧ OwnRes w w' (fun u => Ints u (.slice A q.tail.length n) q.tail) ∧ Below w.heap.size w w' := by
  refine (get_any 2 v q w hv).mono fun e w' hl => ?_
  have hp : getOf 2 q = (q.tail, q.headD 0, decide (0 < q.length), 0) := by
    unfold getOf
    rw [if_pos (chk2 h)]
    cases q with
    | nil => rfl
    | cons y r => simp
  rw [hp] at hl
  obtain ⟨v', rfl, hown, hb⟩ := hl
  obtain ⟨A, n, rfl⟩ := hown.form rfl
  exact ⟨A, n, rfl, OwnRes.intsB hown, hb⟩
theorem getS {x : Int} {v : Value} {w : World} (hv : Ints w v [x]) :
    Calls Try.prog 13 #[.int .i64 1, .agg #[v]] w fun e w' => ∃ A n, e = .returned (.tuple #[.agg #[.slice A 1 n], .int .i64 x, .bool true, .int .i64 0]) ∧ OwnRes w w' (fun u => Ints u (.slice A 1 n) [x]) ∧ Below w.heap.size w w' := by
  refine (get_any 1 v [x] w hv).mono fun e w' hl => ?_
  have hp : getOf 1 [x] = ([x], x, true, 0) := by
    unfold getOf
    rw [if_pos (chk1 (by simp))]
    rfl
  rw [hp] at hl
  obtain ⟨v', rfl, hown, hb⟩ := hl
  obtain ⟨A, n, rfl⟩ := hown.form rfl
  exact ⟨A, n, rfl, OwnRes.intsB hown, hb⟩
theorem chkOk {k : Int} {l : List Int} {v : Value} {w : World} (hv : Ints w v l) (h : chkLine k l.length = 0) :
    Calls Try.prog 18 #[.int .i64 k, .agg #[v]] w fun e w' => e = .returned (.int .i64 0) ∧ Below w.heap.size w w' := by
  have := chansCheck_any k v l w hv
  rwa [h] at this
theorem sameIntsTo {w : World} {u v : Value} {l m : List Int} (hu : Ints w u l) (hv : Ints w v m) (h : l = m) :
    Calls Try.prog 19 #[u, v] w fun e w' => e = .returned (.bool true) ∧ Below w.heap.size w w' :=
  (sameInts_any hu hv).mono fun e w' ⟨he, hd⟩ => ⟨by rw [he, decide_eq_true h], hd.below _⟩

theorem fifo_put {q inp out : List Int} {x : Int} (h : inp = out ++ q) (h3 : decide (q.length < 3) = true) : inp ++ [x] = out ++ qput q x := by
  unfold qput
  rw [if_pos (of_decide_eq_true h3), h, List.append_assoc]
theorem fifo_full {q inp out : List Int} {x : Int} (h : inp = out ++ q) (h3 : decide (q.length < 3) = false) : inp = out ++ qput q x := by
  unfold qput
  rw [if_neg (of_decide_eq_false h3), h]
theorem fifo_get {r inp out : List Int} (h : inp = out ++ r) (h0 : decide (0 < r.length) = true) : inp = (out ++ [r.headD 0]) ++ r.tail := by
  cases r with
  | nil => simp at h0
  | cons y t => rw [h]; simp
theorem fifo_none {r inp out : List Int} (h : inp = out ++ r) (h0 : decide (0 < r.length) = false) : inp = out ++ r.tail := by
  cases r with
  | nil => rw [h]; rfl
  | cons y t => simp at h0

set_option maxHeartbeats 4000000 in
theorem chansTrue_run (vals : List Int) (gets : Int) (v : Value) (w : World) (hv : Ints w v vals) :
    Calls Try.prog 4 #[v, .int .i64 gets] w fun e w' => e = .returned (.bool true) ∧ Below w.heap.size w w' := by
  obtain ⟨A0, c0, rfl, hc0, hm0, hrv⟩ := RF.of_ints hv
  clear hv
  refine enter Try.func4 rfl Try.ntmps4 rfl (fun a hF => ?_)
  have hW := Wd.start w NoB
  refine c_sr ?_
  refine pv hF hW (y_assign hF rfl) (fun a hF => ?_)
  refine l_nil ?_
  refine t_n ?_
  refine c_sr ?_
  refine pv hF hW (y_build hF rfl (fun w => bu_ChansTrue_24_  w)) (fun a hF => ?_)
  refine pv hF hW (y_build hF rfl (fun w => bu_ChansTrue_24_  w)) (fun a hF => ?_)
  refine pe (e_alloc hF hW ze_24 rfl rfl rfl ?_)
  intro b1 a wc hF hW
  refine pe (e_alloc hF hW ze_24 rfl rfl rfl ?_)
  intro b2 a wc hF hW
  refine pe (e_storeAll rfl hF hW rfl rfl 1 rfl rfl rfl (by kernel_rfl) sz_24 ?_)
  intro wc hW
  refine pe (e_storeAll rfl hF hW rfl rfl 0 rfl rfl rfl (by kernel_rfl) sz_24 ?_)
  intro wc hW
  refine l_nil ?_
  replace hF := (hF.k 0 rfl (hF.k 1 rfl (hF.k 4 rfl (hF.k 5 rfl (hF.k 6 rfl hF.nil)))))
  refine t_n ?_
  refine c_sr ?_
  refine pv hF hW (y_assign hF rfl) (fun a hF => ?_)
  refine pv hF hW (y_assign hF rfl) (fun a hF => ?_)
  refine l_nil ?_
  refine t_n ?_
  replace hW := hW.free (R := fun u => Ints u (.slice none 0 0) []) fun _ => Ints.nil_
  replace hW := hW.free (R := fun u => Ints u (.slice none 0 0) []) fun _ => Ints.nil_
  replace hW := hW.nil_row 3 1
  replace hW := hW.nil_row 3 1
  refine c_cut (G := List Int × List Int × List Int × Option Addr × Nat × Option Addr × Nat × Option Addr × Nat) (fun (gq : List Int × List Int × List Int × Option Addr × Nat × Option Addr × Nat × Option Addr × Nat) => match gq with | ⟨q, inp, out, qA, qc, iA, ic, oA, oc⟩ => [(7, .slice iA inp.length ic), (8, .slice oA out.length oc)]) (fun (gq : List Int × List Int × List Int × Option Addr × Nat × Option Addr × Nat × Option Addr × Nat) => match gq with | ⟨q, inp, out, qA, qc, iA, ic, oA, oc⟩ => [.blk b1 24 [.slice qA q.length qc], .res (fun u => Ints u (.slice qA q.length qc) q), .row 3 1 (.slice iA inp.length ic) inp.length (inp.map (.int .i64)), .row 3 1 (.slice oA out.length oc) out.length (out.map (.int .i64))]) (fun (gq : List Int × List Int × List Int × Option Addr × Nat × Option Addr × Nat × Option Addr × Nat) => match gq with | ⟨q, inp, out, qA, qc, iA, ic, oA, oc⟩ => inp = out ++ q ∧ q.length ≤ 3 ∧ out.length ≤ 40) (Fr.cons hF (t := 0) rfl rfl (Fr.cons hF (t := 1) rfl rfl (Fr.cons hF (t := 5) rfl rfl (Fr.cons hF (t := 6) rfl rfl (Fr.nil hF))))) ((((((hW.del 0 rfl).del 0 rfl).del 0 rfl).del 0 rfl).del 0 rfl).del 0 rfl) ?_ ?_
  · refine c_sr ?_
    refine pv hF hW (y_assign hF rfl) (fun a hF => ?_)
    refine l_nil ?_
    refine t_n ?_
    refine wp_block ?_
    replace hW := hW.front 1 rfl rfl
    replace hW := hW.front 2 rfl rfl
    replace hW := hW.front 3 rfl rfl
    replace hW := hW.front 4 rfl rfl
    replace hW := hW.front 5 rfl rfl
    refine c_loop (G := Nat × List Int × List Int × List Int × List Int × Option Addr × Nat × Option Addr × Nat × Option Addr × Nat × Option Addr × Nat) (fun (gq : Nat × List Int × List Int × List Int × List Int × Option Addr × Nat × Option Addr × Nat × Option Addr × Nat × Option Addr × Nat) => match gq with | ⟨k, q, s, inp, out, qA, qc, sA, sc, iA, ic, oA, oc⟩ => [(9, .int .i64 (k : Int)), (7, .slice iA inp.length ic), (8, .slice oA out.length oc)]) (fun (gq : Nat × List Int × List Int × List Int × List Int × Option Addr × Nat × Option Addr × Nat × Option Addr × Nat × Option Addr × Nat) => match gq with | ⟨k, q, s, inp, out, qA, qc, sA, sc, iA, ic, oA, oc⟩ => [.blk b1 24 [.slice qA q.length qc], .blk b2 24 [.slice sA s.length sc], .res (fun u => Ints u (.slice qA q.length qc) q), .res (fun u => Ints u (.slice sA s.length sc) s), .row 3 1 (.slice iA inp.length ic) inp.length (inp.map (.int .i64)), .row 3 1 (.slice oA out.length oc) out.length (out.map (.int .i64))]) (fun (gq : Nat × List Int × List Int × List Int × List Int × Option Addr × Nat × Option Addr × Nat × Option Addr × Nat × Option Addr × Nat) => match gq with | ⟨k, q, s, inp, out, qA, qc, sA, sc, iA, ic, oA, oc⟩ => inp = out ++ q ∧ q.length ≤ 3 ∧ s.length ≤ 1 ∧ inp.length ≤ k ∧ k ≤ 40) (fun (gq : Nat × List Int × List Int × List Int × List Int × Option Addr × Nat × Option Addr × Nat × Option Addr × Nat × Option Addr × Nat) => match gq with | ⟨k, q, s, inp, out, qA, qc, sA, sc, iA, ic, oA, oc⟩ => 40 - k) (0, [], [], [], [], none, 0, none, 0, none, 0, none, 0) (Fr.cons hF (t := 0) rfl rfl (Fr.cons hF (t := 1) rfl rfl (Fr.cons hF (t := 5) rfl rfl (Fr.cons hF (t := 6) rfl rfl (Fr.nil hF))))) (Fr.cons hF (t := 9) rfl (by first | rfl | (simp; done)) (Fr.cons hF (t := 7) rfl (by first | rfl | (simp; done)) (Fr.cons hF (t := 8) rfl (by first | rfl | (simp; done)) (Fr.nil hF)))) (hW) ?_ ?_
    · exact ⟨rfl, by simp, by simp, by simp, by omega⟩
    clear hF hW
    clear a
    intro gq a wc hC hF hW
    obtain ⟨k, q, s, inp, out, qA, qc, sA, sc, iA, ic, oA, oc⟩ := gq
    dsimp only at hC
    obtain ⟨hfifo, hq3, hs1, hik, hk⟩ := hC; have hol : out.length ≤ inp.length := by rw [hfifo]; simp
    refine c_s ?_
    refine c_sr ?_
    refine pv hF hW (y_move hF rfl) (fun a hF => ?_)
    refine pv hF hW (y_move hF rfl) (fun a hF => ?_)
    refine pv hF hW (y_len hF rfl Try.underlying22) (fun a hF => ?_)
    refine pv hF hW (y_lss hF rfl rfl) (fun a hF => ?_)
    refine Fr.splitD hF ?_ ?_
    · intro h3 hF
      refine pv hF hW (y_move hF rfl) (fun a hF => ?_)
      refine pv hF hW (y_move hF rfl) (fun a hF => ?_) (ws hF rfl rfl)
      refine pv hF hW (y_lss hF rfl rfl) (fun a hF => ?_) (ws hF rfl rfl)
      refine Fr.splitD hF ?_ ?_
      · intro h4 hF
        refine pv hF hW (y_pick hF rfl rfl) (fun a hF => ?_)
        refine l_nil ?_
        replace hF := (hF.k 0 rfl (hF.k 1 rfl (hF.k 5 rfl (hF.k 6 rfl (hF.k 7 rfl (hF.k 8 rfl (hF.k 9 rfl (hF.k 38 rfl hF.nil))))))))
        refine t_n ?_
        refine c_t hF rfl ?_
        refine wp_skip ?_
        refine t_n ?_
        refine c_s ?_
        refine wp_block ?_
        refine c_cut (G := Nat × Option Addr × Nat) (fun (gq : Nat × Option Addr × Nat) => match gq with | ⟨b10, aA, ac⟩ => [(10, .pointer (some ⟨b10, 0, none⟩)), (11, .bool (decide (q.length < 3))), (12, .int .i64 0)]) (fun (gq : Nat × Option Addr × Nat) => match gq with | ⟨b10, aA, ac⟩ => [.blk b10 24 [.slice aA (qput q (vals.getD k 0)).length ac], .res (fun u => Ints u (.slice aA (qput q (vals.getD k 0)).length ac) (qput q (vals.getD k 0)))]) (fun (gq : Nat × Option Addr × Nat) => match gq with | ⟨b10, aA, ac⟩ => True) (Fr.cons hF (t := 0) rfl rfl (Fr.cons hF (t := 1) rfl rfl (Fr.cons hF (t := 5) rfl rfl (Fr.cons hF (t := 6) rfl rfl (Fr.cons hF (t := 7) rfl rfl (Fr.cons hF (t := 8) rfl rfl (Fr.cons hF (t := 9) rfl rfl (Fr.cons hF (t := 38) rfl rfl (Fr.nil hF))))))))) (hW.del 2 rfl) ?_ ?_
        · refine c_d mixed_ok hW ((hW.del 2 rfl)) ?_
          clear hW; intro wc hW hS
          refine dv 0 rfl hF hS (y_loadAll hF rfl 0 rfl Try.underlying24 rfl sz_24) (fun a hF => ?_)
          refine dv 1 rfl hF hS (y_move hF rfl) (fun a hF => ?_)
          refine dv 2 rfl hF hS (y_move hF rfl) (fun a hF => ?_)
          refine dv 3 rfl hF hS (y_indexS hF rfl rfl (by first | omega | decide) Try.underlying22 sz_3 (fun w h => (hrv).wd h)) (fun a hF => ?_)
          refine dv 4 rfl hF hS (y_loadRow hF rfl (fun w h => (hrv).wd h) (by first | omega | decide) rfl Try.underlying3 rfl) (fun a hF => ?_)
          refine d_2 5 10 (by kernel_rfl) ?_ ?_
          · refine d_op rfl rfl (e_call hF rfl rfl en_12 (by rfl) rfl rfl (putQ hq3 (hW.res 2 rfl)) ?_)
            rintro e w1 ⟨A1, n1, rfl, hr, hb⟩
            replace hW := (hW.gotR hb hr).del 3 rfl
            refine ⟨_, rfl, fun a hF => ?_⟩
            refine ⟨(hW.del 0 rfl), ?_⟩
            replace hS := (hW.del 0 rfl)
            refine dv 6 rfl hF hS (y_move hF rfl) (fun a hF => ?_)
            refine dv 7 rfl hF hS (y_extract hF rfl rfl) (fun a hF => ?_)
            refine dv 8 rfl hF hS (y_extract hF rfl rfl) (fun a hF => ?_)
            refine dv 9 rfl hF hS (y_extract hF rfl rfl) (fun a hF => ?_)
            refine d_1 10 (by kernel_rfl) ?_
            refine d_op rfl rfl (e_alloc hF hW ze_24 rfl rfl rfl ?_)
            intro b5 a wc hF hW
            refine ⟨((hW.del 0 rfl).del 0 rfl), ?_⟩
            replace hS := ((hW.del 0 rfl).del 0 rfl)
            refine d_1 11 (by kernel_rfl) ?_
            refine d_op rfl rfl (e_storeAll rfl hF hW rfl rfl 0 rfl rfl rfl (by kernel_rfl) sz_24 ?_)
            intro wc hW
            refine ⟨((hW.del 0 rfl).del 0 rfl), ?_⟩
            replace hS := ((hW.del 0 rfl).del 0 rfl)
            refine dv 12 rfl hF hS (y_assign hF rfl) (fun a hF => ?_)
            refine dv 13 rfl hF hS (y_assign hF rfl) (fun a hF => ?_)
            clear hS
            refine d_nil (by kernel_rfl) ?_
            replace hF := (hF.k 0 rfl (hF.k 1 rfl (hF.k 5 rfl (hF.k 6 rfl (hF.k 7 rfl (hF.k 8 rfl (hF.k 9 rfl (hF.k 10 rfl (hF.k 11 rfl (hF.k 12 rfl (hF.k 38 rfl hF.nil)))))))))))
            refine t_n ?_
            refine ⟨(b5, A1, n1), ?_, ?_, ?_⟩
            · exact Fr.app (Fr.cons hF (t := 10) rfl rfl (Fr.cons hF (t := 11) rfl rfl (Fr.cons hF (t := 12) rfl rfl (Fr.nil hF)))) (Fr.cons hF (t := 0) rfl rfl (Fr.cons hF (t := 1) rfl rfl (Fr.cons hF (t := 5) rfl rfl (Fr.cons hF (t := 6) rfl rfl (Fr.cons hF (t := 7) rfl rfl (Fr.cons hF (t := 8) rfl rfl (Fr.cons hF (t := 9) rfl rfl (Fr.cons hF (t := 38) rfl rfl (Fr.nil hF)))))))))
            · exact hW
            · trivial
          · refine d_op rfl rfl (e_alloc hF hW ze_24 rfl rfl rfl ?_)
            intro b6 a wc hF hW
            refine ⟨((hW.del 0 rfl).del 2 rfl), ?_⟩
            replace hS := ((hW.del 0 rfl).del 2 rfl)
            refine d_1 5 (by kernel_rfl) ?_
            refine d_op rfl rfl (e_call hF rfl rfl en_12 (by rfl) rfl rfl (putQ hq3 (hW.res 3 rfl)) ?_)
            rintro e w1 ⟨A1, n1, rfl, hr, hb⟩
            replace hW := (hW.gotR hb hr).del 4 rfl
            refine ⟨_, rfl, fun a hF => ?_⟩
            refine ⟨((hW.del 0 rfl).del 0 rfl), ?_⟩
            replace hS := ((hW.del 0 rfl).del 0 rfl)
            refine dv 6 rfl hF hS (y_move hF rfl) (fun a hF => ?_)
            refine dv 7 rfl hF hS (y_extract hF rfl rfl) (fun a hF => ?_)
            refine dv 8 rfl hF hS (y_extract hF rfl rfl) (fun a hF => ?_)
            refine dv 9 rfl hF hS (y_extract hF rfl rfl) (fun a hF => ?_)
            refine d_1 11 (by kernel_rfl) ?_
            refine d_op rfl rfl (e_storeAll rfl hF hW rfl rfl 1 rfl rfl rfl (by kernel_rfl) sz_24 ?_)
            intro wc hW
            refine ⟨((hW.del 0 rfl).del 0 rfl), ?_⟩
            replace hS := ((hW.del 0 rfl).del 0 rfl)
            refine dv 12 rfl hF hS (y_assign hF rfl) (fun a hF => ?_)
            refine dv 13 rfl hF hS (y_assign hF rfl) (fun a hF => ?_)
            clear hS
            refine d_nil (by kernel_rfl) ?_
            replace hF := (hF.k 0 rfl (hF.k 1 rfl (hF.k 5 rfl (hF.k 6 rfl (hF.k 7 rfl (hF.k 8 rfl (hF.k 9 rfl (hF.k 10 rfl (hF.k 11 rfl (hF.k 12 rfl (hF.k 38 rfl hF.nil)))))))))))
            replace hW := hW.front 6 rfl rfl
            replace hW := hW.front 6 rfl rfl
            replace hW := hW.front 6 rfl rfl
            replace hW := hW.front 6 rfl rfl
            replace hW := hW.front 6 rfl rfl
            replace hW := hW.front 5 rfl rfl
            replace hW := hW.front 6 rfl rfl
            refine t_n ?_
            refine ⟨(b6, A1, n1), ?_, ?_, ?_⟩
            · exact Fr.app (Fr.cons hF (t := 10) rfl rfl (Fr.cons hF (t := 11) rfl rfl (Fr.cons hF (t := 12) rfl rfl (Fr.nil hF)))) (Fr.cons hF (t := 0) rfl rfl (Fr.cons hF (t := 1) rfl rfl (Fr.cons hF (t := 5) rfl rfl (Fr.cons hF (t := 6) rfl rfl (Fr.cons hF (t := 7) rfl rfl (Fr.cons hF (t := 8) rfl rfl (Fr.cons hF (t := 9) rfl rfl (Fr.cons hF (t := 38) rfl rfl (Fr.nil hF)))))))))
            · exact hW
            · trivial
        · clear hF hW
          clear a
          intro gq a wc hC hF hW
          obtain ⟨b10, aA, ac⟩ := gq
          dsimp only at hC
          clear hC
          refine c_cut (G := Nat × Option Addr × Nat) (fun (gq : Nat × Option Addr × Nat) => match gq with | ⟨b13, bA, bc⟩ => [(13, .pointer (some ⟨b13, 0, none⟩)), (15, .int .i64 0)]) (fun (gq : Nat × Option Addr × Nat) => match gq with | ⟨b13, bA, bc⟩ => [.blk b13 24 [.slice bA 1 bc], .res (fun u => Ints u (.slice bA 1 bc) [vals.getD k 0])]) (fun (gq : Nat × Option Addr × Nat) => match gq with | ⟨b13, bA, bc⟩ => True) (Fr.cons hF (t := 0) rfl rfl (Fr.cons hF (t := 1) rfl rfl (Fr.cons hF (t := 5) rfl rfl (Fr.cons hF (t := 6) rfl rfl (Fr.cons hF (t := 7) rfl rfl (Fr.cons hF (t := 8) rfl rfl (Fr.cons hF (t := 9) rfl rfl (Fr.cons hF (t := 10) rfl rfl (Fr.cons hF (t := 11) rfl rfl (Fr.cons hF (t := 12) rfl rfl (Fr.cons hF (t := 38) rfl rfl (Fr.nil hF)))))))))))) (hW.del 4 rfl) ?_ ?_
          · refine c_d mixed_ok hW ((hW.del 4 rfl)) ?_
            clear hW; intro wc hW hS
            refine dv 0 rfl hF hS (y_loadAll hF rfl 3 rfl Try.underlying24 rfl sz_24) (fun a hF => ?_)
            refine dv 1 rfl hF hS (y_move hF rfl) (fun a hF => ?_)
            refine dv 2 rfl hF hS (y_move hF rfl) (fun a hF => ?_)
            refine dv 3 rfl hF hS (y_indexS hF rfl rfl (by first | omega | decide) Try.underlying22 sz_3 (fun w h => (hrv).wd h)) (fun a hF => ?_)
            refine dv 4 rfl hF hS (y_loadRow hF rfl (fun w h => (hrv).wd h) (by first | omega | decide) rfl Try.underlying3 rfl) (fun a hF => ?_)
            refine d_2 5 10 (by kernel_rfl) ?_ ?_
            · refine d_op rfl rfl (e_call hF rfl rfl en_12 (by rfl) rfl rfl (putS hs1 (hW.res 4 rfl)) ?_)
              rintro e w1 ⟨A1, n1, rfl, hr, hb⟩
              replace hW := (hW.gotR hb hr).del 5 rfl
              refine ⟨_, rfl, fun a hF => ?_⟩
              refine ⟨(hW.del 0 rfl), ?_⟩
              replace hS := (hW.del 0 rfl)
              refine dv 6 rfl hF hS (y_move hF rfl) (fun a hF => ?_)
              refine dv 7 rfl hF hS (y_extract hF rfl rfl) (fun a hF => ?_)
              refine dv 8 rfl hF hS (y_extract hF rfl rfl) (fun a hF => ?_)
              refine dv 9 rfl hF hS (y_extract hF rfl rfl) (fun a hF => ?_)
              refine d_1 10 (by kernel_rfl) ?_
              refine d_op rfl rfl (e_alloc hF hW ze_24 rfl rfl rfl ?_)
              intro b7 a wc hF hW
              refine ⟨((hW.del 0 rfl).del 0 rfl), ?_⟩
              replace hS := ((hW.del 0 rfl).del 0 rfl)
              refine d_1 11 (by kernel_rfl) ?_
              refine d_op rfl rfl (e_storeAll rfl hF hW rfl rfl 0 rfl rfl rfl (by kernel_rfl) sz_24 ?_)
              intro wc hW
              refine ⟨((hW.del 0 rfl).del 0 rfl), ?_⟩
              replace hS := ((hW.del 0 rfl).del 0 rfl)
              refine dv 12 rfl hF hS (y_assign hF rfl) (fun a hF => ?_)
              refine dv 13 rfl hF hS (y_assign hF rfl) (fun a hF => ?_)
              clear hS
              refine d_nil (by kernel_rfl) ?_
              replace hF := (hF.k 0 rfl (hF.k 1 rfl (hF.k 5 rfl (hF.k 6 rfl (hF.k 7 rfl (hF.k 8 rfl (hF.k 9 rfl (hF.k 10 rfl (hF.k 11 rfl (hF.k 12 rfl (hF.k 13 rfl (hF.k 15 rfl (hF.k 38 rfl hF.nil)))))))))))))
              refine t_n ?_
              refine ⟨(b7, A1, n1), ?_, ?_, ?_⟩
              · exact Fr.app (Fr.cons hF (t := 13) rfl rfl (Fr.cons hF (t := 15) rfl rfl (Fr.nil hF))) (Fr.cons hF (t := 0) rfl rfl (Fr.cons hF (t := 1) rfl rfl (Fr.cons hF (t := 5) rfl rfl (Fr.cons hF (t := 6) rfl rfl (Fr.cons hF (t := 7) rfl rfl (Fr.cons hF (t := 8) rfl rfl (Fr.cons hF (t := 9) rfl rfl (Fr.cons hF (t := 10) rfl rfl (Fr.cons hF (t := 11) rfl rfl (Fr.cons hF (t := 12) rfl rfl (Fr.cons hF (t := 38) rfl rfl (Fr.nil hF))))))))))))
              · exact hW
              · trivial
            · refine d_op rfl rfl (e_alloc hF hW ze_24 rfl rfl rfl ?_)
              intro b8 a wc hF hW
              refine ⟨((hW.del 0 rfl).del 4 rfl), ?_⟩
              replace hS := ((hW.del 0 rfl).del 4 rfl)
              refine d_1 5 (by kernel_rfl) ?_
              refine d_op rfl rfl (e_call hF rfl rfl en_12 (by rfl) rfl rfl (putS hs1 (hW.res 5 rfl)) ?_)
              rintro e w1 ⟨A1, n1, rfl, hr, hb⟩
              replace hW := (hW.gotR hb hr).del 6 rfl
              refine ⟨_, rfl, fun a hF => ?_⟩
              refine ⟨((hW.del 0 rfl).del 0 rfl), ?_⟩
              replace hS := ((hW.del 0 rfl).del 0 rfl)
              refine dv 6 rfl hF hS (y_move hF rfl) (fun a hF => ?_)
              refine dv 7 rfl hF hS (y_extract hF rfl rfl) (fun a hF => ?_)
              refine dv 8 rfl hF hS (y_extract hF rfl rfl) (fun a hF => ?_)
              refine dv 9 rfl hF hS (y_extract hF rfl rfl) (fun a hF => ?_)
              refine d_1 11 (by kernel_rfl) ?_
              refine d_op rfl rfl (e_storeAll rfl hF hW rfl rfl 1 rfl rfl rfl (by kernel_rfl) sz_24 ?_)
              intro wc hW
              refine ⟨((hW.del 0 rfl).del 0 rfl), ?_⟩
              replace hS := ((hW.del 0 rfl).del 0 rfl)
              refine dv 12 rfl hF hS (y_assign hF rfl) (fun a hF => ?_)
              refine dv 13 rfl hF hS (y_assign hF rfl) (fun a hF => ?_)
              clear hS
              refine d_nil (by kernel_rfl) ?_
              replace hF := (hF.k 0 rfl (hF.k 1 rfl (hF.k 5 rfl (hF.k 6 rfl (hF.k 7 rfl (hF.k 8 rfl (hF.k 9 rfl (hF.k 10 rfl (hF.k 11 rfl (hF.k 12 rfl (hF.k 13 rfl (hF.k 15 rfl (hF.k 38 rfl hF.nil)))))))))))))
              replace hW := hW.front 7 rfl rfl
              replace hW := hW.front 7 rfl rfl
              replace hW := hW.front 7 rfl rfl
              replace hW := hW.front 7 rfl rfl
              replace hW := hW.front 7 rfl rfl
              replace hW := hW.front 7 rfl rfl
              replace hW := hW.front 6 rfl rfl
              replace hW := hW.front 7 rfl rfl
              refine t_n ?_
              refine ⟨(b8, A1, n1), ?_, ?_, ?_⟩
              · exact Fr.app (Fr.cons hF (t := 13) rfl rfl (Fr.cons hF (t := 15) rfl rfl (Fr.nil hF))) (Fr.cons hF (t := 0) rfl rfl (Fr.cons hF (t := 1) rfl rfl (Fr.cons hF (t := 5) rfl rfl (Fr.cons hF (t := 6) rfl rfl (Fr.cons hF (t := 7) rfl rfl (Fr.cons hF (t := 8) rfl rfl (Fr.cons hF (t := 9) rfl rfl (Fr.cons hF (t := 10) rfl rfl (Fr.cons hF (t := 11) rfl rfl (Fr.cons hF (t := 12) rfl rfl (Fr.cons hF (t := 38) rfl rfl (Fr.nil hF))))))))))))
              · exact hW
              · trivial
          · clear hF hW
            clear a
            intro gq a wc hC hF hW
            obtain ⟨b13, bA, bc⟩ := gq
            dsimp only at hC
            clear hC
            refine c_s ?_
            refine c_sr ?_
            refine pv hF hW (y_move hF rfl) (fun a hF => ?_)
            refine pv hF hW (y_neq hF rfl rfl) (fun a hF => ?_)
            replace hF := Fr.bool (t := false) (by first | decide | (simp; done) | rfl) hF
            refine pv hF hW (y_move hF rfl) (fun a hF => ?_)
            replace hF := Fr.bool (t := false) (by first | decide | (simp; done) | rfl) hF
            refine pv hF hW (y_move hF rfl) (fun a hF => ?_) (ws hF rfl rfl)
            refine pv hF hW (y_neq hF rfl rfl) (fun a hF => ?_) (ws hF rfl rfl)
            replace hF := Fr.bool (t := false) (by first | decide | (simp; done) | rfl) hF
            refine pv hF hW (y_pick hF rfl rfl) (fun a hF => ?_)
            replace hF := Fr.bool (t := false) (by first | decide | (simp; done) | rfl) hF
            refine pv hF hW (y_move hF rfl) (fun a hF => ?_)
            replace hF := Fr.bool (t := false) (by first | decide | (simp; done) | rfl) hF
            refine pv hF hW (y_loadAll hF rfl 2 rfl Try.underlying24 rfl sz_24) (fun a hF => ?_) (ws hF rfl rfl)
            refine pe (e_call hF rfl rfl en_18 (by rfl) rfl rfl (chkOk (hW.res 3 rfl) (chk2 (qput_len hq3))) ?_) (ws hF rfl rfl)
            rintro e w1 ⟨rfl, hb⟩
            replace hW := hW.kept hb
            clear hb
            refine ⟨_, rfl, fun a hF => ?_⟩
            refine pv hF hW (y_neq hF rfl rfl) (fun a hF => ?_) (ws hF rfl rfl)
            replace hF := Fr.bool (t := false) (by first | decide | (simp; done) | rfl) hF
            refine pv hF hW (y_pick hF rfl rfl) (fun a hF => ?_)
            replace hF := Fr.bool (t := false) (by first | decide | (simp; done) | rfl) hF
            refine pv hF hW (y_move hF rfl) (fun a hF => ?_)
            replace hF := Fr.bool (t := false) (by first | decide | (simp; done) | rfl) hF
            refine pv hF hW (y_loadAll hF rfl 0 rfl Try.underlying24 rfl sz_24) (fun a hF => ?_) (ws hF rfl rfl)
            refine pe (e_call hF rfl rfl en_18 (by rfl) rfl rfl (chkOk (hW.res 1 rfl) (chk1 (by simp))) ?_) (ws hF rfl rfl)
            rintro e w1 ⟨rfl, hb⟩
            replace hW := hW.kept hb
            clear hb
            refine ⟨_, rfl, fun a hF => ?_⟩
            refine pv hF hW (y_neq hF rfl rfl) (fun a hF => ?_) (ws hF rfl rfl)
            replace hF := Fr.bool (t := false) (by first | decide | (simp; done) | rfl) hF
            refine pv hF hW (y_pick hF rfl rfl) (fun a hF => ?_)
            replace hF := Fr.bool (t := false) (by first | decide | (simp; done) | rfl) hF
            refine l_nil ?_
            replace hF := (hF.k 0 rfl (hF.k 1 rfl (hF.k 5 rfl (hF.k 6 rfl (hF.k 7 rfl (hF.k 8 rfl (hF.k 9 rfl (hF.k 10 rfl (hF.k 11 rfl (hF.k 12 rfl (hF.k 13 rfl (hF.k 15 rfl (hF.k 38 rfl (hF.k 76 rfl hF.nil))))))))))))))
            refine t_n ?_
            refine c_f hF rfl ?_
            refine wp_skip ?_
            refine t_n ?_
            refine c_s ?_
            refine c_sr ?_
            refine pv hF hW (y_move hF rfl) (fun a hF => ?_)
            refine Fr.splitB hF ?_ ?_
            · intro h9 hF
              refine l_nil ?_
              refine t_n ?_
              refine c_t hF rfl ?_
              refine c_r ?_
              refine pv hF hW (y_move hF rfl) (fun a hF => ?_)
              refine pv hF hW (y_move hF rfl) (fun a hF => ?_)
              refine pv hF hW (y_move hF rfl) (fun a hF => ?_)
              refine pv hF hW (y_indexS hF rfl rfl (by first | omega | decide) Try.underlying22 sz_3 (fun w h => (hrv).wd h)) (fun a hF => ?_)
              refine pv hF hW (y_loadRow hF rfl (fun w h => (hrv).wd h) (by first | omega | decide) rfl Try.underlying3 rfl) (fun a hF => ?_)
              refine pe (e_buildSlice hF hW rfl (fun w => bs_ChansTrue_22_1_0 _ w) rfl rfl rfl ?_)
              intro b10 a wc hF hW
              refine pe (e_append hF hW 7 rfl rfl rfl Try.underlying22 inf_3 rfl (by decide) (rowAt_blk (hW.blk 0 rfl) 1 1 rfl) (by simp [Value.oneCell']) (show _ = (inp ++ [vals.getD k 0]).length by simp) (show _ = (inp ++ [vals.getD k 0]).map (.int .i64) by simp) (by first | omega | (simp; omega)) (by unfold maxLen; first | omega | (simp; omega)) rfl rfl ?_)
              intro A11 c12 a wc hF hW
              replace hF := hF.drop 7
              refine pv hF hW (y_assign hF rfl) (fun a hF => ?_)
              refine l_nil ?_
              replace hF := (hF.k 0 rfl (hF.k 1 rfl (hF.k 5 rfl (hF.k 6 rfl (hF.k 7 rfl (hF.k 8 rfl (hF.k 9 rfl (hF.k 10 rfl (hF.k 11 rfl (hF.k 12 rfl (hF.k 13 rfl (hF.k 15 rfl (hF.k 38 rfl (hF.k 76 rfl (hF.k 77 rfl hF.nil)))))))))))))))
              refine t_n ?_
              refine c_sd mixed_ok hW (((hW.del 5 rfl).del 5 rfl)) ?_
              clear hW; intro wc hW hS
              refine dv 0 rfl hF hS (y_loadAll hF rfl 3 rfl Try.underlying24 rfl sz_24) (fun a hF => ?_)
              refine dv 1 rfl hF hS (y_loadAll hF rfl 1 rfl Try.underlying24 rfl sz_24) (fun a hF => ?_)
              refine d_1 2 (by kernel_rfl) ?_
              refine d_op rfl rfl (e_storeAll rfl hF hW rfl rfl 5 rfl rfl rfl (by kernel_rfl) sz_24 ?_)
              intro wc hW
              refine ⟨((hW.del 5 rfl).del 5 rfl), ?_⟩
              replace hS := ((hW.del 5 rfl).del 5 rfl)
              refine d_1 3 (by kernel_rfl) ?_
              refine d_op rfl rfl (e_storeAll rfl hF hW rfl rfl 6 rfl rfl rfl (by kernel_rfl) sz_24 ?_)
              intro wc hW
              refine ⟨((hW.del 5 rfl).del 5 rfl), ?_⟩
              replace hS := ((hW.del 5 rfl).del 5 rfl)
              clear hS
              refine d_nil (by kernel_rfl) ?_
              replace hF := (hF.k 0 rfl (hF.k 1 rfl (hF.k 5 rfl (hF.k 6 rfl (hF.k 7 rfl (hF.k 8 rfl (hF.k 9 rfl (hF.k 10 rfl (hF.k 11 rfl (hF.k 12 rfl (hF.k 13 rfl (hF.k 15 rfl (hF.k 38 rfl (hF.k 76 rfl (hF.k 77 rfl hF.nil)))))))))))))))
              refine t_n ?_
              refine c_s ?_
              refine c_sr ?_
              refine pv hF hW (y_move hF rfl) (fun a hF => ?_)
              refine pv hF hW (y_move hF rfl) (fun a hF => ?_)
              refine pv hF hW (y_add hF rfl rfl (IntWalk.i64_in _ (by omega))) (fun a hF => ?_)
              refine pv hF hW (y_quo hF rfl rfl (by omega) rfl) (fun a hF => ?_)
              refine pe (e_call hF rfl rfl en_20 (by rfl) rfl rfl (chooseW _ _ (by decide) _) ?_)
              rintro e w1 ⟨r, rfl, hb⟩
              replace hW := hW.kept hb
              clear hb
              refine ⟨_, rfl, fun a hF => ?_⟩
              refine pv hF hW (y_eql hF rfl rfl) (fun a hF => ?_)
              refine Fr.splitD hF ?_ ?_
              · intro h13 hF
                refine l_nil ?_
                replace hF := (hF.k 0 rfl (hF.k 1 rfl (hF.k 5 rfl (hF.k 6 rfl (hF.k 7 rfl (hF.k 8 rfl (hF.k 9 rfl (hF.k 10 rfl (hF.k 11 rfl (hF.k 12 rfl (hF.k 13 rfl (hF.k 15 rfl (hF.k 38 rfl (hF.k 76 rfl (hF.k 77 rfl (hF.k 92 rfl hF.nil))))))))))))))))
                refine t_n ?_
                refine c_t hF rfl ?_
                refine wp_exit ?_
                refine t_x ?_
                refine b_h ?_
                refine t_n ?_
                refine c_r ?_
                refine pv hF hW (y_move hF rfl) (fun a hF => ?_)
                refine pv hF hW (y_add hF rfl rfl (IntWalk.i64_in _ (by omega))) (fun a hF => ?_)
                replace hF := hF.drop 9
                refine pv hF hW (y_assign hF rfl) (fun a hF => ?_)
                refine l_nil ?_
                replace hF := (hF.k 0 rfl (hF.k 1 rfl (hF.k 5 rfl (hF.k 6 rfl (hF.k 7 rfl (hF.k 8 rfl (hF.k 9 rfl (hF.k 10 rfl (hF.k 11 rfl (hF.k 12 rfl (hF.k 13 rfl (hF.k 15 rfl (hF.k 38 rfl (hF.k 76 rfl (hF.k 77 rfl (hF.k 92 rfl hF.nil))))))))))))))))
                replace hW := hW.del 0 rfl
                replace hW := hW.del 0 rfl
                replace hW := hW.del 1 rfl
                replace hW := hW.front 5 rfl rfl
                replace hW := hW.front 5 rfl rfl
                replace hW := hW.front 2 rfl rfl
                replace hW := hW.front 3 rfl rfl
                replace hW := hW.front 5 rfl rfl
                replace hW := hW.front 5 rfl rfl
                refine t_n ?_
                refine ⟨(k + 1, qput q (vals.getD k 0), [vals.getD k 0], inp ++ [vals.getD k 0], out, aA, ac, bA, bc, A11, c12, oA, oc), ?_, ?_, ?_, ?_⟩
                · exact ⟨fifo_put hfifo (by assumption), qput_len hq3, by simp, by simp; omega, by omega⟩
                · first | omega | (dsimp only; omega)
                · exact Fr.app (Fr.cons hF (t := 9) rfl (by first | rfl | (simp; done) | omega) (Fr.cons hF (t := 7) rfl (by first | rfl | (simp; done) | omega) (Fr.cons hF (t := 8) rfl (by first | rfl | (simp; done) | omega) (Fr.nil hF)))) (Fr.cons hF (t := 0) rfl rfl (Fr.cons hF (t := 1) rfl rfl (Fr.cons hF (t := 5) rfl rfl (Fr.cons hF (t := 6) rfl rfl (Fr.nil hF)))))
                · exact hW
              · intro h13 hF
                refine l_nil ?_
                replace hF := (hF.k 0 rfl (hF.k 1 rfl (hF.k 5 rfl (hF.k 6 rfl (hF.k 7 rfl (hF.k 8 rfl (hF.k 9 rfl (hF.k 10 rfl (hF.k 11 rfl (hF.k 12 rfl (hF.k 13 rfl (hF.k 15 rfl (hF.k 38 rfl (hF.k 76 rfl (hF.k 77 rfl (hF.k 92 rfl hF.nil))))))))))))))))
                refine t_n ?_
                refine c_f hF rfl ?_
                refine wp_skip ?_
                refine t_n ?_
                refine c_sr ?_
                refine pv hF hW (y_loadAll hF rfl 5 rfl Try.underlying24 rfl sz_24) (fun a hF => ?_)
                refine pe (e_call hF rfl rfl en_13 (by rfl) rfl rfl (getQ (qput_len hq3) (hW.res 4 rfl)) ?_)
                rintro e w1 ⟨A3, n3, rfl, hr, hb⟩
                replace hW := (hW.gotR hb hr).del 5 rfl
                refine ⟨_, rfl, fun a hF => ?_⟩
                refine pv hF hW (y_move hF rfl) (fun a hF => ?_)
                refine pv hF hW (y_extract hF rfl rfl) (fun a hF => ?_)
                refine pv hF hW (y_extract hF rfl rfl) (fun a hF => ?_)
                refine pv hF hW (y_extract hF rfl rfl) (fun a hF => ?_)
                refine pv hF hW (y_extract hF rfl rfl) (fun a hF => ?_)
                refine pe (e_alloc hF hW ze_24 rfl rfl rfl ?_)
                intro b14 a wc hF hW
                refine pe (e_storeAll rfl hF hW rfl rfl 0 rfl rfl rfl (by kernel_rfl) sz_24 ?_)
                intro wc hW
                refine pv hF hW (y_assign hF rfl) (fun a hF => ?_)
                refine pv hF hW (y_assign hF rfl) (fun a hF => ?_)
                refine pv hF hW (y_assign hF rfl) (fun a hF => ?_)
                refine l_nil ?_
                replace hF := (hF.k 0 rfl (hF.k 1 rfl (hF.k 5 rfl (hF.k 6 rfl (hF.k 7 rfl (hF.k 8 rfl (hF.k 9 rfl (hF.k 10 rfl (hF.k 11 rfl (hF.k 12 rfl (hF.k 13 rfl (hF.k 15 rfl (hF.k 16 rfl (hF.k 17 rfl (hF.k 18 rfl (hF.k 19 rfl (hF.k 38 rfl (hF.k 76 rfl (hF.k 77 rfl (hF.k 92 rfl hF.nil))))))))))))))))))))
                refine t_n ?_
                refine c_sr ?_
                refine pv hF hW (y_loadAll hF rfl 7 rfl Try.underlying24 rfl sz_24) (fun a hF => ?_)
                refine pe (e_call hF rfl rfl en_13 (by rfl) rfl rfl (getS (hW.res 4 rfl)) ?_)
                rintro e w1 ⟨A4, n4, rfl, hr, hb⟩
                replace hW := hW.gotR hb hr
                refine ⟨_, rfl, fun a hF => ?_⟩
                refine pv hF hW (y_move hF rfl) (fun a hF => ?_)
                refine pv hF hW (y_extract hF rfl rfl) (fun a hF => ?_)
                refine pv hF hW (y_extract hF rfl rfl) (fun a hF => ?_)
                refine pv hF hW (y_extract hF rfl rfl) (fun a hF => ?_)
                refine pv hF hW (y_extract hF rfl rfl) (fun a hF => ?_)
                refine pe (e_alloc hF hW ze_24 rfl rfl rfl ?_)
                intro b15 a wc hF hW
                refine pe (e_storeAll rfl hF hW rfl rfl 0 rfl rfl rfl (by kernel_rfl) sz_24 ?_)
                intro wc hW
                refine pv hF hW (y_assign hF rfl) (fun a hF => ?_)
                refine pv hF hW (y_assign hF rfl) (fun a hF => ?_)
                refine pv hF hW (y_assign hF rfl) (fun a hF => ?_)
                refine l_nil ?_
                replace hF := (hF.k 0 rfl (hF.k 1 rfl (hF.k 5 rfl (hF.k 6 rfl (hF.k 7 rfl (hF.k 8 rfl (hF.k 9 rfl (hF.k 10 rfl (hF.k 11 rfl (hF.k 12 rfl (hF.k 13 rfl (hF.k 15 rfl (hF.k 16 rfl (hF.k 17 rfl (hF.k 18 rfl (hF.k 19 rfl (hF.k 20 rfl (hF.k 21 rfl (hF.k 22 rfl (hF.k 23 rfl (hF.k 38 rfl (hF.k 76 rfl (hF.k 77 rfl (hF.k 92 rfl hF.nil))))))))))))))))))))))))
                refine t_n ?_
                refine c_s ?_
                refine c_sr ?_
                refine pv hF hW (y_move hF rfl) (fun a hF => ?_)
                refine pv hF hW (y_neq hF rfl rfl) (fun a hF => ?_)
                replace hF := Fr.bool (t := false) (by first | decide | (simp; done) | rfl) hF
                refine pv hF hW (y_move hF rfl) (fun a hF => ?_)
                replace hF := Fr.bool (t := false) (by first | decide | (simp; done) | rfl) hF
                refine pv hF hW (y_move hF rfl) (fun a hF => ?_) (ws hF rfl rfl)
                refine pv hF hW (y_neq hF rfl rfl) (fun a hF => ?_) (ws hF rfl rfl)
                replace hF := Fr.bool (t := false) (by first | decide | (simp; done) | rfl) hF
                refine pv hF hW (y_pick hF rfl rfl) (fun a hF => ?_)
                replace hF := Fr.bool (t := false) (by first | decide | (simp; done) | rfl) hF
                refine pv hF hW (y_move hF rfl) (fun a hF => ?_)
                replace hF := Fr.bool (t := false) (by first | decide | (simp; done) | rfl) hF
                refine pv hF hW (y_move hF rfl) (fun a hF => ?_) (ws hF rfl rfl)
                refine pv hF hW (y_not hF rfl) (fun a hF => ?_) (ws hF rfl rfl)
                replace hF := Fr.bool (t := false) (by first | decide | (simp; done) | rfl) hF
                refine pv hF hW (y_pick hF rfl rfl) (fun a hF => ?_)
                replace hF := Fr.bool (t := false) (by first | decide | (simp; done) | rfl) hF
                refine pv hF hW (y_move hF rfl) (fun a hF => ?_)
                replace hF := Fr.bool (t := false) (by first | decide | (simp; done) | rfl) hF
                refine pv hF hW (y_move hF rfl) (fun a hF => ?_) (ws hF rfl rfl)
                refine pv hF hW (y_move hF rfl) (fun a hF => ?_) (ws hF rfl rfl)
                refine pv hF hW (y_move hF rfl) (fun a hF => ?_) (ws hF rfl rfl)
                refine pv hF hW (y_indexS hF rfl rfl (by first | omega | decide) Try.underlying22 sz_3 (fun w h => (hrv).wd h)) (fun a hF => ?_) (ws hF rfl rfl)
                refine pv hF hW (y_loadRow hF rfl (fun w h => (hrv).wd h) (by first | omega | decide) rfl Try.underlying3 rfl) (fun a hF => ?_) (ws hF rfl rfl)
                refine pv hF hW (y_neq hF rfl rfl) (fun a hF => ?_) (ws hF rfl rfl)
                refine Fr.splitD hF ?_ ?_
                · intro h16 hF
                  exfalso
                  exact h16 rfl
                · intro h16 hF
                  refine pv hF hW (y_pick hF rfl rfl) (fun a hF => ?_)
                  refine pv hF hW (y_move hF rfl) (fun a hF => ?_)
                  refine pv hF hW (y_fieldOwn hF rfl fa_24_0) (fun a hF => ?_) (ws hF rfl rfl)
                  refine pv hF hW (y_loadOwn hF rfl 0 rfl rfl Try.underlying22 rfl) (fun a hF => ?_) (ws hF rfl rfl)
                  refine pv hF hW (y_fieldOwn hF rfl fa_24_0) (fun a hF => ?_) (ws hF rfl rfl)
                  refine pv hF hW (y_loadOwn hF rfl 9 rfl rfl Try.underlying22 rfl) (fun a hF => ?_) (ws hF rfl rfl)
                  refine pe (e_call hF rfl rfl en_19 (by rfl) rfl rfl (sameIntsTo (hW.res 1 rfl) (hW.res 6 rfl) rfl) ?_) (ws hF rfl rfl)
                  rintro e w1 ⟨rfl, hb⟩
                  replace hW := hW.kept hb
                  clear hb
                  refine ⟨_, rfl, fun a hF => ?_⟩
                  refine pv hF hW (y_not hF rfl) (fun a hF => ?_) (ws hF rfl rfl)
                  replace hF := Fr.bool (t := false) (by first | decide | (simp; done) | rfl) hF
                  refine pv hF hW (y_pick hF rfl rfl) (fun a hF => ?_)
                  replace hF := Fr.bool (t := false) (by first | decide | (simp; done) | rfl) hF
                  refine l_nil ?_
                  replace hF := (hF.k 0 rfl (hF.k 1 rfl (hF.k 5 rfl (hF.k 6 rfl (hF.k 7 rfl (hF.k 8 rfl (hF.k 9 rfl (hF.k 10 rfl (hF.k 11 rfl (hF.k 12 rfl (hF.k 13 rfl (hF.k 15 rfl (hF.k 16 rfl (hF.k 17 rfl (hF.k 18 rfl (hF.k 19 rfl (hF.k 20 rfl (hF.k 21 rfl (hF.k 22 rfl (hF.k 23 rfl (hF.k 38 rfl (hF.k 76 rfl (hF.k 77 rfl (hF.k 92 rfl (hF.k 132 rfl hF.nil)))))))))))))))))))))))))
                  refine t_n ?_
                  refine c_f hF rfl ?_
                  refine wp_skip ?_
                  refine t_n ?_
                  refine c_s ?_
                  refine c_sr ?_
                  refine pv hF hW (y_move hF rfl) (fun a hF => ?_)
                  refine Fr.splitB hF ?_ ?_
                  · intro h17 hF
                    refine l_nil ?_
                    refine t_n ?_
                    refine c_t hF rfl ?_
                    refine c_r ?_
                    refine pv hF hW (y_move hF rfl) (fun a hF => ?_)
                    refine pv hF hW (y_move hF rfl) (fun a hF => ?_)
                    refine pe (e_buildSlice hF hW rfl (fun w => bs_ChansTrue_22_1_0 _ w) rfl rfl rfl ?_)
                    intro b18 a wc hF hW
                    refine pe (e_append hF hW 12 rfl rfl rfl Try.underlying22 inf_3 rfl (by decide) (rowAt_blk (hW.blk 0 rfl) 1 1 rfl) (by simp [Value.oneCell']) (show _ = (out ++ [(qput q (vals.getD k 0)).headD 0]).length by simp) (show _ = (out ++ [(qput q (vals.getD k 0)).headD 0]).map (.int .i64) by simp) (by first | omega | (simp; omega)) (by unfold maxLen; first | omega | (simp; omega)) rfl rfl ?_)
                    intro A19 c20 a wc hF hW
                    replace hF := hF.drop 8
                    refine pv hF hW (y_assign hF rfl) (fun a hF => ?_)
                    refine l_nil ?_
                    replace hF := (hF.k 0 rfl (hF.k 1 rfl (hF.k 5 rfl (hF.k 6 rfl (hF.k 7 rfl (hF.k 8 rfl (hF.k 9 rfl (hF.k 10 rfl (hF.k 11 rfl (hF.k 12 rfl (hF.k 13 rfl (hF.k 15 rfl (hF.k 16 rfl (hF.k 17 rfl (hF.k 18 rfl (hF.k 19 rfl (hF.k 20 rfl (hF.k 21 rfl (hF.k 22 rfl (hF.k 23 rfl (hF.k 38 rfl (hF.k 76 rfl (hF.k 77 rfl (hF.k 92 rfl (hF.k 132 rfl (hF.k 133 rfl hF.nil))))))))))))))))))))))))))
                    refine t_n ?_
                    refine c_r ?_
                    refine pv hF hW (y_loadAll hF rfl 3 rfl Try.underlying24 rfl sz_24) (fun a hF => ?_)
                    refine pe (e_storeAll rfl hF hW rfl rfl 9 rfl rfl rfl (by kernel_rfl) sz_24 ?_)
                    intro wc hW
                    refine l_nil ?_
                    replace hF := (hF.k 0 rfl (hF.k 1 rfl (hF.k 5 rfl (hF.k 6 rfl (hF.k 7 rfl (hF.k 8 rfl (hF.k 9 rfl (hF.k 10 rfl (hF.k 11 rfl (hF.k 12 rfl (hF.k 13 rfl (hF.k 15 rfl (hF.k 16 rfl (hF.k 17 rfl (hF.k 18 rfl (hF.k 19 rfl (hF.k 20 rfl (hF.k 21 rfl (hF.k 22 rfl (hF.k 23 rfl (hF.k 38 rfl (hF.k 76 rfl (hF.k 77 rfl (hF.k 92 rfl (hF.k 132 rfl (hF.k 133 rfl hF.nil))))))))))))))))))))))))))
                    refine b_n ?_
                    refine t_n ?_
                    refine c_r ?_
                    refine pv hF hW (y_move hF rfl) (fun a hF => ?_)
                    refine pv hF hW (y_add hF rfl rfl (IntWalk.i64_in _ (by omega))) (fun a hF => ?_)
                    replace hF := hF.drop 9
                    refine pv hF hW (y_assign hF rfl) (fun a hF => ?_)
                    refine l_nil ?_
                    replace hF := (hF.k 0 rfl (hF.k 1 rfl (hF.k 5 rfl (hF.k 6 rfl (hF.k 7 rfl (hF.k 8 rfl (hF.k 9 rfl (hF.k 10 rfl (hF.k 11 rfl (hF.k 12 rfl (hF.k 13 rfl (hF.k 15 rfl (hF.k 16 rfl (hF.k 17 rfl (hF.k 18 rfl (hF.k 19 rfl (hF.k 20 rfl (hF.k 21 rfl (hF.k 22 rfl (hF.k 23 rfl (hF.k 38 rfl (hF.k 76 rfl (hF.k 77 rfl (hF.k 92 rfl (hF.k 132 rfl (hF.k 133 rfl hF.nil))))))))))))))))))))))))))
                    replace hW := hW.del 0 rfl
                    replace hW := hW.del 0 rfl
                    replace hW := hW.del 0 rfl
                    replace hW := hW.del 0 rfl
                    replace hW := hW.del 1 rfl
                    replace hW := hW.del 1 rfl
                    replace hW := hW.del 2 rfl
                    replace hW := hW.front 5 rfl rfl
                    replace hW := hW.front 5 rfl rfl
                    replace hW := hW.front 3 rfl rfl
                    replace hW := hW.front 3 rfl rfl
                    replace hW := hW.front 5 rfl rfl
                    replace hW := hW.front 5 rfl rfl
                    refine t_n ?_
                    refine ⟨(k + 1, (qput q (vals.getD k 0)).tail, [vals.getD k 0], inp ++ [vals.getD k 0], out ++ [(qput q (vals.getD k 0)).headD 0], A3, n3, bA, bc, A11, c12, A19, c20), ?_, ?_, ?_, ?_⟩
                    · exact ⟨fifo_get (fifo_put hfifo (by assumption)) (by assumption), qtail_len hq3, by simp, by simp; omega, by omega⟩
                    · first | omega | (dsimp only; omega)
                    · exact Fr.app (Fr.cons hF (t := 9) rfl (by first | rfl | (simp; done) | omega) (Fr.cons hF (t := 7) rfl (by first | rfl | (simp; done) | omega) (Fr.cons hF (t := 8) rfl (by first | rfl | (simp; done) | omega) (Fr.nil hF)))) (Fr.cons hF (t := 0) rfl rfl (Fr.cons hF (t := 1) rfl rfl (Fr.cons hF (t := 5) rfl rfl (Fr.cons hF (t := 6) rfl rfl (Fr.nil hF)))))
                    · exact hW
                  · intro h17 hF
                    refine l_nil ?_
                    refine t_n ?_
                    refine c_f hF rfl ?_
                    refine wp_skip ?_
                    refine t_n ?_
                    refine c_r ?_
                    refine pv hF hW (y_loadAll hF rfl 2 rfl Try.underlying24 rfl sz_24) (fun a hF => ?_)
                    refine pe (e_storeAll rfl hF hW rfl rfl 8 rfl rfl rfl (by kernel_rfl) sz_24 ?_)
                    intro wc hW
                    refine l_nil ?_
                    replace hF := (hF.k 0 rfl (hF.k 1 rfl (hF.k 5 rfl (hF.k 6 rfl (hF.k 7 rfl (hF.k 8 rfl (hF.k 9 rfl (hF.k 10 rfl (hF.k 11 rfl (hF.k 12 rfl (hF.k 13 rfl (hF.k 15 rfl (hF.k 16 rfl (hF.k 17 rfl (hF.k 18 rfl (hF.k 19 rfl (hF.k 20 rfl (hF.k 21 rfl (hF.k 22 rfl (hF.k 23 rfl (hF.k 38 rfl (hF.k 76 rfl (hF.k 77 rfl (hF.k 92 rfl (hF.k 132 rfl (hF.k 133 rfl hF.nil))))))))))))))))))))))))))
                    refine b_n ?_
                    refine t_n ?_
                    refine c_r ?_
                    refine pv hF hW (y_move hF rfl) (fun a hF => ?_)
                    refine pv hF hW (y_add hF rfl rfl (IntWalk.i64_in _ (by omega))) (fun a hF => ?_)
                    replace hF := hF.drop 9
                    refine pv hF hW (y_assign hF rfl) (fun a hF => ?_)
                    refine l_nil ?_
                    replace hF := (hF.k 0 rfl (hF.k 1 rfl (hF.k 5 rfl (hF.k 6 rfl (hF.k 7 rfl (hF.k 8 rfl (hF.k 9 rfl (hF.k 10 rfl (hF.k 11 rfl (hF.k 12 rfl (hF.k 13 rfl (hF.k 15 rfl (hF.k 16 rfl (hF.k 17 rfl (hF.k 18 rfl (hF.k 19 rfl (hF.k 20 rfl (hF.k 21 rfl (hF.k 22 rfl (hF.k 23 rfl (hF.k 38 rfl (hF.k 76 rfl (hF.k 77 rfl (hF.k 92 rfl (hF.k 132 rfl (hF.k 133 rfl hF.nil))))))))))))))))))))))))))
                    replace hW := hW.del 0 rfl
                    replace hW := hW.del 0 rfl
                    replace hW := hW.del 0 rfl
                    replace hW := hW.del 1 rfl
                    replace hW := hW.del 1 rfl
                    replace hW := hW.del 2 rfl
                    replace hW := hW.front 5 rfl rfl
                    replace hW := hW.front 5 rfl rfl
                    replace hW := hW.front 3 rfl rfl
                    replace hW := hW.front 3 rfl rfl
                    replace hW := hW.front 5 rfl rfl
                    replace hW := hW.front 5 rfl rfl
                    refine t_n ?_
                    refine ⟨(k + 1, (qput q (vals.getD k 0)).tail, [vals.getD k 0], inp ++ [vals.getD k 0], out, A3, n3, bA, bc, A11, c12, oA, oc), ?_, ?_, ?_, ?_⟩
                    · exact ⟨fifo_none (fifo_put hfifo (by assumption)) (by assumption), qtail_len hq3, by simp, by simp; omega, by omega⟩
                    · first | omega | (dsimp only; omega)
                    · exact Fr.app (Fr.cons hF (t := 9) rfl (by first | rfl | (simp; done) | omega) (Fr.cons hF (t := 7) rfl (by first | rfl | (simp; done) | omega) (Fr.cons hF (t := 8) rfl (by first | rfl | (simp; done) | omega) (Fr.nil hF)))) (Fr.cons hF (t := 0) rfl rfl (Fr.cons hF (t := 1) rfl rfl (Fr.cons hF (t := 5) rfl rfl (Fr.cons hF (t := 6) rfl rfl (Fr.nil hF)))))
                    · exact hW
            · intro h9 hF
              refine l_nil ?_
              refine t_n ?_
              refine c_f hF rfl ?_
              refine wp_skip ?_
              refine t_n ?_
              refine c_sd mixed_ok hW (((hW.del 4 rfl).del 4 rfl)) ?_
              clear hW; intro wc hW hS
              refine dv 0 rfl hF hS (y_loadAll hF rfl 2 rfl Try.underlying24 rfl sz_24) (fun a hF => ?_)
              refine dv 1 rfl hF hS (y_loadAll hF rfl 0 rfl Try.underlying24 rfl sz_24) (fun a hF => ?_)
              refine d_1 2 (by kernel_rfl) ?_
              refine d_op rfl rfl (e_storeAll rfl hF hW rfl rfl 4 rfl rfl rfl (by kernel_rfl) sz_24 ?_)
              intro wc hW
              refine ⟨((hW.del 4 rfl).del 4 rfl), ?_⟩
              replace hS := ((hW.del 4 rfl).del 4 rfl)
              refine d_1 3 (by kernel_rfl) ?_
              refine d_op rfl rfl (e_storeAll rfl hF hW rfl rfl 5 rfl rfl rfl (by kernel_rfl) sz_24 ?_)
              intro wc hW
              refine ⟨((hW.del 4 rfl).del 4 rfl), ?_⟩
              replace hS := ((hW.del 4 rfl).del 4 rfl)
              clear hS
              refine d_nil (by kernel_rfl) ?_
              replace hF := (hF.k 0 rfl (hF.k 1 rfl (hF.k 5 rfl (hF.k 6 rfl (hF.k 7 rfl (hF.k 8 rfl (hF.k 9 rfl (hF.k 10 rfl (hF.k 11 rfl (hF.k 12 rfl (hF.k 13 rfl (hF.k 15 rfl (hF.k 38 rfl (hF.k 76 rfl (hF.k 77 rfl hF.nil)))))))))))))))
              refine t_n ?_
              refine c_s ?_
              refine c_sr ?_
              refine pv hF hW (y_move hF rfl) (fun a hF => ?_)
              refine pv hF hW (y_move hF rfl) (fun a hF => ?_)
              refine pv hF hW (y_add hF rfl rfl (IntWalk.i64_in _ (by omega))) (fun a hF => ?_)
              refine pv hF hW (y_quo hF rfl rfl (by omega) rfl) (fun a hF => ?_)
              refine pe (e_call hF rfl rfl en_20 (by rfl) rfl rfl (chooseW _ _ (by decide) _) ?_)
              rintro e w1 ⟨r, rfl, hb⟩
              replace hW := hW.kept hb
              clear hb
              refine ⟨_, rfl, fun a hF => ?_⟩
              refine pv hF hW (y_eql hF rfl rfl) (fun a hF => ?_)
              refine Fr.splitD hF ?_ ?_
              · intro h21 hF
                refine l_nil ?_
                replace hF := (hF.k 0 rfl (hF.k 1 rfl (hF.k 5 rfl (hF.k 6 rfl (hF.k 7 rfl (hF.k 8 rfl (hF.k 9 rfl (hF.k 10 rfl (hF.k 11 rfl (hF.k 12 rfl (hF.k 13 rfl (hF.k 15 rfl (hF.k 38 rfl (hF.k 76 rfl (hF.k 77 rfl (hF.k 92 rfl hF.nil))))))))))))))))
                refine t_n ?_
                refine c_t hF rfl ?_
                refine wp_exit ?_
                refine t_x ?_
                refine b_h ?_
                refine t_n ?_
                refine c_r ?_
                refine pv hF hW (y_move hF rfl) (fun a hF => ?_)
                refine pv hF hW (y_add hF rfl rfl (IntWalk.i64_in _ (by omega))) (fun a hF => ?_)
                replace hF := hF.drop 9
                refine pv hF hW (y_assign hF rfl) (fun a hF => ?_)
                refine l_nil ?_
                replace hF := (hF.k 0 rfl (hF.k 1 rfl (hF.k 5 rfl (hF.k 6 rfl (hF.k 7 rfl (hF.k 8 rfl (hF.k 9 rfl (hF.k 10 rfl (hF.k 11 rfl (hF.k 12 rfl (hF.k 13 rfl (hF.k 15 rfl (hF.k 38 rfl (hF.k 76 rfl (hF.k 77 rfl (hF.k 92 rfl hF.nil))))))))))))))))
                replace hW := hW.del 0 rfl
                replace hW := hW.del 1 rfl
                replace hW := hW.front 5 rfl rfl
                replace hW := hW.front 5 rfl rfl
                replace hW := hW.front 2 rfl rfl
                replace hW := hW.front 3 rfl rfl
                replace hW := hW.front 5 rfl rfl
                replace hW := hW.front 5 rfl rfl
                refine t_n ?_
                refine ⟨(k + 1, qput q (vals.getD k 0), [vals.getD k 0], inp, out, aA, ac, bA, bc, iA, ic, oA, oc), ?_, ?_, ?_, ?_⟩
                · exact ⟨fifo_full hfifo (by assumption), qput_len hq3, by simp, by omega, by omega⟩
                · first | omega | (dsimp only; omega)
                · exact Fr.app (Fr.cons hF (t := 9) rfl (by first | rfl | (simp; done) | omega) (Fr.cons hF (t := 7) rfl (by first | rfl | (simp; done) | omega) (Fr.cons hF (t := 8) rfl (by first | rfl | (simp; done) | omega) (Fr.nil hF)))) (Fr.cons hF (t := 0) rfl rfl (Fr.cons hF (t := 1) rfl rfl (Fr.cons hF (t := 5) rfl rfl (Fr.cons hF (t := 6) rfl rfl (Fr.nil hF)))))
                · exact hW
              · intro h21 hF
                refine l_nil ?_
                replace hF := (hF.k 0 rfl (hF.k 1 rfl (hF.k 5 rfl (hF.k 6 rfl (hF.k 7 rfl (hF.k 8 rfl (hF.k 9 rfl (hF.k 10 rfl (hF.k 11 rfl (hF.k 12 rfl (hF.k 13 rfl (hF.k 15 rfl (hF.k 38 rfl (hF.k 76 rfl (hF.k 77 rfl (hF.k 92 rfl hF.nil))))))))))))))))
                refine t_n ?_
                refine c_f hF rfl ?_
                refine wp_skip ?_
                refine t_n ?_
                refine c_sr ?_
                refine pv hF hW (y_loadAll hF rfl 4 rfl Try.underlying24 rfl sz_24) (fun a hF => ?_)
                refine pe (e_call hF rfl rfl en_13 (by rfl) rfl rfl (getQ (qput_len hq3) (hW.res 3 rfl)) ?_)
                rintro e w1 ⟨A3, n3, rfl, hr, hb⟩
                replace hW := (hW.gotR hb hr).del 4 rfl
                refine ⟨_, rfl, fun a hF => ?_⟩
                refine pv hF hW (y_move hF rfl) (fun a hF => ?_)
                refine pv hF hW (y_extract hF rfl rfl) (fun a hF => ?_)
                refine pv hF hW (y_extract hF rfl rfl) (fun a hF => ?_)
                refine pv hF hW (y_extract hF rfl rfl) (fun a hF => ?_)
                refine pv hF hW (y_extract hF rfl rfl) (fun a hF => ?_)
                refine pe (e_alloc hF hW ze_24 rfl rfl rfl ?_)
                intro b22 a wc hF hW
                refine pe (e_storeAll rfl hF hW rfl rfl 0 rfl rfl rfl (by kernel_rfl) sz_24 ?_)
                intro wc hW
                refine pv hF hW (y_assign hF rfl) (fun a hF => ?_)
                refine pv hF hW (y_assign hF rfl) (fun a hF => ?_)
                refine pv hF hW (y_assign hF rfl) (fun a hF => ?_)
                refine l_nil ?_
                replace hF := (hF.k 0 rfl (hF.k 1 rfl (hF.k 5 rfl (hF.k 6 rfl (hF.k 7 rfl (hF.k 8 rfl (hF.k 9 rfl (hF.k 10 rfl (hF.k 11 rfl (hF.k 12 rfl (hF.k 13 rfl (hF.k 15 rfl (hF.k 16 rfl (hF.k 17 rfl (hF.k 18 rfl (hF.k 19 rfl (hF.k 38 rfl (hF.k 76 rfl (hF.k 77 rfl (hF.k 92 rfl hF.nil))))))))))))))))))))
                refine t_n ?_
                refine c_sr ?_
                refine pv hF hW (y_loadAll hF rfl 6 rfl Try.underlying24 rfl sz_24) (fun a hF => ?_)
                refine pe (e_call hF rfl rfl en_13 (by rfl) rfl rfl (getS (hW.res 3 rfl)) ?_)
                rintro e w1 ⟨A4, n4, rfl, hr, hb⟩
                replace hW := hW.gotR hb hr
                refine ⟨_, rfl, fun a hF => ?_⟩
                refine pv hF hW (y_move hF rfl) (fun a hF => ?_)
                refine pv hF hW (y_extract hF rfl rfl) (fun a hF => ?_)
                refine pv hF hW (y_extract hF rfl rfl) (fun a hF => ?_)
                refine pv hF hW (y_extract hF rfl rfl) (fun a hF => ?_)
                refine pv hF hW (y_extract hF rfl rfl) (fun a hF => ?_)
                refine pe (e_alloc hF hW ze_24 rfl rfl rfl ?_)
                intro b23 a wc hF hW
                refine pe (e_storeAll rfl hF hW rfl rfl 0 rfl rfl rfl (by kernel_rfl) sz_24 ?_)
                intro wc hW
                refine pv hF hW (y_assign hF rfl) (fun a hF => ?_)
                refine pv hF hW (y_assign hF rfl) (fun a hF => ?_)
                refine pv hF hW (y_assign hF rfl) (fun a hF => ?_)
                refine l_nil ?_
                replace hF := (hF.k 0 rfl (hF.k 1 rfl (hF.k 5 rfl (hF.k 6 rfl (hF.k 7 rfl (hF.k 8 rfl (hF.k 9 rfl (hF.k 10 rfl (hF.k 11 rfl (hF.k 12 rfl (hF.k 13 rfl (hF.k 15 rfl (hF.k 16 rfl (hF.k 17 rfl (hF.k 18 rfl (hF.k 19 rfl (hF.k 20 rfl (hF.k 21 rfl (hF.k 22 rfl (hF.k 23 rfl (hF.k 38 rfl (hF.k 76 rfl (hF.k 77 rfl (hF.k 92 rfl hF.nil))))))))))))))))))))))))
                refine t_n ?_
                refine c_s ?_
                refine c_sr ?_
                refine pv hF hW (y_move hF rfl) (fun a hF => ?_)
                refine pv hF hW (y_neq hF rfl rfl) (fun a hF => ?_)
                replace hF := Fr.bool (t := false) (by first | decide | (simp; done) | rfl) hF
                refine pv hF hW (y_move hF rfl) (fun a hF => ?_)
                replace hF := Fr.bool (t := false) (by first | decide | (simp; done) | rfl) hF
                refine pv hF hW (y_move hF rfl) (fun a hF => ?_) (ws hF rfl rfl)
                refine pv hF hW (y_neq hF rfl rfl) (fun a hF => ?_) (ws hF rfl rfl)
                replace hF := Fr.bool (t := false) (by first | decide | (simp; done) | rfl) hF
                refine pv hF hW (y_pick hF rfl rfl) (fun a hF => ?_)
                replace hF := Fr.bool (t := false) (by first | decide | (simp; done) | rfl) hF
                refine pv hF hW (y_move hF rfl) (fun a hF => ?_)
                replace hF := Fr.bool (t := false) (by first | decide | (simp; done) | rfl) hF
                refine pv hF hW (y_move hF rfl) (fun a hF => ?_) (ws hF rfl rfl)
                refine pv hF hW (y_not hF rfl) (fun a hF => ?_) (ws hF rfl rfl)
                replace hF := Fr.bool (t := false) (by first | decide | (simp; done) | rfl) hF
                refine pv hF hW (y_pick hF rfl rfl) (fun a hF => ?_)
                replace hF := Fr.bool (t := false) (by first | decide | (simp; done) | rfl) hF
                refine pv hF hW (y_move hF rfl) (fun a hF => ?_)
                replace hF := Fr.bool (t := false) (by first | decide | (simp; done) | rfl) hF
                refine pv hF hW (y_move hF rfl) (fun a hF => ?_) (ws hF rfl rfl)
                refine pv hF hW (y_move hF rfl) (fun a hF => ?_) (ws hF rfl rfl)
                refine pv hF hW (y_move hF rfl) (fun a hF => ?_) (ws hF rfl rfl)
                refine pv hF hW (y_indexS hF rfl rfl (by first | omega | decide) Try.underlying22 sz_3 (fun w h => (hrv).wd h)) (fun a hF => ?_) (ws hF rfl rfl)
                refine pv hF hW (y_loadRow hF rfl (fun w h => (hrv).wd h) (by first | omega | decide) rfl Try.underlying3 rfl) (fun a hF => ?_) (ws hF rfl rfl)
                refine pv hF hW (y_neq hF rfl rfl) (fun a hF => ?_) (ws hF rfl rfl)
                refine Fr.splitD hF ?_ ?_
                · intro h24 hF
                  exfalso
                  exact h24 rfl
                · intro h24 hF
                  refine pv hF hW (y_pick hF rfl rfl) (fun a hF => ?_)
                  refine pv hF hW (y_move hF rfl) (fun a hF => ?_)
                  refine pv hF hW (y_fieldOwn hF rfl fa_24_0) (fun a hF => ?_) (ws hF rfl rfl)
                  refine pv hF hW (y_loadOwn hF rfl 0 rfl rfl Try.underlying22 rfl) (fun a hF => ?_) (ws hF rfl rfl)
                  refine pv hF hW (y_fieldOwn hF rfl fa_24_0) (fun a hF => ?_) (ws hF rfl rfl)
                  refine pv hF hW (y_loadOwn hF rfl 8 rfl rfl Try.underlying22 rfl) (fun a hF => ?_) (ws hF rfl rfl)
                  refine pe (e_call hF rfl rfl en_19 (by rfl) rfl rfl (sameIntsTo (hW.res 1 rfl) (hW.res 5 rfl) rfl) ?_) (ws hF rfl rfl)
                  rintro e w1 ⟨rfl, hb⟩
                  replace hW := hW.kept hb
                  clear hb
                  refine ⟨_, rfl, fun a hF => ?_⟩
                  refine pv hF hW (y_not hF rfl) (fun a hF => ?_) (ws hF rfl rfl)
                  replace hF := Fr.bool (t := false) (by first | decide | (simp; done) | rfl) hF
                  refine pv hF hW (y_pick hF rfl rfl) (fun a hF => ?_)
                  replace hF := Fr.bool (t := false) (by first | decide | (simp; done) | rfl) hF
                  refine l_nil ?_
                  replace hF := (hF.k 0 rfl (hF.k 1 rfl (hF.k 5 rfl (hF.k 6 rfl (hF.k 7 rfl (hF.k 8 rfl (hF.k 9 rfl (hF.k 10 rfl (hF.k 11 rfl (hF.k 12 rfl (hF.k 13 rfl (hF.k 15 rfl (hF.k 16 rfl (hF.k 17 rfl (hF.k 18 rfl (hF.k 19 rfl (hF.k 20 rfl (hF.k 21 rfl (hF.k 22 rfl (hF.k 23 rfl (hF.k 38 rfl (hF.k 76 rfl (hF.k 77 rfl (hF.k 92 rfl (hF.k 132 rfl hF.nil)))))))))))))))))))))))))
                  refine t_n ?_
                  refine c_f hF rfl ?_
                  refine wp_skip ?_
                  refine t_n ?_
                  refine c_s ?_
                  refine c_sr ?_
                  refine pv hF hW (y_move hF rfl) (fun a hF => ?_)
                  refine Fr.splitB hF ?_ ?_
                  · intro h25 hF
                    refine l_nil ?_
                    refine t_n ?_
                    refine c_t hF rfl ?_
                    refine c_r ?_
                    refine pv hF hW (y_move hF rfl) (fun a hF => ?_)
                    refine pv hF hW (y_move hF rfl) (fun a hF => ?_)
                    refine pe (e_buildSlice hF hW rfl (fun w => bs_ChansTrue_22_1_0 _ w) rfl rfl rfl ?_)
                    intro b26 a wc hF hW
                    refine pe (e_append hF hW 11 rfl rfl rfl Try.underlying22 inf_3 rfl (by decide) (rowAt_blk (hW.blk 0 rfl) 1 1 rfl) (by simp [Value.oneCell']) (show _ = (out ++ [(qput q (vals.getD k 0)).headD 0]).length by simp) (show _ = (out ++ [(qput q (vals.getD k 0)).headD 0]).map (.int .i64) by simp) (by first | omega | (simp; omega)) (by unfold maxLen; first | omega | (simp; omega)) rfl rfl ?_)
                    intro A27 c28 a wc hF hW
                    replace hF := hF.drop 8
                    refine pv hF hW (y_assign hF rfl) (fun a hF => ?_)
                    refine l_nil ?_
                    replace hF := (hF.k 0 rfl (hF.k 1 rfl (hF.k 5 rfl (hF.k 6 rfl (hF.k 7 rfl (hF.k 8 rfl (hF.k 9 rfl (hF.k 10 rfl (hF.k 11 rfl (hF.k 12 rfl (hF.k 13 rfl (hF.k 15 rfl (hF.k 16 rfl (hF.k 17 rfl (hF.k 18 rfl (hF.k 19 rfl (hF.k 20 rfl (hF.k 21 rfl (hF.k 22 rfl (hF.k 23 rfl (hF.k 38 rfl (hF.k 76 rfl (hF.k 77 rfl (hF.k 92 rfl (hF.k 132 rfl (hF.k 133 rfl hF.nil))))))))))))))))))))))))))
                    refine t_n ?_
                    refine c_r ?_
                    refine pv hF hW (y_loadAll hF rfl 3 rfl Try.underlying24 rfl sz_24) (fun a hF => ?_)
                    refine pe (e_storeAll rfl hF hW rfl rfl 8 rfl rfl rfl (by kernel_rfl) sz_24 ?_)
                    intro wc hW
                    refine l_nil ?_
                    replace hF := (hF.k 0 rfl (hF.k 1 rfl (hF.k 5 rfl (hF.k 6 rfl (hF.k 7 rfl (hF.k 8 rfl (hF.k 9 rfl (hF.k 10 rfl (hF.k 11 rfl (hF.k 12 rfl (hF.k 13 rfl (hF.k 15 rfl (hF.k 16 rfl (hF.k 17 rfl (hF.k 18 rfl (hF.k 19 rfl (hF.k 20 rfl (hF.k 21 rfl (hF.k 22 rfl (hF.k 23 rfl (hF.k 38 rfl (hF.k 76 rfl (hF.k 77 rfl (hF.k 92 rfl (hF.k 132 rfl (hF.k 133 rfl hF.nil))))))))))))))))))))))))))
                    refine b_n ?_
                    refine t_n ?_
                    refine c_r ?_
                    refine pv hF hW (y_move hF rfl) (fun a hF => ?_)
                    refine pv hF hW (y_add hF rfl rfl (IntWalk.i64_in _ (by omega))) (fun a hF => ?_)
                    replace hF := hF.drop 9
                    refine pv hF hW (y_assign hF rfl) (fun a hF => ?_)
                    refine l_nil ?_
                    replace hF := (hF.k 0 rfl (hF.k 1 rfl (hF.k 5 rfl (hF.k 6 rfl (hF.k 7 rfl (hF.k 8 rfl (hF.k 9 rfl (hF.k 10 rfl (hF.k 11 rfl (hF.k 12 rfl (hF.k 13 rfl (hF.k 15 rfl (hF.k 16 rfl (hF.k 17 rfl (hF.k 18 rfl (hF.k 19 rfl (hF.k 20 rfl (hF.k 21 rfl (hF.k 22 rfl (hF.k 23 rfl (hF.k 38 rfl (hF.k 76 rfl (hF.k 77 rfl (hF.k 92 rfl (hF.k 132 rfl (hF.k 133 rfl hF.nil))))))))))))))))))))))))))
                    replace hW := hW.del 0 rfl
                    replace hW := hW.del 0 rfl
                    replace hW := hW.del 0 rfl
                    replace hW := hW.del 0 rfl
                    replace hW := hW.del 1 rfl
                    replace hW := hW.del 2 rfl
                    replace hW := hW.front 5 rfl rfl
                    replace hW := hW.front 5 rfl rfl
                    replace hW := hW.front 3 rfl rfl
                    replace hW := hW.front 3 rfl rfl
                    replace hW := hW.front 5 rfl rfl
                    replace hW := hW.front 5 rfl rfl
                    refine t_n ?_
                    refine ⟨(k + 1, (qput q (vals.getD k 0)).tail, [vals.getD k 0], inp, out ++ [(qput q (vals.getD k 0)).headD 0], A3, n3, bA, bc, iA, ic, A27, c28), ?_, ?_, ?_, ?_⟩
                    · exact ⟨fifo_get (fifo_full hfifo (by assumption)) (by assumption), qtail_len hq3, by simp, by omega, by omega⟩
                    · first | omega | (dsimp only; omega)
                    · exact Fr.app (Fr.cons hF (t := 9) rfl (by first | rfl | (simp; done) | omega) (Fr.cons hF (t := 7) rfl (by first | rfl | (simp; done) | omega) (Fr.cons hF (t := 8) rfl (by first | rfl | (simp; done) | omega) (Fr.nil hF)))) (Fr.cons hF (t := 0) rfl rfl (Fr.cons hF (t := 1) rfl rfl (Fr.cons hF (t := 5) rfl rfl (Fr.cons hF (t := 6) rfl rfl (Fr.nil hF)))))
                    · exact hW
                  · intro h25 hF
                    refine l_nil ?_
                    refine t_n ?_
                    refine c_f hF rfl ?_
                    refine wp_skip ?_
                    refine t_n ?_
                    refine c_r ?_
                    refine pv hF hW (y_loadAll hF rfl 2 rfl Try.underlying24 rfl sz_24) (fun a hF => ?_)
                    refine pe (e_storeAll rfl hF hW rfl rfl 7 rfl rfl rfl (by kernel_rfl) sz_24 ?_)
                    intro wc hW
                    refine l_nil ?_
                    replace hF := (hF.k 0 rfl (hF.k 1 rfl (hF.k 5 rfl (hF.k 6 rfl (hF.k 7 rfl (hF.k 8 rfl (hF.k 9 rfl (hF.k 10 rfl (hF.k 11 rfl (hF.k 12 rfl (hF.k 13 rfl (hF.k 15 rfl (hF.k 16 rfl (hF.k 17 rfl (hF.k 18 rfl (hF.k 19 rfl (hF.k 20 rfl (hF.k 21 rfl (hF.k 22 rfl (hF.k 23 rfl (hF.k 38 rfl (hF.k 76 rfl (hF.k 77 rfl (hF.k 92 rfl (hF.k 132 rfl (hF.k 133 rfl hF.nil))))))))))))))))))))))))))
                    refine b_n ?_
                    refine t_n ?_
                    refine c_r ?_
                    refine pv hF hW (y_move hF rfl) (fun a hF => ?_)
                    refine pv hF hW (y_add hF rfl rfl (IntWalk.i64_in _ (by omega))) (fun a hF => ?_)
                    replace hF := hF.drop 9
                    refine pv hF hW (y_assign hF rfl) (fun a hF => ?_)
                    refine l_nil ?_
                    replace hF := (hF.k 0 rfl (hF.k 1 rfl (hF.k 5 rfl (hF.k 6 rfl (hF.k 7 rfl (hF.k 8 rfl (hF.k 9 rfl (hF.k 10 rfl (hF.k 11 rfl (hF.k 12 rfl (hF.k 13 rfl (hF.k 15 rfl (hF.k 16 rfl (hF.k 17 rfl (hF.k 18 rfl (hF.k 19 rfl (hF.k 20 rfl (hF.k 21 rfl (hF.k 22 rfl (hF.k 23 rfl (hF.k 38 rfl (hF.k 76 rfl (hF.k 77 rfl (hF.k 92 rfl (hF.k 132 rfl (hF.k 133 rfl hF.nil))))))))))))))))))))))))))
                    replace hW := hW.del 0 rfl
                    replace hW := hW.del 0 rfl
                    replace hW := hW.del 0 rfl
                    replace hW := hW.del 1 rfl
                    replace hW := hW.del 2 rfl
                    replace hW := hW.front 5 rfl rfl
                    replace hW := hW.front 5 rfl rfl
                    replace hW := hW.front 3 rfl rfl
                    replace hW := hW.front 3 rfl rfl
                    replace hW := hW.front 5 rfl rfl
                    replace hW := hW.front 5 rfl rfl
                    refine t_n ?_
                    refine ⟨(k + 1, (qput q (vals.getD k 0)).tail, [vals.getD k 0], inp, out, A3, n3, bA, bc, iA, ic, oA, oc), ?_, ?_, ?_, ?_⟩
                    · exact ⟨fifo_none (fifo_full hfifo (by assumption)) (by assumption), qtail_len hq3, by simp, by omega, by omega⟩
                    · first | omega | (dsimp only; omega)
                    · exact Fr.app (Fr.cons hF (t := 9) rfl (by first | rfl | (simp; done) | omega) (Fr.cons hF (t := 7) rfl (by first | rfl | (simp; done) | omega) (Fr.cons hF (t := 8) rfl (by first | rfl | (simp; done) | omega) (Fr.nil hF)))) (Fr.cons hF (t := 0) rfl rfl (Fr.cons hF (t := 1) rfl rfl (Fr.cons hF (t := 5) rfl rfl (Fr.cons hF (t := 6) rfl rfl (Fr.nil hF)))))
                    · exact hW
      · intro h4 hF
        refine pv hF hW (y_pick hF rfl rfl) (fun a hF => ?_)
        refine l_nil ?_
        replace hF := (hF.k 0 rfl (hF.k 1 rfl (hF.k 5 rfl (hF.k 6 rfl (hF.k 7 rfl (hF.k 8 rfl (hF.k 9 rfl (hF.k 38 rfl hF.nil))))))))
        refine t_n ?_
        refine c_f hF rfl ?_
        refine wp_exit ?_
        refine t_x ?_
        refine t_x ?_
        refine b_h ?_
        replace hW := hW.del 1 rfl
        replace hW := hW.del 2 rfl
        refine t_n ?_
        refine ⟨(q, inp, out, qA, qc, iA, ic, oA, oc), ?_, ?_, ?_⟩
        · exact Fr.app (Fr.cons hF (t := 7) rfl rfl (Fr.cons hF (t := 8) rfl rfl (Fr.nil hF))) (Fr.cons hF (t := 0) rfl rfl (Fr.cons hF (t := 1) rfl rfl (Fr.cons hF (t := 5) rfl rfl (Fr.cons hF (t := 6) rfl rfl (Fr.nil hF)))))
        · exact hW
        · exact ⟨hfifo, hq3, by omega⟩
    · intro h3 hF
      refine pv hF hW (y_move hF rfl) (fun a hF => ?_)
      refine p_skip hF (wn hF rfl rfl rfl) rfl rfl (fun a hF => ?_)
      refine p_skip hF (wn hF rfl rfl rfl) rfl rfl (fun a hF => ?_)
      refine pv hF hW (y_pick hF rfl rfl) (fun a hF => ?_)
      refine l_nil ?_
      replace hF := (hF.k 0 rfl (hF.k 1 rfl (hF.k 5 rfl (hF.k 6 rfl (hF.k 7 rfl (hF.k 8 rfl (hF.k 9 rfl (hF.k 38 rfl hF.nil))))))))
      refine t_n ?_
      refine c_f hF rfl ?_
      refine wp_exit ?_
      refine t_x ?_
      refine t_x ?_
      refine b_h ?_
      replace hW := hW.del 1 rfl
      replace hW := hW.del 2 rfl
      refine t_n ?_
      refine ⟨(q, inp, out, qA, qc, iA, ic, oA, oc), ?_, ?_, ?_⟩
      · exact Fr.app (Fr.cons hF (t := 7) rfl rfl (Fr.cons hF (t := 8) rfl rfl (Fr.nil hF))) (Fr.cons hF (t := 0) rfl rfl (Fr.cons hF (t := 1) rfl rfl (Fr.cons hF (t := 5) rfl rfl (Fr.cons hF (t := 6) rfl rfl (Fr.nil hF)))))
      · exact hW
      · exact ⟨hfifo, hq3, by omega⟩
  · clear hF hW
    clear a
    intro gq a wc hC hF hW
    obtain ⟨q, inp, out, qA, qc, iA, ic, oA, oc⟩ := gq
    dsimp only at hC
    obtain ⟨hfifo, hq3, ho40⟩ := hC
    refine c_s ?_
    refine c_sr ?_
    refine pv hF hW (y_assign hF rfl) (fun a hF => ?_)
    refine l_nil ?_
    refine t_n ?_
    refine wp_block ?_
    replace hW := hW.front 3 rfl rfl
    replace hW := hW.front 2 rfl rfl
    replace hW := hW.front 2 rfl rfl
    refine c_loop (G := Nat × List Int × List Int × Option Addr × Nat × Option Addr × Nat) (fun (gq : Nat × List Int × List Int × Option Addr × Nat × Option Addr × Nat) => match gq with | ⟨j, r, o, rA, rc, uA, uc⟩ => [(24, .int .i64 (j : Int)), (8, .slice uA o.length uc)]) (fun (gq : Nat × List Int × List Int × Option Addr × Nat × Option Addr × Nat) => match gq with | ⟨j, r, o, rA, rc, uA, uc⟩ => [.blk b1 24 [.slice rA r.length rc], .res (fun u => Ints u (.slice rA r.length rc) r), .row 3 1 (.slice uA o.length uc) o.length (o.map (.int .i64))]) (fun (gq : Nat × List Int × List Int × Option Addr × Nat × Option Addr × Nat) => match gq with | ⟨j, r, o, rA, rc, uA, uc⟩ => inp = o ++ r ∧ r.length ≤ 3 - j ∧ j ≤ 3 ∧ o.length ≤ 40 + j) (fun (gq : Nat × List Int × List Int × Option Addr × Nat × Option Addr × Nat) => match gq with | ⟨j, r, o, rA, rc, uA, uc⟩ => 3 - j) (0, q, out, qA, qc, oA, oc) (Fr.cons hF (t := 0) rfl rfl (Fr.cons hF (t := 1) rfl rfl (Fr.cons hF (t := 5) rfl rfl (Fr.cons hF (t := 6) rfl rfl (Fr.cons hF (t := 7) rfl rfl (Fr.nil hF)))))) (Fr.cons hF (t := 24) rfl (by first | rfl | (simp; done)) (Fr.cons hF (t := 8) rfl (by first | rfl | (simp; done)) (Fr.nil hF))) (hW) ?_ ?_
    · exact ⟨hfifo, by omega, by omega, by omega⟩
    clear hF hW
    clear a
    intro gq a wc hC hF hW
    obtain ⟨j, r, o, rA, rc, uA, uc⟩ := gq
    dsimp only at hC
    obtain ⟨hf2, hr3, hj3, ho2⟩ := hC
    refine c_s ?_
    refine c_sr ?_
    refine pv hF hW (y_move hF rfl) (fun a hF => ?_)
    refine pv hF hW (y_lss hF rfl rfl) (fun a hF => ?_)
    refine Fr.splitD hF ?_ ?_
    · intro h29 hF
      refine l_nil ?_
      replace hF := (hF.k 0 rfl (hF.k 1 rfl (hF.k 5 rfl (hF.k 6 rfl (hF.k 7 rfl (hF.k 8 rfl (hF.k 24 rfl (hF.k 140 rfl hF.nil))))))))
      refine t_n ?_
      refine c_t hF rfl ?_
      refine wp_skip ?_
      refine t_n ?_
      refine c_s ?_
      refine wp_block ?_
      refine c_sr ?_
      refine pv hF hW (y_loadAll hF rfl 0 rfl Try.underlying24 rfl sz_24) (fun a hF => ?_)
      refine pe (e_call hF rfl rfl en_13 (by rfl) rfl rfl (getQ (by omega) (hW.res 1 rfl)) ?_)
      rintro e w1 ⟨A3, n3, rfl, hr, hb⟩
      replace hW := (hW.gotR hb hr).del 2 rfl
      refine ⟨_, rfl, fun a hF => ?_⟩
      refine pv hF hW (y_move hF rfl) (fun a hF => ?_)
      refine pv hF hW (y_extract hF rfl rfl) (fun a hF => ?_)
      refine pv hF hW (y_extract hF rfl rfl) (fun a hF => ?_)
      refine pv hF hW (y_extract hF rfl rfl) (fun a hF => ?_)
      refine pv hF hW (y_extract hF rfl rfl) (fun a hF => ?_)
      refine pe (e_alloc hF hW ze_24 rfl rfl rfl ?_)
      intro b30 a wc hF hW
      refine pe (e_storeAll rfl hF hW rfl rfl 0 rfl rfl rfl (by kernel_rfl) sz_24 ?_)
      intro wc hW
      refine pv hF hW (y_assign hF rfl) (fun a hF => ?_)
      refine pv hF hW (y_assign hF rfl) (fun a hF => ?_)
      refine pv hF hW (y_assign hF rfl) (fun a hF => ?_)
      refine l_nil ?_
      replace hF := (hF.k 0 rfl (hF.k 1 rfl (hF.k 5 rfl (hF.k 6 rfl (hF.k 7 rfl (hF.k 8 rfl (hF.k 24 rfl (hF.k 25 rfl (hF.k 26 rfl (hF.k 27 rfl (hF.k 28 rfl (hF.k 140 rfl hF.nil))))))))))))
      refine t_n ?_
      refine c_s ?_
      refine c_sr ?_
      refine pv hF hW (y_move hF rfl) (fun a hF => ?_)
      refine pv hF hW (y_neq hF rfl rfl) (fun a hF => ?_)
      replace hF := Fr.bool (t := false) (by first | decide | (simp; done) | rfl) hF
      refine l_nil ?_
      replace hF := (hF.k 0 rfl (hF.k 1 rfl (hF.k 5 rfl (hF.k 6 rfl (hF.k 7 rfl (hF.k 8 rfl (hF.k 24 rfl (hF.k 25 rfl (hF.k 26 rfl (hF.k 27 rfl (hF.k 28 rfl (hF.k 140 rfl (hF.k 151 rfl hF.nil)))))))))))))
      refine t_n ?_
      refine c_f hF rfl ?_
      refine wp_skip ?_
      refine t_n ?_
      refine c_s ?_
      refine c_sr ?_
      refine pv hF hW (y_move hF rfl) (fun a hF => ?_)
      refine Fr.splitB hF ?_ ?_
      · intro h31 hF
        refine l_nil ?_
        refine t_n ?_
        refine c_t hF rfl ?_
        refine c_r ?_
        refine pv hF hW (y_move hF rfl) (fun a hF => ?_)
        refine pv hF hW (y_move hF rfl) (fun a hF => ?_)
        refine pe (e_buildSlice hF hW rfl (fun w => bs_ChansTrue_22_1_0 _ w) rfl rfl rfl ?_)
        intro b32 a wc hF hW
        refine pe (e_append hF hW 4 rfl rfl rfl Try.underlying22 inf_3 rfl (by decide) (rowAt_blk (hW.blk 0 rfl) 1 1 rfl) (by simp [Value.oneCell']) (show _ = (o ++ [r.headD 0]).length by simp) (show _ = (o ++ [r.headD 0]).map (.int .i64) by simp) (by first | omega | (simp; omega)) (by unfold maxLen; first | omega | (simp; omega)) rfl rfl ?_)
        intro A33 c34 a wc hF hW
        replace hF := hF.drop 8
        refine pv hF hW (y_assign hF rfl) (fun a hF => ?_)
        refine l_nil ?_
        replace hF := (hF.k 0 rfl (hF.k 1 rfl (hF.k 5 rfl (hF.k 6 rfl (hF.k 7 rfl (hF.k 8 rfl (hF.k 24 rfl (hF.k 25 rfl (hF.k 26 rfl (hF.k 27 rfl (hF.k 28 rfl (hF.k 140 rfl (hF.k 151 rfl (hF.k 152 rfl hF.nil))))))))))))))
        refine t_n ?_
        refine c_r ?_
        refine pv hF hW (y_loadAll hF rfl 1 rfl Try.underlying24 rfl sz_24) (fun a hF => ?_)
        refine pe (e_storeAll rfl hF hW rfl rfl 3 rfl rfl rfl (by kernel_rfl) sz_24 ?_)
        intro wc hW
        refine l_nil ?_
        replace hF := (hF.k 0 rfl (hF.k 1 rfl (hF.k 5 rfl (hF.k 6 rfl (hF.k 7 rfl (hF.k 8 rfl (hF.k 24 rfl (hF.k 25 rfl (hF.k 26 rfl (hF.k 27 rfl (hF.k 28 rfl (hF.k 140 rfl (hF.k 151 rfl (hF.k 152 rfl hF.nil))))))))))))))
        refine b_n ?_
        refine t_n ?_
        refine c_r ?_
        refine pv hF hW (y_move hF rfl) (fun a hF => ?_)
        refine pv hF hW (y_add hF rfl rfl (IntWalk.i64_in _ (by omega))) (fun a hF => ?_)
        replace hF := hF.drop 24
        refine pv hF hW (y_assign hF rfl) (fun a hF => ?_)
        refine l_nil ?_
        replace hF := (hF.k 0 rfl (hF.k 1 rfl (hF.k 5 rfl (hF.k 6 rfl (hF.k 7 rfl (hF.k 8 rfl (hF.k 24 rfl (hF.k 25 rfl (hF.k 26 rfl (hF.k 27 rfl (hF.k 28 rfl (hF.k 140 rfl (hF.k 151 rfl (hF.k 152 rfl hF.nil))))))))))))))
        replace hW := hW.del 0 rfl
        replace hW := hW.del 0 rfl
        replace hW := hW.front 3 rfl rfl
        replace hW := hW.front 3 rfl rfl
        replace hW := hW.front 2 rfl rfl
        replace hW := hW.front 3 rfl rfl
        refine t_n ?_
        refine ⟨(j + 1, r.tail, o ++ [r.headD 0], A3, n3, A33, c34), ?_, ?_, ?_, ?_⟩
        · exact ⟨fifo_get hf2 (by assumption), by simp; omega, by omega, by simp; omega⟩
        · first | omega | (dsimp only; omega)
        · exact Fr.app (Fr.cons hF (t := 24) rfl (by first | rfl | (simp; done) | omega) (Fr.cons hF (t := 8) rfl (by first | rfl | (simp; done) | omega) (Fr.nil hF))) (Fr.cons hF (t := 0) rfl rfl (Fr.cons hF (t := 1) rfl rfl (Fr.cons hF (t := 5) rfl rfl (Fr.cons hF (t := 6) rfl rfl (Fr.cons hF (t := 7) rfl rfl (Fr.nil hF))))))
        · exact hW
      · intro h31 hF
        refine l_nil ?_
        refine t_n ?_
        refine c_f hF rfl ?_
        refine wp_skip ?_
        refine t_n ?_
        refine c_r ?_
        refine pv hF hW (y_loadAll hF rfl 0 rfl Try.underlying24 rfl sz_24) (fun a hF => ?_)
        refine pe (e_storeAll rfl hF hW rfl rfl 2 rfl rfl rfl (by kernel_rfl) sz_24 ?_)
        intro wc hW
        refine l_nil ?_
        replace hF := (hF.k 0 rfl (hF.k 1 rfl (hF.k 5 rfl (hF.k 6 rfl (hF.k 7 rfl (hF.k 8 rfl (hF.k 24 rfl (hF.k 25 rfl (hF.k 26 rfl (hF.k 27 rfl (hF.k 28 rfl (hF.k 140 rfl (hF.k 151 rfl (hF.k 152 rfl hF.nil))))))))))))))
        refine b_n ?_
        refine t_n ?_
        refine c_r ?_
        refine pv hF hW (y_move hF rfl) (fun a hF => ?_)
        refine pv hF hW (y_add hF rfl rfl (IntWalk.i64_in _ (by omega))) (fun a hF => ?_)
        replace hF := hF.drop 24
        refine pv hF hW (y_assign hF rfl) (fun a hF => ?_)
        refine l_nil ?_
        replace hF := (hF.k 0 rfl (hF.k 1 rfl (hF.k 5 rfl (hF.k 6 rfl (hF.k 7 rfl (hF.k 8 rfl (hF.k 24 rfl (hF.k 25 rfl (hF.k 26 rfl (hF.k 27 rfl (hF.k 28 rfl (hF.k 140 rfl (hF.k 151 rfl (hF.k 152 rfl hF.nil))))))))))))))
        replace hW := hW.del 0 rfl
        replace hW := hW.front 3 rfl rfl
        replace hW := hW.front 3 rfl rfl
        replace hW := hW.front 2 rfl rfl
        replace hW := hW.front 3 rfl rfl
        refine t_n ?_
        refine ⟨(j + 1, r.tail, o, A3, n3, uA, uc), ?_, ?_, ?_, ?_⟩
        · exact ⟨fifo_none hf2 (by assumption), by simp; omega, by omega, by omega⟩
        · first | omega | (dsimp only; omega)
        · exact Fr.app (Fr.cons hF (t := 24) rfl (by first | rfl | (simp; done) | omega) (Fr.cons hF (t := 8) rfl (by first | rfl | (simp; done) | omega) (Fr.nil hF))) (Fr.cons hF (t := 0) rfl rfl (Fr.cons hF (t := 1) rfl rfl (Fr.cons hF (t := 5) rfl rfl (Fr.cons hF (t := 6) rfl rfl (Fr.cons hF (t := 7) rfl rfl (Fr.nil hF))))))
        · exact hW
    · intro h29 hF
      refine l_nil ?_
      replace hF := (hF.k 0 rfl (hF.k 1 rfl (hF.k 5 rfl (hF.k 6 rfl (hF.k 7 rfl (hF.k 8 rfl (hF.k 24 rfl (hF.k 140 rfl hF.nil))))))))
      refine t_n ?_
      refine c_f hF rfl ?_
      refine wp_exit ?_
      refine t_x ?_
      refine t_x ?_
      refine b_h ?_
      refine t_n ?_
      refine c_sr ?_
      refine pe (e_call hF rfl rfl en_17 (by rfl) rfl rfl (chansBegun_any _) ?_)
      rintro e w1 ⟨rfl, hb⟩
      replace hW := hW.kept hb
      clear hb
      refine ⟨_, rfl, fun a hF => ?_⟩
      refine pv hF hW (y_move hF rfl) (fun a hF => ?_)
      refine pv hF hW (y_move hF rfl) (fun a hF => ?_) (ws hF rfl rfl)
      refine pv hF hW (y_move hF rfl) (fun a hF => ?_) (ws hF rfl rfl)
      refine pe (e_call hF rfl rfl en_19 (by rfl) rfl rfl (sameIntsTo (Ints.of_own (hW.row 3 rfl)) (Ints.of_own (hW.row 2 rfl)) (by have hr0 : r = [] := List.eq_nil_of_length_eq_zero (by omega); rw [hf2, hr0, List.append_nil])) ?_) (ws hF rfl rfl)
      rintro e w1 ⟨rfl, hb⟩
      replace hW := hW.kept hb
      clear hb
      refine ⟨_, rfl, fun a hF => ?_⟩
      refine pv hF hW (y_pick hF rfl rfl) (fun a hF => ?_)
      refine pv hF hW (y_assign hF rfl) (fun a hF => ?_)
      refine l_nil ?_
      replace hF := (hF.k 0 rfl (hF.k 1 rfl (hF.k 4 rfl (hF.k 5 rfl (hF.k 6 rfl (hF.k 7 rfl (hF.k 8 rfl (hF.k 24 rfl (hF.k 140 rfl hF.nil)))))))))
      refine t_n ?_
      refine wp_ret ?_
      refine ret1 Try.results4 hF (rv_t hF rfl) ?_
      exact ⟨rfl, hW.below⟩

set_option maxRecDepth 100000 in
theorem chansTrue_contract (H : Type) (enc : TypeId × Value → H) (W : World) (base : Nat) (args : Array Value) (ds gs : List (DataW H)) (before : List MemPlace)
    (hval : ∀ (j : Nat) t v, Try.f4.params[j]? = some t → args[j]? = some v → Value.okWide Try.prog W .any base t v)
    (hW : DataW.Whole enc Try.prog Try.f4.params.toList Rows.chansTrueSpec.vars false W args.toList ds gs before) :
    Calls Try.prog 4 args W fun e W' => ∃ v, e = .returned v ∧ Rows.chansTrueSpec.post enc Try.prog Try.f4 false true false false W args v W' := by
  have hW' := hW
  obtain ⟨p, q, hA0, hV, rfl, hfz, hnd⟩ := hW
  have hA : DataW.TrodAll enc Try.prog W 0 (fun _ => true) true Try.f4.params.toList args.toList ds p := hA0
  rw [Try.params4] at hA hval
  obtain ⟨v0, v1, d0, d1, p0, p1, rfl, rfl, rfl, h0, h1⟩ := trodAll_two hA
  obtain ⟨l, hl⟩ := intsArg (hval 0 22 v0 rfl rfl) h0
  obtain ⟨gets, rfl, rfl, rfl, wk1⟩ := open_int Try.underlying3 (hval 1 3 v1 rfl rfl) h1
  refine (chansTrue_run l gets _ W hl).mono fun e W' ⟨he, hb⟩ => ?_
  subst he
  exact ⟨_, rfl, law_post Try.laidOut hW' hb rfl (by kernel_rfl) Try.underlying4 (by kernel_rfl) rfl⟩

set_option maxRecDepth 100000 in
theorem chansTrue_lifted (os : Os) (started : os.Started) (H : Type) (enc : TypeId × Value → H) :
    ReturnsInHanded {} Try.checked os 4 .any (Rows.chansTrueSpec.pre6 enc Try.prog Try.f4 Rows.chansTrueRow.domain false) (Rows.chansTrueSpec.post enc Try.prog Try.f4 false true false false) := by
  refine returnsInHanded_of_change (C := Try.checked) Try.own started (by kernel_rfl) Try.func4
    (ChangeSpec.witness6 (enc := enc) (C := Try.checked) false ⟨#[], #[.slice none 0 0, .int .i64 0], []⟩ 8 (by kernel_rfl) (by kernel_rfl) (by kernel_rfl) (by kernel_rfl)) ?_
  intro W base args ds gs before hval hW _ _
  exact chansTrue_contract H enc W base args ds gs before hval hW

theorem chansTrue_holds : Rows.ChansTrueSaid :=
  OpenClaim.holds_of_wide 4 Try.f4 rfl rfl rfl rfl rfl rfl rfl ⟨rfl, rfl, rfl, rfl, rfl⟩ rfl rfl rfl rfl rfl (by kernel_rfl) Try.func4 (by kernel_rfl)
    (of_decide_eq_true (by kernel_rfl)) (by unfold Func.isWrapper; first | (rw [if_pos (by decide +kernel)]; kernel_rfl) | (rw [if_neg (by decide +kernel)]; exact ⟨rfl, rfl⟩))
    (fun os started H enc _ => chansTrue_lifted os started H enc)
end Go.Proofs.Ytebklpbbglojmaa
