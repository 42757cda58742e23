/- The worker's try: what throws is caught. -/
import Derived.Test.YtebklpbbglojmaaCellDoE
import Derived.Defers
import Derived.Recover
import Derived.StillTailTactics
import Derived.Laws.Pointers
namespace Go.Proofs.Ytebklpbbglojmaa
set_option linter.unusedVariables false
set_option linter.unusedSimpArgs false
open Go.RowKit

set_option maxRecDepth 100000 in
theorem catch_fault (p : Addr) (B : Nat) (x : Int) (older : List PanicEntry) (w : World) (hp : w.cell? p = some (.pointer (some ⟨B, 0, none⟩))) (hc : w.cell? ⟨B, 15, none⟩ = some (.int .i64 x)) (hz : w.frozen? ⟨B, 15, none⟩ = false) :
    CallsD Try.prog 82 #[.pointer (some p)] (.panicking ({ v := .iface 122 (.agg #[]), recovered := false } :: older)) w fun e u' w' =>
      e = .returned (.tuple #[]) ∧ u' = .panicking ({ v := .iface 122 (.agg #[]), recovered := true } :: older) ∧ w' = (w.alloc (.cells #[] 122)).setCell ⟨B, 15, none⟩ (.int .i64 2) := by
  obtain ⟨hc', hz'⟩ := Free.alloc (o := .cells #[] 122) (show Free w ⟨B, 15, none⟩ _ from ⟨hc, hz⟩)
  have hp' := cell_alloc (o := .cells #[] 122) hp
  have hta : ∀ w, (Instr.typeAssert (.iface 122 (.agg #[])) 20 122 true).run Try.prog w = .ok (.tuple #[.agg #[], .bool true]) w := fun _ => by kernel_rfl
  refine callsD_of_wpS Try.func82 rfl fun c₀ cs hu => ?_
  apply wpS_seq
  apply wpS_region
  simp [wpOpsS, go_sem, recoverD, hu, Try.ntmps82, Exit.thenS]
  rw [show (#[Value.pointer (some p)] ++ ((Array.replicate 17 undef).setIfInBounds 3 (Value.iface 122 (Value.agg #[]))).setIfInBounds 0 (Value.iface 122 (Value.agg #[]))) = #[.pointer (some p), .iface 122 (.agg #[]), undef, undef, .iface 122 (.agg #[]), undef, undef, undef, undef, undef, undef, undef, undef, undef, undef, undef, undef, undef] from rfl]
  refine wpS_of_wp ?_
  go_wp2
  simp [bodyPostS, results, Try.results82, hu]

set_option maxRecDepth 100000 in
theorem catch_idle (p : Addr) (w : World) :
    CallsD Try.prog 82 #[.pointer (some p)] .returning w fun e u' w' => e = .returned (.tuple #[]) ∧ u' = .returning ∧ w' = w.alloc (.cells #[] 122) := by
  have hta : ∀ w, (Instr.typeAssert .nilIface 20 122 true).run Try.prog w = .ok (.tuple #[.agg #[], .bool false]) w := fun _ => by kernel_rfl
  refine callsD_of_wpS Try.func82 rfl fun c₀ cs hu => ?_
  apply wpS_seq
  apply wpS_region
  simp [wpOpsS, go_sem, recoverD, hu, Try.ntmps82, Exit.thenS]
  rw [show (#[Value.pointer (some p)] ++ ((Array.replicate 17 undef).setIfInBounds 3 Value.nilIface).setIfInBounds 0 Value.nilIface) = #[.pointer (some p), .nilIface, undef, undef, .nilIface, undef, undef, undef, undef, undef, undef, undef, undef, undef, undef, undef, undef, undef] from rfl]
  refine wpS_of_wp ?_
  go_wp2
  cases c₀
  simp_all [bodyPostS, results, Try.results82]

/-- what try leaves: the cell after its step -/
def Tried (w : World) (B : Nat) (iv : Value) (inp : List Int) (r : Cel × Wnt) (e : Ending) (w' : World) : Prop :=
  e = .returned (.tuple #[]) ∧ Below B w w' ∧ ∃ ov', Work w' B r.1 ov' iv r.2 inp
set_option maxRecDepth 100000 in
set_option maxHeartbeats 1000000 in
theorem try_end (B : Nat) (c : Cel) (ov iv cv : Value) (inp : List Int) (l : List Ins) (w : World) (hw : Work w B c ov iv Wnt.zero inp) (hv : Code_ w cv l) (h0 : 0 ≤ c.at_) (h1 : c.at_ ≤ 20) (hl : l.length ≤ c.at_) (hl2 : l.length ≤ 20) :
    Calls Try.prog 47 #[.pointer (some ⟨B, 0, none⟩), cv] w (Tried w B iv inp ({ c with end_ := 2 }, Wnt.zero)) := by
  have hmf : ∀ (fn : Fn) (first cap : Array Value) (w : World), (Instr.makeFunc fn first cap).run Try.prog w = .ok (.func fn first cap) w := fun _ _ _ _ => rfl
  have hblk := hw.blk
  have hwf := hw.wf
  have c0 : w.cell? ⟨B, 0, none⟩ = some (.int .i64 c.at_) := (hblk.cell 0).trans work_at
  have hlt := hblk.lt
  obtain ⟨A, cc, rfl⟩ := hv.form rfl
  generalize l.length = m at *
  have HW := hide hw
  clear hw hblk hwf hv
  go_enter_defers Try.func47, Try.ntmps47
  go_wp2_with fail
  have HW2 := HW.out.alloc (.cells #[.pointer (some ⟨B, 0, none⟩)] 89)
  refine leaves_cons (f := 82) (args := #[.pointer (some ⟨w.heap.size, 0, none⟩)]) (by simp) (by simp [go_sem]) ?_
  refine (catch_fault ⟨w.heap.size, 0, none⟩ B c.end_ [] _ (by simp [go_sem]) ((HW2.blk.cell _).trans (work_end HW2.wf)) (HW2.blk.frozen _)).mono ?_
  rintro e u' w'' ⟨rfl, rfl, rfl⟩
  simp [Leaves, settle, results, Try.results47, go_sem]
  exact ⟨rfl, Below.set_ (Below.alloc_ (Below.alloc_ (Below.refl _ _) (Nat.le_of_lt hlt) _) (by simp; omega) _) (Nat.le_refl _) _, ov, (HW2.alloc _).setEnd 2⟩

set_option maxRecDepth 100000 in
set_option maxHeartbeats 1000000 in
theorem try_did (B : Nat) (c : Cel) (ov iv cv : Value) (inp : List Int) (l : List Ins) (w : World) (hw : Work w B c ov iv Wnt.zero inp) (hv : Code_ w cv l) (hck : ∀ i ∈ l, chkIns i = 0) (h0 : 0 ≤ c.at_) (h1 : c.at_ ≤ 20) (hl : c.at_ < l.length)
    (hr0 : 0 ≤ c.read) (hr1 : c.read ≤ inp.length) (hr2 : c.read ≤ 12) :
    Calls Try.prog 47 #[.pointer (some ⟨B, 0, none⟩), cv] w (Tried w B iv inp (match l[c.at_.toNat]? with
      | none => ({ c with end_ := 2 }, Wnt.zero)
      | some i => match doOf i c inp with
        | none => ({ c with end_ := 2 }, Wnt.zero)
        | some r => r)) := by
  have hmf : ∀ (fn : Fn) (first cap : Array Value) (w : World), (Instr.makeFunc fn first cap).run Try.prog w = .ok (.func fn first cap) w := fun _ _ _ _ => rfl
  have hblk := hw.blk
  have hwf := hw.wf
  have c0 : w.cell? ⟨B, 0, none⟩ = some (.int .i64 c.at_) := (hblk.cell 0).trans work_at
  have hlt := hblk.lt
  obtain ⟨A, cc, rfl, hcc, hm, hr⟩ := hv
  obtain ⟨a, ha⟩ := Int.eq_ofNat_of_zero_le h0
  rw [ha] at c0 h1 hl
  have hal : a < l.length := by omega
  have hi : l[c.at_.toNat]? = some l[a] := by rw [ha]; simp [hal]
  obtain ⟨ad, rfl, hcell0, hcell⟩ := flat_at Ins.cells_len hr hal
  have hd : chkIns l[a] = 0 := hck _ (List.getElem_mem hal)
  generalize l[a] = i at *
  have i0 := cell_alloc (o := .cells #[.pointer (some ⟨B, 0, none⟩)] 89) (hcell0 _ rfl)
  have i1 := cell_alloc (o := .cells #[.pointer (some ⟨B, 0, none⟩)] 89) (hcell 0 _ rfl)
  have i2 := cell_alloc (o := .cells #[.pointer (some ⟨B, 0, none⟩)] 89) (hcell 1 _ rfl)
  have i3 := cell_alloc (o := .cells #[.pointer (some ⟨B, 0, none⟩)] 89) (hcell 2 _ rfl)
  have HA := hide ha
  have HI := hide hi
  have HW := hide hw
  have HDO := hide (fun W (hW : Work W B c ov iv Wnt.zero inp) => do_any i hd B c ov iv inp W hW h0 (by omega) hr0 hr1 hr2)
  generalize l.length = m at *
  have a0 : (0 : Int) ≤ (a : Int) := by omega
  have al : (a : Int) < (m : Int) := by omega
  have dd : decide ((m : Int) ≤ (a : Int)) = false := by simp <;> omega
  clear hw hblk hwf hr hcell0 hcell hd hck ha hi h0 hr0 hr1 hr2 hcc
  cases hdo : doOf i c inp with
  | some r =>
    obtain ⟨c', k'⟩ := r
    rw [hdo] at HDO
    have HT := hide (show (match l[c.at_.toNat]? with
      | none => (({ c with end_ := 2 }, Wnt.zero) : Cel × Wnt)
      | some i => match doOf i c inp with
        | none => ({ c with end_ := 2 }, Wnt.zero)
        | some r => r) = (c', k') by rw [HI.out]; dsimp only; rw [hdo])
    rw [HT.out]
    clear hdo HT
    go_enter_defers Try.func47, Try.ntmps47
    go_wp2_with fail
    refine Code.wp_mono (Q := fun e a' w' => match e with
      | .normal => a'.defers = [{ target := .fn (.func 82) #[.pointer (some ⟨w.heap.size, 0, none⟩)], args := #[] }] ∧ Below B w w' ∧ B < w'.heap.size ∧ ∃ ov', Work w' B c' ov' iv k' inp
      | _ => False) ?_ ?_
    · intro e a' w' h
      cases e <;> simp only at h
      obtain ⟨hd, hb, hz, ov', hW⟩ := h
      change Leaves Try.prog Try.f47 a'.tmps _ a'.defers .returning w'
      rw [hd]
      refine leaves_cons (f := 82) (args := #[.pointer (some ⟨w.heap.size, 0, none⟩)]) (by simp) (by simp [go_sem]) ?_
      refine (catch_idle _ _).mono ?_
      rintro e u' w'' ⟨rfl, rfl, rfl⟩
      simp [Leaves, settle, results, Try.results47]
      exact ⟨rfl, Below.alloc_ hb (Nat.le_of_lt hz) _, ov', hW.alloc _⟩
    go_region_with (go_at_call 83; refine (HDO.out _ (by exact (HW.out.alloc _).drewN 1)).mono ?_; rintro e w1 ⟨hb1, rfl, ov', hW1⟩)
    all_goals
      refine ⟨rfl, ?_, hW1.blk.lt, ov', hW1⟩
      exact Below.trans (below_drewN (Below.alloc_ (Below.refl _ _) (Nat.le_of_lt hlt) _) 1) hb1
  | none =>
    rw [hdo] at HDO
    have HT := hide (show (match l[c.at_.toNat]? with
      | none => (({ c with end_ := 2 }, Wnt.zero) : Cel × Wnt)
      | some i => match doOf i c inp with
        | none => ({ c with end_ := 2 }, Wnt.zero)
        | some r => r) = ({ c with end_ := 2 }, Wnt.zero) by rw [HI.out]; dsimp only; rw [hdo])
    rw [HT.out]
    clear hdo HT
    go_enter_defers Try.func47, Try.ntmps47
    go_wp2_with fail
    refine Code.wp_mono (Q := fun e a' w' => match e with
      | .panic ch => a'.defers = [{ target := .fn (.func 82) #[.pointer (some ⟨w.heap.size, 0, none⟩)], args := #[] }] ∧ ch = [{ v := .iface 122 (.agg #[]), recovered := false }] ∧ Below B w w' ∧ B < w'.heap.size ∧ Work w' B c ov iv Wnt.zero inp ∧ w'.cell? ⟨w.heap.size, 0, none⟩ = some (.pointer (some ⟨B, 0, none⟩))
      | _ => False) ?_ ?_
    · intro e a' w' h
      cases e <;> simp only at h
      obtain ⟨hd, rfl, hb, hz, hW, hp⟩ := h
      change Leaves Try.prog Try.f47 a'.tmps _ a'.defers (.panicking _) w'
      rw [hd]
      refine leaves_cons (f := 82) (args := #[.pointer (some ⟨w.heap.size, 0, none⟩)]) (by simp) (by simp [go_sem]) ?_
      refine (catch_fault ⟨w.heap.size, 0, none⟩ B c.end_ [] _ hp ((hW.blk.cell _).trans (work_end hW.wf)) (hW.blk.frozen _)).mono ?_
      rintro e u' w'' ⟨rfl, rfl, rfl⟩
      simp [Leaves, settle, results, Try.results47, go_sem]
      exact ⟨rfl, Below.set_ (Below.alloc_ hb (Nat.le_of_lt hz) _) (Nat.le_refl _) _, ov, (hW.alloc _).setEnd 2⟩
    go_region_dies
    all_goals
      go_wp2_with (go_at_call 83; refine (HDO.out _ (by exact (HW.out.alloc _).drewN 1)).mono ?_; rintro e w1 ⟨hb1, rfl, hW1, hk1⟩)
      refine ⟨?_, hW1.blk.lt, ?_⟩
      · exact Below.trans (below_drewN (Below.alloc_ (Below.refl _ _) (Nat.le_of_lt hlt) _) 1) hb1
      · exact cell_below hk1 (cell_drewN (Free.new w #[.pointer (some ⟨B, 0, none⟩)] _ 0 _ rfl).1)

/-- all instructions are right -/
theorem firstErr_zero {l : List Ins} (h : firstErr l = 0) : ∀ i ∈ l, chkIns i = 0 := by
  induction l with
  | nil => simp
  | cons x r ih =>
    unfold firstErr at h
    split at h
    · rename_i hx
      intro i hi
      rcases List.mem_cons.1 hi with rfl | hi
      · exact hx
      · exact ih h i hi
    · rename_i hx
      exact absurd h hx

theorem try_any (B : Nat) (c : Cel) (ov iv cv : Value) (inp : List Int) (l : List Ins) (w : World) (hw : Work w B c ov iv Wnt.zero inp) (hv : Code_ w cv l) (hck : chkCode l = 0) (hf : cellFine c = true) (hr1 : c.read ≤ inp.length) (he : c.end_ = 0) :
    Calls Try.prog 47 #[.pointer (some ⟨B, 0, none⟩), cv] w (Tried w B iv inp (stepOf ⟨l, inp⟩ c)) := by
  have hl : ¬ (l.length < 1 ∨ 20 < l.length) := fun h => by unfold chkCode at hck; rw [if_pos h] at hck; omega
  have hfe : firstErr l = 0 := by unfold chkCode at hck; rwa [if_neg hl] at hck
  unfold cellFine at hf
  simp only [decide_eq_true_eq] at hf
  unfold stepOf
  rw [if_neg (by rw [he]; simp)]
  dsimp only
  by_cases h : c.at_ < l.length
  · exact try_did B c ov iv cv inp l w hw hv (firstErr_zero hfe) hf.1 hf.2.1 h hf.2.2.1 hr1 hf.2.2.2.1
  · rw [List.getElem?_eq_none (by omega)]
    exact try_end B c ov iv cv inp l w hw hv hf.1 hf.2.1 (by omega) (by omega)
end Go.Proofs.Ytebklpbbglojmaa
