/- flat.Lift: what throws is caught. -/
import Derived.Test.YtnpflhaggfabnaaGreatFlatD
import Derived.Test.YtnpflhaggfabnaaGreatFlatB
import Derived.Test.YtnpflhaggfabnaaGreatEngC
import Derived.StillTailTactics
namespace Go.Proofs.YtnpflhaggfabnaaGreat
set_option linter.unusedVariables false
set_option linter.unusedSimpArgs false
open Go.ChangeShapes Go.WideShapes Go.ChangeAt Go.RowKit

set_option maxRecDepth 100000

theorem zero_w (w : World) : (Instr.build 30 #[]).run Tryz.prog w = .ok (.agg #[.int .i64 0, .slice none 0 0, .slice none 0 0]) w := by kernel_rfl
theorem catch_lift {w0 w : World} {X : Nat → Prop} {es : List Asn} {b4 b5 : Nat} {l4 : List Value} {v5 : Value} (hW : Wd w0 X (.blk b4 30 l4 :: .blk b5 32 [v5] :: es) w) (hl : l4.length = 3) :
    CallsD Tryz.prog 36 #[.pointer (some ⟨b4, 0, none⟩), .pointer (some ⟨b5, 0, none⟩)] (.panicking brk) w fun e u w' => e = .returned (.tuple #[]) ∧ settle u = .returning ∧ Wd w0 X (.blk b4 30 [.int .i64 0, .slice none 0 0, .slice none 0 0] :: .blk b5 32 [.int .i64 1] :: es) w' := by
  refine callsD_of_wpS Tryz.func36 rfl fun c₀ cs hu => ?_
  apply wpS_seq
  apply wpS_region
  simp [wpOpsS, go_sem, recoverD, hu, Tryz.ntmps36, Exit.thenS, brk, brokenV]
  refine wpS_of_wp ?_
  refine c_t (ds := []) (N := 5) (env := [(0, .pointer (some ⟨b4, 0, none⟩)), (1, .pointer (some ⟨b5, 0, none⟩)), (3, .bool true)]) ⟨rfl, rfl, fun t v h => ?_⟩ rfl ?_
  · simp only [List.mem_cons, Prod.mk.injEq, List.not_mem_nil, or_false] at h
    rcases h with ⟨rfl, rfl⟩ | ⟨rfl, rfl⟩ | ⟨rfl, rfl⟩ <;> rfl
  have hF : Fr [] 5 [(0, .pointer (some ⟨b4, 0, none⟩)), (1, .pointer (some ⟨b5, 0, none⟩)), (3, .bool true)] ⟨#[Value.pointer (some { block := b4, off := 0 }), Value.pointer (some { block := b5, off := 0 })] ++ ((Array.replicate 3 undef).setIfInBounds 0 (Value.iface 92 (Value.agg #[]))).setIfInBounds 1 (Value.bool true), []⟩ := ⟨rfl, rfl, fun t v h => by
    simp only [List.mem_cons, Prod.mk.injEq, List.not_mem_nil, or_false] at h
    rcases h with ⟨rfl, rfl⟩ | ⟨rfl, rfl⟩ | ⟨rfl, rfl⟩ <;> rfl⟩
  refine c_r <| pv hF hW (y_build (vs := []) hF rfl zero_w) fun a hF => pe (e_storeAll rfl hF hW rfl rfl 0 rfl rfl hl (by kernel_rfl) sz_30 ?_)
  intro wc hW
  refine pe (e_store rfl hF hW rfl rfl 1 rfl rfl rfl sz_32 ?_)
  intro wc hW
  refine l_nil ?_
  have hd := hF.defers
  simp [bodyPostS, hd, results, Tryz.results36, settle]
  exact hW
theorem catch_none {w : World} {b4 b5 : Nat} :
    CallsD Tryz.prog 36 #[.pointer (some ⟨b4, 0, none⟩), .pointer (some ⟨b5, 0, none⟩)] .returning w fun e u w' => e = .returned (.tuple #[]) ∧ settle u = .returning ∧ w' = w := by
  refine callsD_of_wpS Tryz.func36 rfl fun c₀ cs hu => ?_
  apply wpS_seq
  apply wpS_region
  simp [wpOpsS, go_sem, recoverD, hu, Tryz.ntmps36, Exit.thenS]
  refine wpS_of_wp ?_
  go_wp2
  cases c₀
  simp_all [bodyPostS, results, Tryz.results36, settle]
/-- what was thrown is caught: no world, and an error -/
theorem lift_thrown {w0 w : World} {a : Act} {N : Nat} {env : List (Nat × Value)} {R : Ending → World → Prop} {b4 b5 : Nat} {l4 : List Value} {v5 : Value} (hF : Fr [{ target := .fn (.func 36) #[.pointer (some ⟨b4, 0, none⟩), .pointer (some ⟨b5, 0, none⟩)], args := #[] }] N env a)
    (e4 : evT env 4 = some (.pointer (some ⟨b4, 0, none⟩))) (e5 : evT env 5 = some (.pointer (some ⟨b5, 0, none⟩))) (hW : Wd w0 NoB [.blk b4 30 l4, .blk b5 32 [v5]] w) (hl : l4.length = 3)
    (hR : ∀ w', Below w0.heap.size w0 w' → R (.returned (.tuple #[WD.zero.val, .int .i64 1])) w') : Go.bodyPostD Tryz.prog Tryz.f9 R (.panic brk) a w := by
  refine panD1 hF en_36 (catch_lift hW hl) ?_
  rintro e u w' ⟨rfl, hu, hW'⟩
  exact ⟨_, _, rfl, hu, res2 Tryz.results9 (rv_c hF e4 hW' 0 rfl Tryz.underlying30 rfl sz_30) (rv_c1 hF e5 hW' 1 rfl rfl Tryz.underlying32 rfl), hR _ hW'.below⟩
/-- nothing was thrown -/
theorem lift_done {w0 w : World} {a : Act} {N : Nat} {env : List (Nat × Value)} {R : Ending → World → Prop} {b4 b5 : Nat} {l4 : List Value} {v5 : Value} {es : List Asn} (hF : Fr [{ target := .fn (.func 36) #[.pointer (some ⟨b4, 0, none⟩), .pointer (some ⟨b5, 0, none⟩)], args := #[] }] N env a)
    (e4 : evT env 4 = some (.pointer (some ⟨b4, 0, none⟩))) (e5 : evT env 5 = some (.pointer (some ⟨b5, 0, none⟩))) (hW : Wd w0 NoB (.blk b4 30 l4 :: .blk b5 32 [v5] :: es) w) (hl : l4.length = 3)
    (hR : R (.returned (.tuple #[.agg l4.toArray, v5])) w) : Go.bodyPostD Tryz.prog Tryz.f9 R .ret a w := by
  refine retD1 hF en_36 catch_none ?_
  rintro e u w' ⟨rfl, hu, rfl⟩
  exact ⟨_, _, rfl, hu, res2 Tryz.results9 (rv_c hF e4 hW 0 rfl Tryz.underlying30 rfl (by rw [hl]; exact sz_30)) (rv_c1 hF e5 hW 1 rfl rfl Tryz.underlying32 rfl), hR⟩
def liftOf (s : Sys) (l : List Int) : Option Wrl := (liftL s.parts.length s.chans.length l).bind fun W => if chkWorld s W = 0 then some W else none
def liftErr (s : Sys) (l : List Int) : Int := if chkSys s = 0 then (if (liftOf s l).isSome then 0 else 1) else chkSys s
def liftTo (s : Sys) (l : List Int) : Wrl := if chkSys s = 0 then (liftOf s l).getD Wrl.zero else Wrl.zero
/-- a world of its own, and an error -/
def LiftBack (w : World) (x : SysD) (l : List Int) (e : Ending) (w' : World) : Prop := ∃ y : WD, e = .returned (.tuple #[y.val, .int .i64 (liftErr x.sys l)]) ∧ y.wrl = liftTo x.sys l ∧ Below w.heap.size w w' ∧ OwnRes w w' y.At
theorem lift_bad {w : World} {x : SysD} {l : List Int} (hk : chkSys x.sys = 0) (h : liftOf x.sys l = none) (w' : World) (hb : Below w.heap.size w w') : LiftBack w x l (.returned (.tuple #[WD.zero.val, .int .i64 1])) w' :=
  ⟨WD.zero, by unfold liftErr; rw [if_pos hk, h]; rfl, by unfold liftTo; rw [if_pos hk, h]; rfl, hb, fun _ _ => WD.zero_at _⟩
theorem many_none {α : Type} {one : List Int → Option (α × List Int)} {n : Nat} {F : List Int} (h : one F = none) (hn : 0 < n) : takeMany one n F = none := by
  cases n with
  | zero => omega
  | succ n => rw [takeMany, h]; rfl
theorem many_step {α : Type} {one : List Int → Option (α × List Int)} {n : Nat} {F r : List Int} {c : α} {L : List α} (h : one F = some (c, r)) (hn : 0 < n) : ((takeMany one n F).map fun p => (L ++ p.1, p.2)) = (takeMany one (n - 1) r).map fun p => ((L ++ [c]) ++ p.1, p.2) := by
  cases n with
  | zero => omega
  | succ n =>
    rw [takeMany, h, Nat.add_sub_cancel]
    simp only [Option.bind_some, Option.map_map]
    congr 1
    funext p
    simp
theorem cell_none {F : List Int} (h : F.length < 15) : takeCell F = none := if_pos h
theorem cell_none2 {F : List Int} (h : takeList 16 (F.drop 15) = none) : takeCell F = none := by
  unfold takeCell
  split
  · rfl
  · rw [h]; rfl
end Go.Proofs.YtnpflhaggfabnaaGreat
