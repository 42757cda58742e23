/- flat's glass: numbers are taken off a row. -/
import Derived.Test.YtnpflhaggfabnaaGreatFlatA
import Derived.Test.YtnpflhaggfabnaaGreatConfB1
namespace Go.Proofs.YtnpflhaggfabnaaGreat
set_option linter.unusedVariables false
set_option linter.unusedSimpArgs false
open Go.ChangeShapes Go.WideShapes Go.ChangeAt Go.RowKit
theorem bu_FlatC_92_  (w : World) : (Instr.build 92 #[]).run Tryz.prog w = .ok (.agg #[]) w := by kernel_rfl
set_option maxRecDepth 100000

abbrev glassB (bg : Nat) (A : Option Addr) (c : Nat) (l : List Int) : Asn := .blk bg 89 [.slice A l.length c]
def brokenV : Value := .iface 92 (.agg #[])
def brk : List PanicEntry := [{ v := brokenV, recovered := false }]
theorem ints_drop {u : World} {A : Option Addr} {c k : Nat} {l : List Int} (h : Ints u (.slice A l.length c) l) (hk : k ≤ l.length) : Ints u (.slice (if c = k then A else A.map (·.add (k * 1))) (l.length - k) (c - k)) (l.drop k) := by
  have hl := h.len
  have hr := h.rowAt
  refine ⟨_, c - k, by rw [List.length_drop], by rw [List.length_drop]; omega, by omega, by rw [List.length_map, Nat.mul_one], fun h0 => ?_⟩
  rw [List.length_drop] at h0
  obtain ⟨ad, rfl, hc⟩ := hr.2 (by omega)
  rw [if_neg (by omega)]
  refine ⟨_, rfl, fun j v hv => ?_⟩
  have h2 := hc (k + j) v (by rw [List.map_drop, List.getElem?_drop] at hv; exact hv)
  rw [Nat.mul_one, Addr.add_add]
  exact h2
set_option maxHeartbeats 4000000 in
theorem take_in {w : World} {X : Nat → Prop} {bg : Nat} {A : Option Addr} {c k : Nat} {l : List Int} (hW : Wd w X [glassB bg A c l] w) (hI : ∀ w' es, Wd w X es w' → Ints w' (.slice A l.length c) l) (hk : k ≤ 1024) :
    Calls Tryz.prog 37 #[.pointer (some ⟨bg, 0, none⟩), .int .i64 k] w fun e w' => (∃ A1 c1 A2 c2, e = .returned (.slice A1 k c1) ∧ k ≤ l.length ∧ (∀ u, Ints u (.slice A l.length c) l → Ints u (.slice A2 (l.drop k).length c2) (l.drop k)) ∧ Wd w X [.res (fun u => Ints u (.slice A1 k c1) (l.take k)), glassB bg A2 c2 (l.drop k)] w') ∨ (e = .panicked brk ∧ l.length < k ∧ Wd w X [] w') := by
  have hl := (hI _ _ hW).len
  have hl2 := hl.2.2
  unfold maxLen at hl2
  refine enter Tryz.func37 rfl Tryz.ntmps37 rfl fun a hF => c_sr <| pv hF hW (y_assign hF rfl) fun a hF => l_nil <| t_n <| c_s <| c_sr <| pv hF hW (y_move hF rfl) fun a hF => pv hF hW (y_lss hF rfl rfl) fun a hF => ?_; refine Fr.splitD hF ?_ ?_
  · intro h1 hF; exfalso
    omega
  · intro h1 hF; refine pv hF hW (y_move hF rfl) fun a hF => pvg hF hW (y_move hF rfl) (ws hF rfl rfl) fun a hF => pvg hF hW (y_move hF rfl) (ws hF rfl rfl) fun a hF => pvg hF hW (y_nilCheck hF rfl) (ws hF rfl rfl) fun a hF => pvg hF hW (y_fieldOwn hF rfl fa_89_0) (ws hF rfl rfl) fun a hF => pvg hF hW (y_loadOwn hF rfl 0 rfl rfl Tryz.underlying31 rfl) (ws hF rfl rfl) fun a hF => pvg hF hW (y_len hF rfl Tryz.underlying31) (ws hF rfl rfl) fun a hF => pvg hF hW (y_gtr hF rfl rfl) (ws hF rfl rfl) fun a hF => ?_; refine Fr.splitD hF ?_ ?_
    · intro h2 hF; refine pv hF hW (y_pick hF rfl rfl) fun a hF => l_nil ?_; replace hF := hF.ks [0, 1, 4, 16] rfl; refine t_n <| c_t hF rfl <| c_r <| pv hF hW (y_build hF rfl (fun w => bu_FlatC_92_  w)) fun a hF => pv hF hW (y_makeIface hF rfl Tryz.underlying92 (by intro ms h; cases h)) fun a hF => ?_; refine pe (e_panic hF rfl ?_); refine t_p <| endp hF ?_
      exact .inr ⟨rfl, by omega, hW.none_⟩
    · intro h2 hF; refine pv hF hW (y_pick hF rfl rfl) fun a hF => l_nil ?_; replace hF := hF.ks [0, 1, 4, 16] rfl; refine t_n <| c_f hF rfl <| wp_skip <| t_n <| c_sr <| pv hF hW (y_move hF rfl) fun a hF => pv hF hW (y_nilCheck hF rfl) fun a hF => pv hF hW (y_fieldOwn hF rfl fa_89_0) fun a hF => pv hF hW (y_loadOwn hF rfl 0 rfl rfl Tryz.underlying31 rfl) fun a hF => pv hF hW (y_move hF rfl) fun a hF => pv hF hW (y_sliceH hF rfl rfl (by omega) Tryz.underlying31 sz_3) fun a hF => ?_; replace hF := Fr.cast (v' := .slice A k c) (by rfl) hF; refine pe (e_call hF rfl rfl en_59 (by rfl) rfl rfl (clone_int (Ints.takeS (hI _ _ hW) (show k ≤ l.length by omega)) (by rw [List.length_take]; omega)) ?_); rintro e w1 ⟨A1, c1, rfl, hb, hr⟩; replace hW := hW.gotR hb hr; refine ⟨_, rfl, fun a hF => ?_⟩; refine pv hF hW (y_assign hF rfl) fun a hF => l_nil ?_; replace hF := hF.ks [0, 1, 4, 5, 16] rfl; refine t_n <| c_sr <| pv hF hW (y_move hF rfl) fun a hF => pv hF hW (y_move hF rfl) fun a hF => pv hF hW (y_nilCheck hF rfl) fun a hF => pv hF hW (y_fieldOwn hF rfl fa_89_0) fun a hF => pv hF hW (y_loadOwn hF rfl 1 rfl rfl Tryz.underlying31 rfl) fun a hF => pv hF hW (y_move hF rfl) fun a hF => pv hF hW (y_sliceL hF rfl rfl (by omega) Tryz.underlying31 sz_3) fun a hF => pv hF hW (y_nilCheck hF rfl) fun a hF => pv hF hW (y_fieldOwn hF rfl fa_89_0) fun a hF => ?_; refine pe (e_store rfl hF hW rfl rfl 1 rfl rfl rfl sz_31 ?_); intro wc hW; refine l_nil ?_; replace hF := hF.ks [0, 1, 4, 5, 16] rfl; refine t_n <| c_sr <| pv hF hW (y_move hF rfl) fun a hF => ?_; replace hF := hF.drop 4; refine pv hF hW (y_assign hF rfl) fun a hF => l_nil ?_; replace hF := hF.ks [0, 1, 4, 5, 16] rfl; refine t_n <| wp_ret <| ret1 Tryz.results37 hF (rv_t hF rfl) ?_
      have hkl : k ≤ l.length := (by omega)
      have e1 : (l.take k).length = k := (by rw [List.length_take]; omega)
      rw [e1] at hW ⊢
      rw [← List.length_drop] at hW
      have hd := fun u (h : Ints u (.slice A l.length c) l) => ints_drop h hkl
      rw [← List.length_drop] at hd
      exact .inl ⟨A1, c1, _, c - k, rfl, hkl, hd, hW⟩
end Go.Proofs.YtnpflhaggfabnaaGreat
