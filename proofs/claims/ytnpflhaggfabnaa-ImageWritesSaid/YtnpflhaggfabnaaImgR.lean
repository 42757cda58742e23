/- image.Read. -/
import Derived.Test.YtnpflhaggfabnaaImgL
import Derived.Test.YtnpflhaggfabnaaConfD1
import Derived.StillTailTactics
namespace Go.Proofs.Ytnpflhaggfabnaa
set_option linter.unusedVariables false
set_option linter.unusedSimpArgs false
open Go.ChangeShapes Go.WideShapes Go.ChangeAt Go.RowKit
theorem bu_ImgR_26_  (w : World) : (Instr.build 26 #[]).run Try.prog w = .ok (.agg #[(.slice none 0 0), (.slice none 0 0), (.slice none 0 0)]) w := by kernel_rfl
theorem bu_ImgR_61_0 (x0 : ByteArray) (w : World) : (Instr.build 61 #[(0, (.string x0))]).run Try.prog w = .ok (.agg #[(.string x0)]) w := by kernel_rfl
theorem bu_ImgR_80_  (w : World) : (Instr.build 80 #[]).run Try.prog w = .ok (.agg #[]) w := by kernel_rfl
set_option maxRecDepth 100000

theorem zero_s (w : World) : (Instr.build 26 #[]).run Try.prog w = .ok (.agg #[.slice none 0 0, .slice none 0 0, .slice none 0 0]) w := by kernel_rfl
theorem catch_read {w0 w : World} {X : Nat → Prop} {es : List Asn} {b4 b5 : Nat} {l4 : List Value} {v5 : Value} (hW : Wd w0 X (.blk b4 26 l4 :: .blk b5 27 [v5] :: es) w) (hl : l4.length = 3) :
    CallsD Try.prog 19 #[.pointer (some ⟨b4, 0, none⟩), .pointer (some ⟨b5, 0, none⟩)] (.panicking brkI) w fun e u w' => e = .returned (.tuple #[]) ∧ settle u = .returning ∧ Wd w0 X (.blk b4 26 [.slice none 0 0, .slice none 0 0, .slice none 0 0] :: .blk b5 27 [.int .i64 1] :: es) w' := by
  refine callsD_of_wpS Try.func19 rfl fun c₀ cs hu => ?_
  apply wpS_seq
  apply wpS_region
  simp [wpOpsS, go_sem, recoverD, hu, Try.ntmps19, Exit.thenS, brkI]
  refine wpS_of_wp ?_
  refine c_t (ds := []) (N := 5) (env := [(0, .pointer (some ⟨b4, 0, none⟩)), (1, .pointer (some ⟨b5, 0, none⟩)), (3, .bool true)]) ⟨rfl, rfl, fun t v h => ?_⟩ rfl ?_
  · simp only [List.mem_cons, Prod.mk.injEq, List.not_mem_nil, or_false] at h
    rcases h with ⟨rfl, rfl⟩ | ⟨rfl, rfl⟩ | ⟨rfl, rfl⟩ <;> rfl
  have hF : Fr [] 5 [(0, .pointer (some ⟨b4, 0, none⟩)), (1, .pointer (some ⟨b5, 0, none⟩)), (3, .bool true)] ⟨#[Value.pointer (some { block := b4, off := 0 }), Value.pointer (some { block := b5, off := 0 })] ++ ((Array.replicate 3 undef).setIfInBounds 0 (Value.iface 80 (Value.agg #[]))).setIfInBounds 1 (Value.bool true), []⟩ := ⟨rfl, rfl, fun t v h => by
    simp only [List.mem_cons, Prod.mk.injEq, List.not_mem_nil, or_false] at h
    rcases h with ⟨rfl, rfl⟩ | ⟨rfl, rfl⟩ | ⟨rfl, rfl⟩ <;> rfl⟩
  refine c_r <| pv hF hW (y_build (vs := []) hF rfl zero_s) fun a hF => pe (e_storeAll rfl hF hW rfl rfl 0 rfl rfl hl (by kernel_rfl) sz_26 ?_)
  intro wc hW
  refine pe (e_store rfl hF hW rfl rfl 1 rfl rfl rfl sz_27 ?_)
  intro wc hW
  refine l_nil ?_
  have hd := hF.defers
  simp [bodyPostS, hd, results, Try.results19, settle]
  exact hW
theorem catch_read0 {w : World} {b4 b5 : Nat} :
    CallsD Try.prog 19 #[.pointer (some ⟨b4, 0, none⟩), .pointer (some ⟨b5, 0, none⟩)] .returning w fun e u w' => e = .returned (.tuple #[]) ∧ settle u = .returning ∧ w' = w := by
  refine callsD_of_wpS Try.func19 rfl fun c₀ cs hu => ?_
  apply wpS_seq
  apply wpS_region
  simp [wpOpsS, go_sem, recoverD, hu, Try.ntmps19, Exit.thenS]
  refine wpS_of_wp ?_
  go_wp2
  cases c₀
  simp_all [bodyPostS, results, Try.results19, settle]
/-- what was thrown is caught: no world, and an error -/
theorem read_thrown {w0 w : World} {a : Act} {N : Nat} {env : List (Nat × Value)} {R : Ending → World → Prop} {b4 b5 : Nat} {l4 : List Value} {v5 : Value} (hF : Fr [{ target := .fn (.func 19) #[.pointer (some ⟨b4, 0, none⟩), .pointer (some ⟨b5, 0, none⟩)], args := #[] }] N env a)
    (e4 : evT env 2 = some (.pointer (some ⟨b4, 0, none⟩))) (e5 : evT env 3 = some (.pointer (some ⟨b5, 0, none⟩))) (hW : Wd w0 NoB [.blk b4 26 l4, .blk b5 27 [v5]] w) (hl : l4.length = 3)
    (hR : ∀ w', Below w0.heap.size w0 w' → R (.returned (.tuple #[SysD.zero.val, .int .i64 1])) w') : Go.bodyPostD Try.prog Try.f8 R (.panic brkI) a w := by
  refine panD1 hF en_19 (catch_read hW hl) ?_
  rintro e u w' ⟨rfl, hu, hW'⟩
  exact ⟨_, _, rfl, hu, res2 Try.results8 (rv_c hF e4 hW' 0 rfl Try.underlying26 rfl sz_26) (rv_c1 hF e5 hW' 1 rfl rfl Try.underlying27 rfl), hR _ hW'.below⟩
/-- nothing was thrown -/
theorem read_done {w0 w : World} {a : Act} {N : Nat} {env : List (Nat × Value)} {R : Ending → World → Prop} {b4 b5 : Nat} {l4 : List Value} {v5 : Value} {es : List Asn} (hF : Fr [{ target := .fn (.func 19) #[.pointer (some ⟨b4, 0, none⟩), .pointer (some ⟨b5, 0, none⟩)], args := #[] }] N env a)
    (e4 : evT env 2 = some (.pointer (some ⟨b4, 0, none⟩))) (e5 : evT env 3 = some (.pointer (some ⟨b5, 0, none⟩))) (hW : Wd w0 NoB (.blk b4 26 l4 :: .blk b5 27 [v5] :: es) w) (hl : l4.length = 3)
    (hR : R (.returned (.tuple #[.agg l4.toArray, v5])) w) : Go.bodyPostD Try.prog Try.f8 R .ret a w := by
  refine retD1 hF en_19 catch_read0 ?_
  rintro e u w' ⟨rfl, hu, rfl⟩
  exact ⟨_, _, rfl, hu, res2 Try.results8 (rv_c hF e4 hW 0 rfl Try.underlying26 rfl (by rw [hl]; exact sz_26)) (rv_c1 hF e5 hW 1 rfl rfl Try.underlying27 rfl), hR⟩
def readErr (l : List UInt8) : Int := if l.length > 8192 then 2 else if (readL l).isSome then 0 else 1
def readTo (l : List UInt8) : Sys := if l.length > 8192 then Sys.zero else (readL l).getD Sys.zero
theorem read_bad {w : World} {l : List UInt8} (h8 : ¬ l.length > 8192) (h : readL l = none) (w' : World) (hb : Below w.heap.size w w') : SysErr w (readTo l) (readErr l) (.returned (.tuple #[SysD.zero.val, .int .i64 1])) w' :=
  ⟨SysD.zero, by unfold readErr; rw [if_neg h8, h]; rfl, by unfold readTo; rw [if_neg h8, h]; rfl, hb, fun _ _ => SysD.zero_at _⟩
theorem read_all {l r1 r2 r3 : List UInt8} {P : List Prt} {C : List Chn} {S : List Slt} (h1 : listB prtP l = some (P, r1)) (h2 : listB chnP r1 = some (C, r2)) (h3 : listB sltP r2 = some (S, r3)) : readL l = if r3 = [] ∧ chkSys ⟨P, C, S⟩ = 0 then some ⟨P, C, S⟩ else none := by
  unfold readL sysP
  rw [h1, Option.bind_some]
  dsimp only
  rw [h2, Option.bind_some]
  dsimp only
  rw [h3]
  rfl
theorem read_no1 {l : List UInt8} (h1 : listB prtP l = none) : readL l = none := by
  unfold readL sysP
  rw [h1]
  rfl
theorem read_no2 {l r1 : List UInt8} {P : List Prt} (h1 : listB prtP l = some (P, r1)) (h2 : listB chnP r1 = none) : readL l = none := by
  unfold readL sysP
  rw [h1, Option.bind_some]
  dsimp only
  rw [h2]
  rfl
theorem read_no3 {l r1 r2 : List UInt8} {P : List Prt} {C : List Chn} (h1 : listB prtP l = some (P, r1)) (h2 : listB chnP r1 = some (C, r2)) (h3 : listB sltP r2 = none) : readL l = none := by
  unfold readL sysP
  rw [h1, Option.bind_some]
  dsimp only
  rw [h2, Option.bind_some]
  dsimp only
  rw [h3]
  rfl
set_option maxHeartbeats 16000000 in
theorem imageRead_any {w : World} {l : List UInt8} : Calls Try.prog 8 #[.string (bstr l)] w (SysErr w (readTo l) (readErr l)) := by
  refine enterD Try.func8 rfl Try.ntmps8 rfl fun a hF => ?_
  have hW := Wd.start w NoB
  refine c_sr ?_; refine pe (e_alloc hF hW ze_26 rfl rfl rfl ?_); intro b1 a wc hF hW; refine pe (e_alloc hF hW ze_27 rfl rfl rfl ?_); intro b2 a wc hF hW; refine l_nil <| t_n <| c_s <| c_sr <| pv hF hW (y_move hF rfl) fun a hF => pv hF hW (y_lenB hF rfl Try.underlying9) fun a hF => pv hF hW (y_gtr hF rfl rfl) fun a hF => ?_; refine Fr.splitD hF ?_ ?_
  · intro h3 hF; refine l_nil ?_; replace hF := hF.ks [0, 2, 3, 7] rfl; refine t_n <| c_t hF rfl <| c_sr <| pv hF hW (y_build hF rfl (fun w => bu_ImgR_26_  w)) fun a hF => ?_; refine pe (e_storeAll rfl hF hW rfl rfl 1 rfl rfl rfl (by kernel_rfl) sz_26 ?_); intro wc hW; refine pe (e_store rfl hF hW rfl rfl 0 rfl rfl rfl sz_27 ?_); intro wc hW; refine l_nil ?_; replace hF := hF.ks [0, 2, 3, 7] rfl; refine t_n <| wp_ret <| t_r ?_
    exact retD0 hF (res2 Try.results8 (rv_c hF rfl hW 1 rfl Try.underlying26 rfl sz_26) (rv_c1 hF rfl hW 0 rfl rfl Try.underlying27 rfl)) ⟨SysD.zero, by unfold readErr; rw [if_pos (by omega)]; rfl, by unfold readTo; rw [if_pos (by omega)]; rfl, hW.below, fun _ _ => SysD.zero_at _⟩
  · intro h3 hF; refine l_nil ?_; replace hF := hF.ks [0, 2, 3, 7] rfl; refine t_n <| c_f hF rfl <| wp_skip <| t_n <| c_sr <| pv hF hW (y_makeFunc hF rfl) fun a hF => ?_; refine pe (e_defer rfl hF rfl ?_); intro a hF; refine l_nil ?_; replace hF := hF.ks [0, 2, 3, 7] rfl; refine t_n ?_
    have h8 : ¬ l.length > 8192 := (by omega)
    refine c_sr <| pv hF hW (y_move hF rfl) fun a hF => pv hF hW (y_build hF rfl (fun w => bu_ImgR_61_0 _ w)) fun a hF => ?_; refine pe (e_box hF hW rfl rfl rfl rfl ?_); intro b4 a wc hF hW; refine pe (e_alloc hF hW ze_59 rfl rfl rfl ?_); intro b5 a wc hF hW; refine pe (e_store rfl hF hW rfl rfl 0 rfl rfl rfl sz_59 ?_); intro wc hW; refine l_nil ?_; replace hF := hF.ks [0, 2, 3, 4, 7] rfl; refine t_n <| c_sr <| pv hF hW (y_loadOwn hF rfl 0 rfl rfl Try.underlying59 rfl) fun a hF => pv hF hW (y_makeFunc hF rfl) fun a hF => ?_; refine pe (e_callp hF rfl rfl en_20 (by rfl) rfl rfl (list_prt_call en_21 (onei_prt _) ((hW.front 0 rfl rfl).front 1 rfl rfl)) ?_); rintro e w1 (⟨xs, r1, A1, c1, rfl, hT1, hN⟩ | ⟨rfl, hT1, hN⟩)
    · replace hW := hN; refine .inl ⟨_, rfl, fun a hF => ?_⟩; refine pv hF hW (y_fieldOwn hF rfl fa_26_0) fun a hF => ?_; refine pe (e_store rfl hF hW rfl rfl 5 rfl rfl rfl sz_22 ?_); intro wc hW; refine l_nil ?_; replace hF := hF.ks [0, 2, 3, 4, 7] rfl; refine t_n <| c_sr <| pv hF hW (y_loadOwn hF rfl 3 rfl rfl Try.underlying59 rfl) fun a hF => pv hF hW (y_makeFunc hF rfl) fun a hF => ?_; refine pe (e_callp hF rfl rfl en_28 (by rfl) rfl rfl (list_chn_call en_29 (onei_chn _) ((hW.front 3 rfl rfl).front 3 rfl rfl)) ?_); rintro e w1 (⟨ys, r2, A2, c2, rfl, hT2, hN⟩ | ⟨rfl, hT2, hN⟩)
      · replace hW := hN; refine .inl ⟨_, rfl, fun a hF => ?_⟩; refine pv hF hW (y_fieldOwn hF rfl fa_26_1) fun a hF => ?_; refine pe (e_store rfl hF hW rfl rfl 7 rfl rfl rfl sz_23 ?_); intro wc hW; refine l_nil ?_; replace hF := hF.ks [0, 2, 3, 4, 7] rfl; refine t_n <| c_sr <| pv hF hW (y_loadOwn hF rfl 3 rfl rfl Try.underlying59 rfl) fun a hF => pv hF hW (y_makeFunc hF rfl) fun a hF => ?_; refine pe (e_callp hF rfl rfl en_30 (by rfl) rfl rfl (list_slt_call en_31 (onei_slt _) ((hW.front 3 rfl rfl).front 3 rfl rfl)) ?_); rintro e w1 (⟨zs, r3, A3, c3, rfl, hT3, hN⟩ | ⟨rfl, hT3, hN⟩)
        · replace hW := hN; refine .inl ⟨_, rfl, fun a hF => ?_⟩; refine pv hF hW (y_fieldOwn hF rfl fa_26_2) fun a hF => ?_; refine pe (e_store rfl hF hW rfl rfl 9 rfl rfl rfl sz_24 ?_); intro wc hW; refine l_nil ?_; replace hF := hF.ks [0, 2, 3, 4, 7] rfl; refine t_n <| c_s ?_
          rw [List.map_id] at hT2 hT3
          have hRA : readL l = if r3 = [] ∧ chkSys (SysD.sys ⟨xs, A1, c1, ys, A2, c2, zs, A3, c3⟩) = 0 then some (SysD.sys ⟨xs, A1, c1, ys, A2, c2, zs, A3, c3⟩) else none := read_all hT1 hT2 hT3
          refine c_sr <| pv hF hW (y_loadOwn hF rfl 3 rfl rfl Try.underlying59 rfl) fun a hF => pv hF hW (y_nilCheck hF rfl) fun a hF => pv hF hW (y_fieldOwn hF rfl fa_61_0) fun a hF => pv hF hW (y_loadOwn hF rfl 2 rfl rfl Try.underlying9 rfl) fun a hF => pv hF hW (y_neB hF rfl rfl) fun a hF => ?_; refine Fr.splitD hF ?_ ?_
          · intro h6 hF; refine pv hF hW (y_move hF rfl) fun a hF => pk hF (wn hF rfl rfl rfl) fun a hF => pk hF (wn hF rfl rfl rfl) fun a hF => pk hF (wn hF rfl rfl rfl) fun a hF => pv hF hW (y_pick hF rfl rfl) fun a hF => l_nil ?_; replace hF := hF.ks [0, 2, 3, 4, 7, 34] rfl; refine t_n <| c_t hF rfl <| c_r <| pv hF hW (y_build hF rfl (fun w => bu_ImgR_80_  w)) fun a hF => pv hF hW (y_makeIface hF rfl Try.underlying80 (by intro ms h; cases h)) fun a hF => ?_; refine pe (e_panic hF rfl ?_); refine t_p ?_; replace hW := hW.del 0 rfl; replace hW := hW.del 0 rfl; replace hW := hW.del 0 rfl; replace hW := hW.del 0 rfl; replace hW := hW.del 0 rfl; replace hW := hW.del 0 rfl; replace hW := hW.del 0 rfl; replace hW := hW.del 0 rfl; replace hW := hW.front 1 rfl rfl
            exact read_thrown hF rfl rfl hW rfl fun w' hb => read_bad h8 (by rw [hRA, if_neg fun h => absurd h.1 (by assumption)]) w' hb
          · intro h6 hF; refine pv hF hW (y_move hF rfl) fun a hF => pvg hF hW (y_loadAll hF rfl 9 rfl Try.underlying26 rfl sz_26) (ws hF rfl rfl) fun a hF => ?_; refine pe (e_call hF rfl rfl en_12 (by rfl) rfl rfl (confCheck_any (x := ⟨xs, A1, c1, ys, A2, c2, zs, A3, c3⟩) ⟨Flat.of_own (hW.row 6 rfl) rfl, hW.res 7 rfl, Flat.of_own (hW.row 4 rfl) rfl, Flat.of_own (hW.row 0 rfl) rfl⟩) ?_) (ws hF rfl rfl); rintro e w1 ⟨rfl, hb⟩; replace hW := hW.kept hb; clear hb; refine ⟨_, rfl, fun a hF => ?_⟩; refine pvg hF hW (y_neq hF rfl rfl) (ws hF rfl rfl) fun a hF => ?_; refine Fr.splitD hF ?_ ?_
            · intro h7 hF; refine pv hF hW (y_pick hF rfl rfl) fun a hF => l_nil ?_; replace hF := hF.ks [0, 2, 3, 4, 7, 34] rfl; refine t_n <| c_t hF rfl <| c_r <| pv hF hW (y_build hF rfl (fun w => bu_ImgR_80_  w)) fun a hF => pv hF hW (y_makeIface hF rfl Try.underlying80 (by intro ms h; cases h)) fun a hF => ?_; refine pe (e_panic hF rfl ?_); refine t_p ?_; replace hW := hW.del 0 rfl; replace hW := hW.del 0 rfl; replace hW := hW.del 0 rfl; replace hW := hW.del 0 rfl; replace hW := hW.del 0 rfl; replace hW := hW.del 0 rfl; replace hW := hW.del 0 rfl; replace hW := hW.del 0 rfl; replace hW := hW.front 1 rfl rfl
              exact read_thrown hF rfl rfl hW rfl fun w' hb => read_bad h8 (by rw [hRA, if_neg fun h => absurd h.2 (by assumption)]) w' hb
            · intro h7 hF; refine pv hF hW (y_pick hF rfl rfl) fun a hF => l_nil ?_; replace hF := hF.ks [0, 2, 3, 4, 7, 34] rfl; refine t_n <| c_f hF rfl <| wp_skip <| t_n <| c_sr <| pv hF hW (y_loadAll hF rfl 9 rfl Try.underlying26 rfl sz_26) fun a hF => ?_; refine pe (e_storeAll rfl hF hW rfl rfl 9 rfl rfl rfl (by kernel_rfl) sz_26 ?_); intro wc hW; refine pe (e_store rfl hF hW rfl rfl 8 rfl rfl rfl sz_27 ?_); intro wc hW; refine l_nil ?_; replace hF := hF.ks [0, 2, 3, 4, 7, 34] rfl; refine t_n <| wp_ret ?_; replace hW := hW.del 1 rfl; replace hW := hW.del 1 rfl; replace hW := hW.del 1 rfl; replace hW := hW.del 2 rfl; replace hW := hW.front 1 rfl rfl; replace hW := hW.front 3 rfl rfl; replace hW := hW.front 3 rfl rfl; replace hW := hW.front 4 rfl rfl; replace hW := hW.front 5 rfl rfl
              have hLO : readL l = some (SysD.sys ⟨xs, A1, c1, ys, A2, c2, zs, A3, c3⟩) := (by rw [hRA, if_pos ⟨Classical.not_not.1 (by assumption), by omega⟩])
              have h7 := ((((hW.del 0 rfl).del 0 rfl).row_res 0 rfl).row_res 2 rfl).row_res 3 rfl
              have hOwn : OwnRes w _ (SysD.At ⟨xs, A1, c1, ys, A2, c2, zs, A3, c3⟩) := ((((h7.join rfl).join rfl).join rfl).res_res 0 rfl).mono fun u h => ⟨Flat.of_own h.1.1.1 rfl, h.1.1.2, Flat.of_own h.1.2 rfl, Flat.of_own h.2 rfl⟩
              exact read_done hF rfl rfl hW rfl ⟨⟨xs, A1, c1, ys, A2, c2, zs, A3, c3⟩, by unfold readErr; rw [if_neg h8, hLO]; rfl, by unfold readTo; rw [if_neg h8, hLO]; rfl, hW.below, hOwn⟩
        · replace hW := hN; refine .inr ⟨_, rfl, ?_⟩; refine t_p ?_; replace hW := hW.del 0 rfl; replace hW := hW.del 0 rfl; replace hW := hW.del 0 rfl; replace hW := hW.del 0 rfl; replace hW := hW.front 1 rfl rfl
          exact read_thrown hF rfl rfl hW rfl fun w' hb => read_bad h8 (by rw [List.map_id] at hT2; exact read_no3 hT1 hT2 hT3) w' hb
      · replace hW := hN; refine .inr ⟨_, rfl, ?_⟩; refine t_p ?_; replace hW := hW.del 0 rfl; replace hW := hW.del 0 rfl; replace hW := hW.front 1 rfl rfl
        exact read_thrown hF rfl rfl hW rfl fun w' hb => read_bad h8 (read_no2 hT1 hT2) w' hb
    · replace hW := hN; refine .inr ⟨_, rfl, ?_⟩; refine t_p ?_; replace hW := hW.front 1 rfl rfl
      exact read_thrown hF rfl rfl hW rfl fun w' hb => read_bad h8 (read_no1 hT1) w' hb
end Go.Proofs.Ytnpflhaggfabnaa
