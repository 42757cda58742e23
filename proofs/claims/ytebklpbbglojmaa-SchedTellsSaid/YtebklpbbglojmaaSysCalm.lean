/- The reference's CalmOf: what it gives. -/
import Derived.Test.YtebklpbbglojmaaSysOwn
namespace Go.Proofs.Ytebklpbbglojmaa
set_option linter.unusedVariables false
set_option linter.unusedSimpArgs false
open Go.ChangeShapes Go.WideShapes Go.ChangeAt Go.RowKit

set_option maxRecDepth 100000

theorem map_set {α β : Type} (f : α → β) (l : List α) (p : Nat) (q : α) : (l.set p q).map f = (l.map f).set p (f q) := by
  simp
theorem sys_len {x y : SysD} (h : y.sys = x.sys) : y.parts.length = x.parts.length ∧ y.chans = x.chans ∧ y.slots = x.slots := by
  have h1 := congrArg (fun s => s.parts.length) h
  exact ⟨by simpa [SysD.sys] using h1, congrArg Sys.chans h, congrArg Sys.slots h⟩
/-- a part put in the place of another one, in an own row of parts -/
theorem parts_put {y : SysD} {b c p n : Nat} {T : TypeId} {l l' : List Value} {q : PP} {u : World} (hn : n = y.parts.length) (hp : p < n) (hl' : l' = splice l (p * 2) (encP q)) (hB : Blk u b T l') (htk : l.take (n * 2) = y.parts.flatMap encP) (hnc : n ≤ c) (hcm : c ≤ maxLen) (hll : l.length = c * 2) (hr : y.Rest u) (hq : q.At u) :
    SysD.At ⟨y.parts.set p q, some ⟨b, 0, none⟩, c, y.chans, y.ha, y.hc, y.slots, y.sa, y.sc⟩ u := by
  subst hl'
  have h := flat_splice encP_len htk hn hp (by omega) q
  refine ⟨?_, fun q' hq' => ?_, hr.2.1, hr.2.2⟩
  · have := flat_take (c := c) hB (xs := y.parts.set p q) (by simpa using hn) h encP_len hnc hcm
    rw [hn] at this
    simpa using this
  · rcases List.mem_or_eq_of_mem_set hq' with h1 | rfl
    · exact hr.1 _ h1
    · exact hq
theorem parts_sys {x y : SysD} {p : Nat} {q : PP} {b c : Nat} (h : y.sys = x.sys) (hq : q.1 = calmP) :
    SysD.sys ⟨y.parts.set p q, some ⟨b, 0, none⟩, c, y.chans, y.ha, y.hc, y.slots, y.sa, y.sc⟩ = calmSys x.sys p := by
  rw [← h]
  simp only [SysD.sys, calmSys, map_set, hq]

theorem calmOf_any {x : SysD} {w : World} (hx : x.At w) {p : Nat} (hk : chkSys x.sys = 0) (hp : p < x.parts.length) :
    Calls Try.prog 33 #[x.val, .int .i64 p] w fun e w' => ∃ z : SysD, e = .returned z.val ∧ z.sys = calmSys x.sys p ∧ Below w.heap.size w w' ∧ OwnRes w w' z.At := by
  rw [x.val_eq]
  refine enter Try.func33 rfl Try.ntmps33 rfl (fun a hF => ?_)
  have hW := Wd.start w NoB
  refine c_sr ?_
  refine pe (e_box hF hW rfl rfl rfl rfl ?_)
  intro b1 a wc hF hW
  refine pe (e_alloc hF hW ze_68 rfl rfl rfl ?_)
  intro b2 a wc hF hW
  refine l_nil ?_
  refine t_n ?_
  refine c_sr ?_
  refine pv hF hW (y_loadAll hF rfl 1 rfl Try.underlying68 rfl sz_68) (fun a hF => ?_)
  refine pe (e_call hF rfl rfl en_61 (by rfl) rfl rfl (ownSystem_any (hx.below hW.below) hk) ?_)
  rintro e w1 ⟨y, rfl, hsys, hN⟩
  obtain ⟨hyl, -, -⟩ := sys_len hsys
  replace hW := hW.comb2 hN
  obtain ⟨b, c, l, hpv, hnc, hcm, hll, htk, hW'⟩ := hW.row_whole 1 rfl (by omega)
  replace hW := hW'
  clear hW'
  refine ⟨_, rfl, fun a hF => ?_⟩
  replace hF := Fr.cast (v' := .agg #[.slice (some ⟨b, 0, none⟩) y.parts.length c, .slice y.ha y.chans.length y.hc, .slice y.sa y.slots.length y.sc]) (by rw [SysD.val_eq, hpv]) hF
  refine pe (e_alloc hF hW ze_68 rfl rfl rfl ?_)
  intro b3 a wc hF hW
  refine pe (e_storeAll rfl hF hW rfl rfl 0 rfl rfl rfl (by kernel_rfl) sz_68 ?_)
  intro wc hW
  refine l_nil ?_
  replace hF := (hF.k 0 rfl (hF.k 1 rfl (hF.k 2 rfl (hF.k 4 rfl (hF.k 5 rfl hF.nil)))))
  refine t_n ?_
  refine c_sd mixed_ok hW ((hW.del 2 rfl)) ?_
  clear hW; intro wc hW hS
  refine dv 0 rfl hF hS (y_fieldOwn hF rfl fa_68_0) (fun a hF => ?_)
  refine dv 1 rfl hF hS (y_loadOwn hF rfl 0 rfl rfl Try.underlying64 rfl) (fun a hF => ?_)
  refine dv 2 rfl hF hS (y_move hF rfl) (fun a hF => ?_)
  refine d_1 3 (by kernel_rfl) ?_
  refine d_op rfl rfl (e_call hF rfl rfl en_62 (by rfl) rfl rfl (calmR_any _) ?_)
  rintro e w1 ⟨q, rfl, hq, hb, hr⟩
  replace hW := hW.gotR hb hr
  refine ⟨_, rfl, fun a hF => ?_⟩
  replace hF := Fr.cast (v' := .agg #[.slice q.2.ca q.1.code.length q.2.cc, .slice q.2.ia q.1.inp.length q.2.ic]) rfl hF
  refine ⟨((hW.del 0 rfl).del 2 rfl), ?_⟩
  replace hS := ((hW.del 0 rfl).del 2 rfl)
  refine dv 4 rfl hF hS (y_indexOwnS hF rfl rfl (by first | omega | decide) Try.underlying64 sz_42) (fun a hF => ?_)
  refine d_1 5 (by kernel_rfl) ?_
  refine d_op rfl rfl (e_storeMid rfl hF hW rfl rfl 3 rfl (by show _ + 2 ≤ _; omega) (by kernel_rfl) sz_42 ?_)
  intro wc hW
  refine ⟨((hW.del 0 rfl).del 2 rfl), ?_⟩
  replace hS := ((hW.del 0 rfl).del 2 rfl)
  clear hS
  refine d_nil (by kernel_rfl) ?_
  replace hF := (hF.k 0 rfl (hF.k 1 rfl (hF.k 2 rfl (hF.k 4 rfl (hF.k 5 rfl hF.nil)))))
  refine t_n ?_
  refine c_sr ?_
  refine pv hF hW (y_loadAll hF rfl 1 rfl Try.underlying68 rfl sz_68) (fun a hF => ?_)
  refine pe (e_storeAll rfl hF hW rfl rfl 4 rfl rfl rfl (by kernel_rfl) sz_68 ?_)
  intro wc hW
  refine l_nil ?_
  replace hF := (hF.k 0 rfl (hF.k 1 rfl (hF.k 2 rfl (hF.k 4 rfl (hF.k 5 rfl hF.nil)))))
  refine t_n ?_
  refine wp_ret ?_
  refine ret1 Try.results33 hF (rv_c hF rfl hW 4 rfl Try.underlying68 rfl sz_68) ?_
  replace hW := hW.del 1 rfl
  replace hW := hW.del 3 rfl
  replace hW := hW.del 3 rfl
  replace hW := hW.front 1 rfl rfl
  replace hW := hW.front 2 rfl rfl
  exact ⟨⟨y.parts.set p q, some ⟨b, 0, none⟩, c, y.chans, y.ha, y.hc, y.slots, y.sa, y.sc⟩, by simp [SysD.val], parts_sys hsys hq, hW.below, (hW.blk2 fun u h1 h2 h3 => parts_put rfl (by omega) rfl h1 htk hnc hcm hll h2 h3).res_res 0 rfl⟩
end Go.Proofs.Ytebklpbbglojmaa
