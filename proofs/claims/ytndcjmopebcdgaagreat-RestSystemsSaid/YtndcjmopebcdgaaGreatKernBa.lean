/- What the kernel makes of the small system. -/
import Derived.Test.YtndcjmopebcdgaaGreatKernG
import Derived.Test.YtndcjmopebcdgaaGreatConfD1
import Derived.Test.YtndcjmopebcdgaaGreatRefSi
set_option linter.unusedSimpArgs false
set_option linter.unusedVariables false
namespace Go.Proofs.YtndcjmopebcdgaaGreat
open Go.ChangeShapes Go.WideShapes Go.ChangeAt Go.RowKit
set_option maxRecDepth 100000
def relaySys:Sys:=⟨relayP,relayC,relayS⟩
theorem relaySys_ok:chkSys relaySys=0:=by kernel_rfl
section
variable {L:List PP} {pa sa:Option Addr} {b:Nat} {T:TypeId} {u:World} {y:WD}
theorem relay_begin(hL:L.map Prod.fst=relayP)(hB:Blk u b T (relayC.flatMap Chn.cells))(h:RelayR L pa sa u):
  Calls Tryz.prog 20 #[.agg #[.slice pa 4 4,.slice (some ⟨b,0,none⟩) 2 2,.slice sa 4 4]] u (WrlErr u (beginW relaySys) 0):=by
 have:=kernBegin_any (relay_at hL rfl hB h)
 rw[relay_val hL rfl,relay_sys hL] at this
 change Calls _ _ _ _ (WrlErr u (beginOr relaySys) (chkSys relaySys)) at this
 rwa [relaySys_ok,show beginOr relaySys=beginW relaySys from if_pos relaySys_ok] at this
theorem relay_run(hL:L.map Prod.fst=relayP)(hB:Blk u b T (relayC.flatMap Chn.cells))(h:RelayR L pa sa u)(n:Nat)(hn:n≤300):
  Calls Tryz.prog 22 #[.agg #[.slice pa 4 4,.slice (some ⟨b,0,none⟩) 2 2,.slice sa 4 4],.int .i64 n] u (WrlErr u (runW relaySys n) 0):=by
 have:=kernRun_any (relay_at hL rfl hB h) n
 rw[relay_val hL rfl,relay_sys hL] at this
 change Calls _ _ _ _ (WrlErr u (runOr relaySys n) (runErr relaySys n)) at this
 have h0:runErr relaySys n=0:=runErr_0 relaySys_ok Om
 rwa [h0,show runOr relaySys n=runW relaySys n from if_pos h0] at this
theorem relay_step(hL:L.map Prod.fst=relayP)(hB:Blk u b T (relayC.flatMap Chn.cells))(h:RelayR L pa sa u)(hy:y.At u)(hyw:y.wrl=beginW relaySys):
  Calls Tryz.prog 8 #[.agg #[.slice pa 4 4,.slice (some ⟨b,0,none⟩) 2 2,.slice sa 4 4],y.val] u (WrlErr u (stepW relaySys (beginW relaySys)) 0):=by
 have:=kernStep_any (relay_at hL rfl hB h) hy
 rw[relay_val hL rfl,relay_sys hL] at this
 change Calls _ _ _ _ (WrlErr u (stepOrW relaySys y.wrl) (stepErrW relaySys y.wrl)) at this
 have h0:stepErrW relaySys y.wrl=0:=by rw[hyw];kernel_rfl
 rwa [h0,show stepOrW relaySys y.wrl=stepW relaySys y.wrl from if_pos h0,hyw] at this
theorem relay_world(hL:L.map Prod.fst=relayP)(hB:Blk u b T (relayC.flatMap Chn.cells))(h:RelayR L pa sa u)(hy:y.At u)(E:Int)(hE:chkWorld relaySys y.wrl=E):
  Calls Tryz.prog 23 #[.agg #[.slice pa 4 4,.slice (some ⟨b,0,none⟩) 2 2,.slice sa 4 4],y.val] u fun e w'=>e=.returned (.int .i64 E)∧Below u.heap.size u w':=by
 have:=kernCheck_any (relay_at hL rfl hB h) hy
 rw[relay_val hL rfl,relay_sys hL] at this
 rw[←hE]
 exact this
end
theorem wrl_cell{y:WD}{W:Wrl}(h:y.wrl=W)(k:Nat):(y.cells.getD k CD0).c=W.cells.getD k Cel.zero:=by rw[←h,getD_mapC]
theorem wrl_len{y:WD}{W:Wrl}(h:y.wrl=W):y.cells.length=W.cells.length:=by rw[←h];simp[WD.wrl]
theorem relay12{y:WD}(h:y.wrl=runW relaySys 12):y.cells.length=4∧(y.cells.getD 0 CD0).c.end_=1∧(y.cells.getD 1 CD0).c.out=[6]∧(y.cells.getD 2 CD0).c.out=[6]∧(y.cells.getD 2 CD0).c.end_=1∧(y.cells.getD 3 CD0).c.out=[0]:=
 ⟨(wrl_len h).trans Kr,by rw[wrl_cell h];kernel_rfl,by rw[wrl_cell h];kernel_rfl,by rw[wrl_cell h];kernel_rfl,by rw[wrl_cell h];kernel_rfl,by rw[wrl_cell h];kernel_rfl⟩
theorem relay1{y:WD}(h:y.wrl=stepW relaySys (beginW relaySys)):y.cells.length=4∧(y.cells.getD 0 CD0).c.read=1∧y.tick=1:=
 ⟨(wrl_len h).trans Kr,by rw[wrl_cell h];kernel_rfl,(congrArg Wrl.tick h).trans Kr⟩
theorem encC_end(q:CD):(encC q)[15]?=some (.int .i64 q.c.end_):=cell_end q.wf
theorem encC_read(q:CD):(encC q)[13]?=some (.int .i64 q.c.read):=by
 obtain⟨⟨at_,regs,mem,rd,out,en⟩,hwf,a,k⟩:=q
 obtain⟨r0,r1,r2,r3,hregs⟩:=len_four hwf.1
 obtain⟨m0,m1,m2,m3,m4,m5,m6,m7,hmem⟩:=len_eight hwf.2
 dsimp only at hregs hmem
 subst hregs hmem
 rfl
theorem encC_out(q:CD):(encC q)[14]?=some (.slice q.a q.c.out.length q.k):=by
 obtain⟨⟨at_,regs,mem,rd,out,en⟩,hwf,a,k⟩:=q
 obtain⟨r0,r1,r2,r3,hregs⟩:=len_four hwf.1
 obtain⟨m0,m1,m2,m3,m4,m5,m6,m7,hmem⟩:=len_eight hwf.2
 dsimp only at hregs hmem
 subst hregs hmem
 rfl
end Go.Proofs.YtndcjmopebcdgaaGreat
