/- Plain forms of the program's functions,by program. -/
import Derived.Test.YtljfdfghagiblaaGreatGgate
import Derived.Test.YtljfdfghagiblaaGreatGrslot
import Derived.Test.YtljfdfghagiblaaGreatGrwire
set_option maxRecDepth 100000
set_option maxHeartbeats 0
namespace Go.Proofs.YtljfdfghagiblaaGreat.S2
open Go
noncomputable section
def qH:aC:=(sL [(cP 0),lI])
def xq:aS:=BX
def qI:List aA:=[⟨(.tup (sL [(cP 8),(cP 9),(cP 10),lB])),[adm,(1,qa),(2,qa),(3,qb),(4,qc),(5,qd),(6,qe),(7,qf),(8,.cells (sL [(cP 0),(cP 9),lU,lU,lI])),(9,.cells (.cons (cP 10) .nil)),(10,.cells (sL [lI,(cW 11),(cW 12)])),(11,qf),(12,.row 151 nk)]⟩,⟨(.tup (sL [(.const .nilp),(.const .nilp),(.const .nilp),(.const (.bool Bool.false))])),BX⟩]
abbrev aqa:Type:=(Int×Unit)
abbrev aqb:Type:=jv
abbrev Wt:Type:=((Bool×Unit)×(Yd×Y1×Y1×Y2×Y3×Y4×Y5×Yb×cr×Unit×(Int×Unit)×Yb×Y6×Unit))⊕(Unit×jv)
abbrev apl:=aqa->aqb->Option Wt
def ny (qk:aAB) (oA:at5) (tt:aAD) (xW:aAV) {α:Type} (c:Int) (d:List Int) (e:Int) (g:Bool) (h:Y1) (i:Y1) (j:Y2) (l:Y3) (m:Y4) (n:Y5) (o:Yb) (K:Wt->Option α):Option α :=
 (qk (2,256,()) ()).bind fun r1 =>
 Sum.elim (fun u2 =>
 K (.inr ((),(d,e,g,()),h,i,j,l,m,n,o,())))
 (fun u2 =>
 (oA () ((u2.2.1.1,()),u2.2.2.1,u2.2.2.2.1,())).bind fun r3 =>
 Sum.elim (fun u4 =>
 K (.inr ((),(d,e,g,()),h,i,j,l,m,n,o,())))
 (fun u4 =>
 (tt (3,5,c,()) ((d,e,g,()),(),h,i,j,l,m,n,o,(u4.2.1.1,()),u4.2.2.1,u4.2.2.2.1,())).bind fun r5 =>
 Sum.elim (fun u6 =>
 K (.inr ((),(u6.2.1.1,u6.2.1.2.1,u6.2.1.2.2.1,()),u6.2.2.2.1,u6.2.2.2.2.1,u6.2.2.2.2.2.1,u6.2.2.2.2.2.2.1,u6.2.2.2.2.2.2.2.1,u6.2.2.2.2.2.2.2.2.1,u6.2.2.2.2.2.2.2.2.2.1,())))
 (fun u6 =>
 (xW () ((u6.2.2.2.2.2.2.2.2.2.2.2.2.2.1.1,u6.2.2.2.2.2.2.2.2.2.2.2.2.2.1.2.1,u6.2.2.2.2.2.2.2.2.2.2.2.2.2.1.2.2.1,()),(u6.2.1.1,u6.2.1.2.1,u6.2.1.2.2.1,()),(),u6.2.2.2.1,u6.2.2.2.2.1,u6.2.2.2.2.2.1,u6.2.2.2.2.2.2.1,u6.2.2.2.2.2.2.2.1,u6.2.2.2.2.2.2.2.2.1,u6.2.2.2.2.2.2.2.2.2.1,(u6.2.2.2.2.2.2.2.2.2.2.1.1,()),u6.2.2.2.2.2.2.2.2.2.2.2.1,u6.2.2.2.2.2.2.2.2.2.2.2.2.1,())).bind fun r7 =>
 K (.inl ((r7.1,()),(r7.2.2.1.1,r7.2.2.1.2.1,r7.2.2.1.2.2.1,()),r7.2.2.2.2.1,r7.2.2.2.2.2.1,r7.2.2.2.2.2.2.1,r7.2.2.2.2.2.2.2.1,r7.2.2.2.2.2.2.2.2.1,r7.2.2.2.2.2.2.2.2.2.1,r7.2.2.2.2.2.2.2.2.2.2.1,(r7.2.1.1,r7.2.1.2.1,r7.2.1.2.2.1,()),(),(r7.2.2.2.2.2.2.2.2.2.2.2.1.1,()),r7.2.2.2.2.2.2.2.2.2.2.2.2.1,r7.2.2.2.2.2.2.2.2.2.2.2.2.2.2.1,()))) (r5)) (r3)) (r1)
def eF:aqa->aqb->Option Wt:=fun a b=>ny qk oA tt xW a.1 b.1.1 b.1.2.1 b.1.2.2.1 b.2.1 b.2.2.1 b.2.2.2.1 b.2.2.2.2.1 b.2.2.2.2.2.1 b.2.2.2.2.2.2.1 b.2.2.2.2.2.2.2.1 some
theorem aA4 (qk oA tt xW) (c d e g h i j l m n o) {α:Type} (K:Wt->Option α):ny qk oA tt xW c d e g h i j l m n o K=(ny qk oA tt xW c d e g h i j l m n o some).bind K:=by simp only [ny,af,ab,ac,ae,ah]
def vr:aC:=.nil
def Al:aS:=[]
def vt:List aA:=[⟨lB,[]⟩]
abbrev aqc:Type:=Unit
abbrev aqd:Type:=Unit
abbrev Wu:Type:=Bool×Unit
abbrev az3:=aqc->aqd->Option Wu
def vu (gj:apk) (eF:apl) (iT:apX) (xX:aA5) (dk:apg) (eD:aph) (eE:api) {α:Type} (K:Wu->Option α):Option α :=
 (gj ([],()) ()).bind fun r1 =>
 (eF (1,()) ((r1.2.1.1,r1.2.1.2.1,r1.2.1.2.2.1,()),r1.2.2.1,r1.2.2.2.1,r1.2.2.2.2.1,r1.2.2.2.2.2.1,r1.2.2.2.2.2.2.1,r1.2.2.2.2.2.2.2.1,r1.2.2.2.2.2.2.2.2.1,())).bind fun r2 =>
 Sum.elim (fun u3 =>
 cond (!u3.1.1)
 (K (false,()))
 ((iT (1,[],()) ((u3.2.1.1,u3.2.1.2.1,u3.2.1.2.2.1,()),u3.2.2.1,u3.2.2.2.1,u3.2.2.2.2.1,u3.2.2.2.2.2.1,u3.2.2.2.2.2.2.1,u3.2.2.2.2.2.2.2.1,u3.2.2.2.2.2.2.2.2.1,())).bind fun r4 =>
 (xX (r4.1.1,0,()) ()).bind fun r5 =>
 (dk (0,(eB,r5.1.1,()),()) ((u3.2.2.2.2.2.2.2.2.2.1.1,u3.2.2.2.2.2.2.2.2.2.1.2.1,u3.2.2.2.2.2.2.2.2.2.1.2.2.1,()),(r4.2.1.1,r4.2.1.2.1,r4.2.1.2.2.1,()),(),r4.2.2.1,r4.2.2.2.1,r4.2.2.2.2.1,r4.2.2.2.2.2.1,r4.2.2.2.2.2.2.1,r4.2.2.2.2.2.2.2.1,r4.2.2.2.2.2.2.2.2.1,(u3.2.2.2.2.2.2.2.2.2.2.2.1.1,()),u3.2.2.2.2.2.2.2.2.2.2.2.2.1,u3.2.2.2.2.2.2.2.2.2.2.2.2.2.1,())).bind fun r6 =>
 (dk (0,(eB,[]++[1],()),()) ((r6.2.1.1,r6.2.1.2.1,r6.2.1.2.2.1,()),(r6.2.2.1.1,r6.2.2.1.2.1,r6.2.2.1.2.2.1,()),(),r6.2.2.2.2.1,r6.2.2.2.2.2.1,r6.2.2.2.2.2.2.1,r6.2.2.2.2.2.2.2.1,r6.2.2.2.2.2.2.2.2.1,r6.2.2.2.2.2.2.2.2.2.1,r6.2.2.2.2.2.2.2.2.2.2.1,(r6.2.2.2.2.2.2.2.2.2.2.2.1.1,()),r6.2.2.2.2.2.2.2.2.2.2.2.2.1,r6.2.2.2.2.2.2.2.2.2.2.2.2.2.1,())).bind fun r7 =>
 (dk (2,(eB,r5.1.1,()),()) ((r7.2.1.1,r7.2.1.2.1,r7.2.1.2.2.1,()),(r7.2.2.1.1,r7.2.2.1.2.1,r7.2.2.1.2.2.1,()),(),r7.2.2.2.2.1,r7.2.2.2.2.2.1,r7.2.2.2.2.2.2.1,r7.2.2.2.2.2.2.2.1,r7.2.2.2.2.2.2.2.2.1,r7.2.2.2.2.2.2.2.2.2.1,r7.2.2.2.2.2.2.2.2.2.2.1,(r7.2.2.2.2.2.2.2.2.2.2.2.1.1,()),r7.2.2.2.2.2.2.2.2.2.2.2.2.1,r7.2.2.2.2.2.2.2.2.2.2.2.2.2.1,())).bind fun r8 =>
 (eD (0,0,(ByteArray.mk #[104,105]),(eB,r5.1.1,()),()) ((r8.2.1.1,r8.2.1.2.1,r8.2.1.2.2.1,()),(r8.2.2.1.1,r8.2.2.1.2.1,r8.2.2.1.2.2.1,()),(),r8.2.2.2.2.1,r8.2.2.2.2.2.1,r8.2.2.2.2.2.2.1,r8.2.2.2.2.2.2.2.1,r8.2.2.2.2.2.2.2.2.1,r8.2.2.2.2.2.2.2.2.2.1,r8.2.2.2.2.2.2.2.2.2.2.1,(r8.2.2.2.2.2.2.2.2.2.2.2.1.1,()),r8.2.2.2.2.2.2.2.2.2.2.2.2.1,r8.2.2.2.2.2.2.2.2.2.2.2.2.2.1,())).bind fun r9 =>
 (dk (0,(eB,r5.1.1,()),()) ((r9.2.1.1,r9.2.1.2.1,r9.2.1.2.2.1,()),(r9.2.2.1.1,r9.2.2.1.2.1,r9.2.2.1.2.2.1,()),(),r9.2.2.2.2.1,r9.2.2.2.2.2.1,r9.2.2.2.2.2.2.1,r9.2.2.2.2.2.2.2.1,r9.2.2.2.2.2.2.2.2.1,r9.2.2.2.2.2.2.2.2.2.1,r9.2.2.2.2.2.2.2.2.2.2.2.2.2.2.1,(r9.2.2.2.2.2.2.2.2.2.2.2.1.1,()),r9.2.2.2.2.2.2.2.2.2.2.2.2.1,r9.2.2.2.2.2.2.2.2.2.2.2.2.2.2.2.1,())).bind fun r10 =>
 (eE () ((r10.2.1.1,r10.2.1.2.1,r10.2.1.2.2.1,()),(r10.2.2.1.1,r10.2.2.1.2.1,r10.2.2.1.2.2.1,()),(),r10.2.2.2.2.1,r10.2.2.2.2.2.1,r10.2.2.2.2.2.2.1,r10.2.2.2.2.2.2.2.1,r10.2.2.2.2.2.2.2.2.1,r10.2.2.2.2.2.2.2.2.2.1,r10.2.2.2.2.2.2.2.2.2.2.1,(r10.2.2.2.2.2.2.2.2.2.2.2.1.1,()),r10.2.2.2.2.2.2.2.2.2.2.2.2.1,r10.2.2.2.2.2.2.2.2.2.2.2.2.2.1,())).bind fun r11 =>
 (dk (0,(r9.1.1,r5.1.1,()),()) ((r11.2.1.1,r11.2.1.2.1,r11.2.1.2.2.1,()),(r11.2.2.1.1,r11.2.2.1.2.1,r11.2.2.1.2.2.1,()),(),r11.2.2.2.2.1,r11.2.2.2.2.2.1,r11.2.2.2.2.2.2.1,r11.2.2.2.2.2.2.2.1,r11.2.2.2.2.2.2.2.2.1,r11.2.2.2.2.2.2.2.2.2.1,r11.2.2.2.2.2.2.2.2.2.2.1,(r11.2.2.2.2.2.2.2.2.2.2.2.1.1,()),r11.2.2.2.2.2.2.2.2.2.2.2.2.1,r11.2.2.2.2.2.2.2.2.2.2.2.2.2.2.1,())).bind fun r12 =>
 cond (r5.1.2.1)
 (cond (r6.1.1.toList==eB.toList)
 (cond (r6.1.2.1==0)
 (cond (r7.1.2.1==232)
 (cond (r8.1.2.1==230)
 (cond (r9.1.2.1==0)
 (cond (r10.1.2.1==234)
 (cond (r11.1==0)
 (cond (r12.1.1.toList==(ByteArray.mk #[104,105]).toList)
 (K (r12.1.2.1==0,()))
 (K (false,())))
 (K (false,())))
 (K (false,())))
 (K (false,())))
 (K (false,())))
 (K (false,())))
 (K (false,())))
 (K (false,())))
 (K (false,()))))
 (fun u3 =>
 K (false,())) (r2)
def nm:aqc->aqd->Option Wu:=fun a b=>vu gj eF iT xX dk eD eE some
theorem aA6 (gj eF iT xX dk eD eE) {α:Type} (K:Wu->Option α):vu gj eF iT xX dk eD eE K=(vu gj eF iT xX dk eD eE some).bind K:=by simp only [vu,af,ab,ac,ae,ah]
end
noncomputable section
def DB:aC:=(.cons (.agg IW) .nil)
def H7:aS:=[]
def DC:List aA:=[⟨lS,[]⟩]
abbrev arN:Type:=(Yt×Unit)
abbrev arO:Type:=Unit
abbrev Xo:Type:=ByteArray×Unit
abbrev aCf:=arN->arO->Option Xo
def sa (bj:QB) (wt:aCg) {α:Type} (c:Int) (d:Int) (e:Int) (g:Int) (h:Int) (i:ByteArray) (K:Xo->Option α):Option α :=
 (bj (c,()) ()).bind fun r1 =>
 (bj (d,()) ()).bind fun r2 =>
 cond (decide (r1.1.size+r2.1.size<=9223372036854775807))
 ((bj (e,()) ()).bind fun r3 =>
 cond (decide ((r1.1++r2.1).size+r3.1.size<=9223372036854775807))
 ((bj (g,()) ()).bind fun r4 =>
 cond (decide ((r1.1++r2.1++r3.1).size+r4.1.size<=9223372036854775807))
 ((bj (h,()) ()).bind fun r5 =>
 cond (decide ((r1.1++r2.1++r3.1++r4.1).size+r5.1.size<=9223372036854775807))
 ((wt (i,()) ()).bind fun r6 =>
 cond (decide ((r1.1++r2.1++r3.1++r4.1++r5.1).size+r6.1.size<=9223372036854775807))
 (K (r1.1++r2.1++r3.1++r4.1++r5.1++r6.1,()))
 (none))
 (none))
 (none))
 (none))
 (none)
def wu:arN->arO->Option Xo:=fun a b=>sa bj wt a.1.1 a.1.2.1 a.1.2.2.1 a.1.2.2.2.1 a.1.2.2.2.2.1 a.1.2.2.2.2.2.1 some
theorem aCh (bj wt) (c d e g h i) {α:Type} (K:Xo->Option α):sa bj wt c d e g h i K=(sa bj wt c d e g h i some).bind K:=by simp only [sa,af,ab,ac,ae,ah]
theorem auI (c d e g h i):wu ((c,d,e,g,h,i,()),()) ()=sa bj wt c d e g h i some:=rfl
def DD:aC:=(.cons lS .nil)
def H8:aS:=[]
def DE:List aA:=[⟨(.tup (sL [(.agg IW),lB])),[]⟩]
abbrev arP:Type:=ux
abbrev arQ:Type:=Unit
abbrev Xp:Type:=(Yt×Bool×Unit)×Unit
abbrev aCi:=arP->arQ->Option Xp
def sb (wv:aCj) (ww:aCk) {α:Type} (c:ByteArray) (K:Xp->Option α):Option α :=
 (wv (c,5,()) ()).bind fun r1 =>
 cond (!r1.1.2.2.1)
 (K (((0,0,0,0,0,eB,()),false,()),()))
 ((ww (r1.1.2.1,(↑r1.1.2.1.size:Int),()) ()).bind fun r2 =>
 cond (decide (0<(↑r1.1.1.length:Int)))
 (cond (decide (1<(↑r1.1.1.length:Int)))
 (cond (decide (2<(↑r1.1.1.length:Int)))
 (cond (decide (3<(↑r1.1.1.length:Int)))
 (cond (decide (4<(↑r1.1.1.length:Int)))
 (cond (r1.1.1.getD 3 0==0)
 (cond (r1.1.1.getD 4 0==0)
 (cond (!r2.1.2.2.1)
 (K (((0,0,0,0,0,eB,()),false,()),()))
 (cond (!r2.1.2.1.toList==eB.toList)
 (K (((0,0,0,0,0,eB,()),false,()),()))
 (cond (decide (r1.1.1.getD 2 0>1))
 (K (((0,0,0,0,0,eB,()),false,()),()))
 (cond (r1.1.1.getD 2 0==0)
 (cond (!r2.1.1.toList==eB.toList)
 (K (((0,0,0,0,0,eB,()),false,()),()))
 (K (((r1.1.1.getD 0 0,r1.1.1.getD 1 0,r1.1.1.getD 2 0,r1.1.1.getD 3 0,r1.1.1.getD 4 0,r2.1.1,()),true,()),())))
 (K (((r1.1.1.getD 0 0,r1.1.1.getD 1 0,r1.1.1.getD 2 0,r1.1.1.getD 3 0,r1.1.1.getD 4 0,r2.1.1,()),true,()),()))))))
 (cond (!r2.1.2.2.1)
 (K (((0,0,0,0,0,eB,()),false,()),()))
 (cond (!r2.1.2.1.toList==eB.toList)
 (K (((0,0,0,0,0,eB,()),false,()),()))
 (cond (decide (r1.1.1.getD 2 0>1))
 (K (((0,0,0,0,0,eB,()),false,()),()))
 (cond (r1.1.1.getD 2 0==0)
 (K (((0,0,0,0,0,eB,()),false,()),()))
 (K (((r1.1.1.getD 0 0,r1.1.1.getD 1 0,r1.1.1.getD 2 0,r1.1.1.getD 3 0,r1.1.1.getD 4 0,r2.1.1,()),true,()),())))))))
 (cond (!r2.1.2.2.1)
 (K (((0,0,0,0,0,eB,()),false,()),()))
 (cond (!r2.1.2.1.toList==eB.toList)
 (K (((0,0,0,0,0,eB,()),false,()),()))
 (cond (decide (r1.1.1.getD 2 0>1))
 (K (((0,0,0,0,0,eB,()),false,()),()))
 (cond (r1.1.1.getD 2 0==0)
 (K (((0,0,0,0,0,eB,()),false,()),()))
 (K (((r1.1.1.getD 0 0,r1.1.1.getD 1 0,r1.1.1.getD 2 0,r1.1.1.getD 3 0,r1.1.1.getD 4 0,r2.1.1,()),true,()),())))))))
 (none))
 (none))
 (none))
 (none))
 (none))
def tY:arP->arQ->Option Xp:=fun a b=>sb wv ww a.1 some
theorem aCl (wv ww c) {α:Type} (K:Xp->Option α):sb wv ww c K=(sb wv ww c some).bind K:=by simp only [sb,af,ab,ac,ae,ah]
theorem auJ (c):tY (c,()) ()=sb wv ww c some:=rfl
def gZ:aC:=(.cons (cP 0) .nil)
def kY:aS:=BK
def nZ:List aA:=[⟨(.tup (sL [(.agg IW),lB])),[]⟩]
abbrev Xq:Type:=Unit
abbrev Xr:Type:=BL
abbrev arR:Type:=(Yt×Bool×Unit)×Unit
abbrev I1:=Xq->Xr->Option arR
def Ft:List aA:=[⟨(.tup (.cons (.agg (.cons lU (.cons lU (.cons lU (.cons lU (.cons lU (.cons lS .nil))))))) (.cons lB .nil))),[(0,.cells (.cons lI (.cons (cW 1) (.cons (cW 2) .nil)))),(1,qf),(2,.row 117 (.cons (.int .i64) (.cons (.int .i64) (.cons .str (.cons (.slc 3 (.cons (.int .i64) .nil)) .nil)))))]⟩]
abbrev MH:Type:=(Yt×Bool×Unit)×((Int×Unit)×Yb×(List (Int×Int×ByteArray×List Int))×Unit)
def kZ (tX:aCb) (tY:aCi) {α:Type} (c:Int) (d:Yb) (e:List cy) (K:MH->Option α):Option α :=
 (tX (0,1,()) ((c,()),d,e,())).bind fun r1 =>
 cond (r1.1.1==0)
 (K (((0,0,0,0,0,eB,()),false,()),(c,()),d,e,()))
 ((tY (r1.1.2.1,()) ()).bind fun r2 =>
 K (((r2.1.1.1,r2.1.1.2.1,r2.1.1.2.2.1,r2.1.1.2.2.2.1,r2.1.1.2.2.2.2.1,r2.1.1.2.2.2.2.2.1,()),r2.1.2.1,()),(c,()),d,e,()))
def adU:Xq->Xr->Option MH:=fun a b=>kZ tX tY b.1.1 b.2.1 b.2.2.1 some
theorem abm (a:Xq) (b:Xr):cj (fun r:MH=>r.2=b) (adU a b):=by
 show cj _ (kZ tX tY b.1.1 b.2.1 b.2.2.1 some)
 unfold kZ
 repeat (first | (with_reducible refine bk fun _=>?_) | (with_reducible apply bm) | (with_reducible refine bD (fun _=>?_) (fun _=>?_)) | (with_reducible exact bn) | exact bp rfl)
def a7:Xq->Xr->Option arR:=fun a b=>(adU a b).map fun r=>(r.1,())
theorem aCm (tX tY) (c d e) {α:Type} (K:MH->Option α):kZ tX tY c d e K=(kZ tX tY c d e some).bind K:=by simp only [kZ,af,ab,ac,ae,ah]
theorem auK (c d e):a7 () ((c,()),d,e,())=(kZ tX tY c d e some).map fun r=>(r.1,()):=rfl
def wx:aC:=(sL [(cP 0),(.agg IW)])
def Ay:aS:=BK
def wy:List aA:=[⟨lB,QK⟩]
abbrev arS:Type:=(Yt×Unit)
abbrev arT:Type:=BL
abbrev Xs:Type:=Bool×QL
abbrev adV:=arS->arT->Option Xs
def sc (wu:aCf) (wq:aCd) (vH:aBE) {α:Type} (c:Int) (d:Int) (e:Int) (g:Int) (h:Int) (i:ByteArray) (j:Int) (l:Yb) (m:List cy) (K:Xs->Option α):Option α :=
 (wu ((c,d,e,g,h,i,()),()) ()).bind fun r1 =>
 (wq (0,1,r1.1,()) ((j,()),l,m,())).bind fun r2 =>
 cond (!r2.1)
 (K (false,(r2.2.1.1,()),r2.2.2.1,(),r2.2.2.2.2.1,()))
 ((vH () ((r2.2.1.1,()),r2.2.2.1,r2.2.2.2.2.1,())).bind fun r3 =>
 K (true,(r3.2.1.1,()),r3.2.2.1,(),r3.2.2.2.2.1,()))
def dc:arS->arT->Option Xs:=fun a b=>sc wu wq vH a.1.1 a.1.2.1 a.1.2.2.1 a.1.2.2.2.1 a.1.2.2.2.2.1 a.1.2.2.2.2.2.1 b.1.1 b.2.1 b.2.2.1 some
theorem aCn (wu wq vH) (c d e g h i j l m) {α:Type} (K:Xs->Option α):sc wu wq vH c d e g h i j l m K=(sc wu wq vH c d e g h i j l m some).bind K:=by simp only [sc,af,ab,ac,ae,ah]
theorem auL (c d e g h i j l m):dc ((c,d,e,g,h,i,()),()) ((j,()),l,m,())=sc wu wq vH c d e g h i j l m some:=rfl
def DF:aC:=Qc
def H9:aS:=BK
def DG:List aA:=[⟨lB,QK⟩]
abbrev arU:Type:=(Int×Unit)
abbrev arV:Type:=BL
abbrev Xt:Type:=Bool×QL
abbrev aBP:=arU->arV->Option Xt
def sd (dc:adV) {α:Type} (c:Int) (d:Int) (e:Yb) (g:List cy) (K:Xt->Option α):Option α :=
 (dc ((c,0,0,0,0,eB,()),()) ((d,()),e,g,())).bind fun r1 =>
 K (r1.1,(r1.2.1.1,()),r1.2.2.1,(),r1.2.2.2.2.1,())
def tR:arU->arV->Option Xt:=fun a b=>sd dc a.1 b.1.1 b.2.1 b.2.2.1 some
theorem aCo (dc) (c d e g) {α:Type} (K:Xt->Option α):sd dc c d e g K=(sd dc c d e g some).bind K:=by simp only [sd,af,ab,ac,ae,ah]
theorem auM (c d e g):tR (c,()) ((d,()),e,g,())=sd dc c d e g some:=rfl
def DH:aC:=(sL [(cP 0),lU,lS,lU])
def Ia:aS:=BK
def DI:List aA:=[⟨lB,QK⟩]
abbrev arW:Type:=adv
abbrev arX:Type:=BL
abbrev Xu:Type:=Bool×QL
abbrev aBM:=arW->arX->Option Xu
def sf (a7:I1) (dc:adV) {α:Type} (c:Int) (d:ByteArray) (e:Int) (g:Int) (h:Yb) (i:List cy) (K:Xu->Option α):Option α :=
 (a7 () ((g,()),h,i,())).bind fun r1 =>
 cond (!r1.1.2.1)
 (K (false,(g,()),h,(),i,()))
 (cond (r1.1.1.2.2.1 != 0)
 (K (false,(g,()),h,(),i,()))
 ((dc ((r1.1.1.1,r1.1.1.2.1,1,c,e,d,()),()) ((g,()),h,i,())).bind fun r2 =>
 K (r2.1,(r2.2.1.1,()),r2.2.2.1,(),r2.2.2.2.2.1,())))
def vW:arW->arX->Option Xu:=fun a b=>sf a7 dc a.1 a.2.1 a.2.2.1 b.1.1 b.2.1 b.2.2.1 some
theorem aCp (a7 dc) (c d e g h i) {α:Type} (K:Xu->Option α):sf a7 dc c d e g h i K=(sf a7 dc c d e g h i some).bind K:=by simp only [sf,af,ab,ac,ae,ah]
theorem auN (c d e g h i):vW (c,d,e,()) ((g,()),h,i,())=sf a7 dc c d e g h i some:=rfl
def DJ:aC:=(sL [(cP 0),lB])
def Ib:aS:=BK
def DK:List aA:=[⟨lB,QK⟩]
abbrev arY:Type:=(Bool×Unit)
abbrev arZ:Type:=BL
abbrev Xv:Type:=Bool×QL
abbrev aBH:=arY->arZ->Option Xv
def sg (a7:I1) (dc:adV) {α:Type} (c:Bool) (d:Int) (e:Yb) (g:List cy) (K:Xv->Option α):Option α :=
 (a7 () ((d,()),e,g,())).bind fun r1 =>
 cond (!r1.1.2.1)
 (K (false,(d,()),e,(),g,()))
 (cond (r1.1.1.2.2.1 != 1)
 (K (false,(d,()),e,(),g,()))
 (cond (!c)
 ((dc ((r1.1.1.1,r1.1.1.2.1,0,0,0,eB,()),()) ((d,()),e,g,())).bind fun r2 =>
 K (r2.1,(r2.2.1.1,()),r2.2.2.1,(),r2.2.2.2.2.1,()))
 (cond (IntKind.u64.wrap (r1.1.1.2.1+1)==0)
 (K (false,(d,()),e,(),g,()))
 ((dc ((r1.1.1.2.2.2.2.1,IntKind.u64.wrap (r1.1.1.2.1+1),0,0,0,eB,()),()) ((d,()),e,g,())).bind fun r3 =>
 K (r3.1,(r3.2.1.1,()),r3.2.2.1,(),r3.2.2.2.2.1,())))))
def vL:arY->arZ->Option Xv:=fun a b=>sg a7 dc a.1 b.1.1 b.2.1 b.2.2.1 some
theorem aCq (a7 dc) (c d e g) {α:Type} (K:Xv->Option α):sg a7 dc c d e g K=(sg a7 dc c d e g some).bind K:=by simp only [sg,af,ab,ac,ae,ah]
theorem auO (c d e g):vL (c,()) ((d,()),e,g,())=sg a7 dc c d e g some:=rfl
end
end Go.Proofs.YtljfdfghagiblaaGreat.S2