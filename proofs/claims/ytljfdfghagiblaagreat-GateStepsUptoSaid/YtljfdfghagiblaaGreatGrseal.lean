/- Plain forms of the program's functions,by program. -/
import Derived.Test.YtljfdfghagiblaaGreatGr03
import Derived.Test.YtljfdfghagiblaaGreatGrwire
set_option maxRecDepth 100000
set_option maxHeartbeats 0
namespace Go.Proofs.YtljfdfghagiblaaGreat.S2
open Go
noncomputable section
def Df:aC:=(.cons (cP 0) .nil)
def HX:aS:=BZ
def Dg:List aA:=[⟨lU,KH⟩]
abbrev arj:Type:=Unit
abbrev ark:Type:=jw
abbrev W8:Type:=Int×Hv
abbrev aBS:=arj->ark->Option W8
def wc (iU:aqC) {α:Type} (c:Int) (d:List Int) (e:List bO) (g:List Int) (K:W8->Option α):Option α :=
 (iU ((0,0,0,eB,eB,0,()),()) ((c,()),d,e,g,())).bind fun r1 =>
 K (r1.1,(r1.2.1.1,()),r1.2.2.1,(),r1.2.2.2.2.1,r1.2.2.2.2.2.1,())
def yc:arj->ark->Option W8:=fun a b=>wc iU b.1.1 b.2.1 b.2.2.1 b.2.2.2.1 some
theorem aBT (iU) (c d e g) {α:Type} (K:W8->Option α):wc iU c d e g K=(wc iU c d e g some).bind K:=by simp only [wc,af,ab,ac,ae,ah]
def ji:aC:=Qc
def nf:aS:=BZ
def jj:List aA:=[⟨(.tup .nil),auw⟩]
abbrev arl:Type:=(Int×Unit)
abbrev arm:Type:=jw
abbrev W9:Type:=Unit×auy
abbrev VJ:=arl->arm->Option W9
def wd (gT:aqx) {α:Type} (c:Int) (d:Int) (e:List Int) (g:List bO) (h:List Int) (K:W9->Option α):Option α :=
 (gT (c,()) ((d,()),e,g,h,())).bind fun r1 =>
 cond (!r1.1)
 (cond (decide ((h.length+1)*8<=140737488355328))
 (K ((),(d,()),e,g,(),h++([]++[c]),()))
 (none))
 (K ((),(d,()),e,g,(),h,()))
def bI:arl->arm->Option W9:=fun a b=>wd gT a.1 b.1.1 b.2.1 b.2.2.1 b.2.2.2.1 some
theorem aBU (gT) (c d e g h) {α:Type} (K:W9->Option α):wd gT c d e g h K=(wd gT c d e g h some).bind K:=by simp only [wd,af,ab,ac,ae,ah]
def Dh:aC:=(sL [(cP 0),lU,lU,lS,lS])
def HY:aS:=BZ
def Di:List aA:=[⟨lU,KH⟩]
abbrev arn:Type:=(Int×Int×ByteArray×ByteArray×Unit)
abbrev aro:Type:=jw
abbrev Xa:Type:=Int×Hv
abbrev aBV:=arn->aro->Option Xa
def we (iV:aqF) {α:Type} (c:Int) (d:Int) (e:ByteArray) (g:ByteArray) (h:Int) (i:List Int) (j:List bO) (l:List Int) (K:Xa->Option α):Option α :=
 (iV ((3,c,d,e,g,0,()),()) ((h,()),i,j,l,())).bind fun r1 =>
 K (r1.1,(r1.2.1.1,()),r1.2.2.1,(),r1.2.2.2.2.1,r1.2.2.2.2.2.1,())
def yd:arn->aro->Option Xa:=fun a b=>we iV a.1 a.2.1 a.2.2.1 a.2.2.2.1 b.1.1 b.2.1 b.2.2.1 b.2.2.2.1 some
theorem aBW (iV) (c d e g h i j l) {α:Type} (K:Xa->Option α):we iV c d e g h i j l K=(we iV c d e g h i j l some).bind K:=by simp only [we,af,ab,ac,ae,ah]
def Dj:aC:=(sL [(cP 0),lU,lU,lS,lU])
def HZ:aS:=BZ
def Dk:List aA:=[⟨(.tup (sL [lS,lB])),auw⟩]
abbrev arp:Type:=(Int×Int×ByteArray×Int×Unit)
abbrev arq:Type:=jw
abbrev Xb:Type:=Mf×auy
abbrev aBX:=arp->arq->Option Xb
def nW:aC:=(.cons (cP 0) (.cons lU (.cons lU (.cons lS (.cons lU (dz 7 (.cons lI (dz 49 .nil))))))))
def rK:aS:=BZ
def tS:List eh:=[⟨.ret,(.cons (cP 0) (dz 3 (.cons lU (dz 5 (.cons lS (.cons lB (dz 50 .nil))))))),BZ⟩,⟨(.exit 0),(.cons (cP 0) (dz 3 (.cons lU (dz 57 .nil)))),BZ⟩]
abbrev kQ:Type:=(Int×Int×ByteArray×Int×Int×Unit)
abbrev kR:Type:=jw
abbrev rM:Type:=(P5×jw)⊕((Int×Unit)×jw)
def eY {α:Type} (c:Int) (d:Int) (e:ByteArray) (g:Int) (h:Int) (i:Int) (j:List Int) (l:List bO) (m:List Int) (kn:kQ->kR->Option α) (kr:rM->Option α):Option α :=
 cond (decide (h<(↑l.length:Int)))
 (cond (decide (0<=h))
 (cond (decide (h<(↑l.length:Int)))
 (cond ((l.getD (0+h.toNat) (0,0,0,eB,eB,0)).1==3)
 (cond ((l.getD (0+h.toNat) (0,0,0,eB,eB,0)).2.1==c)
 (cond ((l.getD (0+h.toNat) (0,0,0,eB,eB,0)).2.2.1==d)
 (cond ((l.getD (0+h.toNat) (0,0,0,eB,eB,0)).2.2.2.1.toList==e.toList)
 (cond ((l.getD (0+h.toNat) (0,0,0,eB,eB,0)).2.2.2.2.2==g)
 (kr (.inl ((g,(l.getD (0+h.toNat) (0,0,0,eB,eB,0)).2.2.2.2.1,true,()),(i,()),j,l,m,())))
 (kn (c,d,e,g,IntKind.i64.wrap (h+1),()) ((i,()),j,l,m,())))
 (kn (c,d,e,g,IntKind.i64.wrap (h+1),()) ((i,()),j,l,m,())))
 (kn (c,d,e,g,IntKind.i64.wrap (h+1),()) ((i,()),j,l,m,())))
 (kn (c,d,e,g,IntKind.i64.wrap (h+1),()) ((i,()),j,l,m,())))
 (kn (c,d,e,g,IntKind.i64.wrap (h+1),()) ((i,()),j,l,m,())))
 (none))
 (none))
 (kr (.inr ((g,()),(i,()),j,l,m,())))
def iC:kQ->kR->Option rM:=fun x y=>dP (fun p=>(fun (a:kQ) (b:kR)=>eY a.1 a.2.1 a.2.2.1 a.2.2.2.1 a.2.2.2.2.1 b.1.1 b.2.1 b.2.2.1 b.2.2.2.1 (fun a' b'=>some (.inl (a',b'))) fun r=>some (.inr r)) p.1 p.2) (x,y)
theorem QU (c d e g h i j l m) {α:Type} (kn:kQ->kR->Option α) (kr:rM->Option α):eY c d e g h i j l m kn kr=(eY c d e g h i j l m (fun a b=>some (.inl (a,b))) fun r=>some (.inr r)).bind (Sum.elim (fun p:kQ×kR=>kn p.1 p.2) kr):=by simp only [eY,af,ab,ac,ae,ah,Sum.elim_inl,Sum.elim_inr]
theorem QV (c d e g h i j l m):iC (c,d,e,g,h,()) ((i,()),j,l,m,())=eY c d e g h i j l m iC some:=aX (A:=kQ) (B:=kR) (R:=rM) (fun a b kn kr=>eY a.1 a.2.1 a.2.2.1 a.2.2.2.1 a.2.2.2.2.1 b.1.1 b.2.1 b.2.2.1 b.2.2.2.1 kn kr) (fun a b kn kr=>QU a.1 a.2.1 a.2.2.1 a.2.2.2.1 a.2.2.2.2.1 b.1.1 b.2.1 b.2.2.1 b.2.2.2.1 kn kr) (c,d,e,g,h,()) ((i,()),j,l,m,())
def wg (bI:VJ) (iC:kQ->kR->Option rM) {α:Type} (c:Int) (d:Int) (e:ByteArray) (g:Int) (h:Int) (i:List Int) (j:List bO) (l:List Int) (K:Xb->Option α):Option α :=
 (iC (c,d,e,g,0,()) ((h,()),i,j,l,())).bind fun r1 =>
 Sum.elim (fun u2 =>
 K ((u2.1.2.1,u2.1.2.2.1,()),(u2.2.1.1,()),u2.2.2.1,u2.2.2.2.1,(),u2.2.2.2.2.1,()))
 (fun u2 =>
 (bI (u2.1.1,()) ((u2.2.1.1,()),u2.2.2.1,u2.2.2.2.1,u2.2.2.2.2.1,())).bind fun r3 =>
 K ((eB,false,()),(r3.2.1.1,()),r3.2.2.1,r3.2.2.2.1,(),r3.2.2.2.2.2.1,())) (r1)
def ye:arp->arq->Option Xb:=fun a b=>wg bI iC a.1 a.2.1 a.2.2.1 a.2.2.2.1 b.1.1 b.2.1 b.2.2.1 b.2.2.2.1 some
theorem aBY (bI) (iC:kQ->kR->Option rM) (c d e g h i j l) {α:Type} (K:Xb->Option α):wg bI iC c d e g h i j l K=(wg bI iC c d e g h i j l some).bind K:=by simp only [wg,af,ab,ac,ae,ah]
def wh:aC:=I2
def Aw:aS:=[]
def wi:List aA:=[⟨lS,[]⟩]
abbrev arr:Type:=I3
abbrev ars:Type:=Unit
abbrev Xc:Type:=ByteArray×Unit
abbrev adQ:=arr->ars->Option Xc
def rN (bj:QB) {α:Type} (c:Int) (d:Int) (e:Int) (g:Int) (K:Xc->Option α):Option α :=
 (bj (c,()) ()).bind fun r1 =>
 (bj (d,()) ()).bind fun r2 =>
 cond (decide (r1.1.size+r2.1.size<=9223372036854775807))
 ((bj (e,()) ()).bind fun r3 =>
 cond (decide ((r1.1++r2.1).size+r3.1.size<=9223372036854775807))
 ((bj (g,()) ()).bind fun r4 =>
 cond (decide ((r1.1++r2.1++r3.1).size+r4.1.size<=9223372036854775807))
 (K (r1.1++r2.1++r3.1++r4.1,()))
 (none))
 (none))
 (none)
def dU:arr->ars->Option Xc:=fun a b=>rN bj a.1 a.2.1 a.2.2.1 a.2.2.2.1 some
theorem aBZ (bj) (c d e g) {α:Type} (K:Xc->Option α):rN bj c d e g K=(rN bj c d e g some).bind K:=by simp only [rN,af,ab,ac,ae,ah]
theorem auz (c d e g):dU (c,d,e,g,()) ()=rN bj c d e g some:=rfl
def Dl:aC:=(.cons (.agg I2) .nil)
def H0:aS:=[]
def Dm:List aA:=[⟨lS,[]⟩]
abbrev art:Type:=(I3×Unit)
abbrev aru:Type:=Unit
abbrev Xd:Type:=ByteArray×Unit
abbrev aBO:=art->aru->Option Xd
def rO (dU:adQ) {α:Type} (c:Int) (d:Int) (e:Int) (g:Int) (K:Xd->Option α):Option α :=
 (dU (c,d,e,g,()) ()).bind fun r1 =>
 K (r1.1,())
def yb:art->aru->Option Xd:=fun a b=>rO dU a.1.1 a.1.2.1 a.1.2.2.1 a.1.2.2.2.1 some
theorem aB0 (dU) (c d e g) {α:Type} (K:Xd->Option α):rO dU c d e g K=(rO dU c d e g some).bind K:=by simp only [rO,af,ab,ac,ae,ah]
theorem auA (c d e g):yb ((c,d,e,g,()),()) ()=rO dU c d e g some:=rfl
def wj:aC:=(.cons lS .nil)
def Ax:aS:=[]
def wk:List aA:=[⟨(.tup (sL [(.agg I2),lB])),[]⟩]
abbrev arv:Type:=ux
abbrev arw:Type:=Unit
abbrev Xe:Type:=(I3×Bool×Unit)×Unit
abbrev arb:=arv->arw->Option Xe
def rP (cv:adR) {α:Type} (c:ByteArray) (K:Xe->Option α):Option α :=
 (cv (c,()) ()).bind fun r1 =>
 (cv (r1.1.2.1,()) ()).bind fun r2 =>
 (cv (r2.1.2.1,()) ()).bind fun r3 =>
 (cv (r3.1.2.1,()) ()).bind fun r4 =>
 cond (!r1.1.2.2.1)
 (K (((0,0,0,0,()),false,()),()))
 (cond (!r2.1.2.2.1)
 (K (((0,0,0,0,()),false,()),()))
 (cond (!r3.1.2.2.1)
 (K (((0,0,0,0,()),false,()),()))
 (cond (!r4.1.2.2.1)
 (K (((0,0,0,0,()),false,()),()))
 (cond (!r4.1.2.1.toList==eB.toList)
 (K (((0,0,0,0,()),false,()),()))
 (K (((r1.1.1,r2.1.1,r3.1.1,r4.1.1,()),true,()),()))))))
def gY:arv->arw->Option Xe:=fun a b=>rP cv a.1 some
theorem aB1 (cv c) {α:Type} (K:Xe->Option α):rP cv c K=(rP cv c some).bind K:=by simp only [rP,af,ab,ac,ae,ah]
theorem auB (c):gY (c,()) ()=rP cv c some:=rfl
def Dn:aC:=(sL [(cP 0),lU,lU,lU,lU,lU,lS])
def H1:aS:=BZ
def Do:List aA:=[⟨(.agg I2),KH⟩]
abbrev arx:Type:=Yt
abbrev ary:Type:=jw
abbrev Xf:Type:=I3×Hv
abbrev aBN:=arx->ary->Option Xf
def wm (yc:aBS) (dU:adQ) (yd:aBV) {α:Type} (c:Int) (d:Int) (e:Int) (g:Int) (h:Int) (i:ByteArray) (j:Int) (l:List Int) (m:List bO) (n:List Int) (K:Xf->Option α):Option α :=
 (yc () ((j,()),l,m,n,())).bind fun r1 =>
 (dU (d,e,g,h,()) ()).bind fun r2 =>
 (yd (c,r1.1,r2.1,i,()) ((r1.2.1.1,()),r1.2.2.1,r1.2.2.2.2.2.1,r1.2.2.2.2.1,())).bind fun r3 =>
 K ((g,h,r1.1,r3.1,()),(r3.2.1.1,()),r3.2.2.1,(),r3.2.2.2.2.1,r3.2.2.2.2.2.1,())
def ya:arx->ary->Option Xf:=fun a b=>wm yc dU yd a.1 a.2.1 a.2.2.1 a.2.2.2.1 a.2.2.2.2.1 a.2.2.2.2.2.1 b.1.1 b.2.1 b.2.2.1 b.2.2.2.1 some
theorem aB2 (yc dU yd) (c d e g h i j l m n) {α:Type} (K:Xf->Option α):wm yc dU yd c d e g h i j l m n K=(wm yc dU yd c d e g h i j l m n some).bind K:=by simp only [wm,af,ab,ac,ae,ah]
def Dp:aC:=(sL [(cP 0),lU,lU,lU,(.agg I2)])
def H2:aS:=BZ
def Dq:List aA:=[⟨(.tup (sL [lS,lB])),auw⟩]
abbrev arz:Type:=(Int×Int×Int×I3×Unit)
abbrev arA:Type:=jw
abbrev Xg:Type:=Mf×auy
abbrev aBK:=arz->arA->Option Xg
def wn (dU:adQ) (ye:aBX) {α:Type} (c:Int) (d:Int) (e:Int) (g:Int) (h:Int) (i:Int) (j:Int) (l:Int) (m:List Int) (n:List bO) (o:List Int) (K:Xg->Option α):Option α :=
 (dU (d,e,g,h,()) ()).bind fun r1 =>
 (ye (c,i,r1.1,j,()) ((l,()),m,n,o,())).bind fun r2 =>
 K ((r2.1.1,r2.1.2.1,()),(r2.2.1.1,()),r2.2.2.1,r2.2.2.2.1,(),r2.2.2.2.2.2.1,())
def xZ:arz->arA->Option Xg:=fun a b=>wn dU ye a.1 a.2.1 a.2.2.1 a.2.2.2.1.1 a.2.2.2.1.2.1 a.2.2.2.1.2.2.1 a.2.2.2.1.2.2.2.1 b.1.1 b.2.1 b.2.2.1 b.2.2.2.1 some
theorem aB3 (dU ye) (c d e g h i j l m n o) {α:Type} (K:Xg->Option α):wn dU ye c d e g h i j l m n o K=(wn dU ye c d e g h i j l m n o some).bind K:=by simp only [wn,af,ab,ac,ae,ah]
end
end Go.Proofs.YtljfdfghagiblaaGreat.S2