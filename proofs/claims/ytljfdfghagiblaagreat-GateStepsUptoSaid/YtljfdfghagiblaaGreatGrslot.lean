/- Plain forms of the program's functions,by program. -/
import Derived.Test.YtljfdfghagiblaaGreatGrdisk
set_option maxRecDepth 100000
set_option maxHeartbeats 0
namespace Go.Proofs.YtljfdfghagiblaaGreat.S2
open Go
noncomputable section
def Dr:aC:=(.cons lU .nil)
def H3:aS:=[]
def Ds:List aA:=[⟨lS,[]⟩]
abbrev arB:Type:=(Int×Unit)
abbrev arC:Type:=Unit
abbrev Xh:Type:=ByteArray×Unit
abbrev aB4:=arB->arC->Option Xh
def nX:aC:=(.cons lU (dz 2 (.cons (cW 1160) (.cons lI (dz 15 .nil)))))
def rQ:aS:=[(1160,.row 5 S7)]
def tT:List eh:=[⟨(.exit 0),(dz 3 (.cons (cW 1160) (dz 16 .nil))),[(1160,.row 5 S7)]⟩]
abbrev kT:Type:=Ht
abbrev kU:Type:=pZ
abbrev rR:Type:=Unit×pZ
def eZ {α:Type} (c:Int) (d:Int) (e:List Int) (kn:kT->kU->Option α) (kr:rR->Option α):Option α :=
 cond (decide (d≥0))
 (cond (decide (0<=d))
 (cond (decide (d<(↑e.length:Int)))
 (kn (IntKind.u64.wrap (c.tdiv 256),IntKind.i64.wrap (d-1),()) (e.set (0+d.toNat) (IntKind.u8.wrap (c.tmod 256)),()))
 (none))
 (none))
 (kr ((),e,()))
def fZ:kT->kU->Option rR:=fun x y=>dP (fun p=>(fun (a:kT) (b:kU)=>eZ a.1 a.2.1 b.1 (fun a' b'=>some (.inl (a',b'))) fun r=>some (.inr r)) p.1 p.2) (x,y)
theorem QW (c d e) {α:Type} (kn:kT->kU->Option α) (kr:rR->Option α):eZ c d e kn kr=(eZ c d e (fun a b=>some (.inl (a,b))) fun r=>some (.inr r)).bind (Sum.elim (fun p:kT×kU=>kn p.1 p.2) kr):=by simp only [eZ,af,ab,ac,ae,ah,Sum.elim_inl,Sum.elim_inr]
theorem QX (c d e):fZ (c,d,()) (e,())=eZ c d e fZ some:=aX (A:=kT) (B:=kU) (R:=rR) (fun a b kn kr=>eZ a.1 a.2.1 b.1 kn kr) (fun a b kn kr=>QW a.1 a.2.1 b.1 kn kr) (c,d,()) (e,())
def rS (fZ:kT->kU->Option rR) {α:Type} (c:Int) (K:Xh->Option α):Option α :=
 (fZ (c,7,()) (List.replicate 8 0,())).bind fun r1 =>
 K (Go.strOfNums r1.2.1,())
def tU:arB->arC->Option Xh:=fun a b=>rS fZ a.1 some
theorem aB5 (fZ:kT->kU->Option rR) (c) {α:Type} (K:Xh->Option α):rS fZ c K=(rS fZ c some).bind K:=by simp only [rS,af,ab,ac,ae,ah]
theorem auC (c):tU (c,()) ()=rS fZ c some:=rfl
def Dt:aC:=(sL [lU,lS,lI])
def H4:aS:=[]
def Du:List aA:=[⟨(.tup (sL [lS,lB])),[]⟩]
abbrev arD:Type:=adv
abbrev arE:Type:=Unit
abbrev Xi:Type:=Mf×Unit
abbrev aB6:=arD->arE->Option Xi
def rT (tU:aB4) (bU:VM) {α:Type} (c:Int) (d:ByteArray) (e:Int) (K:Xi->Option α):Option α :=
 cond (decide (e<32))
 (K ((eB,false,()),()))
 (cond (decide (e>512))
 (K ((eB,false,()),()))
 (cond (c==0)
 (K ((eB,false,()),()))
 (cond (decide ((↑d.size:Int)>IntKind.i64.wrap (e-18)))
 (K ((eB,false,()),()))
 ((tU (c,()) ()).bind fun r1 =>
 cond (decide (r1.1.size+(Go.strOfNums ([]++[IntKind.u8.wrap (IntKind.i64.wrap ((↑d.size:Int).tdiv 256))]++[IntKind.u8.wrap ((↑d.size:Int).tmod 256)])).size<=9223372036854775807))
 (cond (decide ((r1.1++Go.strOfNums ([]++[IntKind.u8.wrap (IntKind.i64.wrap ((↑d.size:Int).tdiv 256))]++[IntKind.u8.wrap ((↑d.size:Int).tmod 256)])).size+d.size<=9223372036854775807))
 ((bU (IntKind.i64.wrap (IntKind.i64.wrap (e-18)-(↑d.size:Int)),()) ()).bind fun r2 =>
 cond (decide ((r1.1++Go.strOfNums ([]++[IntKind.u8.wrap (IntKind.i64.wrap ((↑d.size:Int).tdiv 256))]++[IntKind.u8.wrap ((↑d.size:Int).tmod 256)])++d).size+r2.1.size<=9223372036854775807))
 ((tU (c,()) ()).bind fun r3 =>
 cond (decide ((r1.1++Go.strOfNums ([]++[IntKind.u8.wrap (IntKind.i64.wrap ((↑d.size:Int).tdiv 256))]++[IntKind.u8.wrap ((↑d.size:Int).tmod 256)])++d++r2.1).size+r3.1.size<=9223372036854775807))
 (K ((r1.1++Go.strOfNums ([]++[IntKind.u8.wrap (IntKind.i64.wrap ((↑d.size:Int).tdiv 256))]++[IntKind.u8.wrap ((↑d.size:Int).tmod 256)])++d++r2.1++r3.1,true,()),()))
 (none))
 (none))
 (none))
 (none)))))
def wo:arD->arE->Option Xi:=fun a b=>rT tU bU a.1 a.2.1 a.2.2.1 some
theorem aB7 (tU bU) (c d e) {α:Type} (K:Xi->Option α):rT tU bU c d e K=(rT tU bU c d e some).bind K:=by simp only [rT,af,ab,ac,ae,ah]
theorem auD (c d e):wo (c,d,e,()) ()=rT tU bU c d e some:=rfl
def Dv:aC:=(.cons lS .nil)
def H5:aS:=[]
def Dw:List aA:=[⟨(.tup (sL [lU,lS,lB])),[]⟩]
abbrev arF:Type:=ux
abbrev arG:Type:=Unit
abbrev Xj:Type:=P5×Unit
abbrev aB8:=arF->arG->Option Xj
def nY:aC:=(.cons lS (dz 4 (.cons lU (.cons lI (dz 54 .nil)))))
def rV:aS:=[]
def tV:List eh:=[⟨(.exit 0),(.cons lS (dz 4 (.cons lU (dz 55 .nil)))),[]⟩]
abbrev kV:Type:=(ByteArray×Int×Int×Unit)
abbrev kW:Type:=Unit
abbrev rW:Type:=Hu×Unit
def e7 {α:Type} (c:ByteArray) (d:Int) (e:Int) (kn:kV->kW->Option α) (kr:rW->Option α):Option α :=
 cond (decide (e<8))
 (cond (decide (0<=e))
 (cond (decide (e<(↑c.size:Int)))
 (kn (c,IntKind.u64.wrap (IntKind.u64.wrap (256*d)+IntKind.u64.wrap (dM c e)),IntKind.i64.wrap (e+1),()) ())
 (none))
 (none))
 (kr ((c,d,()),()))
def gM:kV->kW->Option rW:=fun x y=>dP (fun p=>(fun (a:kV) (b:kW)=>e7 a.1 a.2.1 a.2.2.1 (fun a' b'=>some (.inl (a',b'))) fun r=>some (.inr r)) p.1 p.2) (x,y)
theorem QY (c d e) {α:Type} (kn:kV->kW->Option α) (kr:rW->Option α):e7 c d e kn kr=(e7 c d e (fun a b=>some (.inl (a,b))) fun r=>some (.inr r)).bind (Sum.elim (fun p:kV×kW=>kn p.1 p.2) kr):=by simp only [e7,af,ab,ac,ae,ah,Sum.elim_inl,Sum.elim_inr]
theorem QZ (c d e):gM (c,d,e,()) ()=e7 c d e gM some:=aX (A:=kV) (B:=kW) (R:=rW) (fun a b kn kr=>e7 a.1 a.2.1 a.2.2.1 kn kr) (fun a b kn kr=>QY a.1 a.2.1 a.2.2.1 kn kr) (c,d,e,()) ()
def rX (bU:VM) (gM:kV->kW->Option rW) {α:Type} (c:ByteArray) (K:Xj->Option α):Option α :=
 cond (decide ((↑c.size:Int)<32))
 (K ((0,eB,false,()),()))
 (cond (decide ((↑c.size:Int)>512))
 (K ((0,eB,false,()),()))
 (cond (decide (8<=(↑c.size:Int)))
 (cond (decide (0<=IntKind.i64.wrap ((↑c.size:Int)-8)))
 (cond (decide (IntKind.i64.wrap ((↑c.size:Int)-8)<=(↑c.size:Int)))
 (cond (!(c.extract 0 8).toList==(c.extract (IntKind.i64.wrap ((↑c.size:Int)-8)).toNat c.size).toList)
 (K ((0,eB,false,()),()))
 (cond (decide (8<=(↑c.size:Int)))
 ((bU (8,()) ()).bind fun r1 =>
 cond ((c.extract 0 8).toList==r1.1.toList)
 (K ((0,eB,false,()),()))
 ((gM (c,0,0,()) ()).bind fun r2 =>
 cond (decide (8<(↑r2.1.1.size:Int)))
 (cond (decide (9<(↑r2.1.1.size:Int)))
 (cond (decide (IntKind.i64.wrap (IntKind.i64.wrap (256*IntKind.i64.wrap (dM r2.1.1 8))+IntKind.i64.wrap (dM r2.1.1 9))>IntKind.i64.wrap ((↑r2.1.1.size:Int)-18)))
 (K ((0,eB,false,()),()))
 (cond (decide (10<=IntKind.i64.wrap (10+IntKind.i64.wrap (IntKind.i64.wrap (256*IntKind.i64.wrap (dM r2.1.1 8))+IntKind.i64.wrap (dM r2.1.1 9)))))
 (cond (decide (IntKind.i64.wrap (10+IntKind.i64.wrap (IntKind.i64.wrap (256*IntKind.i64.wrap (dM r2.1.1 8))+IntKind.i64.wrap (dM r2.1.1 9)))<=(↑r2.1.1.size:Int)))
 (K ((r2.1.2.1,r2.1.1.extract 10 (IntKind.i64.wrap (10+IntKind.i64.wrap (IntKind.i64.wrap (256*IntKind.i64.wrap (dM r2.1.1 8))+IntKind.i64.wrap (dM r2.1.1 9)))).toNat,true,()),()))
 (none))
 (none)))
 (none))
 (none)))
 (none)))
 (none))
 (none))
 (none)))
def tW:arF->arG->Option Xj:=fun a b=>rX bU gM a.1 some
theorem aB9 (bU) (gM:kV->kW->Option rW) (c) {α:Type} (K:Xj->Option α):rX bU gM c K=(rX bU gM c some).bind K:=by simp only [rX,af,ab,ac,ae,ah]
theorem auE (c):tW (c,()) ()=rX bU gM c some:=rfl
def yY:aC:=(sL [lS,lS])
def Dx:aS:=[]
def yZ:List aA:=[⟨(.tup (sL [lI,lU,lS])),[]⟩]
abbrev arH:Type:=(ByteArray×ByteArray×Unit)
abbrev arI:Type:=Unit
abbrev Xk:Type:=adS×Unit
abbrev arJ:=arH->arI->Option Xk
def rY (tW:aB8) {α:Type} (c:ByteArray) (d:ByteArray) (K:Xk->Option α):Option α :=
 (tW (c,()) ()).bind fun r1 =>
 (tW (d,()) ()).bind fun r2 =>
 cond (r1.1.2.2.1)
 (cond (!r2.1.2.2.1)
 (K ((1,r1.1.1,r1.1.2.1,()),()))
 (cond (decide (r1.1.1≥r2.1.1))
 (K ((1,r1.1.1,r1.1.2.1,()),()))
 (cond (r2.1.2.2.1)
 (K ((2,r2.1.1,r2.1.2.1,()),()))
 (K ((0,0,eB,()),())))))
 (cond (r2.1.2.2.1)
 (K ((2,r2.1.1,r2.1.2.1,()),()))
 (K ((0,0,eB,()),())))
def gN:arH->arI->Option Xk:=fun a b=>rY tW a.1 a.2.1 some
theorem aCa (tW) (c d) {α:Type} (K:Xk->Option α):rY tW c d K=(rY tW c d some).bind K:=by simp only [rY,af,ab,ac,ae,ah]
theorem auF (c d):gN (c,d,()) ()=rY tW c d some:=rfl
def za:aC:=(sL [(cP 0),lI,lI])
def Dy:aS:=BK
def Q0:List aA:=[⟨(.tup (sL [lU,lS])),[]⟩]
abbrev Xl:Type:=Ht
abbrev Xm:Type:=BL
abbrev arK:Type:=(Int×ByteArray×Unit)×Unit
abbrev aCb:=Xl->Xm->Option arK
def Fs:List aA:=[⟨(.tup (.cons lU (.cons lS .nil))),[(0,.cells (.cons lI (.cons (cW 1) (.cons (cW 2) .nil)))),(1,qf),(2,.row 117 (.cons (.int .i64) (.cons (.int .i64) (.cons .str (.cons (.slc 3 (.cons (.int .i64) .nil)) .nil)))))]⟩]
abbrev MG:Type:=(Int×ByteArray×Unit)×((Int×Unit)×Yb×(List (Int×Int×ByteArray×List Int))×Unit)
def kX (fT:aqX) (gN:arJ) {α:Type} (c:Int) (d:Int) (e:Int) (g:Yb) (h:List cy) (K:MG->Option α):Option α :=
 (fT (c,()) ((e,()),g,h,())).bind fun r1 =>
 (fT (d,()) ((e,()),g,h,())).bind fun r2 =>
 (gN (r1.1.1,r2.1.1,()) ()).bind fun r3 =>
 K ((r3.1.2.1,r3.1.2.2.1,()),(e,()),g,h,())
def adT:Xl->Xm->Option MG:=fun a b=>kX fT gN a.1 a.2.1 b.1.1 b.2.1 b.2.2.1 some
theorem abl (a:Xl) (b:Xm):cj (fun r:MG=>r.2=b) (adT a b):=by
 show cj _ (kX fT gN a.1 a.2.1 b.1.1 b.2.1 b.2.2.1 some)
 unfold kX
 repeat (first | (with_reducible refine bk fun _=>?_) | (with_reducible apply bm) | (with_reducible refine bD (fun _=>?_) (fun _=>?_)) | (with_reducible exact bn) | exact bp rfl)
def tX:Xl->Xm->Option arK:=fun a b=>(adT a b).map fun r=>(r.1,())
theorem aCc (fT gN) (c d e g h) {α:Type} (K:MG->Option α):kX fT gN c d e g h K=(kX fT gN c d e g h some).bind K:=by simp only [kX,af,ab,ac,ae,ah]
theorem auG (c d e g h):tX (c,d,()) ((e,()),g,h,())=(kX fT gN c d e g h some).map fun r=>(r.1,()):=rfl
def Dz:aC:=(sL [(cP 0),lI,lI,lS])
def H6:aS:=BK
def DA:List aA:=[⟨lB,QK⟩]
abbrev arL:Type:=adS
abbrev arM:Type:=BL
abbrev Xn:Type:=Bool×QL
abbrev aCd:=arL->arM->Option Xn
def rZ (fT:aqX) (gN:arJ) (wo:aB6) (tL:aBB) {α:Type} (c:Int) (d:Int) (e:ByteArray) (g:Int) (h:Yb) (i:List cy) (K:Xn->Option α):Option α :=
 (fT (c,()) ((g,()),h,i,())).bind fun r1 =>
 (fT (d,()) ((g,()),h,i,())).bind fun r2 =>
 cond (!r1.1.2.1)
 (K (false,(g,()),h,(),i,()))
 (cond (!r2.1.2.1)
 (K (false,(g,()),h,(),i,()))
 (cond (c==d)
 (K (false,(g,()),h,(),i,()))
 ((gN (r1.1.1,r2.1.1,()) ()).bind fun r3 =>
 (wo (IntKind.u64.wrap (r3.1.2.1+1),e,g,()) ()).bind fun r4 =>
 cond (!r4.1.2.1)
 (K (false,(g,()),h,(),i,()))
 (cond (r3.1.1==1)
 ((tL (d,r4.1.1,()) ((g,()),h,i,())).bind fun r5 =>
 K (r5.1,(r5.2.1.1,()),r5.2.2.1,(),r5.2.2.2.2.1,()))
 ((tL (c,r4.1.1,()) ((g,()),h,i,())).bind fun r6 =>
 K (r6.1,(r6.2.1.1,()),r6.2.2.1,(),r6.2.2.2.2.1,()))))))
def wq:arL->arM->Option Xn:=fun a b=>rZ fT gN wo tL a.1 a.2.1 a.2.2.1 b.1.1 b.2.1 b.2.2.1 some
theorem aCe (fT gN wo tL) (c d e g h i) {α:Type} (K:Xn->Option α):rZ fT gN wo tL c d e g h i K=(rZ fT gN wo tL c d e g h i some).bind K:=by simp only [rZ,af,ab,ac,ae,ah]
theorem auH (c d e g h i):wq (c,d,e,()) ((g,()),h,i,())=rZ fT gN wo tL c d e g h i some:=rfl
end
end Go.Proofs.YtljfdfghagiblaaGreat.S2