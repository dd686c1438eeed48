/- Plain forms of the program's functions,by program. -/
import Derived.Test.YtljfdfghagiblaaGreatGrseal
import Derived.Test.YtljfdfghagiblaaGreatGr06
import Derived.Test.YtljfdfghagiblaaGreatGrstore
set_option maxRecDepth 100000
set_option maxHeartbeats 0
namespace Go.Proofs.YtljfdfghagiblaaGreat.S2
open Go
noncomputable section
def rH:aC:=Qc
def xv:aS:=qq8
def Dd:List aA:=[⟨lI,[]⟩]
abbrev WY:Type:=(Int×Unit)
abbrev WZ:Type:=(cr×(Int×Unit)×(Int×Unit)×List Int×(List bO)×List Int×Yb×(List cy)×Unit)
abbrev aq6:Type:=Int×Unit
abbrev adz:=WY->WZ->Option aq6
def Fp:List aA:=[⟨lI,[(0,.cells (.cons (cP 1) (.cons (cP 2) (.cons lU (.cons lU (.cons lI .nil)))))),(1,.cells (.cons (cW 3) (.cons (cW 4) (.cons (cW 5) (.cons lI .nil))))),(2,.cells (.cons lI (.cons (cW 6) (.cons (cW 7) .nil)))),(3,.row 38 (.cons (.int .u64) .nil)),(4,.row 153 (.cons (.int .i64) (.cons (.int .u64) (.cons (.int .u64) (.cons .str (.cons .str (.cons (.int .u64) .nil))))))),(5,.row 38 (.cons (.int .u64) .nil)),(6,qf),(7,.row 117 (.cons (.int .i64) (.cons (.int .i64) (.cons .str (.cons (.slc 3 (.cons (.int .i64) .nil)) .nil)))))]⟩]
abbrev Mx:Type:=Int×((Int×Int×Int×Unit)×(Int×Unit)×(Int×Unit)×List Int×(List (Int×Int×Int×ByteArray×ByteArray×Int))×List Int×Yb×(List (Int×Int×ByteArray×List Int))×Unit)
def nU (a7:I1) (br:Qy) {α:Type} (c:Int) (d:Int) (e:Int) (g:Int) (h:Int) (i:Int) (j:List Int) (l:List bO) (m:List Int) (n:Yb) (o:List cy) (K:Mx->Option α):Option α :=
 (a7 () ((i,()),n,o,())).bind fun r1 =>
 cond (!r1.1.2.1)
 (K (235,(d,e,g,()),(h,()),(i,()),j,l,m,n,o,()))
 (cond (r1.1.1.2.2.1==1)
 (K (234,(d,e,g,()),(h,()),(i,()),j,l,m,n,o,()))
 ((br (g,()) ()).bind fun r2 =>
 cond (decide (c≥IntKind.u64.wrap r2.1))
 (K (230,(d,e,g,()),(h,()),(i,()),j,l,m,n,o,()))
 (K (0,(d,e,g,()),(h,()),(i,()),j,l,m,n,o,()))))
def W0:WY->WZ->Option Mx:=fun a b=>nU a7 br a.1 b.1.1 b.1.2.1 b.1.2.2.1 b.2.1.1 b.2.2.1.1 b.2.2.2.1 b.2.2.2.2.1 b.2.2.2.2.2.1 b.2.2.2.2.2.2.1 b.2.2.2.2.2.2.2.1 some
theorem abj (a:WY) (b:WZ):cj (fun r:Mx=>r.2=b) (W0 a b):=by
 show cj _ (nU a7 br a.1 b.1.1 b.1.2.1 b.1.2.2.1 b.2.1.1 b.2.2.1.1 b.2.2.2.1 b.2.2.2.2.1 b.2.2.2.2.2.1 b.2.2.2.2.2.2.1 b.2.2.2.2.2.2.2.1 some)
 unfold nU
 repeat (first | (with_reducible refine bk fun _=>?_) | (with_reducible apply bm) | (with_reducible refine bD (fun _=>?_) (fun _=>?_)) | (with_reducible exact bn) | exact bp rfl)
def el:WY->WZ->Option aq6:=fun a b=>(W0 a b).map fun r=>(r.1,())
theorem aBG (a7 br) (c d e g h i j l m n o) {α:Type} (K:Mx->Option α):nU a7 br c d e g h i j l m n o K=(nU a7 br c d e g h i j l m n o some).bind K:=by simp only [nU,af,ab,ac,ae,ah]
def po:aC:=(.cons (cP 0) .nil)
def vI:aS:=qq8
def Fq:List aA:=[⟨lI,[]⟩]
abbrev My:Type:=Unit
abbrev Mz:Type:=(cr×(Int×Unit)×(Int×Unit)×List Int×(List bO)×List Int×Yb×(List cy)×Unit)
abbrev adA:Type:=Int×Unit
abbrev adB:=My->Mz->Option adA
def B0:List aA:=[⟨lI,[(0,.cells (.cons (cP 1) (.cons (cP 2) (.cons lU (.cons lU (.cons lI .nil)))))),(1,.cells (.cons (cW 3) (.cons (cW 4) (.cons (cW 5) (.cons lI .nil))))),(2,.cells (.cons lI (.cons (cW 6) (.cons (cW 7) .nil)))),(3,.row 38 (.cons (.int .u64) .nil)),(4,.row 153 (.cons (.int .i64) (.cons (.int .u64) (.cons (.int .u64) (.cons .str (.cons .str (.cons (.int .u64) .nil))))))),(5,.row 38 (.cons (.int .u64) .nil)),(6,qf),(7,.row 117 (.cons (.int .i64) (.cons (.int .i64) (.cons .str (.cons (.slc 3 (.cons (.int .i64) .nil)) .nil)))))]⟩]
abbrev HW:Type:=Int×((Int×Int×Int×Unit)×(Int×Unit)×(Int×Unit)×List Int×(List (Int×Int×Int×ByteArray×ByteArray×Int))×List Int×Yb×(List (Int×Int×ByteArray×List Int))×Unit)
def jN (a7:I1) {α:Type} (c:Int) (d:Int) (e:Int) (g:Int) (h:Int) (i:List Int) (j:List bO) (l:List Int) (m:Yb) (n:List cy) (K:HW->Option α):Option α :=
 (a7 () ((h,()),m,n,())).bind fun r1 =>
 cond (!r1.1.2.1)
 (K (235,(c,d,e,()),(g,()),(h,()),i,j,l,m,n,()))
 (cond (r1.1.1.2.2.1 != 1)
 (K (237,(c,d,e,()),(g,()),(h,()),i,j,l,m,n,()))
 (K (0,(c,d,e,()),(g,()),(h,()),i,j,l,m,n,())))
def MA:My->Mz->Option HW:=fun a b=>jN a7 b.1.1 b.1.2.1 b.1.2.2.1 b.2.1.1 b.2.2.1.1 b.2.2.2.1 b.2.2.2.2.1 b.2.2.2.2.2.1 b.2.2.2.2.2.2.1 b.2.2.2.2.2.2.2.1 some
theorem S5 (a:My) (b:Mz):cj (fun r:HW=>r.2=b) (MA a b):=by
 show cj _ (jN a7 b.1.1 b.1.2.1 b.1.2.2.1 b.2.1.1 b.2.2.1.1 b.2.2.2.1 b.2.2.2.2.1 b.2.2.2.2.2.1 b.2.2.2.2.2.2.1 b.2.2.2.2.2.2.2.1 some)
 unfold jN
 repeat (first | (with_reducible refine bk fun _=>?_) | (with_reducible apply bm) | (with_reducible refine bD (fun _=>?_) (fun _=>?_)) | (with_reducible exact bn) | exact bp rfl)
def fr:My->Mz->Option adA:=fun a b=>(MA a b).map fun r=>(r.1,())
theorem auq (a7) (c d e g h i j l m n) {α:Type} (K:HW->Option α):jN a7 c d e g h i j l m n K=(jN a7 c d e g h i j l m n some).bind K:=by simp only [jN,af,ab,ac,ae,ah]
def vJ:aC:=(sL [(cP 0),lB])
def yU:aS:=qq8
def vK:List aA:=[⟨lI,[yy,(1,.cells (sL [(cW 3),(cW 4),(cW 5),lI])),(2,.cells (sL [lI,(cW 6),(cW 8)])),uy,(4,.row 153 KE),(5,.row 38 pn),(6,qf),(7,.gone),(8,.row 117 KF)]⟩]
abbrev adC:Type:=(Bool×Unit)
abbrev adD:Type:=(cr×(Int×Unit)×(Int×Unit)×List Int×(List bO)×List Int×Yb×(List cy)×Unit)
abbrev MB:Type:=Int×(cr×(Int×Unit)×(Int×Unit)×List Int×(List bO)×List Int×Yb×Unit×(List cy)×Unit)
abbrev adE:=adC->adD->Option MB
def pp (vL:aBH) {α:Type} (c:Bool) (d:Int) (e:Int) (g:Int) (h:Int) (i:Int) (j:List Int) (l:List bO) (m:List Int) (n:Yb) (o:List cy) (K:MB->Option α):Option α :=
 (vL (c,()) ((i,()),n,o,())).bind fun r1 =>
 cond (!r1.1)
 (K (235,(d,e,g,()),(h,()),(r1.2.1.1,()),j,l,m,r1.2.2.1,(),r1.2.2.2.2.1,()))
 (K (0,(d,e,g,()),(h,()),(r1.2.1.1,()),j,l,m,r1.2.2.1,(),r1.2.2.2.2.1,()))
def dA:adC->adD->Option MB:=fun a b=>pp vL a.1 b.1.1 b.1.2.1 b.1.2.2.1 b.2.1.1 b.2.2.1.1 b.2.2.2.1 b.2.2.2.2.1 b.2.2.2.2.2.1 b.2.2.2.2.2.2.1 b.2.2.2.2.2.2.2.1 some
theorem aur (vL) (c d e g h i j l m n o) {α:Type} (K:MB->Option α):pp vL c d e g h i j l m n o K=(pp vL c d e g h i j l m n o some).bind K:=by simp only [pp,af,ab,ac,ae,ah]
def vM:aC:=(.cons (cP 0) .nil)
def As:aS:=qq8
def vN:List aA:=[⟨lI,[yy,(1,.cells (sL [(cW 3),(cW 4),(cW 5),lI])),(2,.cells (sL [lI,(cW 6),(cW 8)])),uy,(4,.row 153 KE),(5,.row 38 pn),(6,qf),(7,.gone),(8,.row 117 KF)]⟩]
abbrev aq7:Type:=Unit
abbrev aq8:Type:=(cr×(Int×Unit)×(Int×Unit)×List Int×(List bO)×List Int×Yb×(List cy)×Unit)
abbrev W1:Type:=Int×(cr×(Int×Unit)×(Int×Unit)×List Int×(List bO)×List Int×Yb×Unit×(List cy)×Unit)
abbrev azZ:=aq7->aq8->Option W1
def vO (fr:adB) (dA:adE) {α:Type} (c:Int) (d:Int) (e:Int) (g:Int) (h:Int) (i:List Int) (j:List bO) (l:List Int) (m:Yb) (n:List cy) (K:W1->Option α):Option α :=
 (fr () ((c,d,e,()),(g,()),(h,()),i,j,l,m,n,())).bind fun r1 =>
 cond (r1.1 != 0)
 (K (r1.1,(c,d,e,()),(g,()),(h,()),i,j,l,m,(),n,()))
 ((dA (Bool.true,()) ((c,d,e,()),(g,()),(h,()),i,j,l,m,n,())).bind fun r2 =>
 K (r2.1,(r2.2.1.1,r2.2.1.2.1,r2.2.1.2.2.1,()),(r2.2.2.1.1,()),(r2.2.2.2.1.1,()),r2.2.2.2.2.1,r2.2.2.2.2.2.1,r2.2.2.2.2.2.2.1,r2.2.2.2.2.2.2.2.1,(),r2.2.2.2.2.2.2.2.2.2.1,()))
def jG:aq7->aq8->Option W1:=fun a b=>vO fr dA b.1.1 b.1.2.1 b.1.2.2.1 b.2.1.1 b.2.2.1.1 b.2.2.2.1 b.2.2.2.2.1 b.2.2.2.2.2.1 b.2.2.2.2.2.2.1 b.2.2.2.2.2.2.2.1 some
theorem aBI (fr dA) (c d e g h i j l m n) {α:Type} (K:W1->Option α):vO fr dA c d e g h i j l m n K=(vO fr dA c d e g h i j l m n some).bind K:=by simp only [vO,af,ab,ac,ae,ah]
def yV:aC:=SZ
def De:aS:=qq8
def yW:List aA:=[⟨(.tup (sL [lU,lB])),[yy,abk,adF,uy,(4,.gone),(5,.gone),(6,qf),(7,.row 117 KF),QQ,(9,.row 38 pn)]⟩]
abbrev aq9:Type:=Qe
abbrev adG:Type:=(cr×(Int×Unit)×(Int×Unit)×List Int×(List bO)×List Int×Yb×(List cy)×Unit)
abbrev W5:Type:=(Int×Bool×Unit)×(cr×(Int×Unit)×(Int×Unit)×List Int×Unit×Unit×Yb×(List cy)×(List bO)×List Int×Unit)
abbrev ara:=aq9->adG->Option W5
def nV:aC:=(.cons (cP 0) (.cons lU (dz 3 (.cons (cP 1160) (dz 2 (.cons lI (dz 71 .nil)))))))
def rI:aS:=[yy,(1,.cells (sL [(cW 3),(cW 4),(cW 700),lI])),adF,uy,(4,.row 153 KE),(5,.gone),(6,qf),(7,.row 117 KF),(700,.row 38 pn),(1160,.cells Hr)]
def tQ:List eh:=[⟨(.exit 0),(.cons (cP 0) (.cons lU (dz 3 (.cons (cP 1160) (dz 74 .nil))))),[yy,(1,.cells (sL [(cW 3),(cW 4),(cW 700),lI])),adF,uy,(4,.row 153 KE),(5,.gone),(6,qf),(7,.row 117 KF),(700,.row 38 pn),(1160,.cells Hr)]⟩]
abbrev kP:Type:=Ht
abbrev jg:Type:=(cr×(Int×Unit)×(Int×Unit)×List Int×(List bO)×Unit×Yb×(List cy)×List Int×Hs×Unit)
abbrev rJ:Type:=(Int×Unit)×(cr×(Int×Unit)×(Int×Unit)×List Int×(List bO)×Unit×Yb×(List cy)×List Int×Hs×Unit)
def eX (bI:VJ) {α:Type} (c:Int) (d:Int) (e:Int) (g:Int) (h:Int) (i:Int) (j:Int) (l:List Int) (m:List bO) (n:Yb) (o:List cy) (p:List Int) (q:ByteArray) (s:List Int) (kn:kP->jg->Option α) (kr:rJ->Option α):Option α :=
 cond (decide (d<(↑s.length:Int)))
 (cond (decide (0<=d))
 (cond (decide (d<(↑s.length:Int)))
 ((bI (s.getD d.toNat 0,()) ((i,()),l,m,p,())).bind fun r1 =>
 kn (c,IntKind.i64.wrap (d+1),()) ((e,g,h,()),(r1.2.1.1,()),(j,()),r1.2.2.1,r1.2.2.2.1,(),n,o,r1.2.2.2.2.2.1,(q,s,()),()))
 (none))
 (none))
 (kr ((c,()),(e,g,h,()),(i,()),(j,()),l,m,(),n,o,p,(q,s,()),()))
def iB:kP->jg->Option rJ:=fun x y=>dP (fun p=>(fun (a:kP) (b:jg)=>eX bI a.1 a.2.1 b.1.1 b.1.2.1 b.1.2.2.1 b.2.1.1 b.2.2.1.1 b.2.2.2.1 b.2.2.2.2.1 b.2.2.2.2.2.2.1 b.2.2.2.2.2.2.2.1 b.2.2.2.2.2.2.2.2.1 b.2.2.2.2.2.2.2.2.2.1.1 b.2.2.2.2.2.2.2.2.2.1.2.1 (fun a' b'=>some (.inl (a',b'))) fun r=>some (.inr r)) p.1 p.2) (x,y)
theorem QR (bI) (c d e g h i j l m n o q s t) {α:Type} (kn:kP->jg->Option α) (kr:rJ->Option α):eX bI c d e g h i j l m n o q s t kn kr=(eX bI c d e g h i j l m n o q s t (fun a b=>some (.inl (a,b))) fun r=>some (.inr r)).bind (Sum.elim (fun p:kP×jg=>kn p.1 p.2) kr):=by simp only [eX,af,ab,ac,ae,ah,Sum.elim_inl,Sum.elim_inr]
theorem QS (c d e g h i j l m n o p q s):iB (c,d,()) ((e,g,h,()),(i,()),(j,()),l,m,(),n,o,p,(q,s,()),())=eX bI c d e g h i j l m n o p q s iB some:=aX (A:=kP) (B:=jg) (R:=rJ) (fun a b kn kr=>eX bI a.1 a.2.1 b.1.1 b.1.2.1 b.1.2.2.1 b.2.1.1 b.2.2.1.1 b.2.2.2.1 b.2.2.2.2.1 b.2.2.2.2.2.2.1 b.2.2.2.2.2.2.2.1 b.2.2.2.2.2.2.2.2.1 b.2.2.2.2.2.2.2.2.2.1.1 b.2.2.2.2.2.2.2.2.2.1.2.1 kn kr) (fun a b kn kr=>QR bI a.1 a.2.1 b.1.1 b.1.2.1 b.1.2.2.1 b.2.1.1 b.2.2.1.1 b.2.2.2.1 b.2.2.2.2.1 b.2.2.2.2.2.2.1 b.2.2.2.2.2.2.2.1 b.2.2.2.2.2.2.2.2.1 b.2.2.2.2.2.2.2.2.2.1.1 b.2.2.2.2.2.2.2.2.2.1.2.1 kn kr) (c,d,()) ((e,g,h,()),(i,()),(j,()),l,m,(),n,o,p,(q,s,()),())
def vP (bI:VJ) (gY:arb) (br:Qy) (gr:aqV) (iB:kP->jg->Option rJ) {α:Type} (c:Int) (d:ByteArray) (e:List Int) (g:Int) (h:Int) (i:Int) (j:Int) (l:Int) (m:List Int) (n:List bO) (o:List Int) (p:Yb) (q:List cy) (K:W5->Option α):Option α :=
 (iB (c,0,()) ((g,h,i,()),(j,()),(l,()),m,n,(),p,q,o,(d,e,()),())).bind fun r1 =>
 (gY (r1.2.2.2.2.2.2.2.2.2.2.1.1,()) ()).bind fun r2 =>
 cond (r2.1.2.1)
 ((bI (r2.1.1.2.2.1,()) ((r1.2.2.1.1,()),r1.2.2.2.2.1,r1.2.2.2.2.2.1,r1.2.2.2.2.2.2.2.2.2.1,())).bind fun r3 =>
 (bI (r2.1.1.2.2.2.1,()) ((r3.2.1.1,()),r3.2.2.1,r3.2.2.2.1,r3.2.2.2.2.2.1,())).bind fun r4 =>
 cond ((↑r1.2.2.2.2.2.2.2.2.2.2.1.2.1.length:Int) != r1.2.1.2.2.1)
 (K ((0,false,()),(r1.2.1.1,r1.2.1.2.1,r1.2.1.2.2.1,()),(r4.2.1.1,()),(r1.2.2.2.1.1,()),r4.2.2.1,(),(),r1.2.2.2.2.2.2.2.1,r1.2.2.2.2.2.2.2.2.1,r4.2.2.2.1,r4.2.2.2.2.2.1,()))
 ((br (r1.2.1.2.2.1,()) ()).bind fun r5 =>
 cond (decide (r1.1.1≥IntKind.u64.wrap r5.1))
 (K ((0,false,()),(r1.2.1.1,r1.2.1.2.1,r1.2.1.2.2.1,()),(r4.2.1.1,()),(r1.2.2.2.1.1,()),r4.2.2.1,(),(),r1.2.2.2.2.2.2.2.1,r1.2.2.2.2.2.2.2.2.1,r4.2.2.2.1,r4.2.2.2.2.2.1,()))
 ((gr (r1.2.2.2.2.2.2.2.2.2.2.1.1,IntKind.i64.wrap r1.1.1,r1.2.2.2.2.2.2.2.2.2.2.1.2.1,()) ((r4.2.1.1,()),r4.2.2.1,r4.2.2.2.1,r4.2.2.2.2.2.1,())).bind fun r6 =>
 K ((r6.1.1,r6.1.2.1,()),(r1.2.1.1,r1.2.1.2.1,r1.2.1.2.2.1,()),(r6.2.1.1,()),(r1.2.2.2.1.1,()),r6.2.2.1,(),(),r1.2.2.2.2.2.2.2.1,r1.2.2.2.2.2.2.2.2.1,r6.2.2.2.2.2.1,r6.2.2.2.2.1,()))))
 (cond ((↑r1.2.2.2.2.2.2.2.2.2.2.1.2.1.length:Int) != r1.2.1.2.2.1)
 (K ((0,false,()),(r1.2.1.1,r1.2.1.2.1,r1.2.1.2.2.1,()),(r1.2.2.1.1,()),(r1.2.2.2.1.1,()),r1.2.2.2.2.1,(),(),r1.2.2.2.2.2.2.2.1,r1.2.2.2.2.2.2.2.2.1,r1.2.2.2.2.2.1,r1.2.2.2.2.2.2.2.2.2.1,()))
 ((br (r1.2.1.2.2.1,()) ()).bind fun r7 =>
 cond (decide (r1.1.1≥IntKind.u64.wrap r7.1))
 (K ((0,false,()),(r1.2.1.1,r1.2.1.2.1,r1.2.1.2.2.1,()),(r1.2.2.1.1,()),(r1.2.2.2.1.1,()),r1.2.2.2.2.1,(),(),r1.2.2.2.2.2.2.2.1,r1.2.2.2.2.2.2.2.2.1,r1.2.2.2.2.2.1,r1.2.2.2.2.2.2.2.2.2.1,()))
 ((gr (r1.2.2.2.2.2.2.2.2.2.2.1.1,IntKind.i64.wrap r1.1.1,r1.2.2.2.2.2.2.2.2.2.2.1.2.1,()) ((r1.2.2.1.1,()),r1.2.2.2.2.1,r1.2.2.2.2.2.1,r1.2.2.2.2.2.2.2.2.2.1,())).bind fun r8 =>
 K ((r8.1.1,r8.1.2.1,()),(r1.2.1.1,r1.2.1.2.1,r1.2.1.2.2.1,()),(r8.2.1.1,()),(r1.2.2.2.1.1,()),r8.2.2.1,(),(),r1.2.2.2.2.2.2.2.1,r1.2.2.2.2.2.2.2.2.1,r8.2.2.2.2.2.1,r8.2.2.2.2.1,()))))
def jh:aq9->adG->Option W5:=fun a b=>vP bI gY br gr iB a.1 a.2.1.1 a.2.1.2.1 b.1.1 b.1.2.1 b.1.2.2.1 b.2.1.1 b.2.2.1.1 b.2.2.2.1 b.2.2.2.2.1 b.2.2.2.2.2.1 b.2.2.2.2.2.2.1 b.2.2.2.2.2.2.2.1 some
theorem aBJ (bI gY br gr) (iB:kP->jg->Option rJ) (c d e g h i j l m n o p q) {α:Type} (K:W5->Option α):vP bI gY br gr iB c d e g h i j l m n o p q K=(vP bI gY br gr iB c d e g h i j l m n o p q some).bind K:=by simp only [vP,af,ab,ac,ae,ah]
def pq:aC:=SZ
def vQ:aS:=qq8
def pt:List aA:=[⟨lB,[yy,abk,adF,uy,(4,.gone),(5,.gone),(6,qf),(7,.row 117 KF),QQ,(9,.row 38 pn)]⟩]
abbrev adH:Type:=Qe
abbrev adI:Type:=(cr×(Int×Unit)×(Int×Unit)×List Int×(List bO)×List Int×Yb×(List cy)×Unit)
abbrev MC:Type:=Bool×(cr×(Int×Unit)×(Int×Unit)×List Int×Unit×Unit×Yb×(List cy)×(List bO)×List Int×Unit)
abbrev S6:=adH->adI->Option MC
def pu (a7:I1) (jh:ara) {α:Type} (c:Int) (d:ByteArray) (e:List Int) (g:Int) (h:Int) (i:Int) (j:Int) (l:Int) (m:List Int) (n:List bO) (o:List Int) (p:Yb) (q:List cy) (K:MC->Option α):Option α :=
 (a7 () ((l,()),p,q,())).bind fun r1 =>
 (jh (c,(d,e,()),()) ((g,h,i,()),(j,()),(l,()),m,n,o,p,q,())).bind fun r2 =>
 cond (r2.1.2.1)
 (K (r2.1.1==r1.1.1.1,(r2.2.1.1,r2.2.1.2.1,r2.2.1.2.2.1,()),(r2.2.2.1.1,()),(r2.2.2.2.1.1,()),r2.2.2.2.2.1,(),(),r2.2.2.2.2.2.2.2.1,r2.2.2.2.2.2.2.2.2.1,r2.2.2.2.2.2.2.2.2.2.1,r2.2.2.2.2.2.2.2.2.2.2.1,()))
 (K (false,(r2.2.1.1,r2.2.1.2.1,r2.2.1.2.2.1,()),(r2.2.2.1.1,()),(r2.2.2.2.1.1,()),r2.2.2.2.2.1,(),(),r2.2.2.2.2.2.2.2.1,r2.2.2.2.2.2.2.2.2.1,r2.2.2.2.2.2.2.2.2.2.1,r2.2.2.2.2.2.2.2.2.2.2.1,()))
def ct:adH->adI->Option MC:=fun a b=>pu a7 jh a.1 a.2.1.1 a.2.1.2.1 b.1.1 b.1.2.1 b.1.2.2.1 b.2.1.1 b.2.2.1.1 b.2.2.2.1 b.2.2.2.2.1 b.2.2.2.2.2.1 b.2.2.2.2.2.2.1 b.2.2.2.2.2.2.2.1 some
theorem aus (a7 jh) (c d e g h i j l m n o p q) {α:Type} (K:MC->Option α):pu a7 jh c d e g h i j l m n o p q K=(pu a7 jh c d e g h i j l m n o p q some).bind K:=by simp only [pu,af,ab,ac,ae,ah]
def vR:aC:=SZ
def At:aS:=qq8
def vS:List aA:=[⟨(.tup (sL [lS,lI])),[yy,abk,adF,uy,(4,.gone),(5,.gone),(6,qf),(7,.row 117 KF),QQ,(9,.row 38 pn)]⟩]
abbrev arc:Type:=Qe
abbrev ard:Type:=(cr×(Int×Unit)×(Int×Unit)×List Int×(List bO)×List Int×Yb×(List cy)×Unit)
abbrev W6:Type:=Hu×(cr×(Int×Unit)×(Int×Unit)×List Int×Unit×Unit×Yb×(List cy)×(List bO)×List Int×Unit)
abbrev azX:=arc->ard->Option W6
def vT (el:adz) (ct:S6) (gY:arb) (xZ:aBK) {α:Type} (c:Int) (d:ByteArray) (e:List Int) (g:Int) (h:Int) (i:Int) (j:Int) (l:Int) (m:List Int) (n:List bO) (o:List Int) (p:Yb) (q:List cy) (K:W6->Option α):Option α :=
 (el (c,()) ((g,h,i,()),(j,()),(l,()),m,n,o,p,q,())).bind fun r1 =>
 cond (r1.1 != 0)
 (K ((eB,r1.1,()),(g,h,i,()),(j,()),(l,()),m,(),(),p,q,n,o,()))
 ((ct (c,(d,e,()),()) ((g,h,i,()),(j,()),(l,()),m,n,o,p,q,())).bind fun r2 =>
 cond (!r2.1)
 (K ((eB,232,()),(r2.2.1.1,r2.2.1.2.1,r2.2.1.2.2.1,()),(r2.2.2.1.1,()),(r2.2.2.2.1.1,()),r2.2.2.2.2.1,(),(),r2.2.2.2.2.2.2.2.1,r2.2.2.2.2.2.2.2.2.1,r2.2.2.2.2.2.2.2.2.2.1,r2.2.2.2.2.2.2.2.2.2.2.1,()))
 (cond (d.toList==eB.toList)
 (K ((eB,0,()),(r2.2.1.1,r2.2.1.2.1,r2.2.1.2.2.1,()),(r2.2.2.1.1,()),(r2.2.2.2.1.1,()),r2.2.2.2.2.1,(),(),r2.2.2.2.2.2.2.2.1,r2.2.2.2.2.2.2.2.2.1,r2.2.2.2.2.2.2.2.2.2.1,r2.2.2.2.2.2.2.2.2.2.2.1,()))
 ((gY (d,()) ()).bind fun r3 =>
 cond (!r3.1.2.1)
 (K ((eB,233,()),(r2.2.1.1,r2.2.1.2.1,r2.2.1.2.2.1,()),(r2.2.2.1.1,()),(r2.2.2.2.1.1,()),r2.2.2.2.2.1,(),(),r2.2.2.2.2.2.2.2.1,r2.2.2.2.2.2.2.2.2.1,r2.2.2.2.2.2.2.2.2.2.1,r2.2.2.2.2.2.2.2.2.2.2.1,()))
 ((xZ (r2.2.1.1,r2.2.1.2.1,c,(r3.1.1.1,r3.1.1.2.1,r3.1.1.2.2.1,r3.1.1.2.2.2.1,()),()) ((r2.2.2.1.1,()),r2.2.2.2.2.1,r2.2.2.2.2.2.2.2.2.2.1,r2.2.2.2.2.2.2.2.2.2.2.1,())).bind fun r4 =>
 cond (!r4.1.2.1)
 (K ((eB,233,()),(r2.2.1.1,r2.2.1.2.1,r2.2.1.2.2.1,()),(r4.2.1.1,()),(r2.2.2.2.1.1,()),r4.2.2.1,(),(),r2.2.2.2.2.2.2.2.1,r2.2.2.2.2.2.2.2.2.1,r4.2.2.2.1,r4.2.2.2.2.2.1,()))
 (K ((r4.1.1,0,()),(r2.2.1.1,r2.2.1.2.1,r2.2.1.2.2.1,()),(r4.2.1.1,()),(r2.2.2.2.1.1,()),r4.2.2.1,(),(),r2.2.2.2.2.2.2.2.1,r2.2.2.2.2.2.2.2.2.1,r4.2.2.2.1,r4.2.2.2.2.2.1,()))))))
def jE:arc->ard->Option W6:=fun a b=>vT el ct gY xZ a.1 a.2.1.1 a.2.1.2.1 b.1.1 b.1.2.1 b.1.2.2.1 b.2.1.1 b.2.2.1.1 b.2.2.2.1 b.2.2.2.2.1 b.2.2.2.2.2.1 b.2.2.2.2.2.2.1 b.2.2.2.2.2.2.2.1 some
theorem aBL (el ct gY xZ) (c d e g h i j l m n o p q) {α:Type} (K:W6->Option α):vT el ct gY xZ c d e g h i j l m n o p q K=(vT el ct gY xZ c d e g h i j l m n o p q some).bind K:=by simp only [vT,af,ab,ac,ae,ah]
def vU:aC:=(sL [(cP 0),lU,(.agg Hr),lS])
def yX:aS:=qq8
def vV:List aA:=[⟨(.tup (sL [lS,lI])),[yy,(1,.cells (sL [(cW 3),(cW 8),(cW 5),lI])),(2,.cells (sL [lI,(cW 6),(cW 9)])),uy,(4,.gone),(5,.row 38 pn),(6,qf),(7,.gone),QQ,(9,.row 117 KF)]⟩]
abbrev adJ:Type:=(Int×Hs×ByteArray×Unit)
abbrev adK:Type:=(cr×(Int×Unit)×(Int×Unit)×List Int×(List bO)×List Int×Yb×(List cy)×Unit)
abbrev MD:Type:=Hu×(cr×(Int×Unit)×(Int×Unit)×List Int×Unit×List Int×Yb×Unit×(List bO)×(List cy)×Unit)
abbrev adL:=adJ->adK->Option MD
def pv (gr:aqV) (vW:aBM) {α:Type} (c:Int) (d:ByteArray) (e:List Int) (g:ByteArray) (h:Int) (i:Int) (j:Int) (l:Int) (m:Int) (n:List Int) (o:List bO) (p:List Int) (q:Yb) (s:List cy) (K:MD->Option α):Option α :=
 (gr (g,IntKind.i64.wrap c,e,()) ((l,()),n,o,p,())).bind fun r1 =>
 (vW (c,g,r1.1.1,()) ((m,()),q,s,())).bind fun r2 =>
 cond (!r2.1)
 (K ((eB,235,()),(h,i,j,()),(r1.2.1.1,()),(r2.2.1.1,()),r1.2.2.1,(),r1.2.2.2.2.1,r2.2.2.1,(),r1.2.2.2.2.2.1,r2.2.2.2.2.1,()))
 (K ((g,0,()),(h,i,j,()),(r1.2.1.1,()),(r2.2.1.1,()),r1.2.2.1,(),r1.2.2.2.2.1,r2.2.2.1,(),r1.2.2.2.2.2.1,r2.2.2.2.2.1,()))
def ft:adJ->adK->Option MD:=fun a b=>pv gr vW a.1 a.2.1.1 a.2.1.2.1 a.2.2.1 b.1.1 b.1.2.1 b.1.2.2.1 b.2.1.1 b.2.2.1.1 b.2.2.2.1 b.2.2.2.2.1 b.2.2.2.2.2.1 b.2.2.2.2.2.2.1 b.2.2.2.2.2.2.2.1 some
theorem aut (gr vW) (c d e g h i j l m n o p q s) {α:Type} (K:MD->Option α):pv gr vW c d e g h i j l m n o p q s K=(pv gr vW c d e g h i j l m n o p q s some).bind K:=by simp only [pv,af,ab,ac,ae,ah]
def pw:aC:=(sL [(cP 0),lU,lU,lS,(.agg Hr)])
def vX:aS:=qq8
def px:List aA:=[⟨(.tup (sL [lS,lI])),[yy,abk,(2,.cells (sL [lI,(cW 6),(cW 10)])),uy,(4,.gone),(5,.gone),(6,qf),(7,.gone),QQ,(9,.row 38 pn),(10,.row 117 KF)]⟩]
abbrev adM:Type:=(Int×Int×ByteArray×Hs×Unit)
abbrev adN:Type:=(cr×(Int×Unit)×(Int×Unit)×List Int×(List bO)×List Int×Yb×(List cy)×Unit)
abbrev ME:Type:=Hu×(cr×(Int×Unit)×(Int×Unit)×List Int×Unit×Unit×Yb×Unit×(List bO)×List Int×(List cy)×Unit)
abbrev atD:=adM->adN->Option ME
def py (el:adz) (ct:S6) (a7:I1) (ya:aBN) (yb:aBO) (ft:adL) {α:Type} (c:Int) (d:Int) (e:ByteArray) (g:ByteArray) (h:List Int) (i:Int) (j:Int) (l:Int) (m:Int) (n:Int) (o:List Int) (p:List bO) (q:List Int) (s:Yb) (t:List cy) (K:ME->Option α):Option α :=
 (el (c,()) ((i,j,l,()),(m,()),(n,()),o,p,q,s,t,())).bind fun r1 =>
 cond (r1.1 != 0)
 (K ((eB,r1.1,()),(i,j,l,()),(m,()),(n,()),o,(),(),s,(),p,q,t,()))
 (cond (decide ((↑e.size:Int)>4096))
 (K ((eB,231,()),(i,j,l,()),(m,()),(n,()),o,(),(),s,(),p,q,t,()))
 ((ct (c,(g,h,()),()) ((i,j,l,()),(m,()),(n,()),o,p,q,s,t,())).bind fun r2 =>
 cond (!r2.1)
 (K ((eB,232,()),(r2.2.1.1,r2.2.1.2.1,r2.2.1.2.2.1,()),(r2.2.2.1.1,()),(r2.2.2.2.1.1,()),r2.2.2.2.2.1,(),(),r2.2.2.2.2.2.2.2.1,(),r2.2.2.2.2.2.2.2.2.2.1,r2.2.2.2.2.2.2.2.2.2.2.1,r2.2.2.2.2.2.2.2.2.1,()))
 ((a7 () ((r2.2.2.2.1.1,()),r2.2.2.2.2.2.2.2.1,r2.2.2.2.2.2.2.2.2.1,())).bind fun r3 =>
 (ya (r2.2.1.1,r2.2.1.2.1,c,IntKind.u64.wrap (r3.1.1.2.1+1),d,e,()) ((r2.2.2.1.1,()),r2.2.2.2.2.1,r2.2.2.2.2.2.2.2.2.2.1,r2.2.2.2.2.2.2.2.2.2.2.1,())).bind fun r4 =>
 (yb ((r4.1.1,r4.1.2.1,r4.1.2.2.1,r4.1.2.2.2.1,()),()) ()).bind fun r5 =>
 (ft (c,(g,h,()),r5.1,()) ((r2.2.1.1,r2.2.1.2.1,r2.2.1.2.2.1,()),(r4.2.1.1,()),(r2.2.2.2.1.1,()),r4.2.2.1,r4.2.2.2.2.2.1,r4.2.2.2.2.1,r2.2.2.2.2.2.2.2.1,r2.2.2.2.2.2.2.2.2.1,())).bind fun r6 =>
 K ((r6.1.1,r6.1.2.1,()),(r6.2.1.1,r6.2.1.2.1,r6.2.1.2.2.1,()),(r6.2.2.1.1,()),(r6.2.2.2.1.1,()),r6.2.2.2.2.1,(),(),r6.2.2.2.2.2.2.2.1,(),r6.2.2.2.2.2.2.2.2.2.1,r6.2.2.2.2.2.2.1,r6.2.2.2.2.2.2.2.2.2.2.1,()))))
def fL:adM->adN->Option ME:=fun a b=>py el ct a7 ya yb ft a.1 a.2.1 a.2.2.1 a.2.2.2.1.1 a.2.2.2.1.2.1 b.1.1 b.1.2.1 b.1.2.2.1 b.2.1.1 b.2.2.1.1 b.2.2.2.1 b.2.2.2.2.1 b.2.2.2.2.2.1 b.2.2.2.2.2.2.1 b.2.2.2.2.2.2.2.1 some
theorem auu (el ct a7 ya yb ft) (c d e g h i j l m n o p q s t) {α:Type} (K:ME->Option α):py el ct a7 ya yb ft c d e g h i j l m n o p q s t K=(py el ct a7 ya yb ft c d e g h i j l m n o p q s t some).bind K:=by simp only [py,af,ab,ac,ae,ah]
def pA:aC:=SZ
def vY:aS:=qq8
def pB:List aA:=[⟨lI,[yy,abk,(2,.cells (sL [lI,(cW 6),(cW 10)])),uy,(4,.gone),(5,.gone),(6,qf),(7,.gone),QQ,(9,.row 38 pn),(10,.row 117 KF)]⟩]
abbrev adO:Type:=Qe
abbrev adP:Type:=(cr×(Int×Unit)×(Int×Unit)×List Int×(List bO)×List Int×Yb×(List cy)×Unit)
abbrev MF:Type:=Int×(cr×(Int×Unit)×(Int×Unit)×List Int×Unit×Unit×Yb×Unit×(List bO)×List Int×(List cy)×Unit)
abbrev atE:=adO->adP->Option MF
def pC (el:adz) (ct:S6) (ft:adL) {α:Type} (c:Int) (d:ByteArray) (e:List Int) (g:Int) (h:Int) (i:Int) (j:Int) (l:Int) (m:List Int) (n:List bO) (o:List Int) (p:Yb) (q:List cy) (K:MF->Option α):Option α :=
 (el (c,()) ((g,h,i,()),(j,()),(l,()),m,n,o,p,q,())).bind fun r1 =>
 cond (r1.1 != 0)
 (K (r1.1,(g,h,i,()),(j,()),(l,()),m,(),(),p,(),n,o,q,()))
 ((ct (c,(d,e,()),()) ((g,h,i,()),(j,()),(l,()),m,n,o,p,q,())).bind fun r2 =>
 cond (!r2.1)
 (K (232,(r2.2.1.1,r2.2.1.2.1,r2.2.1.2.2.1,()),(r2.2.2.1.1,()),(r2.2.2.2.1.1,()),r2.2.2.2.2.1,(),(),r2.2.2.2.2.2.2.2.1,(),r2.2.2.2.2.2.2.2.2.2.1,r2.2.2.2.2.2.2.2.2.2.2.1,r2.2.2.2.2.2.2.2.2.1,()))
 ((ft (c,(d,e,()),eB,()) ((r2.2.1.1,r2.2.1.2.1,r2.2.1.2.2.1,()),(r2.2.2.1.1,()),(r2.2.2.2.1.1,()),r2.2.2.2.2.1,r2.2.2.2.2.2.2.2.2.2.1,r2.2.2.2.2.2.2.2.2.2.2.1,r2.2.2.2.2.2.2.2.1,r2.2.2.2.2.2.2.2.2.1,())).bind fun r3 =>
 K (r3.1.2.1,(r3.2.1.1,r3.2.1.2.1,r3.2.1.2.2.1,()),(r3.2.2.1.1,()),(r3.2.2.2.1.1,()),r3.2.2.2.2.1,(),(),r3.2.2.2.2.2.2.2.1,(),r3.2.2.2.2.2.2.2.2.2.1,r3.2.2.2.2.2.2.1,r3.2.2.2.2.2.2.2.2.2.2.1,())))
def fM:adO->adP->Option MF:=fun a b=>pC el ct ft a.1 a.2.1.1 a.2.1.2.1 b.1.1 b.1.2.1 b.1.2.2.1 b.2.1.1 b.2.2.1.1 b.2.2.2.1 b.2.2.2.2.1 b.2.2.2.2.2.1 b.2.2.2.2.2.2.1 b.2.2.2.2.2.2.2.1 some
theorem auv (el ct ft) (c d e g h i j l m n o p q) {α:Type} (K:MF->Option α):pC el ct ft c d e g h i j l m n o p q K=(pC el ct ft c d e g h i j l m n o p q some).bind K:=by simp only [pC,af,ab,ac,ae,ah]
def vZ:aC:=(.cons (cP 0) .nil)
def Au:aS:=qq8
def v6:List aA:=[⟨lB,[yy,(1,.cells (sL [(cW 3),(cW 8),(cW 5),lI])),(2,.cells (sL [lI,(cW 6),(cW 9)])),uy,(4,.gone),(5,.row 38 pn),(6,qf),(7,.gone),QQ,(9,.row 117 KF)]⟩]
abbrev arf:Type:=Unit
abbrev arg:Type:=(cr×(Int×Unit)×(Int×Unit)×List Int×(List bO)×List Int×Yb×(List cy)×Unit)
abbrev W7:Type:=Bool×(cr×(Int×Unit)×(Int×Unit)×List Int×Unit×List Int×Yb×Unit×(List bO)×(List cy)×Unit)
abbrev az5:=arf->arg->Option W7
def v7 (xY:aBw) (tR:aBP) {α:Type} (c:Int) (d:Int) (e:Int) (g:Int) (h:Int) (i:List Int) (j:List bO) (l:List Int) (m:Yb) (n:List cy) (K:W7->Option α):Option α :=
 (xY (e,[],()) ((g,()),i,j,l,())).bind fun r1 =>
 cond (r1.1.2.1)
 (cond (decide (0<=e))
 (cond (decide (e<(↑r1.1.1.length:Int)))
 (cond (decide (0<(↑(r1.1.1.getD e.toNat []).length:Int)))
 ((tR ((r1.1.1.getD e.toNat []).getD 0 0,()) ((h,()),m,n,())).bind fun r2 =>
 K (r2.1,(c,d,e,()),(r1.2.1.1,()),(r2.2.1.1,()),r1.2.2.1,(),r1.2.2.2.2.1,r2.2.2.1,(),r1.2.2.2.2.2.1,r2.2.2.2.2.1,()))
 (none))
 (none))
 (none))
 (K (false,(c,d,e,()),(r1.2.1.1,()),(h,()),r1.2.2.1,(),r1.2.2.2.2.1,m,(),r1.2.2.2.2.2.1,n,()))
def nn:arf->arg->Option W7:=fun a b=>v7 xY tR b.1.1 b.1.2.1 b.1.2.2.1 b.2.1.1 b.2.2.1.1 b.2.2.2.1 b.2.2.2.2.1 b.2.2.2.2.2.1 b.2.2.2.2.2.2.1 b.2.2.2.2.2.2.2.1 some
theorem aBQ (xY tR) (c d e g h i j l m n) {α:Type} (K:W7->Option α):v7 xY tR c d e g h i j l m n K=(v7 xY tR c d e g h i j l m n some).bind K:=by simp only [v7,af,ab,ac,ae,ah]
def v8:aC:=(sL [(cP 0),(.agg Hr)])
def Av:aS:=qq8
def wa:List aA:=[⟨(.tup (sL [lB,lI])),[yy,abk,(2,.cells (sL [lI,(cW 6),(cW 10)])),uy,(4,.gone),(5,.gone),(6,qf),(7,.gone),QQ,(9,.row 38 pn),(10,.row 117 KF)]⟩]
abbrev arh:Type:=(Hs×Unit)
abbrev ari:Type:=(cr×(Int×Unit)×(Int×Unit)×List Int×(List bO)×List Int×Yb×(List cy)×Unit)
abbrev QT:Type:=(Bool×Int×Unit)×(cr×(Int×Unit)×(Int×Unit)×List Int×Unit×Unit×Yb×Unit×(List bO)×List Int×(List cy)×Unit)
abbrev az1:=arh->ari->Option QT
def wb (fr:adB) (a7:I1) (jh:ara) (dA:adE) {α:Type} (c:ByteArray) (d:List Int) (e:Int) (g:Int) (h:Int) (i:Int) (j:Int) (l:List Int) (m:List bO) (n:List Int) (o:Yb) (p:List cy) (K:QT->Option α):Option α :=
 (fr () ((e,g,h,()),(i,()),(j,()),l,m,n,o,p,())).bind fun r1 =>
 cond (r1.1 != 0)
 (K ((false,r1.1,()),(e,g,h,()),(i,()),(j,()),l,(),(),o,(),m,n,p,()))
 ((a7 () ((j,()),o,p,())).bind fun r2 =>
 (jh (r2.1.1.2.2.2.1,(c,d,()),()) ((e,g,h,()),(i,()),(j,()),l,m,n,o,p,())).bind fun r3 =>
 cond (r3.1.2.1)
 (cond (r3.1.1==r2.1.1.2.2.2.2.1)
 ((dA (Bool.true,()) ((r3.2.1.1,r3.2.1.2.1,r3.2.1.2.2.1,()),(r3.2.2.1.1,()),(r3.2.2.2.1.1,()),r3.2.2.2.2.1,r3.2.2.2.2.2.2.2.2.2.1,r3.2.2.2.2.2.2.2.2.2.2.1,r3.2.2.2.2.2.2.2.1,r3.2.2.2.2.2.2.2.2.1,())).bind fun r4 =>
 K ((r4.1==0,r4.1,()),(r4.2.1.1,r4.2.1.2.1,r4.2.1.2.2.1,()),(r4.2.2.1.1,()),(r4.2.2.2.1.1,()),r4.2.2.2.2.1,(),(),r4.2.2.2.2.2.2.2.1,(),r4.2.2.2.2.2.1,r4.2.2.2.2.2.2.1,r4.2.2.2.2.2.2.2.2.2.1,()))
 (cond (r3.1.2.1)
 (cond (r3.1.1==r2.1.1.1)
 ((dA (Bool.false,()) ((r3.2.1.1,r3.2.1.2.1,r3.2.1.2.2.1,()),(r3.2.2.1.1,()),(r3.2.2.2.1.1,()),r3.2.2.2.2.1,r3.2.2.2.2.2.2.2.2.2.1,r3.2.2.2.2.2.2.2.2.2.2.1,r3.2.2.2.2.2.2.2.1,r3.2.2.2.2.2.2.2.2.1,())).bind fun r5 =>
 K ((false,r5.1,()),(r5.2.1.1,r5.2.1.2.1,r5.2.1.2.2.1,()),(r5.2.2.1.1,()),(r5.2.2.2.1.1,()),r5.2.2.2.2.1,(),(),r5.2.2.2.2.2.2.2.1,(),r5.2.2.2.2.2.1,r5.2.2.2.2.2.2.1,r5.2.2.2.2.2.2.2.2.2.1,()))
 (K ((false,232,()),(r3.2.1.1,r3.2.1.2.1,r3.2.1.2.2.1,()),(r3.2.2.1.1,()),(r3.2.2.2.1.1,()),r3.2.2.2.2.1,(),(),r3.2.2.2.2.2.2.2.1,(),r3.2.2.2.2.2.2.2.2.2.1,r3.2.2.2.2.2.2.2.2.2.2.1,r3.2.2.2.2.2.2.2.2.1,())))
 (K ((false,232,()),(r3.2.1.1,r3.2.1.2.1,r3.2.1.2.2.1,()),(r3.2.2.1.1,()),(r3.2.2.2.1.1,()),r3.2.2.2.2.1,(),(),r3.2.2.2.2.2.2.2.1,(),r3.2.2.2.2.2.2.2.2.2.1,r3.2.2.2.2.2.2.2.2.2.2.1,r3.2.2.2.2.2.2.2.2.1,()))))
 (cond (r3.1.2.1)
 (cond (r3.1.1==r2.1.1.1)
 ((dA (Bool.false,()) ((r3.2.1.1,r3.2.1.2.1,r3.2.1.2.2.1,()),(r3.2.2.1.1,()),(r3.2.2.2.1.1,()),r3.2.2.2.2.1,r3.2.2.2.2.2.2.2.2.2.1,r3.2.2.2.2.2.2.2.2.2.2.1,r3.2.2.2.2.2.2.2.1,r3.2.2.2.2.2.2.2.2.1,())).bind fun r6 =>
 K ((false,r6.1,()),(r6.2.1.1,r6.2.1.2.1,r6.2.1.2.2.1,()),(r6.2.2.1.1,()),(r6.2.2.2.1.1,()),r6.2.2.2.2.1,(),(),r6.2.2.2.2.2.2.2.1,(),r6.2.2.2.2.2.1,r6.2.2.2.2.2.2.1,r6.2.2.2.2.2.2.2.2.2.1,()))
 (K ((false,232,()),(r3.2.1.1,r3.2.1.2.1,r3.2.1.2.2.1,()),(r3.2.2.1.1,()),(r3.2.2.2.1.1,()),r3.2.2.2.2.1,(),(),r3.2.2.2.2.2.2.2.1,(),r3.2.2.2.2.2.2.2.2.2.1,r3.2.2.2.2.2.2.2.2.2.2.1,r3.2.2.2.2.2.2.2.2.1,())))
 (K ((false,232,()),(r3.2.1.1,r3.2.1.2.1,r3.2.1.2.2.1,()),(r3.2.2.1.1,()),(r3.2.2.2.1.1,()),r3.2.2.2.2.1,(),(),r3.2.2.2.2.2.2.2.1,(),r3.2.2.2.2.2.2.2.2.2.1,r3.2.2.2.2.2.2.2.2.2.2.1,r3.2.2.2.2.2.2.2.2.1,()))))
def jI:arh->ari->Option QT:=fun a b=>wb fr a7 jh dA a.1.1 a.1.2.1 b.1.1 b.1.2.1 b.1.2.2.1 b.2.1.1 b.2.2.1.1 b.2.2.2.1 b.2.2.2.2.1 b.2.2.2.2.2.1 b.2.2.2.2.2.2.1 b.2.2.2.2.2.2.2.1 some
theorem aBR (fr a7 jh dA) (c d e g h i j l m n o p) {α:Type} (K:QT->Option α):wb fr a7 jh dA c d e g h i j l m n o p K=(wb fr a7 jh dA c d e g h i j l m n o p some).bind K:=by simp only [wb,af,ab,ac,ae,ah]
end
end Go.Proofs.YtljfdfghagiblaaGreat.S2