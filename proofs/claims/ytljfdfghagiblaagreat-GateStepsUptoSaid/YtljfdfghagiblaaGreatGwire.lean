/- Plain forms of the program's functions,by program. -/
import Derived.Test.YtljfdfghagiblaaGreatS2y
import Derived.Lib.Repeat
set_option maxRecDepth 100000
set_option maxHeartbeats 0
namespace Go.Proofs.YtljfdfghagiblaaGreat.S2
open Go
noncomputable section
def Fg:aC:=(.cons ip .nil)
def IY:aS:=[]
def Aj:List aA:=[⟨ip,[]⟩]
abbrev adg:Type:=pZ
abbrev adh:Type:=Unit
abbrev S3:Type:=List Int×Unit
abbrev at0:=adg->adh->Option S3
def aba {α:Type} (c:List Int) (K:S3->Option α):Option α :=
 cond (decide (0<c.length))
 (cond (decide ((0+c.length)*8<=140737488355328))
 (K ([]++c,()))
 (none))
 (none)
def ju:adg->adh->Option S3:=fun a b=>cond (decide (a.1.length*8<=140737488355328)) (some (a.1,())) none
def qx:aC:=(.cons ip .nil)
def xl:aS:=[]
def qy:List aA:=[⟨(cP 0),BX⟩]
abbrev ap0:Type:=pZ
abbrev ap1:Type:=Unit
abbrev Wm:Type:=Unit×jv
abbrev apk:=ap0->ap1->Option Wm
def qz (ju:at0) {α:Type} (c:List Int) (K:Wm->Option α):Option α :=
 (ju (c,()) ()).bind fun r1 =>
 K ((),(r1.1,0,false,()),[],[],[],[],[],[],[],())
def gj:ap0->ap1->Option Wm:=fun a b=>qz ju a.1 some
theorem aAY (ju c) {α:Type} (K:Wm->Option α):qz ju c K=(qz ju c some).bind K:=by simp only [qz,af,ab,ac,ae,ah]
theorem at1 (c):gj (c,()) ()=qz ju c some:=rfl
def qA:aC:=(.cons (cP 0) .nil)
def xn:aS:=BX
def CQ:List aA:=[⟨lI,[]⟩]
abbrev Wn:Type:=Unit
abbrev Wo:Type:=jv
abbrev ap2:Type:=Int×Unit
abbrev azT:=Wn->Wo->Option ap2
def Fh:List aA:=[⟨lI,[(0,.cells (.cons (.leaf (.slc 38 (.cons (.int .u64) .nil))) (.cons lI (.cons lB (.cons (cM 1) (.cons (cM 2) (.cons (cM 3) (.cons (cM 4) (.cons (cM 5) (.cons (cM 6) (.cons (cW 7) .nil))))))))))),(1,qa),(2,qa),(3,qb),(4,qc),(5,qd),(6,qe),(7,qf)]⟩]
abbrev Mo:Type:=Int×(Yd×Y1×Y1×Y2×Y3×Y4×Y5×Yb×Unit)
def qB {α:Type} (c:List Int) (d:Int) (e:Bool) (g:Y1) (h:Y1) (i:Y2) (j:Y3) (l:Y4) (m:Y5) (n:Yb) (K:Mo->Option α):Option α :=
 K (d,(c,d,e,()),g,h,i,j,l,m,n,())
def adi:Wn->Wo->Option Mo:=fun a b=>qB b.1.1 b.1.2.1 b.1.2.2.1 b.2.1 b.2.2.1 b.2.2.2.1 b.2.2.2.2.1 b.2.2.2.2.2.1 b.2.2.2.2.2.2.1 b.2.2.2.2.2.2.2.1 some
theorem abb (a:Wn) (b:Wo):cj (fun r:Mo=>r.2=b) (adi a b):=by
 show cj _ (qB b.1.1 b.1.2.1 b.1.2.2.1 b.2.1 b.2.2.1 b.2.2.2.1 b.2.2.2.2.1 b.2.2.2.2.2.1 b.2.2.2.2.2.2.1 b.2.2.2.2.2.2.2.1 some)
 unfold qB
 repeat (first | (with_reducible refine bk fun _=>?_) | (with_reducible apply bm) | (with_reducible refine bD (fun _=>?_) (fun _=>?_)) | (with_reducible exact bn) | exact bp rfl)
def pT:Wn->Wo->Option ap2:=fun a b=>(adi a b).map fun r=>(r.1,())
theorem aAZ (c d e g h i j l m n) {α:Type} (K:Mo->Option α):qB c d e g h i j l m n K=(qB c d e g h i j l m n some).bind K:=by simp only [qB,af,ab,ac,ae,ah]
def qC:aC:=(.cons (cP 0) .nil)
def xp:aS:=BX
def CR:List aA:=[⟨lB,[]⟩]
abbrev Wp:Type:=Unit
abbrev Wq:Type:=jv
abbrev ap3:Type:=Bool×Unit
abbrev azV:=Wp->Wq->Option ap3
def Fi:List aA:=[⟨lB,[(0,.cells (.cons (.leaf (.slc 38 (.cons (.int .u64) .nil))) (.cons lI (.cons lB (.cons (cM 1) (.cons (cM 2) (.cons (cM 3) (.cons (cM 4) (.cons (cM 5) (.cons (cM 6) (.cons (cW 7) .nil))))))))))),(1,qa),(2,qa),(3,qb),(4,qc),(5,qd),(6,qe),(7,qf)]⟩]
abbrev Mp:Type:=Bool×(Yd×Y1×Y1×Y2×Y3×Y4×Y5×Yb×Unit)
def qD {α:Type} (c:List Int) (d:Int) (e:Bool) (g:Y1) (h:Y1) (i:Y2) (j:Y3) (l:Y4) (m:Y5) (n:Yb) (K:Mp->Option α):Option α :=
 K (e,(c,d,e,()),g,h,i,j,l,m,n,())
def adj:Wp->Wq->Option Mp:=fun a b=>qD b.1.1 b.1.2.1 b.1.2.2.1 b.2.1 b.2.2.1 b.2.2.2.1 b.2.2.2.2.1 b.2.2.2.2.2.1 b.2.2.2.2.2.2.1 b.2.2.2.2.2.2.2.1 some
theorem abc (a:Wp) (b:Wq):cj (fun r:Mp=>r.2=b) (adj a b):=by
 show cj _ (qD b.1.1 b.1.2.1 b.1.2.2.1 b.2.1 b.2.2.1 b.2.2.2.1 b.2.2.2.2.1 b.2.2.2.2.2.1 b.2.2.2.2.2.2.1 b.2.2.2.2.2.2.2.1 some)
 unfold qD
 repeat (first | (with_reducible refine bk fun _=>?_) | (with_reducible apply bm) | (with_reducible refine bD (fun _=>?_) (fun _=>?_)) | (with_reducible exact bn) | exact bp rfl)
def pV:Wp->Wq->Option ap3:=fun a b=>(adj a b).map fun r=>(r.1,())
theorem aA0 (c d e g h i j l m n) {α:Type} (K:Mp->Option α):qD c d e g h i j l m n K=(qD c d e g h i j l m n some).bind K:=by simp only [qD,af,ab,ac,ae,ah]
def vo:aC:=(.cons (cP 0) .nil)
def Ak:aS:=BX
def vq:List aA:=[⟨lU,BX⟩]
abbrev ap4:Type:=Unit
abbrev adk:Type:=jv
abbrev Qh:Type:=Int×jv
abbrev adl:=ap4->adk->Option Qh
def qE {α:Type} (c:List Int) (d:Int) (e:Bool) (g:Y1) (h:Y1) (i:Y2) (j:Y3) (l:Y4) (m:Y5) (n:Yb) (K:Qh->Option α):Option α :=
 cond (decide (d<(↑c.length:Int)))
 (cond (decide (0<=d))
 (cond (decide (d<(↑c.length:Int)))
 (cond (c.getD d.toNat 0==0)
 (K (c.getD d.toNat 0,(c,IntKind.i64.wrap (d+1),true,()),cx (aw.cons (ak.int IntKind.u64) aw.nil).eqb (c.getD d.toNat 0) (IntKind.i64.wrap (aV (aw.cons (ak.int IntKind.u64) aw.nil).eqb 0 (c.getD d.toNat 0) g+1)) g,h,i,j,l,m,n,()))
 (cond (decide (aV (aw.cons (ak.int IntKind.u64) aw.nil).eqb 0 (c.getD d.toNat 0) g>0))
 (K (c.getD d.toNat 0,(c,IntKind.i64.wrap (d+1),true,()),cx (aw.cons (ak.int IntKind.u64) aw.nil).eqb (c.getD d.toNat 0) (IntKind.i64.wrap (aV (aw.cons (ak.int IntKind.u64) aw.nil).eqb 0 (c.getD d.toNat 0) g+1)) g,h,i,j,l,m,n,()))
 (cond (decide (aV (aw.cons (ak.int IntKind.u64) aw.nil).eqb 0 (c.getD d.toNat 0) h>0))
 (K (c.getD d.toNat 0,(c,IntKind.i64.wrap (d+1),true,()),cx (aw.cons (ak.int IntKind.u64) aw.nil).eqb (c.getD d.toNat 0) (IntKind.i64.wrap (aV (aw.cons (ak.int IntKind.u64) aw.nil).eqb 0 (c.getD d.toNat 0) g+1)) g,h,i,j,l,m,n,()))
 (K (c.getD d.toNat 0,(c,IntKind.i64.wrap (d+1),e,()),cx (aw.cons (ak.int IntKind.u64) aw.nil).eqb (c.getD d.toNat 0) (IntKind.i64.wrap (aV (aw.cons (ak.int IntKind.u64) aw.nil).eqb 0 (c.getD d.toNat 0) g+1)) g,h,i,j,l,m,n,())))))
 (none))
 (none))
 (cond (IntKind.u64.wrap (9223372036854775808+IntKind.u64.wrap d)==0)
 (K (IntKind.u64.wrap (9223372036854775808+IntKind.u64.wrap d),(c,IntKind.i64.wrap (d+1),true,()),cx (aw.cons (ak.int IntKind.u64) aw.nil).eqb (IntKind.u64.wrap (9223372036854775808+IntKind.u64.wrap d)) (IntKind.i64.wrap (aV (aw.cons (ak.int IntKind.u64) aw.nil).eqb 0 (IntKind.u64.wrap (9223372036854775808+IntKind.u64.wrap d)) g+1)) g,h,i,j,l,m,n,()))
 (cond (decide (aV (aw.cons (ak.int IntKind.u64) aw.nil).eqb 0 (IntKind.u64.wrap (9223372036854775808+IntKind.u64.wrap d)) g>0))
 (K (IntKind.u64.wrap (9223372036854775808+IntKind.u64.wrap d),(c,IntKind.i64.wrap (d+1),true,()),cx (aw.cons (ak.int IntKind.u64) aw.nil).eqb (IntKind.u64.wrap (9223372036854775808+IntKind.u64.wrap d)) (IntKind.i64.wrap (aV (aw.cons (ak.int IntKind.u64) aw.nil).eqb 0 (IntKind.u64.wrap (9223372036854775808+IntKind.u64.wrap d)) g+1)) g,h,i,j,l,m,n,()))
 (cond (decide (aV (aw.cons (ak.int IntKind.u64) aw.nil).eqb 0 (IntKind.u64.wrap (9223372036854775808+IntKind.u64.wrap d)) h>0))
 (K (IntKind.u64.wrap (9223372036854775808+IntKind.u64.wrap d),(c,IntKind.i64.wrap (d+1),true,()),cx (aw.cons (ak.int IntKind.u64) aw.nil).eqb (IntKind.u64.wrap (9223372036854775808+IntKind.u64.wrap d)) (IntKind.i64.wrap (aV (aw.cons (ak.int IntKind.u64) aw.nil).eqb 0 (IntKind.u64.wrap (9223372036854775808+IntKind.u64.wrap d)) g+1)) g,h,i,j,l,m,n,()))
 (K (IntKind.u64.wrap (9223372036854775808+IntKind.u64.wrap d),(c,IntKind.i64.wrap (d+1),e,()),cx (aw.cons (ak.int IntKind.u64) aw.nil).eqb (IntKind.u64.wrap (9223372036854775808+IntKind.u64.wrap d)) (IntKind.i64.wrap (aV (aw.cons (ak.int IntKind.u64) aw.nil).eqb 0 (IntKind.u64.wrap (9223372036854775808+IntKind.u64.wrap d)) g+1)) g,h,i,j,l,m,n,())))))
def dl:ap4->adk->Option Qh:=fun a b=>qE b.1.1 b.1.2.1 b.1.2.2.1 b.2.1 b.2.2.1 b.2.2.2.1 b.2.2.2.2.1 b.2.2.2.2.2.1 b.2.2.2.2.2.2.1 b.2.2.2.2.2.2.2.1 some
theorem aA1 (c d e g h i j l m n) {α:Type} (K:Qh->Option α):qE c d e g h i j l m n K=(qE c d e g h i j l m n some).bind K:=by simp only [qE,af,ab,ac,ae,ah]
theorem at2 (c d e g h i j l m n):dl () ((c,d,e,()),g,h,i,j,l,m,n,())=qE c d e g h i j l m n some:=rfl
def yF:aC:=(sL [(cP 0),lS])
def CS:aS:=BX
def yG:List aA:=[⟨lU,BX⟩]
abbrev ap5:Type:=ux
abbrev ap6:Type:=jv
abbrev Wr:Type:=Int×jv
abbrev ap7:=ap5->ap6->Option Wr
def qF (dl:adl) {α:Type} (c:ByteArray) (d:List Int) (e:Int) (g:Bool) (h:Y1) (i:Y1) (j:Y2) (l:Y3) (m:Y4) (n:Y5) (o:Yb) (K:Wr->Option α):Option α :=
 cond (!BY (aw.cons ak.str aw.nil).eqb c j)
 ((dl () ((d,e,g,()),h,i,j,l,m,n,o,())).bind fun r1 =>
 K (r1.1,(r1.2.1.1,r1.2.1.2.1,r1.2.1.2.2.1,()),r1.2.2.1,r1.2.2.2.1,cx (aw.cons ak.str aw.nil).eqb c r1.1 r1.2.2.2.2.1,r1.2.2.2.2.2.1,r1.2.2.2.2.2.2.1,r1.2.2.2.2.2.2.2.1,r1.2.2.2.2.2.2.2.2.1,()))
 (K (aV (aw.cons ak.str aw.nil).eqb 0 c j,(d,e,g,()),h,i,j,l,m,n,o,()))
def gS:ap5->ap6->Option Wr:=fun a b=>qF dl a.1 b.1.1 b.1.2.1 b.1.2.2.1 b.2.1 b.2.2.1 b.2.2.2.1 b.2.2.2.2.1 b.2.2.2.2.2.1 b.2.2.2.2.2.2.1 b.2.2.2.2.2.2.2.1 some
theorem aA2 (dl) (c d e g h i j l m n o) {α:Type} (K:Wr->Option α):qF dl c d e g h i j l m n o K=(qF dl c d e g h i j l m n o some).bind K:=by simp only [qF,af,ab,ac,ae,ah]
theorem at3 (c d e g h i j l m n o):gS (c,()) ((d,e,g,()),h,i,j,l,m,n,o,())=qF dl c d e g h i j l m n o some:=rfl
def kb:aC:=Qc
def oV:aS:=BX
def kc:List aA:=[⟨(.tup .nil),BX⟩]
abbrev ap8:Type:=(Int×Unit)
abbrev ap9:Type:=jv
abbrev Ws:Type:=Unit×jv
abbrev VI:=ap8->ap9->Option Ws
def qG {α:Type} (c:Int) (d:List Int) (e:Int) (g:Bool) (h:Y1) (i:Y1) (j:Y2) (l:Y3) (m:Y4) (n:Y5) (o:Yb) (K:Ws->Option α):Option α :=
 cond (aV (aw.cons (ak.int IntKind.u64) aw.nil).eqb 0 c h==0)
 (K ((),(d,e,g,()),h,cx (aw.cons (ak.int IntKind.u64) aw.nil).eqb c 1 i,j,l,m,n,o,()))
 (K ((),(d,e,g,()),h,i,j,l,m,n,o,()))
def bN:ap8->ap9->Option Ws:=fun a b=>qG a.1 b.1.1 b.1.2.1 b.1.2.2.1 b.2.1 b.2.2.1 b.2.2.2.1 b.2.2.2.2.1 b.2.2.2.2.2.1 b.2.2.2.2.2.2.1 b.2.2.2.2.2.2.2.1 some
theorem aA3 (c d e g h i j l m n o) {α:Type} (K:Ws->Option α):qG c d e g h i j l m n o K=(qG c d e g h i j l m n o some).bind K:=by simp only [qG,af,ab,ac,ae,ah]
theorem at4 (c d e g h i j l m n o):bN (c,()) ((d,e,g,()),h,i,j,l,m,n,o,())=qG c d e g h i j l m n o some:=rfl
end
noncomputable section
def A6:aC:=(sL [(.const .nils),lU])
def Ea:aS:=[]
def A7:List aA:=[⟨(.leaf (.slc 5 S7)),[]⟩]
abbrev aeL:Type:=(Int×Unit)
abbrev aeM:Type:=Unit
abbrev Nb:Type:=List Int×Unit
abbrev avv:=aeL->aeM->Option Nb
def ly:aC:=(.cons (cW 500) (.cons lU (dz 18 .nil)))
def og:aS:=[(500,.row 5 S7)]
def o6:List eh:=[⟨(.exit 0),(.cons (cW 500) (.cons lU (dz 18 .nil))),[(500,.row 5 S7)]⟩]
abbrev iI:Type:=(Int×Unit)
abbrev iJ:Type:=pZ
abbrev mO:Type:=(Int×Unit)×pZ
def bZ {α:Type} (c:Int) (d:List Int) (kn:iI->iJ->Option α) (kr:mO->Option α):Option α :=
 cond (decide (c≥128))
 (cond (decide ((d.length+([]++[IntKind.u8.wrap (↑(BitVec.ofInt 8 (IntKind.u8.wrap c) ||| BitVec.ofInt 8 128).toNat:Int)]).length)*1<=140737488355328))
 (kn (c.fdiv 128,()) (d++([]++[IntKind.u8.wrap (↑(BitVec.ofInt 8 (IntKind.u8.wrap c) ||| BitVec.ofInt 8 128).toNat:Int)]),()))
 (none))
 (kr ((c,()),d,()))
def dY:iI->iJ->Option mO:=fun x y=>dP (fun p=>(fun (a:iI) (b:iJ)=>bZ a.1 b.1 (fun a' b'=>some (.inl (a',b'))) fun r=>some (.inr r)) p.1 p.2) (x,y)
theorem K4 (c d) {α:Type} (kn:iI->iJ->Option α) (kr:mO->Option α):bZ c d kn kr=(bZ c d (fun a b=>some (.inl (a,b))) fun r=>some (.inr r)).bind (Sum.elim (fun p:iI×iJ=>kn p.1 p.2) kr):=by simp only [bZ,af,ab,ac,ae,ah,Sum.elim_inl,Sum.elim_inr]
theorem pI (c d):dY (c,()) (d,())=bZ c d dY some:=aX (A:=iI) (B:=iJ) (R:=mO) (fun a b kn kr=>bZ a.1 b.1 kn kr) (fun a b kn kr=>K4 a.1 b.1 kn kr) (c,()) (d,())
def jP (dY:iI->iJ->Option mO) {α:Type} (c:Int) (K:Nb->Option α):Option α :=
 (dY (c,()) ([],())).bind fun r1 =>
 cond (decide ((r1.2.1.length+1)*1<=140737488355328))
 (K (r1.2.1++([]++[IntKind.u8.wrap r1.1.1]),()))
 (none)
def oB:aeL->aeM->Option Nb:=fun a b=>jP dY a.1 some
theorem avw (dY:iI->iJ->Option mO) (c) {α:Type} (K:Nb->Option α):jP dY c K=(jP dY c some).bind K:=by simp only [jP,af,ab,ac,ae,ah]
theorem XD (c):oB (c,()) ()=jP dY c some:=rfl
def mP:aC:=(.cons lU .nil)
def sC:aS:=[]
def mQ:List aA:=[⟨lS,[]⟩]
abbrev aeN:Type:=(Int×Unit)
abbrev aeO:Type:=Unit
abbrev Nc:Type:=ByteArray×Unit
abbrev Mq:=aeN->aeO->Option Nc
def jQ (oB:avv) {α:Type} (c:Int) (K:Nc->Option α):Option α :=
 (oB (c,()) ()).bind fun r1 =>
 K (Go.strOfNums r1.1,())
def be:aeN->aeO->Option Nc:=fun a b=>jQ oB a.1 some
theorem avy (oB c) {α:Type} (K:Nc->Option α):jQ oB c K=(jQ oB c some).bind K:=by simp only [jQ,af,ab,ac,ae,ah]
theorem XE (c):be (c,()) ()=jQ oB c some:=rfl
def A8:aC:=(.cons lS .nil)
def Eb:aS:=[]
def A9:List aA:=[⟨lS,[]⟩]
abbrev aeP:Type:=ux
abbrev aeQ:Type:=Unit
abbrev Nd:Type:=ByteArray×Unit
abbrev avk:=aeP->aeQ->Option Nd
def mR (be:Mq) {α:Type} (c:ByteArray) (K:Nd->Option α):Option α :=
 (be (IntKind.u64.wrap (↑c.size:Int),()) ()).bind fun r1 =>
 cond (decide (r1.1.size+c.size<=9223372036854775807))
 (K (r1.1++c,()))
 (none)
def mE:aeP->aeQ->Option Nd:=fun a b=>mR be a.1 some
theorem avz (be c) {α:Type} (K:Nd->Option α):mR be c K=(mR be c some).bind K:=by simp only [mR,af,ab,ac,ae,ah]
theorem amP (c):mE (c,()) ()=mR be c some:=rfl
def pJ:aC:=(.cons lS .nil)
def wP:aS:=[]
def pK:List aA:=[⟨(.tup (sL [lU,lS,lB])),[]⟩]
abbrev aeR:Type:=ux
abbrev aeS:Type:=Unit
abbrev Nf:Type:=P5×Unit
abbrev S8:=aeR->aeS->Option Nf
def lz:aC:=(.cons lS (dz 4 (.cons lU (dz 3 (.cons lI (.cons lI (dz 33 .nil)))))))
def oh:aS:=[]
def o7:List eh:=[⟨(.exit 0),(dz 44 .nil),[]⟩,⟨.ret,(dz 2 (.cons lU (.cons lS (.cons lB (dz 39 .nil))))),[]⟩]
abbrev iK:Type:=(ByteArray×Int×Int×Int×Unit)
abbrev iL:Type:=Unit
abbrev mS:Type:=(Unit×Unit)⊕(P5×Unit)
def dD {α:Type} (c:ByteArray) (d:Int) (e:Int) (g:Int) (kn:iK->iL->Option α) (kr:mS->Option α):Option α :=
 cond (decide (g<e))
 (cond (decide (0<=g))
 (cond (decide (g<(↑c.size:Int)))
 (cond (g==9)
 (cond (decide (dM c g>1))
 (kr (.inl ((),())))
 (cond (decide (0<=IntKind.i64.wrap (7*g)))
 (cond (decide (dM c g<128))
 (cond (dM c g==0)
 (cond (decide (g>0))
 (kr (.inl ((),())))
 (cond (decide (0<=IntKind.i64.wrap (g+1)))
 (cond (decide (IntKind.i64.wrap (g+1)<=(↑c.size:Int)))
 (kr (.inr ((IntKind.u64.wrap (↑(BitVec.ofInt 64 d ||| BitVec.ofInt 64 (IntKind.u64.wrap (IntKind.u64.wrap (IntKind.u8.wrap (↑(BitVec.ofInt 8 (dM c g) &&& BitVec.ofInt 8 127).toNat:Int))*2 ^ Min.min (IntKind.i64.wrap (7*g)).toNat 64))).toNat:Int),c.extract (IntKind.i64.wrap (g+1)).toNat c.size,true,()),())))
 (none))
 (none)))
 (cond (decide (0<=IntKind.i64.wrap (g+1)))
 (cond (decide (IntKind.i64.wrap (g+1)<=(↑c.size:Int)))
 (kr (.inr ((IntKind.u64.wrap (↑(BitVec.ofInt 64 d ||| BitVec.ofInt 64 (IntKind.u64.wrap (IntKind.u64.wrap (IntKind.u8.wrap (↑(BitVec.ofInt 8 (dM c g) &&& BitVec.ofInt 8 127).toNat:Int))*2 ^ Min.min (IntKind.i64.wrap (7*g)).toNat 64))).toNat:Int),c.extract (IntKind.i64.wrap (g+1)).toNat c.size,true,()),())))
 (none))
 (none)))
 (kn (c,IntKind.u64.wrap (↑(BitVec.ofInt 64 d ||| BitVec.ofInt 64 (IntKind.u64.wrap (IntKind.u64.wrap (IntKind.u8.wrap (↑(BitVec.ofInt 8 (dM c g) &&& BitVec.ofInt 8 127).toNat:Int))*2 ^ Min.min (IntKind.i64.wrap (7*g)).toNat 64))).toNat:Int),e,IntKind.i64.wrap (g+1),()) ()))
 (none)))
 (cond (decide (0<=IntKind.i64.wrap (7*g)))
 (cond (decide (dM c g<128))
 (cond (dM c g==0)
 (cond (decide (g>0))
 (kr (.inl ((),())))
 (cond (decide (0<=IntKind.i64.wrap (g+1)))
 (cond (decide (IntKind.i64.wrap (g+1)<=(↑c.size:Int)))
 (kr (.inr ((IntKind.u64.wrap (↑(BitVec.ofInt 64 d ||| BitVec.ofInt 64 (IntKind.u64.wrap (IntKind.u64.wrap (IntKind.u8.wrap (↑(BitVec.ofInt 8 (dM c g) &&& BitVec.ofInt 8 127).toNat:Int))*2 ^ Min.min (IntKind.i64.wrap (7*g)).toNat 64))).toNat:Int),c.extract (IntKind.i64.wrap (g+1)).toNat c.size,true,()),())))
 (none))
 (none)))
 (cond (decide (0<=IntKind.i64.wrap (g+1)))
 (cond (decide (IntKind.i64.wrap (g+1)<=(↑c.size:Int)))
 (kr (.inr ((IntKind.u64.wrap (↑(BitVec.ofInt 64 d ||| BitVec.ofInt 64 (IntKind.u64.wrap (IntKind.u64.wrap (IntKind.u8.wrap (↑(BitVec.ofInt 8 (dM c g) &&& BitVec.ofInt 8 127).toNat:Int))*2 ^ Min.min (IntKind.i64.wrap (7*g)).toNat 64))).toNat:Int),c.extract (IntKind.i64.wrap (g+1)).toNat c.size,true,()),())))
 (none))
 (none)))
 (kn (c,IntKind.u64.wrap (↑(BitVec.ofInt 64 d ||| BitVec.ofInt 64 (IntKind.u64.wrap (IntKind.u64.wrap (IntKind.u8.wrap (↑(BitVec.ofInt 8 (dM c g) &&& BitVec.ofInt 8 127).toNat:Int))*2 ^ Min.min (IntKind.i64.wrap (7*g)).toNat 64))).toNat:Int),e,IntKind.i64.wrap (g+1),()) ()))
 (none)))
 (none))
 (none))
 (kr (.inl ((),())))
def fc:iK->iL->Option mS:=fun x y=>dP (fun p=>(fun (a:iK) (b:iL)=>dD a.1 a.2.1 a.2.2.1 a.2.2.2.1 (fun a' b'=>some (.inl (a',b'))) fun r=>some (.inr r)) p.1 p.2) (x,y)
theorem K5 (c d e g) {α:Type} (kn:iK->iL->Option α) (kr:mS->Option α):dD c d e g kn kr=(dD c d e g (fun a b=>some (.inl (a,b))) fun r=>some (.inr r)).bind (Sum.elim (fun p:iK×iL=>kn p.1 p.2) kr):=by simp only [dD,af,ab,ac,ae,ah,Sum.elim_inl,Sum.elim_inr]
theorem K6 (c d e g):fc (c,d,e,g,()) ()=dD c d e g fc some:=aX (A:=iK) (B:=iL) (R:=mS) (fun a b kn kr=>dD a.1 a.2.1 a.2.2.1 a.2.2.2.1 kn kr) (fun a b kn kr=>K5 a.1 a.2.1 a.2.2.1 a.2.2.2.1 kn kr) (c,d,e,g,()) ()
def mT (fc:iK->iL->Option mS) {α:Type} (c:ByteArray) (K:Nf->Option α):Option α :=
 (fc (c,0,(↑c.size:Int),0,()) ()).bind fun r1 =>
 Sum.elim (fun u2 =>
 K ((0,eB,false,()),()))
 (fun u2 =>
 K ((u2.1.1,u2.1.2.1,u2.1.2.2.1,()),())) (r1)
def bH:aeR->aeS->Option Nf:=fun a b=>mT fc a.1 some
theorem avA (fc:iK->iL->Option mS) (c) {α:Type} (K:Nf->Option α):mT fc c K=(mT fc c some).bind K:=by simp only [mT,af,ab,ac,ae,ah]
theorem amQ (c):bH (c,()) ()=mT fc c some:=rfl
def Ba:aC:=(sL [lS,lI])
def Ec:aS:=[]
def Bb:List aA:=[⟨(.tup (sL [lS,lS,lB])),[]⟩]
abbrev aeT:Type:=Hu
abbrev aeU:Type:=Unit
abbrev Ng:Type:=(ByteArray×ByteArray×Bool×Unit)×Unit
abbrev avn:=aeT->aeU->Option Ng
def mU (bH:S8) {α:Type} (c:ByteArray) (d:Int) (K:Ng->Option α):Option α :=
 (bH (c,()) ()).bind fun r1 =>
 cond (!r1.1.2.2.1)
 (K ((eB,eB,false,()),()))
 (cond (decide (d<0))
 (K ((eB,eB,false,()),()))
 (cond (decide (r1.1.1>IntKind.u64.wrap d))
 (K ((eB,eB,false,()),()))
 (cond (decide (r1.1.1>IntKind.u64.wrap (↑r1.1.2.1.size:Int)))
 (K ((eB,eB,false,()),()))
 (cond (decide (0<=r1.1.1))
 (cond (decide (r1.1.1<=(↑r1.1.2.1.size:Int)))
 (cond (decide (0<=r1.1.1))
 (cond (decide (r1.1.1<=(↑r1.1.2.1.size:Int)))
 (K ((r1.1.2.1.extract 0 r1.1.1.toNat,r1.1.2.1.extract r1.1.1.toNat r1.1.2.1.size,true,()),()))
 (none))
 (none))
 (none))
 (none)))))
def mI:aeT->aeU->Option Ng:=fun a b=>mU bH a.1 a.2.1 some
theorem avB (bH) (c d) {α:Type} (K:Ng->Option α):mU bH c d K=(mU bH c d some).bind K:=by simp only [mU,af,ab,ac,ae,ah]
theorem amR (c d):mI (c,d,()) ()=mU bH c d some:=rfl
end
end Go.Proofs.YtljfdfghagiblaaGreat.S2