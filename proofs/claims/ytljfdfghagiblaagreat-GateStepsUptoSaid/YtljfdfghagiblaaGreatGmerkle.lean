/- Plain forms of the program's functions,by program. -/
import Derived.Test.YtljfdfghagiblaaGreatGrwire
set_option maxRecDepth 100000
set_option maxHeartbeats 0
namespace Go.Proofs.YtljfdfghagiblaaGreat.S2
open Go
noncomputable section
def ym:aC:=(sL [(cP 0),ip])
def io:aS:=BX
def yn:List aA:=[⟨ip,BX⟩]
abbrev aqe:Type:=pZ
abbrev IH:Type:=jv
abbrev adn:Type:=List Int×jv
abbrev aA7:=aqe->IH->Option adn
def uO (N:VD->IJ->Option IK):Y1->IJ->List Int->Option adn
 | [],b,acc=>some (acc,b)
 | x::l,b,acc=>(N (x.1,x.2,()) b).bind fun r=>uO N l r.2 (acc++[r.1])
def lT (zs:List Int):Y1:=(List.range (zs.length / 2)).map fun k=>(zs.getD (2*k) 0,zs.getD (2*k+1) 0)
def okA (zs:List Int) (d:Int):Bool:=decide (zs.length % 2=0)&&decide (zs.length*8<=140737488351232)&&decide (0<=d)&&decide (d<=4611686018427387904)&&zs.all fun z=>decide (0<=z)&&decide (z<=18446744073709551615)
def jD:aqe->IH->Option adn:=fun a b=>cond (okA a.1 b.1.2.1) (uO gh (lT a.1) b []) none
def yH:aC:=(sL [(cP 0),lI,(.leaf (.slc 9 Fj))])
def CT:aS:=BX
def yI:List aA:=[⟨(.tup (sL [abd,lB])),BX⟩]
abbrev aqf:Type:=(Int×Yb×Unit)
abbrev aqg:Type:=jv
abbrev Wv:Type:=(List (List Int)×Bool×Unit)×jv
abbrev apX:=aqf->aqg->Option Wv
def jJ:aC:=(.cons (cP 0) (.cons lI (.cons (.leaf (.slc 9 Fj)) (dz 5 (.cons (cW 508) (dz 17 (.cons lI (.cons lI (dz 31 .nil)))))))))
def lZ:aS:=[adm,(1,qa),(2,qa),(3,qb),(4,qc),(5,qd),(6,qe),(7,qf),(508,.row 38 pn)]
def nz:List eh:=[⟨(.exit 0),(.cons (cP 0) (.cons lI (dz 6 (.cons (cW 508) (dz 50 .nil))))),[adm,(1,qa),(2,qa),(3,qb),(4,qc),(5,qd),(6,qe),(7,qf),(508,.row 38 pn)]⟩]
abbrev i8:Type:=(Int×Yb×Int×Int×Unit)
abbrev i9:Type:=(Yd×Y1×Y1×Y2×Y3×Y4×Y5×Yb×List Int×Unit)
abbrev nA:Type:=(Int×Unit)×(Yd×Y1×Y1×Y2×Y3×Y4×Y5×Yb×List Int×Unit)
def eK (dI:aqh) {α:Type} (c:Int) (d:Yb) (e:Int) (g:Int) (h:List Int) (i:Int) (j:Bool) (l:Y1) (m:Y1) (n:Y2) (o:Y3) (p:Y4) (q:Y5) (s:Yb) (t:List Int) (kn:i8->i9->Option α) (kr:nA->Option α):Option α :=
 cond (decide (g<e))
 (cond (decide (g<(↑d.length:Int)))
 (cond (decide (0<=g))
 (cond (decide (g<(↑d.length:Int)))
 ((dI (d.getD g.toNat eB,()) ((h,i,j,()),l,m,n,o,p,q,s,())).bind fun r1 =>
 cond (decide ((t.length+1)*8<=140737488355328))
 (kn (c,d,e,IntKind.i64.wrap (g+1),()) ((r1.2.1.1,r1.2.1.2.1,r1.2.1.2.2.1,()),r1.2.2.1,r1.2.2.2.1,r1.2.2.2.2.1,r1.2.2.2.2.2.1,r1.2.2.2.2.2.2.1,r1.2.2.2.2.2.2.2.1,r1.2.2.2.2.2.2.2.2.1,t++([]++[r1.1]),()))
 (none))
 (none))
 (none))
 ((dI (eB,()) ((h,i,j,()),l,m,n,o,p,q,s,())).bind fun r2 =>
 cond (decide ((t.length+1)*8<=140737488355328))
 (kn (c,d,e,IntKind.i64.wrap (g+1),()) ((r2.2.1.1,r2.2.1.2.1,r2.2.1.2.2.1,()),r2.2.2.1,r2.2.2.2.1,r2.2.2.2.2.1,r2.2.2.2.2.2.1,r2.2.2.2.2.2.2.1,r2.2.2.2.2.2.2.2.1,r2.2.2.2.2.2.2.2.2.1,t++([]++[r2.1]),()))
 (none)))
 (kr ((c,()),(h,i,j,()),l,m,n,o,p,q,s,t,()))
def fB:i8->i9->Option nA:=fun x y=>dP (fun p=>(fun (a:i8) (b:i9)=>eK dI a.1 a.2.1 a.2.2.1 a.2.2.2.1 b.1.1 b.1.2.1 b.1.2.2.1 b.2.1 b.2.2.1 b.2.2.2.1 b.2.2.2.2.1 b.2.2.2.2.2.1 b.2.2.2.2.2.2.1 b.2.2.2.2.2.2.2.1 b.2.2.2.2.2.2.2.2.1 (fun a' b'=>some (.inl (a',b'))) fun r=>some (.inr r)) p.1 p.2) (x,y)
theorem Qi (dI) (c d e g h i j l m n o q s t v) {α:Type} (kn:i8->i9->Option α) (kr:nA->Option α):eK dI c d e g h i j l m n o q s t v kn kr=(eK dI c d e g h i j l m n o q s t v (fun a b=>some (.inl (a,b))) fun r=>some (.inr r)).bind (Sum.elim (fun p:i8×i9=>kn p.1 p.2) kr):=by simp only [eK,af,ab,ac,ae,ah,Sum.elim_inl,Sum.elim_inr]
theorem Qj (c d e g h i j l m n o p q s t):fB (c,d,e,g,()) ((h,i,j,()),l,m,n,o,p,q,s,t,())=eK dI c d e g h i j l m n o p q s t fB some:=aX (A:=i8) (B:=i9) (R:=nA) (fun a b kn kr=>eK dI a.1 a.2.1 a.2.2.1 a.2.2.2.1 b.1.1 b.1.2.1 b.1.2.2.1 b.2.1 b.2.2.1 b.2.2.2.1 b.2.2.2.2.1 b.2.2.2.2.2.1 b.2.2.2.2.2.2.1 b.2.2.2.2.2.2.2.1 b.2.2.2.2.2.2.2.2.1 kn kr) (fun a b kn kr=>Qi dI a.1 a.2.1 a.2.2.1 a.2.2.2.1 b.1.1 b.1.2.1 b.1.2.2.1 b.2.1 b.2.2.1 b.2.2.2.1 b.2.2.2.2.1 b.2.2.2.2.2.1 b.2.2.2.2.2.2.1 b.2.2.2.2.2.2.2.1 b.2.2.2.2.2.2.2.2.1 kn kr) (c,d,e,g,()) ((h,i,j,()),l,m,n,o,p,q,s,t,())
def kd:aC:=(.cons (cP 0) (dz 7 (.cons ip (dz 2 (.cons (cW 511) (dz 35 (.cons lI (.cons lI (dz 10 .nil)))))))))
def nB:aS:=[adm,(1,qa),(2,qa),(3,qb),(4,qc),(5,qd),(6,qe),(7,qf),(511,.row 22 S4)]
def oW:List eh:=[⟨(.exit 2),(dz 11 (.cons (cW 511) (dz 47 .nil))),[adm,(1,qa),(2,qa),(3,qb),(4,qc),(5,qd),(6,qe),(7,qf),(511,.row 22 S4)]⟩]
abbrev iu:Type:=(List Int×Int×Int×Unit)
abbrev iw:Type:=(Yd×Y1×Y1×Y2×Y3×Y4×Y5×Yb×List (List Int)×Unit)
abbrev l8:Type:=Unit×(Yd×Y1×Y1×Y2×Y3×Y4×Y5×Yb×List (List Int)×Unit)
def dw (jD:aA7) {α:Type} (c:List Int) (d:Int) (e:Int) (g:List Int) (h:Int) (i:Bool) (j:Y1) (l:Y1) (m:Y2) (n:Y3) (o:Y4) (p:Y5) (q:Yb) (s:List (List Int)) (kn:iu->iw->Option α) (kr:l8->Option α):Option α :=
 cond (decide (e<d))
 ((jD (c,()) ((g,h,i,()),j,l,m,n,o,p,q,())).bind fun r1 =>
 cond (decide ((s.length+1)*24<=140737488355328))
 (kn (r1.1,d,IntKind.i64.wrap (e+1),()) ((r1.2.1.1,r1.2.1.2.1,r1.2.1.2.2.1,()),r1.2.2.1,r1.2.2.2.1,r1.2.2.2.2.1,r1.2.2.2.2.2.1,r1.2.2.2.2.2.2.1,r1.2.2.2.2.2.2.2.1,r1.2.2.2.2.2.2.2.2.1,s++([]++[r1.1]),()))
 (none))
 (kr ((),(g,h,i,()),j,l,m,n,o,p,q,s,()))
def eL:iu->iw->Option l8:=fun x y=>dP (fun p=>(fun (a:iu) (b:iw)=>dw jD a.1 a.2.1 a.2.2.1 b.1.1 b.1.2.1 b.1.2.2.1 b.2.1 b.2.2.1 b.2.2.2.1 b.2.2.2.2.1 b.2.2.2.2.2.1 b.2.2.2.2.2.2.1 b.2.2.2.2.2.2.2.1 b.2.2.2.2.2.2.2.2.1 (fun a' b'=>some (.inl (a',b'))) fun r=>some (.inr r)) p.1 p.2) (x,y)
theorem KV (jD) (c d e g h i j l m n o q s t) {α:Type} (kn:iu->iw->Option α) (kr:l8->Option α):dw jD c d e g h i j l m n o q s t kn kr=(dw jD c d e g h i j l m n o q s t (fun a b=>some (.inl (a,b))) fun r=>some (.inr r)).bind (Sum.elim (fun p:iu×iw=>kn p.1 p.2) kr):=by simp only [dw,af,ab,ac,ae,ah,Sum.elim_inl,Sum.elim_inr]
theorem KW (c d e g h i j l m n o p q s):eL (c,d,e,()) ((g,h,i,()),j,l,m,n,o,p,q,s,())=dw jD c d e g h i j l m n o p q s eL some:=aX (A:=iu) (B:=iw) (R:=l8) (fun a b kn kr=>dw jD a.1 a.2.1 a.2.2.1 b.1.1 b.1.2.1 b.1.2.2.1 b.2.1 b.2.2.1 b.2.2.2.1 b.2.2.2.2.1 b.2.2.2.2.2.1 b.2.2.2.2.2.2.1 b.2.2.2.2.2.2.2.1 b.2.2.2.2.2.2.2.2.1 kn kr) (fun a b kn kr=>KV jD a.1 a.2.1 a.2.2.1 b.1.1 b.1.2.1 b.1.2.2.1 b.2.1 b.2.2.1 b.2.2.2.1 b.2.2.2.2.1 b.2.2.2.2.2.1 b.2.2.2.2.2.2.1 b.2.2.2.2.2.2.2.1 b.2.2.2.2.2.2.2.2.1 kn kr) (c,d,e,()) ((g,h,i,()),j,l,m,n,o,p,q,s,())
def qJ (fB:i8->i9->Option nA) (eL:iu->iw->Option l8) {α:Type} (c:Int) (d:Yb) (e:List Int) (g:Int) (h:Bool) (i:Y1) (j:Y1) (l:Y2) (m:Y3) (n:Y4) (o:Y5) (p:Yb) (K:Wv->Option α):Option α :=
 cond (decide (c<0))
 (K (([],false,()),(e,g,h,()),i,j,l,m,n,o,p,()))
 (cond (decide (c>8))
 (K (([],false,()),(e,g,h,()),i,j,l,m,n,o,p,()))
 (cond (decide (0<=c))
 (cond (decide ((↑d.length:Int)>IntKind.i64.wrap (1*2 ^ Min.min c.toNat 64)))
 (K (([],false,()),(e,g,h,()),i,j,l,m,n,o,p,()))
 (cond (decide (0<=c))
 ((fB (c,d,IntKind.i64.wrap (1*2 ^ Min.min c.toNat 64),0,()) ((e,g,h,()),i,j,l,m,n,o,p,[],())).bind fun r1 =>
 (eL (r1.2.2.2.2.2.2.2.2.2.1,r1.1.1,0,()) ((r1.2.1.1,r1.2.1.2.1,r1.2.1.2.2.1,()),r1.2.2.1,r1.2.2.2.1,r1.2.2.2.2.1,r1.2.2.2.2.2.1,r1.2.2.2.2.2.2.1,r1.2.2.2.2.2.2.2.1,r1.2.2.2.2.2.2.2.2.1,[]++[r1.2.2.2.2.2.2.2.2.2.1],())).bind fun r2 =>
 K ((r2.2.2.2.2.2.2.2.2.2.1,true,()),(r2.2.1.1,r2.2.1.2.1,r2.2.1.2.2.1,()),r2.2.2.1,r2.2.2.2.1,r2.2.2.2.2.1,r2.2.2.2.2.2.1,r2.2.2.2.2.2.2.1,r2.2.2.2.2.2.2.2.1,r2.2.2.2.2.2.2.2.2.1,()))
 (none)))
 (none)))
def iT:aqf->aqg->Option Wv:=fun a b=>qJ fB eL a.1 a.2.1 b.1.1 b.1.2.1 b.1.2.2.1 b.2.1 b.2.2.1 b.2.2.2.1 b.2.2.2.2.1 b.2.2.2.2.2.1 b.2.2.2.2.2.2.1 b.2.2.2.2.2.2.2.1 some
theorem aA8 (fB:i8->i9->Option nA) (eL:iu->iw->Option l8) (c d e g h i j l m n o p) {α:Type} (K:Wv->Option α):qJ fB eL c d e g h i j l m n o p K=(qJ fB eL c d e g h i j l m n o p some).bind K:=by simp only [qJ,af,ab,ac,ae,ah]
def yJ:aC:=(.cons abd .nil)
def CU:aS:=[]
def yK:List aA:=[⟨lB,[]⟩]
abbrev aqi:Type:=(List (List Int)×Unit)
abbrev aqj:Type:=Unit
abbrev Ww:Type:=Bool×Unit
abbrev aA9:=aqi->aqj->Option Ww
def nC:aC:=(dz 3 (.cons lI (dz 11 (.cons abd (.cons lI (.cons lI (dz 12 .nil)))))))
def qK:aS:=[]
def tz:List eh:=[⟨.ret,(dz 2 (.cons lB (dz 27 .nil))),[]⟩,⟨(.exit 0),(dz 30 .nil),[]⟩]
abbrev ke:Type:=(Int×List (List Int)×Int×Int×Unit)
abbrev kf:Type:=Unit
abbrev qL:Type:=((Bool×Unit)×Unit)⊕(Unit×Unit)
def eM {α:Type} (c:Int) (d:List (List Int)) (e:Int) (g:Int) (kn:ke->kf->Option α) (kr:qL->Option α):Option α :=
 cond (decide (g<e))
 (cond (decide (0<=g))
 (cond (decide (g<(↑d.length:Int)))
 (cond (decide (0<=IntKind.i64.wrap (c-g)))
 (cond ((↑(d.getD g.toNat []).length:Int) != IntKind.i64.wrap (1*2 ^ Min.min (IntKind.i64.wrap (c-g)).toNat 64))
 (kr (.inl ((false,()),())))
 (kn (c,d,e,IntKind.i64.wrap (g+1),()) ()))
 (none))
 (none))
 (none))
 (kr (.inr ((),())))
def gE:ke->kf->Option qL:=fun x y=>dP (fun p=>(fun (a:ke) (b:kf)=>eM a.1 a.2.1 a.2.2.1 a.2.2.2.1 (fun a' b'=>some (.inl (a',b'))) fun r=>some (.inr r)) p.1 p.2) (x,y)
theorem Qk (c d e g) {α:Type} (kn:ke->kf->Option α) (kr:qL->Option α):eM c d e g kn kr=(eM c d e g (fun a b=>some (.inl (a,b))) fun r=>some (.inr r)).bind (Sum.elim (fun p:ke×kf=>kn p.1 p.2) kr):=by simp only [eM,af,ab,ac,ae,ah,Sum.elim_inl,Sum.elim_inr]
theorem Ql (c d e g):gE (c,d,e,g,()) ()=eM c d e g gE some:=aX (A:=ke) (B:=kf) (R:=qL) (fun a b kn kr=>eM a.1 a.2.1 a.2.2.1 a.2.2.2.1 kn kr) (fun a b kn kr=>Qk a.1 a.2.1 a.2.2.1 a.2.2.2.1 kn kr) (c,d,e,g,()) ()
def qM (gE:ke->kf->Option qL) {α:Type} (c:List (List Int)) (K:Ww->Option α):Option α :=
 cond (decide (IntKind.i64.wrap ((↑c.length:Int)-1)<0))
 (K (false,()))
 (cond (decide (IntKind.i64.wrap ((↑c.length:Int)-1)>8))
 (K (false,()))
 ((gE (IntKind.i64.wrap ((↑c.length:Int)-1),c,(↑c.length:Int),0,()) ()).bind fun r1 =>
 Sum.elim (fun u2 =>
 K (u2.1.1,()))
 (fun u2 =>
 K (true,())) (r1)))
def qN:aqi->aqj->Option Ww:=fun a b=>qM gE a.1 some
theorem aBa (gE:ke->kf->Option qL) (c) {α:Type} (K:Ww->Option α):qM gE c K=(qM gE c some).bind K:=by simp only [qM,af,ab,ac,ae,ah]
theorem at6 (c):qN (c,()) ()=qM gE c some:=rfl
def CV:aC:=(sL [abd,lI])
def HQ:aS:=[]
def CW:List aA:=[⟨(.tup (sL [ip,lB])),[]⟩]
abbrev aqk:Type:=(List (List Int)×Int×Unit)
abbrev aql:Type:=Unit
abbrev Wx:Type:=(List Int×Bool×Unit)×Unit
abbrev aA5:=aqk->aql->Option Wx
def nD:aC:=(.cons abd (.cons lI (dz 4 (.cons (cW 506) (dz 18 (.cons lI (.cons lI (dz 17 .nil))))))))
def qO:aS:=[(506,.row 38 pn)]
def tA:List eh:=[⟨(.exit 0),(dz 6 (.cons (cW 506) (dz 37 .nil))),[(506,.row 38 pn)]⟩]
abbrev kg:Type:=(List (List Int)×Int×Int×Int×Unit)
abbrev kh:Type:=pZ
abbrev qP:Type:=Unit×pZ
def eN {α:Type} (c:List (List Int)) (d:Int) (e:Int) (g:Int) (h:List Int) (kn:kg->kh->Option α) (kr:qP->Option α):Option α :=
 cond (decide (g<e))
 (cond (decide (0<=g))
 (cond (decide (g<(↑c.length:Int)))
 (cond (decide (0<=g))
 (cond (decide (0<=IntKind.i64.wrap (↑(BitVec.ofInt 64 (d.fdiv (2 ^ Min.min g.toNat 64)) ^^^ BitVec.ofInt 64 1).toNat:Int)))
 (cond (decide (IntKind.i64.wrap (↑(BitVec.ofInt 64 (d.fdiv (2 ^ Min.min g.toNat 64)) ^^^ BitVec.ofInt 64 1).toNat:Int)<(↑(c.getD g.toNat []).length:Int)))
 (cond (decide ((h.length+([]++[(c.getD g.toNat []).getD (IntKind.i64.wrap (↑(BitVec.ofInt 64 (d.fdiv (2 ^ Min.min g.toNat 64)) ^^^ BitVec.ofInt 64 1).toNat:Int)).toNat 0]).length)*8<=140737488355328))
 (kn (c,d,e,IntKind.i64.wrap (g+1),()) (h++([]++[(c.getD g.toNat []).getD (IntKind.i64.wrap (↑(BitVec.ofInt 64 (d.fdiv (2 ^ Min.min g.toNat 64)) ^^^ BitVec.ofInt 64 1).toNat:Int)).toNat 0]),()))
 (none))
 (none))
 (none))
 (none))
 (none))
 (none))
 (kr ((),h,()))
def gF:kg->kh->Option qP:=fun x y=>dP (fun p=>(fun (a:kg) (b:kh)=>eN a.1 a.2.1 a.2.2.1 a.2.2.2.1 b.1 (fun a' b'=>some (.inl (a',b'))) fun r=>some (.inr r)) p.1 p.2) (x,y)
theorem Qm (c d e g h) {α:Type} (kn:kg->kh->Option α) (kr:qP->Option α):eN c d e g h kn kr=(eN c d e g h (fun a b=>some (.inl (a,b))) fun r=>some (.inr r)).bind (Sum.elim (fun p:kg×kh=>kn p.1 p.2) kr):=by simp only [eN,af,ab,ac,ae,ah,Sum.elim_inl,Sum.elim_inr]
theorem Qn (c d e g h):gF (c,d,e,g,()) (h,())=eN c d e g h gF some:=aX (A:=kg) (B:=kh) (R:=qP) (fun a b kn kr=>eN a.1 a.2.1 a.2.2.1 a.2.2.2.1 b.1 kn kr) (fun a b kn kr=>Qm a.1 a.2.1 a.2.2.1 a.2.2.2.1 b.1 kn kr) (c,d,e,g,()) (h,())
def qQ (qN:aA9) (gF:kg->kh->Option qP) {α:Type} (c:List (List Int)) (d:Int) (K:Wx->Option α):Option α :=
 (qN (c,()) ()).bind fun r1 =>
 cond (!r1.1)
 (K (([],false,()),()))
 (cond (decide (d<0))
 (K (([],false,()),()))
 (cond (decide (0<(↑c.length:Int)))
 (cond (decide (d≥(↑(c.getD 0 []).length:Int)))
 (K (([],false,()),()))
 ((gF (c,d,IntKind.i64.wrap ((↑c.length:Int)-1),0,()) ([],())).bind fun r2 =>
 K ((r2.2.1,true,()),())))
 (none)))
def xX:aqk->aql->Option Wx:=fun a b=>qQ qN gF a.1 a.2.1 some
theorem aBb (qN) (gF:kg->kh->Option qP) (c d) {α:Type} (K:Wx->Option α):qQ qN gF c d K=(qQ qN gF c d some).bind K:=by simp only [qQ,af,ab,ac,ae,ah]
theorem at7 (c d):xX (c,d,()) ()=qQ qN gF c d some:=rfl
def qR:aC:=(sL [(cP 0),lS,lI,ip])
def xr:aS:=BX
def qS:List aA:=[⟨(.tup (sL [lU,lB])),BX⟩]
abbrev aqm:Type:=(ByteArray×Int×List Int×Unit)
abbrev aqn:Type:=jv
abbrev Wy:Type:=(Int×Bool×Unit)×jv
abbrev ade:=aqm->aqn->Option Wy
def nE:aC:=(.cons (cP 0) (.cons (.const .dead) (.cons lI (dz 7 (.cons lU (dz 19 (.cons ip (.cons lI (.cons lI (dz 13 .nil))))))))))
def qT:aS:=BX
def tB:List eh:=[⟨(.exit 0),(dz 10 (.cons lU (dz 35 .nil))),BX⟩]
abbrev ki:Type:=(Int×Int×List Int×Int×Int×Unit)
abbrev kj:Type:=jv
abbrev qU:Type:=(Int×Unit)×jv
def eO (nF:aBc) {α:Type} (c:Int) (d:Int) (e:List Int) (g:Int) (h:Int) (i:List Int) (j:Int) (l:Bool) (m:Y1) (n:Y1) (o:Y2) (p:Y3) (q:Y4) (s:Y5) (t:Yb) (kn:ki->kj->Option α) (kr:qU->Option α):Option α :=
 cond (decide (h<g))
 (cond (decide (0<=h))
 (cond (decide (h<(↑e.length:Int)))
 (cond (decide (0<=h))
 ((nF (d,e.getD h.toNat 0,c.fdiv (2 ^ Min.min h.toNat 64),()) ((i,j,l,()),m,n,o,p,q,s,t,())).bind fun r1 =>
 kn (c,r1.1,e,g,IntKind.i64.wrap (h+1),()) ((r1.2.1.1,r1.2.1.2.1,r1.2.1.2.2.1,()),r1.2.2.1,r1.2.2.2.1,r1.2.2.2.2.1,r1.2.2.2.2.2.1,r1.2.2.2.2.2.2.1,r1.2.2.2.2.2.2.2.1,r1.2.2.2.2.2.2.2.2.1,()))
 (none))
 (none))
 (none))
 (kr ((d,()),(i,j,l,()),m,n,o,p,q,s,t,()))
def gG:ki->kj->Option qU:=fun x y=>dP (fun p=>(fun (a:ki) (b:kj)=>eO nF a.1 a.2.1 a.2.2.1 a.2.2.2.1 a.2.2.2.2.1 b.1.1 b.1.2.1 b.1.2.2.1 b.2.1 b.2.2.1 b.2.2.2.1 b.2.2.2.2.1 b.2.2.2.2.2.1 b.2.2.2.2.2.2.1 b.2.2.2.2.2.2.2.1 (fun a' b'=>some (.inl (a',b'))) fun r=>some (.inr r)) p.1 p.2) (x,y)
theorem Qo (nF) (c d e g h i j l m n o q s t v) {α:Type} (kn:ki->kj->Option α) (kr:qU->Option α):eO nF c d e g h i j l m n o q s t v kn kr=(eO nF c d e g h i j l m n o q s t v (fun a b=>some (.inl (a,b))) fun r=>some (.inr r)).bind (Sum.elim (fun p:ki×kj=>kn p.1 p.2) kr):=by simp only [eO,af,ab,ac,ae,ah,Sum.elim_inl,Sum.elim_inr]
theorem Qp (c d e g h i j l m n o p q s t):gG (c,d,e,g,h,()) ((i,j,l,()),m,n,o,p,q,s,t,())=eO nF c d e g h i j l m n o p q s t gG some:=aX (A:=ki) (B:=kj) (R:=qU) (fun a b kn kr=>eO nF a.1 a.2.1 a.2.2.1 a.2.2.2.1 a.2.2.2.2.1 b.1.1 b.1.2.1 b.1.2.2.1 b.2.1 b.2.2.1 b.2.2.2.1 b.2.2.2.2.1 b.2.2.2.2.2.1 b.2.2.2.2.2.2.1 b.2.2.2.2.2.2.2.1 kn kr) (fun a b kn kr=>Qo nF a.1 a.2.1 a.2.2.1 a.2.2.2.1 a.2.2.2.2.1 b.1.1 b.1.2.1 b.1.2.2.1 b.2.1 b.2.2.1 b.2.2.2.1 b.2.2.2.2.1 b.2.2.2.2.2.1 b.2.2.2.2.2.2.1 b.2.2.2.2.2.2.2.1 kn kr) (c,d,e,g,h,()) ((i,j,l,()),m,n,o,p,q,s,t,())
def qV (dI:aqh) (gG:ki->kj->Option qU) {α:Type} (c:ByteArray) (d:Int) (e:List Int) (g:List Int) (h:Int) (i:Bool) (j:Y1) (l:Y1) (m:Y2) (n:Y3) (o:Y4) (p:Y5) (q:Yb) (K:Wy->Option α):Option α :=
 cond (decide ((↑e.length:Int)>8))
 (K ((0,false,()),(g,h,i,()),j,l,m,n,o,p,q,()))
 (cond (decide (d<0))
 (K ((0,false,()),(g,h,i,()),j,l,m,n,o,p,q,()))
 (cond (decide (d≥IntKind.i64.wrap (1*2 ^ Min.min (↑e.length:Int).toNat 64)))
 (K ((0,false,()),(g,h,i,()),j,l,m,n,o,p,q,()))
 ((dI (c,()) ((g,h,i,()),j,l,m,n,o,p,q,())).bind fun r1 =>
 (gG (d,r1.1,e,(↑e.length:Int),0,()) ((r1.2.1.1,r1.2.1.2.1,r1.2.1.2.2.1,()),r1.2.2.1,r1.2.2.2.1,r1.2.2.2.2.1,r1.2.2.2.2.2.1,r1.2.2.2.2.2.2.1,r1.2.2.2.2.2.2.2.1,r1.2.2.2.2.2.2.2.2.1,())).bind fun r2 =>
 K ((r2.1.1,true,()),(r2.2.1.1,r2.2.1.2.1,r2.2.1.2.2.1,()),r2.2.2.1,r2.2.2.2.1,r2.2.2.2.2.1,r2.2.2.2.2.2.1,r2.2.2.2.2.2.2.1,r2.2.2.2.2.2.2.2.1,r2.2.2.2.2.2.2.2.2.1,()))))
def cT:aqm->aqn->Option Wy:=fun a b=>qV dI gG a.1 a.2.1 a.2.2.1 b.1.1 b.1.2.1 b.1.2.2.1 b.2.1 b.2.2.1 b.2.2.2.1 b.2.2.2.2.1 b.2.2.2.2.2.1 b.2.2.2.2.2.2.1 b.2.2.2.2.2.2.2.1 some
theorem aBd (dI) (gG:ki->kj->Option qU) (c d e g h i j l m n o p q) {α:Type} (K:Wy->Option α):qV dI gG c d e g h i j l m n o p q K=(qV dI gG c d e g h i j l m n o p q some).bind K:=by simp only [qV,af,ab,ac,ae,ah]
end
end Go.Proofs.YtljfdfghagiblaaGreat.S2