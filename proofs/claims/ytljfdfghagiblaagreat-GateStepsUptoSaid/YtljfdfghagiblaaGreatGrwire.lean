/- Plain forms of the program's functions,by program. -/
import Derived.Test.YtljfdfghagiblaaGreatGwire
import Derived.Test.YtljfdfghagiblaaGreatS2y
import Derived.Lib.Repeat
set_option maxRecDepth 100000
set_option maxHeartbeats 0
namespace Go.Proofs.YtljfdfghagiblaaGreat.S2
open Go
noncomputable section
def nG:aC:=(sL [(cP 0),lS])
def tC:aS:=BX
def nH:List aA:=[⟨lU,BX⟩]
abbrev aqo:Type:=ux
abbrev aqp:Type:=jv
abbrev Wz:Type:=Int×jv
abbrev aqh:=aqo->aqp->Option Wz
def qW (gS:ap7) {α:Type} (c:ByteArray) (d:List Int) (e:Int) (g:Bool) (h:Y1) (i:Y1) (j:Y2) (l:Y3) (m:Y4) (n:Y5) (o:Yb) (K:Wz->Option α):Option α :=
 cond (decide (4+c.size<=9223372036854775807))
 ((gS ((ByteArray.mk #[108,101,97,102])++c,()) ((d,e,g,()),h,i,j,l,m,n,o,())).bind fun r1 =>
 K (r1.1,(r1.2.1.1,r1.2.1.2.1,r1.2.1.2.2.1,()),r1.2.2.1,r1.2.2.2.1,r1.2.2.2.2.1,r1.2.2.2.2.2.1,r1.2.2.2.2.2.2.1,r1.2.2.2.2.2.2.2.1,r1.2.2.2.2.2.2.2.2.1,()))
 (none)
def dI:aqo->aqp->Option Wz:=fun a b=>qW gS a.1 b.1.1 b.1.2.1 b.1.2.2.1 b.2.1 b.2.2.1 b.2.2.2.1 b.2.2.2.2.1 b.2.2.2.2.2.1 b.2.2.2.2.2.2.1 b.2.2.2.2.2.2.2.1 some
theorem aBe (gS) (c d e g h i j l m n o) {α:Type} (K:Wz->Option α):qW gS c d e g h i j l m n o K=(qW gS c d e g h i j l m n o some).bind K:=by simp only [qW,af,ab,ac,ae,ah]
theorem at8 (c d e g h i j l m n o):dI (c,()) ((d,e,g,()),h,i,j,l,m,n,o,())=qW gS c d e g h i j l m n o some:=rfl
def uM:aC:=(sL [(cP 0),lU,lU])
def zY:aS:=BX
def uN:List aA:=[⟨lU,BX⟩]
abbrev VD:Type:=Ht
abbrev IJ:Type:=jv
abbrev IK:Type:=Int×jv
abbrev aBf:=VD->IJ->Option IK
def qX (be:Mq) (gS:ap7) {α:Type} (c:Int) (d:Int) (e:List Int) (g:Int) (h:Bool) (i:Y1) (j:Y1) (l:Y2) (m:Y3) (n:Y4) (o:Y5) (p:Yb) (K:IK->Option α):Option α :=
 (be (c,()) ()).bind fun r1 =>
 cond (decide (4+r1.1.size<=9223372036854775807))
 ((be (d,()) ()).bind fun r2 =>
 cond (decide (((ByteArray.mk #[110,111,100,101])++r1.1).size+r2.1.size<=9223372036854775807))
 ((gS ((ByteArray.mk #[110,111,100,101])++r1.1++r2.1,()) ((e,g,h,()),i,j,l,m,n,o,p,())).bind fun r3 =>
 K (r3.1,(r3.2.1.1,r3.2.1.2.1,r3.2.1.2.2.1,()),r3.2.2.1,r3.2.2.2.1,r3.2.2.2.2.1,r3.2.2.2.2.2.1,r3.2.2.2.2.2.2.1,r3.2.2.2.2.2.2.2.1,r3.2.2.2.2.2.2.2.2.1,()))
 (none))
 (none)
def gh:VD->IJ->Option IK:=fun a b=>qX be gS a.1 a.2.1 b.1.1 b.1.2.1 b.1.2.2.1 b.2.1 b.2.2.1 b.2.2.2.1 b.2.2.2.2.1 b.2.2.2.2.2.1 b.2.2.2.2.2.2.1 b.2.2.2.2.2.2.2.1 some
theorem aBg (be gS) (c d e g h i j l m n o p) {α:Type} (K:IK->Option α):qX be gS c d e g h i j l m n o p K=(qX be gS c d e g h i j l m n o p some).bind K:=by simp only [qX,af,ab,ac,ae,ah]
theorem at9 (c d e g h i j l m n o p):gh (c,d,()) ((e,g,h,()),i,j,l,m,n,o,p,())=qX be gS c d e g h i j l m n o p some:=rfl
def yL:aC:=(sL [(cP 0),lU,lU,lI])
def CX:aS:=BX
def yM:List aA:=[⟨lU,BX⟩]
abbrev aqq:Type:=cr
abbrev aqr:Type:=jv
abbrev WA:Type:=Int×jv
abbrev aBc:=aqq->aqr->Option WA
def qY (gh:aBf) {α:Type} (c:Int) (d:Int) (e:Int) (g:List Int) (h:Int) (i:Bool) (j:Y1) (l:Y1) (m:Y2) (n:Y3) (o:Y4) (p:Y5) (q:Yb) (K:WA->Option α):Option α :=
 cond (IntKind.i64.wrap (↑(BitVec.ofInt 64 e &&& BitVec.ofInt 64 1).toNat:Int)==1)
 ((gh (d,c,()) ((g,h,i,()),j,l,m,n,o,p,q,())).bind fun r1 =>
 K (r1.1,(r1.2.1.1,r1.2.1.2.1,r1.2.1.2.2.1,()),r1.2.2.1,r1.2.2.2.1,r1.2.2.2.2.1,r1.2.2.2.2.2.1,r1.2.2.2.2.2.2.1,r1.2.2.2.2.2.2.2.1,r1.2.2.2.2.2.2.2.2.1,()))
 ((gh (c,d,()) ((g,h,i,()),j,l,m,n,o,p,q,())).bind fun r2 =>
 K (r2.1,(r2.2.1.1,r2.2.1.2.1,r2.2.1.2.2.1,()),r2.2.2.1,r2.2.2.2.1,r2.2.2.2.2.1,r2.2.2.2.2.2.1,r2.2.2.2.2.2.2.1,r2.2.2.2.2.2.2.2.1,r2.2.2.2.2.2.2.2.2.1,()))
def nF:aqq->aqr->Option WA:=fun a b=>qY gh a.1 a.2.1 a.2.2.1 b.1.1 b.1.2.1 b.1.2.2.1 b.2.1 b.2.2.1 b.2.2.2.1 b.2.2.2.2.1 b.2.2.2.2.2.1 b.2.2.2.2.2.2.1 b.2.2.2.2.2.2.2.1 some
theorem aBh (gh) (c d e g h i j l m n o p q) {α:Type} (K:WA->Option α):qY gh c d e g h i j l m n o p q K=(qY gh c d e g h i j l m n o p q some).bind K:=by simp only [qY,af,ab,ac,ae,ah]
theorem aua (c d e g h i j l m n o p q):nF (c,d,e,()) ((g,h,i,()),j,l,m,n,o,p,q,())=qY gh c d e g h i j l m n o p q some:=rfl
end
noncomputable section
def la:aC:=(.cons lU .nil)
def o3:aS:=[]
def lc:List aA:=[⟨lS,[]⟩]
abbrev ar0:Type:=(Int×Unit)
abbrev ar1:Type:=Unit
abbrev Xw:Type:=ByteArray×Unit
abbrev QB:=ar0->ar1->Option Xw
def n8:aC:=(.cons lU (dz 2 (.cons (cW 503) (dz 19 .nil))))
def si:aS:=[(503,.row 5 S7)]
def tZ:List eh:=[⟨(.exit 0),(.cons lU (dz 2 (.cons (cW 503) (dz 19 .nil)))),[(503,.row 5 S7)]⟩]
abbrev lg:Type:=(Int×Unit)
abbrev lh:Type:=pZ
abbrev sj:Type:=(Int×Unit)×pZ
def cm {α:Type} (c:Int) (d:List Int) (kn:lg->lh->Option α) (kr:sj->Option α):Option α :=
 cond (decide (c>127))
 (cond (decide ((d.length+1)*1<=140737488355328))
 (kn (IntKind.u64.wrap (c.tdiv 128),()) (d++([]++[IntKind.u8.wrap (IntKind.u64.wrap (c.tmod 128+128))]),()))
 (none))
 (kr ((c,()),d,()))
def ga:lg->lh->Option sj:=fun x y=>dP (fun p=>(fun (a:lg) (b:lh)=>cm a.1 b.1 (fun a' b'=>some (.inl (a',b'))) fun r=>some (.inr r)) p.1 p.2) (x,y)
theorem Q1 (c d) {α:Type} (kn:lg->lh->Option α) (kr:sj->Option α):cm c d kn kr=(cm c d (fun a b=>some (.inl (a,b))) fun r=>some (.inr r)).bind (Sum.elim (fun p:lg×lh=>kn p.1 p.2) kr):=by simp only [cm,af,ab,ac,ae,ah,Sum.elim_inl,Sum.elim_inr]
theorem wz (c d):ga (c,()) (d,())=cm c d ga some:=aX (A:=lg) (B:=lh) (R:=sj) (fun a b kn kr=>cm a.1 b.1 kn kr) (fun a b kn kr=>Q1 a.1 b.1 kn kr) (c,()) (d,())
def n9 (ga:lg->lh->Option sj) {α:Type} (c:Int) (K:Xw->Option α):Option α :=
 (ga (c,()) ([],())).bind fun r1 =>
 cond (decide ((r1.2.1.length+1)*1<=140737488355328))
 (K (Go.strOfNums (r1.2.1++([]++[IntKind.u8.wrap r1.1.1])),()))
 (none)
def bj:ar0->ar1->Option Xw:=fun a b=>n9 ga a.1 some
theorem aCr (ga:lg->lh->Option sj) (c) {α:Type} (K:Xw->Option α):n9 ga c K=(n9 ga c some).bind K:=by simp only [n9,af,ab,ac,ae,ah]
theorem adW (c):bj (c,()) ()=n9 ga c some:=rfl
def DL:aC:=(.cons lS .nil)
def Ic:aS:=[]
def DM:List aA:=[⟨lS,[]⟩]
abbrev ar2:Type:=ux
abbrev ar3:Type:=Unit
abbrev Xx:Type:=ByteArray×Unit
abbrev aCg:=ar2->ar3->Option Xx
def sk (bj:QB) {α:Type} (c:ByteArray) (K:Xx->Option α):Option α :=
 (bj (IntKind.u64.wrap (↑c.size:Int),()) ()).bind fun r1 =>
 cond (decide (r1.1.size+c.size<=9223372036854775807))
 (K (r1.1++c,()))
 (none)
def wt:ar2->ar3->Option Xx:=fun a b=>sk bj a.1 some
theorem aCs (bj c) {α:Type} (K:Xx->Option α):sk bj c K=(sk bj c some).bind K:=by simp only [sk,af,ab,ac,ae,ah]
theorem auP (c):wt (c,()) ()=sk bj c some:=rfl
def sm:aC:=(.cons lS .nil)
def xw:aS:=[]
def sn:List aA:=[⟨(.tup (sL [lU,lS,lB])),[]⟩]
abbrev ar4:Type:=ux
abbrev ar5:Type:=Unit
abbrev Xy:Type:=P5×Unit
abbrev adR:=ar4->ar5->Option Xy
def oa:aC:=(.cons lS (dz 4 (.cons lU (.cons lU (.cons lI (dz 37 .nil))))))
def sq:aS:=[]
def t7:List eh:=[⟨(.exit 0),(dz 45 .nil),[]⟩,⟨.ret,(dz 2 (.cons lU (.cons lS (.cons lB (dz 40 .nil))))),[]⟩]
abbrev li:Type:=(ByteArray×Int×Int×Int×Unit)
abbrev lj:Type:=Unit
abbrev sr:Type:=(Unit×Unit)⊕(P5×Unit)
def fU (bj:QB) {α:Type} (c:ByteArray) (d:Int) (e:Int) (g:Int) (kn:li->lj->Option α) (kr:sr->Option α):Option α :=
 cond (decide (g<(↑c.size:Int)))
 (cond (decide (g<10))
 (cond (decide (0<=g))
 (cond (decide (g<(↑c.size:Int)))
 (cond (decide (IntKind.u64.wrap (dM c g)<128))
 ((bj (IntKind.u64.wrap (d+IntKind.u64.wrap (e*(IntKind.u64.wrap (dM c g)).tmod 128)),()) ()).bind fun r1 =>
 cond (decide (0<=IntKind.i64.wrap (g+1)))
 (cond (decide (IntKind.i64.wrap (g+1)<=(↑c.size:Int)))
 (cond (!r1.1.toList==(c.extract 0 (IntKind.i64.wrap (g+1)).toNat).toList)
 (kr (.inl ((),())))
 (cond (decide (0<=IntKind.i64.wrap (g+1)))
 (cond (decide (IntKind.i64.wrap (g+1)<=(↑c.size:Int)))
 (kr (.inr ((IntKind.u64.wrap (d+IntKind.u64.wrap (e*(IntKind.u64.wrap (dM c g)).tmod 128)),c.extract (IntKind.i64.wrap (g+1)).toNat c.size,true,()),())))
 (none))
 (none)))
 (none))
 (none))
 (kn (c,IntKind.u64.wrap (d+IntKind.u64.wrap (e*(IntKind.u64.wrap (dM c g)).tmod 128)),IntKind.u64.wrap (e*128),IntKind.i64.wrap (g+1),()) ()))
 (none))
 (none))
 (kr (.inl ((),()))))
 (kr (.inl ((),())))
def gO:li->lj->Option sr:=fun x y=>dP (fun p=>(fun (a:li) (b:lj)=>fU bj a.1 a.2.1 a.2.2.1 a.2.2.2.1 (fun a' b'=>some (.inl (a',b'))) fun r=>some (.inr r)) p.1 p.2) (x,y)
theorem Q2 (bj) (c d e g) {α:Type} (kn:li->lj->Option α) (kr:sr->Option α):fU bj c d e g kn kr=(fU bj c d e g (fun a b=>some (.inl (a,b))) fun r=>some (.inr r)).bind (Sum.elim (fun p:li×lj=>kn p.1 p.2) kr):=by simp only [fU,af,ab,ac,ae,ah,Sum.elim_inl,Sum.elim_inr]
theorem adX (c d e g):gO (c,d,e,g,()) ()=fU bj c d e g gO some:=aX (A:=li) (B:=lj) (R:=sr) (fun a b kn kr=>fU bj a.1 a.2.1 a.2.2.1 a.2.2.2.1 kn kr) (fun a b kn kr=>Q2 bj a.1 a.2.1 a.2.2.1 a.2.2.2.1 kn kr) (c,d,e,g,()) ()
def ss (gO:li->lj->Option sr) {α:Type} (c:ByteArray) (K:Xy->Option α):Option α :=
 (gO (c,0,1,0,()) ()).bind fun r1 =>
 Sum.elim (fun u2 =>
 K ((0,eB,false,()),()))
 (fun u2 =>
 K ((u2.1.1,u2.1.2.1,u2.1.2.2.1,()),())) (r1)
def cv:ar4->ar5->Option Xy:=fun a b=>ss gO a.1 some
theorem aCt (gO:li->lj->Option sr) (c) {α:Type} (K:Xy->Option α):ss gO c K=(ss gO c some).bind K:=by simp only [ss,af,ab,ac,ae,ah]
theorem auQ (c):cv (c,()) ()=ss gO c some:=rfl
def DN:aC:=(sL [lS,lI])
def Id:aS:=[]
def DO:List aA:=[⟨(.tup (sL [lS,lS,lB])),[]⟩]
abbrev ar6:Type:=Hu
abbrev ar7:Type:=Unit
abbrev Xz:Type:=(ByteArray×ByteArray×Bool×Unit)×Unit
abbrev aCk:=ar6->ar7->Option Xz
def su (cv:adR) {α:Type} (c:ByteArray) (d:Int) (K:Xz->Option α):Option α :=
 (cv (c,()) ()).bind fun r1 =>
 cond (!r1.1.2.2.1)
 (K ((eB,eB,false,()),()))
 (cond (decide (d<0))
 (K ((eB,eB,false,()),()))
 (cond (decide (r1.1.1>IntKind.u64.wrap d))
 (K ((eB,eB,false,()),()))
 (cond (decide (r1.1.1>IntKind.u64.wrap (↑r1.1.2.1.size:Int)))
 (K ((eB,eB,false,()),()))
 (cond (decide (0<=IntKind.i64.wrap r1.1.1))
 (cond (decide (IntKind.i64.wrap r1.1.1<=(↑r1.1.2.1.size:Int)))
 (cond (decide (0<=IntKind.i64.wrap r1.1.1))
 (cond (decide (IntKind.i64.wrap r1.1.1<=(↑r1.1.2.1.size:Int)))
 (K ((r1.1.2.1.extract 0 (IntKind.i64.wrap r1.1.1).toNat,r1.1.2.1.extract (IntKind.i64.wrap r1.1.1).toNat r1.1.2.1.size,true,()),()))
 (none))
 (none))
 (none))
 (none)))))
def ww:ar6->ar7->Option Xz:=fun a b=>su cv a.1 a.2.1 some
theorem aCu (cv) (c d) {α:Type} (K:Xz->Option α):su cv c d K=(su cv c d some).bind K:=by simp only [su,af,ab,ac,ae,ah]
theorem auR (c d):ww (c,d,()) ()=su cv c d some:=rfl
def DP:aC:=(sL [lS,lI])
def Ie:aS:=[]
def DQ:List aA:=[⟨(.tup (sL [ip,lS,lB])),[]⟩]
abbrev ar8:Type:=Hu
abbrev ar9:Type:=Unit
abbrev XA:Type:=(List Int×ByteArray×Bool×Unit)×Unit
abbrev aCj:=ar8->ar9->Option XA
def oc:aC:=(.cons lS (.cons lI (dz 5 (.cons (cW 507) (dz 23 .nil)))))
def sw:aS:=[(507,.row 38 pn)]
def t8:List eh:=[⟨.ret,(.cons lS (dz 3 (.cons (.const .nils) (.cons lS (.cons lB (.cons (cW 507) (dz 23 .nil))))))),[(507,.row 38 pn)]⟩,⟨(.exit 0),(.cons lS (dz 6 (.cons (cW 507) (dz 23 .nil)))),[(507,.row 38 pn)]⟩]
abbrev ll:Type:=Hu
abbrev lm:Type:=pZ
abbrev sx:Type:=((ByteArray×ByteArray×Bool×Unit)×pZ)⊕(ux×pZ)
def e9 (cv:adR) {α:Type} (c:ByteArray) (d:Int) (e:List Int) (kn:ll->lm->Option α) (kr:sx->Option α):Option α :=
 cond (decide ((↑e.length:Int)<d))
 ((cv (c,()) ()).bind fun r1 =>
 cond (!r1.1.2.2.1)
 (kr (.inl ((c,eB,false,()),e,())))
 (cond (decide ((e.length+1)*8<=140737488355328))
 (kn (r1.1.2.1,d,()) (e++([]++[r1.1.1]),()))
 (none)))
 (kr (.inr ((c,()),e,())))
def gb:ll->lm->Option sx:=fun x y=>dP (fun p=>(fun (a:ll) (b:lm)=>e9 cv a.1 a.2.1 b.1 (fun a' b'=>some (.inl (a',b'))) fun r=>some (.inr r)) p.1 p.2) (x,y)
theorem Q3 (cv) (c d e) {α:Type} (kn:ll->lm->Option α) (kr:sx->Option α):e9 cv c d e kn kr=(e9 cv c d e (fun a b=>some (.inl (a,b))) fun r=>some (.inr r)).bind (Sum.elim (fun p:ll×lm=>kn p.1 p.2) kr):=by simp only [e9,af,ab,ac,ae,ah,Sum.elim_inl,Sum.elim_inr]
theorem Q4 (c d e):gb (c,d,()) (e,())=e9 cv c d e gb some:=aX (A:=ll) (B:=lm) (R:=sx) (fun a b kn kr=>e9 cv a.1 a.2.1 b.1 kn kr) (fun a b kn kr=>Q3 cv a.1 a.2.1 b.1 kn kr) (c,d,()) (e,())
def sy (gb:ll->lm->Option sx) {α:Type} (c:ByteArray) (d:Int) (K:XA->Option α):Option α :=
 (gb (c,d,()) ([],())).bind fun r1 =>
 Sum.elim (fun u2 =>
 K (([],u2.1.2.1,u2.1.2.2.1,()),()))
 (fun u2 =>
 K ((u2.2.1,u2.1.1,true,()),())) (r1)
def wv:ar8->ar9->Option XA:=fun a b=>sy gb a.1 a.2.1 some
theorem aCv (gb:ll->lm->Option sx) (c d) {α:Type} (K:XA->Option α):sy gb c d K=(sy gb c d some).bind K:=by simp only [sy,af,ab,ac,ae,ah]
theorem auS (c d):wv (c,d,()) ()=sy gb c d some:=rfl
end
end Go.Proofs.YtljfdfghagiblaaGreat.S2