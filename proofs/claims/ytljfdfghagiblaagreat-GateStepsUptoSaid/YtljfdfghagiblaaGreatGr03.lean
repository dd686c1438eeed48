/- Plain forms of the program's functions,by program. -/
import Derived.Test.YtljfdfghagiblaaGreatS2y
import Derived.Lib.Repeat
set_option maxRecDepth 100000
set_option maxHeartbeats 0
namespace Go.Proofs.YtljfdfghagiblaaGreat.S2
open Go
noncomputable section
def vw:aC:=(.cons ip .nil)
def Am:aS:=[]
def vz:List aA:=[⟨(cP 0),BZ⟩]
abbrev aqs:Type:=pZ
abbrev aqt:Type:=Unit
abbrev WB:Type:=Unit×jw
abbrev az2:=aqs->aqt->Option WB
def qZ {α:Type} (c:List Int) (K:WB->Option α):Option α :=
 cond (decide ((0+c.length)*8<=140737488355328))
 (K ((),(0,()),[]++c,[],[],()))
 (none)
def oI:aqs->aqt->Option WB:=fun a b=>qZ a.1 some
theorem aBi (c) {α:Type} (K:WB->Option α):qZ c K=(qZ c some).bind K:=by simp only [qZ,af,ab,ac,ae,ah]
theorem aub (c):oI (c,()) ()=qZ c some:=rfl
def q0:aC:=(.cons (cP 0) .nil)
def xt:aS:=BZ
def CY:List aA:=[⟨lI,[]⟩]
abbrev WC:Type:=Unit
abbrev WD:Type:=jw
abbrev aqu:Type:=Int×Unit
abbrev azU:=WC->WD->Option aqu
def Fk:List aA:=[⟨lI,[(0,.cells (.cons (cW 1) (.cons (cW 2) (.cons (cW 3) (.cons lI .nil))))),(1,.row 38 (.cons (.int .u64) .nil)),(2,.row 153 (.cons (.int .i64) (.cons (.int .u64) (.cons (.int .u64) (.cons .str (.cons .str (.cons (.int .u64) .nil))))))),(3,.row 38 (.cons (.int .u64) .nil))]⟩]
abbrev Mr:Type:=Int×((Int×Unit)×List Int×(List (Int×Int×Int×ByteArray×ByteArray×Int))×List Int×Unit)
def q7 {α:Type} (c:Int) (d:List Int) (e:List bO) (g:List Int) (K:Mr->Option α):Option α :=
 K ((↑e.length:Int),(c,()),d,e,g,())
def ado:WC->WD->Option Mr:=fun a b=>q7 b.1.1 b.2.1 b.2.2.1 b.2.2.2.1 some
theorem abe (a:WC) (b:WD):cj (fun r:Mr=>r.2=b) (ado a b):=by
 show cj _ (q7 b.1.1 b.2.1 b.2.2.1 b.2.2.2.1 some)
 unfold q7
 repeat (first | (with_reducible refine bk fun _=>?_) | (with_reducible apply bm) | (with_reducible refine bD (fun _=>?_) (fun _=>?_)) | (with_reducible exact bn) | exact bp rfl)
def pU:WC->WD->Option aqu:=fun a b=>(ado a b).map fun r=>(r.1,())
theorem aBj (c d e g) {α:Type} (K:Mr->Option α):q7 c d e g K=(q7 c d e g some).bind K:=by simp only [q7,af,ab,ac,ae,ah]
def q8:aC:=(.cons (cP 0) .nil)
def xu:aS:=BZ
def CZ:List aA:=[⟨lB,[]⟩]
abbrev WE:Type:=Unit
abbrev WF:Type:=jw
abbrev aqv:Type:=Bool×Unit
abbrev azW:=WE->WF->Option aqv
def Fl:List aA:=[⟨lB,[(0,.cells (.cons (cW 1) (.cons (cW 2) (.cons (cW 3) (.cons lI .nil))))),(1,.row 38 (.cons (.int .u64) .nil)),(2,.row 153 (.cons (.int .i64) (.cons (.int .u64) (.cons (.int .u64) (.cons .str (.cons .str (.cons (.int .u64) .nil))))))),(3,.row 38 (.cons (.int .u64) .nil))]⟩]
abbrev Ms:Type:=Bool×((Int×Unit)×List Int×(List (Int×Int×Int×ByteArray×ByteArray×Int))×List Int×Unit)
def q9 {α:Type} (c:Int) (d:List Int) (e:List bO) (g:List Int) (K:Ms->Option α):Option α :=
 K (decide (c>0),(c,()),d,e,g,())
def adp:WE->WF->Option Ms:=fun a b=>q9 b.1.1 b.2.1 b.2.2.1 b.2.2.2.1 some
theorem abf (a:WE) (b:WF):cj (fun r:Ms=>r.2=b) (adp a b):=by
 show cj _ (q9 b.1.1 b.2.1 b.2.2.1 b.2.2.2.1 some)
 unfold q9
 repeat (first | (with_reducible refine bk fun _=>?_) | (with_reducible apply bm) | (with_reducible refine bD (fun _=>?_) (fun _=>?_)) | (with_reducible exact bn) | exact bp rfl)
def pW:WE->WF->Option aqv:=fun a b=>(adp a b).map fun r=>(r.1,())
theorem aBk (c d e g) {α:Type} (K:Ms->Option α):q9 c d e g K=(q9 c d e g some).bind K:=by simp only [q9,af,ab,ac,ae,ah]
def vA:aC:=Qc
def Ao:aS:=BZ
def IZ:List aA:=[⟨lB,[]⟩]
abbrev WG:Type:=(Int×Unit)
abbrev WH:Type:=jw
abbrev aqw:Type:=Bool×Unit
abbrev aqx:=WG->WH->Option aqw
def nI:aC:=(.cons (cP 0) (.cons lU (dz 3 (.cons lI (dz 19 .nil)))))
def ra:aS:=BZ
def tD:List eh:=[⟨.ret,(dz 4 (.cons lB (dz 20 .nil))),BZ⟩,⟨(.exit 0),(dz 25 .nil),BZ⟩]
abbrev ja:Type:=Ht
abbrev jb:Type:=jw
abbrev kl:Type:=((Bool×Unit)×jw)⊕(Unit×jw)
def dJ {α:Type} (c:Int) (d:Int) (e:Int) (g:List Int) (h:List bO) (i:List Int) (kn:ja->jb->Option α) (kr:kl->Option α):Option α :=
 cond (decide (d<(↑h.length:Int)))
 (cond (decide (0<=d))
 (cond (decide (d<(↑h.length:Int)))
 (cond ((h.getD (0+d.toNat) (0,0,0,eB,eB,0)).2.2.2.2.2==c)
 (kr (.inl ((true,()),(e,()),g,h,i,())))
 (kn (c,IntKind.i64.wrap (d+1),()) ((e,()),g,h,i,())))
 (none))
 (none))
 (kr (.inr ((),(e,()),g,h,i,())))
def fC:ja->jb->Option kl:=fun x y=>dP (fun p=>(fun (a:ja) (b:jb)=>dJ a.1 a.2.1 b.1.1 b.2.1 b.2.2.1 b.2.2.2.1 (fun a' b'=>some (.inl (a',b'))) fun r=>some (.inr r)) p.1 p.2) (x,y)
theorem Qq (c d e g h i) {α:Type} (kn:ja->jb->Option α) (kr:kl->Option α):dJ c d e g h i kn kr=(dJ c d e g h i (fun a b=>some (.inl (a,b))) fun r=>some (.inr r)).bind (Sum.elim (fun p:ja×jb=>kn p.1 p.2) kr):=by simp only [dJ,af,ab,ac,ae,ah,Sum.elim_inl,Sum.elim_inr]
theorem Qr (c d e g h i):fC (c,d,()) ((e,()),g,h,i,())=dJ c d e g h i fC some:=aX (A:=ja) (B:=jb) (R:=kl) (fun a b kn kr=>dJ a.1 a.2.1 b.1.1 b.2.1 b.2.2.1 b.2.2.2.1 kn kr) (fun a b kn kr=>Qq a.1 a.2.1 b.1.1 b.2.1 b.2.2.1 b.2.2.2.1 kn kr) (c,d,()) ((e,()),g,h,i,())
def Fm:List aA:=[⟨lB,[(0,.cells (.cons (cW 1) (.cons (cW 2) (.cons (cW 3) (.cons lI .nil))))),(1,.row 38 (.cons (.int .u64) .nil)),(2,.row 153 (.cons (.int .i64) (.cons (.int .u64) (.cons (.int .u64) (.cons .str (.cons .str (.cons (.int .u64) .nil))))))),(3,.row 38 (.cons (.int .u64) .nil))]⟩]
abbrev Mt:Type:=Bool×((Int×Unit)×List Int×(List (Int×Int×Int×ByteArray×ByteArray×Int))×List Int×Unit)
def ko (fC:ja->jb->Option kl) {α:Type} (c:Int) (d:Int) (e:List Int) (g:List bO) (h:List Int) (K:Mt->Option α):Option α :=
 (fC (c,0,()) ((d,()),e,g,h,())).bind fun r1 =>
 Sum.elim (fun u2 =>
 K (u2.1.1,(u2.2.1.1,()),u2.2.2.1,u2.2.2.2.1,u2.2.2.2.2.1,()))
 (fun u2 =>
 K (false,(u2.2.1.1,()),u2.2.2.1,u2.2.2.2.1,u2.2.2.2.2.1,())) (r1)
def adq:WG->WH->Option Mt:=fun a b=>ko fC a.1 b.1.1 b.2.1 b.2.2.1 b.2.2.2.1 some
theorem adr (x:ja) (y:jb):cj (fun r:kl=>((Sum.elim (fun r=>r.2=y) (fun r=>r.2=y)):kl->Prop) r) (fC x y):=by
 refine Ab (fun s=>s.2=y) (fun s hs=>?_) rfl
 obtain ⟨a,b⟩:=s
 cases hs
 dsimp only
 unfold dJ
 repeat (first | (with_reducible refine bk fun _=>?_) | (with_reducible apply bm) | (with_reducible refine bD (fun _=>?_) (fun _=>?_)) | (with_reducible exact bn) | exact bp rfl)
theorem abg (a:WG) (b:WH):cj (fun r:Mt=>r.2=b) (adq a b):=by
 show cj _ (ko fC a.1 b.1.1 b.2.1 b.2.2.1 b.2.2.2.1 some)
 unfold ko
 repeat (first | ((with_reducible refine xd (adr _ _) fun r hr=>?_); first | (rcases r with r | r<;>(have hr:r.2=_:=hr; obtain ⟨r1,r2⟩:=r; cases hr; simp only [Sum.elim_inl,Sum.elim_inr])) | (have hr:r.2=_:=hr; obtain ⟨r1,r2⟩:=r; cases hr)) | (with_reducible refine bk fun _=>?_) | (with_reducible apply bm) | (with_reducible refine bD (fun _=>?_) (fun _=>?_)) | (with_reducible exact bn) | exact bp rfl)
def gT:WG->WH->Option aqw:=fun a b=>(adq a b).map fun r=>(r.1,())
theorem aBl (fC:ja->jb->Option kl) (c d e g h) {α:Type} (K:Mt->Option α):ko fC c d e g h K=(ko fC c d e g h some).bind K:=by simp only [ko,af,ab,ac,ae,ah]
theorem auc (c d e g h):gT (c,()) ((d,()),e,g,h,())=(ko fC c d e g h some).map fun r=>(r.1,()):=rfl
def yN:aC:=Qc
def C0:aS:=BZ
def Qs:List aA:=[⟨lB,[]⟩]
abbrev WI:Type:=(Int×Unit)
abbrev WJ:Type:=jw
abbrev aqy:Type:=Bool×Unit
abbrev aBm:=WI->WJ->Option aqy
def nJ:aC:=(.cons (cP 0) (.cons lU (dz 3 (.cons lI (dz 18 .nil)))))
def rb:aS:=BZ
def tE:List eh:=[⟨.ret,(dz 4 (.cons lB (dz 19 .nil))),BZ⟩,⟨(.exit 0),(dz 24 .nil),BZ⟩]
abbrev jc:Type:=Ht
abbrev jd:Type:=jw
abbrev kp:Type:=((Bool×Unit)×jw)⊕(Unit×jw)
def dK {α:Type} (c:Int) (d:Int) (e:Int) (g:List Int) (h:List bO) (i:List Int) (kn:jc->jd->Option α) (kr:kp->Option α):Option α :=
 cond (decide (d<(↑i.length:Int)))
 (cond (decide (0<=d))
 (cond (decide (d<(↑i.length:Int)))
 (cond (i.getD (0+d.toNat) 0==c)
 (kr (.inl ((true,()),(e,()),g,h,i,())))
 (kn (c,IntKind.i64.wrap (d+1),()) ((e,()),g,h,i,())))
 (none))
 (none))
 (kr (.inr ((),(e,()),g,h,i,())))
def fD:jc->jd->Option kp:=fun x y=>dP (fun p=>(fun (a:jc) (b:jd)=>dK a.1 a.2.1 b.1.1 b.2.1 b.2.2.1 b.2.2.2.1 (fun a' b'=>some (.inl (a',b'))) fun r=>some (.inr r)) p.1 p.2) (x,y)
theorem Qt (c d e g h i) {α:Type} (kn:jc->jd->Option α) (kr:kp->Option α):dK c d e g h i kn kr=(dK c d e g h i (fun a b=>some (.inl (a,b))) fun r=>some (.inr r)).bind (Sum.elim (fun p:jc×jd=>kn p.1 p.2) kr):=by simp only [dK,af,ab,ac,ae,ah,Sum.elim_inl,Sum.elim_inr]
theorem Qu (c d e g h i):fD (c,d,()) ((e,()),g,h,i,())=dK c d e g h i fD some:=aX (A:=jc) (B:=jd) (R:=kp) (fun a b kn kr=>dK a.1 a.2.1 b.1.1 b.2.1 b.2.2.1 b.2.2.2.1 kn kr) (fun a b kn kr=>Qt a.1 a.2.1 b.1.1 b.2.1 b.2.2.1 b.2.2.2.1 kn kr) (c,d,()) ((e,()),g,h,i,())
def Fn:List aA:=[⟨lB,[(0,.cells (.cons (cW 1) (.cons (cW 2) (.cons (cW 3) (.cons lI .nil))))),(1,.row 38 (.cons (.int .u64) .nil)),(2,.row 153 (.cons (.int .i64) (.cons (.int .u64) (.cons (.int .u64) (.cons .str (.cons .str (.cons (.int .u64) .nil))))))),(3,.row 38 (.cons (.int .u64) .nil))]⟩]
abbrev Mu:Type:=Bool×((Int×Unit)×List Int×(List (Int×Int×Int×ByteArray×ByteArray×Int))×List Int×Unit)
def kq (fD:jc->jd->Option kp) {α:Type} (c:Int) (d:Int) (e:List Int) (g:List bO) (h:List Int) (K:Mu->Option α):Option α :=
 (fD (c,0,()) ((d,()),e,g,h,())).bind fun r1 =>
 Sum.elim (fun u2 =>
 K (u2.1.1,(u2.2.1.1,()),u2.2.2.1,u2.2.2.2.1,u2.2.2.2.2.1,()))
 (fun u2 =>
 K (false,(u2.2.1.1,()),u2.2.2.1,u2.2.2.2.1,u2.2.2.2.2.1,())) (r1)
def ads:WI->WJ->Option Mu:=fun a b=>kq fD a.1 b.1.1 b.2.1 b.2.2.1 b.2.2.2.1 some
theorem adt (x:jc) (y:jd):cj (fun r:kp=>((Sum.elim (fun r=>r.2=y) (fun r=>r.2=y)):kp->Prop) r) (fD x y):=by
 refine Ab (fun s=>s.2=y) (fun s hs=>?_) rfl
 obtain ⟨a,b⟩:=s
 cases hs
 dsimp only
 unfold dK
 repeat (first | (with_reducible refine bk fun _=>?_) | (with_reducible apply bm) | (with_reducible refine bD (fun _=>?_) (fun _=>?_)) | (with_reducible exact bn) | exact bp rfl)
theorem abh (a:WI) (b:WJ):cj (fun r:Mu=>r.2=b) (ads a b):=by
 show cj _ (kq fD a.1 b.1.1 b.2.1 b.2.2.1 b.2.2.2.1 some)
 unfold kq
 repeat (first | ((with_reducible refine xd (adt _ _) fun r hr=>?_); first | (rcases r with r | r<;>(have hr:r.2=_:=hr; obtain ⟨r1,r2⟩:=r; cases hr; simp only [Sum.elim_inl,Sum.elim_inr])) | (have hr:r.2=_:=hr; obtain ⟨r1,r2⟩:=r; cases hr)) | (with_reducible refine bk fun _=>?_) | (with_reducible apply bm) | (with_reducible refine bD (fun _=>?_) (fun _=>?_)) | (with_reducible exact bn) | exact bp rfl)
def tF:WI->WJ->Option aqy:=fun a b=>(ads a b).map fun r=>(r.1,())
theorem aBn (fD:jc->jd->Option kp) (c d e g h) {α:Type} (K:Mu->Option α):kq fD c d e g h K=(kq fD c d e g h some).bind K:=by simp only [kq,af,ab,ac,ae,ah]
theorem aud (c d e g h):tF (c,()) ((d,()),e,g,h,())=(kq fD c d e g h some).map fun r=>(r.1,()):=rfl
def C1:aC:=(sL [(cP 0),(.agg (sL [lI,lU,lU,lS,lS,lU]))])
def HR:aS:=BZ
def C3:List aA:=[⟨lI,BZ⟩]
abbrev aqz:Type:=(amn×Unit)
abbrev aqA:Type:=jw
abbrev WK:Type:=Int×jw
abbrev aBo:=aqz->aqA->Option WK
def nK:aC:=(.cons (cP 0) (dz 2 (.cons (cP 1096) (.cons (.const .dead) (.cons lI (dz 56 .nil))))))
def rd:aS:=[(0,.cells (sL [(cW 1),(cW 2),(cW 3),lI])),Mv,(2,.row 153 KE),uy,(1096,.cells (sL [lI,lU,lU,lS,lS,lU]))]
def tG:List eh:=[⟨.ret,(dz 4 (.cons lI (dz 57 .nil))),BZ⟩,⟨(.exit 0),(dz 62 .nil),BZ⟩]
abbrev ku:Type:=(Int×Unit)
abbrev kv:Type:=((Int×Unit)×List Int×(List bO)×List Int×amn×Unit)
abbrev re:Type:=((Int×Unit)×jw)⊕(Unit×jw)
def eP {α:Type} (c:Int) (d:Int) (e:List Int) (g:List bO) (h:List Int) (i:Int) (j:Int) (l:Int) (m:ByteArray) (n:ByteArray) (o:Int) (kn:ku->kv->Option α) (kr:re->Option α):Option α :=
 cond (decide (c<(↑g.length:Int)))
 (cond (decide (0<=c))
 (cond (decide (c<(↑g.length:Int)))
 (cond (i != 0)
 (cond ((g.getD (0+c.toNat) (0,0,0,eB,eB,0)).1==i)
 (cond ((g.getD (0+c.toNat) (0,0,0,eB,eB,0)).2.1==j)
 (cond ((g.getD (0+c.toNat) (0,0,0,eB,eB,0)).2.2.1==l)
 (cond ((g.getD (0+c.toNat) (0,0,0,eB,eB,0)).2.2.2.1.toList==m.toList)
 (cond ((g.getD (0+c.toNat) (0,0,0,eB,eB,0)).2.2.2.2.1.toList==n.toList)
 (kr (.inl ((c,()),(d,()),e,g,h,())))
 (kn (IntKind.i64.wrap (c+1),()) ((d,()),e,g,h,(i,j,l,m,n,o,()),())))
 (kn (IntKind.i64.wrap (c+1),()) ((d,()),e,g,h,(i,j,l,m,n,o,()),())))
 (kn (IntKind.i64.wrap (c+1),()) ((d,()),e,g,h,(i,j,l,m,n,o,()),())))
 (kn (IntKind.i64.wrap (c+1),()) ((d,()),e,g,h,(i,j,l,m,n,o,()),())))
 (kn (IntKind.i64.wrap (c+1),()) ((d,()),e,g,h,(i,j,l,m,n,o,()),())))
 (kn (IntKind.i64.wrap (c+1),()) ((d,()),e,g,h,(i,j,l,m,n,o,()),())))
 (none))
 (none))
 (kr (.inr ((),(d,()),e,g,h,())))
def gH:ku->kv->Option re:=fun x y=>dP (fun p=>(fun (a:ku) (b:kv)=>eP a.1 b.1.1 b.2.1 b.2.2.1 b.2.2.2.1 b.2.2.2.2.1.1 b.2.2.2.2.1.2.1 b.2.2.2.2.1.2.2.1 b.2.2.2.2.1.2.2.2.1 b.2.2.2.2.1.2.2.2.2.1 b.2.2.2.2.1.2.2.2.2.2.1 (fun a' b'=>some (.inl (a',b'))) fun r=>some (.inr r)) p.1 p.2) (x,y)
theorem Qv (c d e g h i j l m n o) {α:Type} (kn:ku->kv->Option α) (kr:re->Option α):eP c d e g h i j l m n o kn kr=(eP c d e g h i j l m n o (fun a b=>some (.inl (a,b))) fun r=>some (.inr r)).bind (Sum.elim (fun p:ku×kv=>kn p.1 p.2) kr):=by simp only [eP,af,ab,ac,ae,ah,Sum.elim_inl,Sum.elim_inr]
theorem Qw (c d e g h i j l m n o):gH (c,()) ((d,()),e,g,h,(i,j,l,m,n,o,()),())=eP c d e g h i j l m n o gH some:=aX (A:=ku) (B:=kv) (R:=re) (fun a b kn kr=>eP a.1 b.1.1 b.2.1 b.2.2.1 b.2.2.2.1 b.2.2.2.2.1.1 b.2.2.2.2.1.2.1 b.2.2.2.2.1.2.2.1 b.2.2.2.2.1.2.2.2.1 b.2.2.2.2.1.2.2.2.2.1 b.2.2.2.2.1.2.2.2.2.2.1 kn kr) (fun a b kn kr=>Qv a.1 b.1.1 b.2.1 b.2.2.1 b.2.2.2.1 b.2.2.2.2.1.1 b.2.2.2.2.1.2.1 b.2.2.2.2.1.2.2.1 b.2.2.2.2.1.2.2.2.1 b.2.2.2.2.1.2.2.2.2.1 b.2.2.2.2.1.2.2.2.2.2.1 kn kr) (c,()) ((d,()),e,g,h,(i,j,l,m,n,o,()),())
def rf (gH:ku->kv->Option re) {α:Type} (c:Int) (d:Int) (e:Int) (g:ByteArray) (h:ByteArray) (i:Int) (j:Int) (l:List Int) (m:List bO) (n:List Int) (K:WK->Option α):Option α :=
 (gH (0,()) ((j,()),l,m,n,(c,d,e,g,h,i,()),())).bind fun r1 =>
 Sum.elim (fun u2 =>
 K (u2.1.1,(u2.2.1.1,()),u2.2.2.1,u2.2.2.2.1,u2.2.2.2.2.1,()))
 (fun u2 =>
 K (-1,(u2.2.1.1,()),u2.2.2.1,u2.2.2.2.1,u2.2.2.2.2.1,())) (r1)
def vB:aqz->aqA->Option WK:=fun a b=>rf gH a.1.1 a.1.2.1 a.1.2.2.1 a.1.2.2.2.1 a.1.2.2.2.2.1 a.1.2.2.2.2.2.1 b.1.1 b.2.1 b.2.2.1 b.2.2.2.1 some
theorem aBp (gH:ku->kv->Option re) (c d e g h i j l m n) {α:Type} (K:WK->Option α):rf gH c d e g h i j l m n K=(rf gH c d e g h i j l m n some).bind K:=by simp only [rf,af,ab,ac,ae,ah]
theorem aue (c d e g h i j l m n):vB ((c,d,e,g,h,i,()),()) ((j,()),l,m,n,())=rf gH c d e g h i j l m n some:=rfl
def yO:aC:=(sL [(cP 0),(.agg (sL [lI,lU,lU,lS,lS,lU]))])
def C4:aS:=BZ
def yP:List aA:=[⟨lU,KH⟩]
abbrev aqB:Type:=(amn×Unit)
abbrev adu:Type:=jw
abbrev Qx:Type:=Int×Hv
abbrev aqC:=aqB->adu->Option Qx
def rg (gT:aqx) (tF:aBm) {α:Type} (c:Int) (d:Int) (e:Int) (g:ByteArray) (h:ByteArray) (i:Int) (j:Int) (l:List Int) (m:List bO) (n:List Int) (K:Qx->Option α):Option α :=
 cond (decide ((↑m.length:Int)<(↑l.length:Int)))
 (cond (decide ((↑m.length:Int)<(↑l.length:Int)))
 (cond (l.getD (0+(↑m.length:Int).toNat) 0==0)
 (cond (decide ((m.length+1)*64<=140737488355328))
 (K (l.getD (0+(↑m.length:Int).toNat) 0,(IntKind.i64.wrap (j+1),()),l,(),n,m++([]++[(c,d,e,g,h,l.getD (0+(↑m.length:Int).toNat) 0)]),()))
 (none))
 ((gT (l.getD (0+(↑m.length:Int).toNat) 0,()) ((j,()),l,m,n,())).bind fun r1 =>
 cond (r1.1)
 (cond (decide ((m.length+1)*64<=140737488355328))
 (K (l.getD (0+(↑m.length:Int).toNat) 0,(IntKind.i64.wrap (j+1),()),l,(),n,m++([]++[(c,d,e,g,h,l.getD (0+(↑m.length:Int).toNat) 0)]),()))
 (none))
 ((tF (l.getD (0+(↑m.length:Int).toNat) 0,()) ((j,()),l,m,n,())).bind fun r2 =>
 cond (r2.1)
 (cond (decide ((m.length+1)*64<=140737488355328))
 (K (l.getD (0+(↑m.length:Int).toNat) 0,(IntKind.i64.wrap (j+1),()),l,(),n,m++([]++[(c,d,e,g,h,l.getD (0+(↑m.length:Int).toNat) 0)]),()))
 (none))
 (cond (decide ((m.length+1)*64<=140737488355328))
 (K (l.getD (0+(↑m.length:Int).toNat) 0,(j,()),l,(),n,m++([]++[(c,d,e,g,h,l.getD (0+(↑m.length:Int).toNat) 0)]),()))
 (none)))))
 (none))
 (cond (IntKind.u64.wrap (9223372036854775808+IntKind.u64.wrap (↑m.length:Int))==0)
 (cond (decide ((m.length+([]++[(c,d,e,g,h,IntKind.u64.wrap (9223372036854775808+IntKind.u64.wrap (↑m.length:Int)))]).length)*64<=140737488355328))
 (K (IntKind.u64.wrap (9223372036854775808+IntKind.u64.wrap (↑m.length:Int)),(IntKind.i64.wrap (j+1),()),l,(),n,m++([]++[(c,d,e,g,h,IntKind.u64.wrap (9223372036854775808+IntKind.u64.wrap (↑m.length:Int)))]),()))
 (none))
 ((gT (IntKind.u64.wrap (9223372036854775808+IntKind.u64.wrap (↑m.length:Int)),()) ((j,()),l,m,n,())).bind fun r3 =>
 cond (r3.1)
 (cond (decide ((m.length+([]++[(c,d,e,g,h,IntKind.u64.wrap (9223372036854775808+IntKind.u64.wrap (↑m.length:Int)))]).length)*64<=140737488355328))
 (K (IntKind.u64.wrap (9223372036854775808+IntKind.u64.wrap (↑m.length:Int)),(IntKind.i64.wrap (j+1),()),l,(),n,m++([]++[(c,d,e,g,h,IntKind.u64.wrap (9223372036854775808+IntKind.u64.wrap (↑m.length:Int)))]),()))
 (none))
 ((tF (IntKind.u64.wrap (9223372036854775808+IntKind.u64.wrap (↑m.length:Int)),()) ((j,()),l,m,n,())).bind fun r4 =>
 cond (r4.1)
 (cond (decide ((m.length+([]++[(c,d,e,g,h,IntKind.u64.wrap (9223372036854775808+IntKind.u64.wrap (↑m.length:Int)))]).length)*64<=140737488355328))
 (K (IntKind.u64.wrap (9223372036854775808+IntKind.u64.wrap (↑m.length:Int)),(IntKind.i64.wrap (j+1),()),l,(),n,m++([]++[(c,d,e,g,h,IntKind.u64.wrap (9223372036854775808+IntKind.u64.wrap (↑m.length:Int)))]),()))
 (none))
 (cond (decide ((m.length+([]++[(c,d,e,g,h,IntKind.u64.wrap (9223372036854775808+IntKind.u64.wrap (↑m.length:Int)))]).length)*64<=140737488355328))
 (K (IntKind.u64.wrap (9223372036854775808+IntKind.u64.wrap (↑m.length:Int)),(j,()),l,(),n,m++([]++[(c,d,e,g,h,IntKind.u64.wrap (9223372036854775808+IntKind.u64.wrap (↑m.length:Int)))]),()))
 (none)))))
def iU:aqB->adu->Option Qx:=fun a b=>rg gT tF a.1.1 a.1.2.1 a.1.2.2.1 a.1.2.2.2.1 a.1.2.2.2.2.1 a.1.2.2.2.2.2.1 b.1.1 b.2.1 b.2.2.1 b.2.2.2.1 some
theorem aBq (gT tF) (c d e g h i j l m n) {α:Type} (K:Qx->Option α):rg gT tF c d e g h i j l m n K=(rg gT tF c d e g h i j l m n some).bind K:=by simp only [rg,af,ab,ac,ae,ah]
theorem auf (c d e g h i j l m n):iU ((c,d,e,g,h,i,()),()) ((j,()),l,m,n,())=rg gT tF c d e g h i j l m n some:=rfl
def yQ:aC:=(sL [(cP 0),(.agg (sL [lI,lU,lU,lS,lS,lU]))])
def C5:aS:=BZ
def yR:List aA:=[⟨lU,KH⟩]
abbrev aqD:Type:=(amn×Unit)
abbrev aqE:Type:=jw
abbrev WL:Type:=Int×Hv
abbrev aqF:=aqD->aqE->Option WL
def rh (vB:aBo) (iU:aqC) {α:Type} (c:Int) (d:Int) (e:Int) (g:ByteArray) (h:ByteArray) (i:Int) (j:Int) (l:List Int) (m:List bO) (n:List Int) (K:WL->Option α):Option α :=
 (vB ((c,d,e,g,h,i,()),()) ((j,()),l,m,n,())).bind fun r1 =>
 cond (decide (r1.1≥0))
 (cond (decide (0<=r1.1))
 (cond (decide (r1.1<(↑r1.2.2.2.1.length:Int)))
 (K ((r1.2.2.2.1.getD (0+r1.1.toNat) (0,0,0,eB,eB,0)).2.2.2.2.2,(r1.2.1.1,()),r1.2.2.1,(),r1.2.2.2.2.1,r1.2.2.2.1,()))
 (none))
 (none))
 ((iU ((c,d,e,g,h,i,()),()) ((r1.2.1.1,()),r1.2.2.1,r1.2.2.2.1,r1.2.2.2.2.1,())).bind fun r2 =>
 K (r2.1,(r2.2.1.1,()),r2.2.2.1,(),r2.2.2.2.2.1,r2.2.2.2.2.2.1,()))
def iV:aqD->aqE->Option WL:=fun a b=>rh vB iU a.1.1 a.1.2.1 a.1.2.2.1 a.1.2.2.2.1 a.1.2.2.2.2.1 a.1.2.2.2.2.2.1 b.1.1 b.2.1 b.2.2.1 b.2.2.2.1 some
theorem aBr (vB iU) (c d e g h i j l m n) {α:Type} (K:WL->Option α):rh vB iU c d e g h i j l m n K=(rh vB iU c d e g h i j l m n some).bind K:=by simp only [rh,af,ab,ac,ae,ah]
theorem aug (c d e g h i j l m n):iV ((c,d,e,g,h,i,()),()) ((j,()),l,m,n,())=rh vB iU c d e g h i j l m n some:=rfl
def yS:aC:=(sL [(cP 0),lS])
def C6:aS:=BZ
def yT:List aA:=[⟨lU,KH⟩]
abbrev aqG:Type:=ux
abbrev aqH:Type:=jw
abbrev WM:Type:=Int×Hv
abbrev aqI:=aqG->aqH->Option WM
def ri (iV:aqF) {α:Type} (c:ByteArray) (d:Int) (e:List Int) (g:List bO) (h:List Int) (K:WM->Option α):Option α :=
 (iV ((1,0,0,c,eB,0,()),()) ((d,()),e,g,h,())).bind fun r1 =>
 K (r1.1,(r1.2.1.1,()),r1.2.2.1,(),r1.2.2.2.2.1,r1.2.2.2.2.2.1,())
def gU:aqG->aqH->Option WM:=fun a b=>ri iV a.1 b.1.1 b.2.1 b.2.2.1 b.2.2.2.1 some
theorem aBs (iV) (c d e g h) {α:Type} (K:WM->Option α):ri iV c d e g h K=(ri iV c d e g h some).bind K:=by simp only [ri,af,ab,ac,ae,ah]
theorem auh (c d e g h):gU (c,()) ((d,()),e,g,h,())=ri iV c d e g h some:=rfl
end
end Go.Proofs.YtljfdfghagiblaaGreat.S2