/- Plain forms of the program's functions,by program. -/
import Derived.Test.YtljfdfghagiblaaGreatGdisk
set_option maxRecDepth 100000
set_option maxHeartbeats 0
namespace Go.Proofs.YtljfdfghagiblaaGreat.S2
open Go
noncomputable section
def vE:aC:=(sL [(cP 0),lI])
def Aq:aS:=BK
def I0:List aA:=[⟨(.tup (sL [lS,lB])),[]⟩]
abbrev WS:Type:=(Int×Unit)
abbrev WT:Type:=BL
abbrev aqW:Type:=Mf×Unit
abbrev aqX:=WS->WT->Option aqW
def nO:aC:=(.cons (cP 0) (.cons lI (dz 4 (.cons lS (.cons lI (dz 46 .nil))))))
def ru:aS:=BK
def tJ:List eh:=[⟨(.exit 0),(dz 6 (.cons lS (dz 47 .nil))),BK⟩]
abbrev je:Type:=adv
abbrev jf:Type:=BL
abbrev kH:Type:=ux×BL
def dL {α:Type} (c:Int) (d:ByteArray) (e:Int) (g:Int) (h:Yb) (i:List cy) (kn:je->jf->Option α) (kr:kH->Option α):Option α :=
 cond (decide (e<(↑i.length:Int)))
 (cond (decide (0<=e))
 (cond (decide (e<(↑i.length:Int)))
 (cond ((i.getD (0+e.toNat) (0,0,eB,[])).2.1==c)
 (cond (decide (0<=e))
 (cond (decide (e<(↑i.length:Int)))
 (kn (c,(i.getD (0+e.toNat) (0,0,eB,[])).2.2.1,IntKind.i64.wrap (e+1),()) ((g,()),h,i,()))
 (none))
 (none))
 (kn (c,d,IntKind.i64.wrap (e+1),()) ((g,()),h,i,())))
 (none))
 (none))
 (kr ((d,()),(g,()),h,i,()))
def fE:je->jf->Option kH:=fun x y=>dP (fun p=>(fun (a:je) (b:jf)=>dL a.1 a.2.1 a.2.2.1 b.1.1 b.2.1 b.2.2.1 (fun a' b'=>some (.inl (a',b'))) fun r=>some (.inr r)) p.1 p.2) (x,y)
theorem QG (c d e g h i) {α:Type} (kn:je->jf->Option α) (kr:kH->Option α):dL c d e g h i kn kr=(dL c d e g h i (fun a b=>some (.inl (a,b))) fun r=>some (.inr r)).bind (Sum.elim (fun p:je×jf=>kn p.1 p.2) kr):=by simp only [dL,af,ab,ac,ae,ah,Sum.elim_inl,Sum.elim_inr]
theorem QH (c d e g h i):fE (c,d,e,()) ((g,()),h,i,())=dL c d e g h i fE some:=aX (A:=je) (B:=jf) (R:=kH) (fun a b kn kr=>dL a.1 a.2.1 a.2.2.1 b.1.1 b.2.1 b.2.2.1 kn kr) (fun a b kn kr=>QG a.1 a.2.1 a.2.2.1 b.1.1 b.2.1 b.2.2.1 kn kr) (c,d,e,()) ((g,()),h,i,())
def Fo:List aA:=[⟨(.tup (.cons lS (.cons lB .nil))),[(0,.cells (.cons lI (.cons (cW 1) (.cons (cW 2) .nil)))),(1,qf),(2,.row 117 (.cons (.int .i64) (.cons (.int .i64) (.cons .str (.cons (.slc 3 (.cons (.int .i64) .nil)) .nil)))))]⟩]
abbrev Mw:Type:=(ByteArray×Bool×Unit)×((Int×Unit)×Yb×(List (Int×Int×ByteArray×List Int))×Unit)
def kI (fE:je->jf->Option kH) {α:Type} (c:Int) (d:Int) (e:Yb) (g:List cy) (K:Mw->Option α):Option α :=
 cond (decide (c<0))
 (K ((eB,false,()),(d,()),e,g,()))
 (cond (decide (c≥(↑e.length:Int)))
 (K ((eB,false,()),(d,()),e,g,()))
 (cond (decide (0<=c))
 (cond (decide (c<(↑e.length:Int)))
 ((fE (c,e.getD (0+c.toNat) eB,0,()) ((d,()),e,g,())).bind fun r1 =>
 K ((r1.1.1,true,()),(r1.2.1.1,()),r1.2.2.1,r1.2.2.2.1,()))
 (none))
 (none)))
def adw:WS->WT->Option Mw:=fun a b=>kI fE a.1 b.1.1 b.2.1 b.2.2.1 some
theorem ady (x:je) (y:jf):cj (fun r:kH=>((fun r=>r.2=y):kH->Prop) r) (fE x y):=by
 refine Ab (fun s=>s.2=y) (fun s hs=>?_) rfl
 obtain ⟨a,b⟩:=s
 cases hs
 dsimp only
 unfold dL
 repeat (first | (with_reducible refine bk fun _=>?_) | (with_reducible apply bm) | (with_reducible refine bD (fun _=>?_) (fun _=>?_)) | (with_reducible exact bn) | exact bp rfl)
theorem abi (a:WS) (b:WT):cj (fun r:Mw=>r.2=b) (adw a b):=by
 show cj _ (kI fE a.1 b.1.1 b.2.1 b.2.2.1 some)
 unfold kI
 repeat (first | ((with_reducible refine xd (ady _ _) fun r hr=>?_); first | (rcases r with r | r<;>(have hr:r.2=_:=hr; obtain ⟨r1,r2⟩:=r; cases hr; simp only [Sum.elim_inl,Sum.elim_inr])) | (have hr:r.2=_:=hr; obtain ⟨r1,r2⟩:=r; cases hr)) | (with_reducible refine bk fun _=>?_) | (with_reducible apply bm) | (with_reducible refine bD (fun _=>?_) (fun _=>?_)) | (with_reducible exact bn) | exact bp rfl)
def fT:WS->WT->Option aqW:=fun a b=>(adw a b).map fun r=>(r.1,())
theorem aBz (fE:je->jf->Option kH) (c d e g) {α:Type} (K:Mw->Option α):kI fE c d e g K=(kI fE c d e g some).bind K:=by simp only [kI,af,ab,ac,ae,ah]
theorem aul (c d e g):fT (c,()) ((d,()),e,g,())=(kI fE c d e g some).map fun r=>(r.1,()):=rfl
def vF:aC:=(sL [lI,lI])
def Ar:aS:=[]
def vG:List aA:=[⟨(.tup amk),[]⟩,⟨(.tup (sL [(cP 0),(.const (.bool Bool.true))])),BK⟩]
abbrev aqY:Type:=Ht
abbrev aqZ:Type:=Unit
abbrev WU:Type:=(Unit×Unit)⊕(Unit×BL)
abbrev az4:=aqY->aqZ->Option WU
def nP:aC:=(.cons lI (.cons lI (dz 4 (.cons (cP 1768) (.cons lI (dz 34 .nil))))))
def rx:aS:=[(501,qf),(1768,.cells aml)]
def tK:List eh:=[⟨(.exit 0),(dz 6 (.cons (cP 1768) (dz 35 .nil))),[(501,qf),(1768,.cells aml)]⟩]
abbrev kJ:Type:=cr
abbrev kK:Type:=(Yb×(Int×Unit)×Unit)
abbrev ry:Type:=Unit×(Yb×(Int×Unit)×Unit)
def eU (bU:VM) {α:Type} (c:Int) (d:Int) (e:Int) (g:Yb) (h:Int) (kn:kJ->kK->Option α) (kr:ry->Option α):Option α :=
 cond (decide (e<c))
 ((bU (d,()) ()).bind fun r1 =>
 cond (decide ((g.length+1)*16<=140737488355328))
 (kn (c,d,IntKind.i64.wrap (e+1),()) (g++([]++[r1.1]),(h,()),()))
 (none))
 (kr ((),g,(h,()),()))
def gK:kJ->kK->Option ry:=fun x y=>dP (fun p=>(fun (a:kJ) (b:kK)=>eU bU a.1 a.2.1 a.2.2.1 b.1 b.2.1.1 (fun a' b'=>some (.inl (a',b'))) fun r=>some (.inr r)) p.1 p.2) (x,y)
theorem QI (bU) (c d e g h) {α:Type} (kn:kJ->kK->Option α) (kr:ry->Option α):eU bU c d e g h kn kr=(eU bU c d e g h (fun a b=>some (.inl (a,b))) fun r=>some (.inr r)).bind (Sum.elim (fun p:kJ×kK=>kn p.1 p.2) kr):=by simp only [eU,af,ab,ac,ae,ah,Sum.elim_inl,Sum.elim_inr]
theorem QJ (c d e g h):gK (c,d,e,()) (g,(h,()),())=eU bU c d e g h gK some:=aX (A:=kJ) (B:=kK) (R:=ry) (fun a b kn kr=>eU bU a.1 a.2.1 a.2.2.1 b.1 b.2.1.1 kn kr) (fun a b kn kr=>QI bU a.1 a.2.1 a.2.2.1 b.1 b.2.1.1 kn kr) (c,d,e,()) (g,(h,()),())
def rz (gK:kJ->kK->Option ry) {α:Type} (c:Int) (d:Int) (K:WU->Option α):Option α :=
 cond (decide (c<1))
 (K (.inl ((),())))
 (cond (decide (c>256))
 (K (.inl ((),())))
 (cond (decide (d<32))
 (K (.inl ((),())))
 (cond (decide (d>512))
 (K (.inl ((),())))
 ((gK (c,d,0,()) ([],(d,()),())).bind fun r1 =>
 K (.inr ((),(r1.2.2.1.1,()),r1.2.1,[],()))))))
def lM:aqY->aqZ->Option WU:=fun a b=>rz gK a.1 a.2.1 some
theorem aBA (gK:kJ->kK->Option ry) (c d) {α:Type} (K:WU->Option α):rz gK c d K=(rz gK c d some).bind K:=by simp only [rz,af,ab,ac,ae,ah]
theorem aum (c d):lM (c,d,()) ()=rz gK c d some:=rfl
def C9:aC:=(sL [(cP 0),lI,lS])
def HU:aS:=BK
def Da:List aA:=[⟨lB,QK⟩]
abbrev aq0:Type:=(Int×ByteArray×Unit)
abbrev aq1:Type:=BL
abbrev WV:Type:=Bool×QL
abbrev aBB:=aq0->aq1->Option WV
def rA (bU:VM) {α:Type} (c:Int) (d:ByteArray) (e:Int) (g:Yb) (h:List cy) (K:WV->Option α):Option α :=
 cond (decide (c<0))
 (K (false,(e,()),g,(),h,()))
 (cond (decide (c≥(↑g.length:Int)))
 (K (false,(e,()),g,(),h,()))
 (cond (decide ((↑d.size:Int)>e))
 (K (false,(e,()),g,(),h,()))
 ((bU (IntKind.i64.wrap (e-(↑d.size:Int)),()) ()).bind fun r1 =>
 cond (decide (d.size+r1.1.size<=9223372036854775807))
 (cond (decide ((h.length+1)*56<=140737488355328))
 (K (true,(e,()),g,(),h++([]++[(0,c,d++r1.1,[])]),()))
 (none))
 (none))))
def tL:aq0->aq1->Option WV:=fun a b=>rA bU a.1 a.2.1 b.1.1 b.2.1 b.2.2.1 some
theorem aBC (bU) (c d e g h) {α:Type} (K:WV->Option α):rA bU c d e g h K=(rA bU c d e g h some).bind K:=by simp only [rA,af,ab,ac,ae,ah]
theorem aun (c d e g h):tL (c,d,()) ((e,()),g,h,())=rA bU c d e g h some:=rfl
def nQ:aC:=(sL [(cP 0),SW])
def tM:aS:=BK
def nR:List aA:=[⟨(.tup .nil),QK⟩]
abbrev aq2:Type:=pZ
abbrev aq3:Type:=BL
abbrev WW:Type:=Unit×QL
abbrev apj:=aq2->aq3->Option WW
def nS:aC:=(.cons (cP 0) (.cons SW (dz 2 (.cons lI (dz 63 .nil)))))
def rB:aS:=BK
def tN:List eh:=[⟨(.exit 0),(.cons (cP 0) (dz 67 .nil)),BK⟩]
abbrev kL:Type:=(List Int×Int×Unit)
abbrev kM:Type:=BL
abbrev rC:Type:=Unit×BL
def eV {α:Type} (c:List Int) (d:Int) (e:Int) (g:Yb) (h:List cy) (kn:kL->kM->Option α) (kr:rC->Option α):Option α :=
 cond (decide (d<(↑h.length:Int)))
 (cond (decide (d<(↑c.length:Int)))
 (cond (decide (0<=d))
 (cond (decide (d<(↑c.length:Int)))
 (cond (decide (c.getD d.toNat 0<0))
 (cond (decide (0>e))
 (cond (decide (0<=d))
 (cond (decide (d<(↑h.length:Int)))
 (cond (decide (0<=e))
 (cond (decide (e<=(↑(h.getD (0+d.toNat) (0,0,eB,[])).2.2.1.size:Int)))
 (cond (decide (0<=(h.getD (0+d.toNat) (0,0,eB,[])).2.1))
 (cond (decide ((h.getD (0+d.toNat) (0,0,eB,[])).2.1<(↑g.length:Int)))
 (cond (decide (0<=e))
 (cond (decide (e<=(↑(g.getD (0+(h.getD (0+d.toNat) (0,0,eB,[])).2.1.toNat) eB).size:Int)))
 (cond (decide (((h.getD (0+d.toNat) (0,0,eB,[])).2.2.1.extract 0 e.toNat).size+((g.getD (0+(h.getD (0+d.toNat) (0,0,eB,[])).2.1.toNat) eB).extract e.toNat (g.getD (0+(h.getD (0+d.toNat) (0,0,eB,[])).2.1.toNat) eB).size).size<=9223372036854775807))
 (cond (decide (0<=(h.getD (0+d.toNat) (0,0,eB,[])).2.1))
 (cond (decide ((h.getD (0+d.toNat) (0,0,eB,[])).2.1<(↑g.length:Int)))
 (kn (c,IntKind.i64.wrap (d+1),()) ((e,()),g.set (0+(h.getD (0+d.toNat) (0,0,eB,[])).2.1.toNat) ((h.getD (0+d.toNat) (0,0,eB,[])).2.2.1.extract 0 e.toNat++(g.getD (0+(h.getD (0+d.toNat) (0,0,eB,[])).2.1.toNat) eB).extract e.toNat (g.getD (0+(h.getD (0+d.toNat) (0,0,eB,[])).2.1.toNat) eB).size),h,()))
 (none))
 (none))
 (none))
 (none))
 (none))
 (none))
 (none))
 (none))
 (none))
 (none))
 (none))
 (cond (decide (0<=d))
 (cond (decide (d<(↑h.length:Int)))
 (cond (decide (0<=(h.getD (0+d.toNat) (0,0,eB,[])).2.1))
 (cond (decide ((h.getD (0+d.toNat) (0,0,eB,[])).2.1<(↑g.length:Int)))
 (cond (decide (((h.getD (0+d.toNat) (0,0,eB,[])).2.2.1.extract 0 0).size+((g.getD (0+(h.getD (0+d.toNat) (0,0,eB,[])).2.1.toNat) eB).extract 0 (g.getD (0+(h.getD (0+d.toNat) (0,0,eB,[])).2.1.toNat) eB).size).size<=9223372036854775807))
 (cond (decide (0<=(h.getD (0+d.toNat) (0,0,eB,[])).2.1))
 (cond (decide ((h.getD (0+d.toNat) (0,0,eB,[])).2.1<(↑g.length:Int)))
 (kn (c,IntKind.i64.wrap (d+1),()) ((e,()),g.set (0+(h.getD (0+d.toNat) (0,0,eB,[])).2.1.toNat) ((h.getD (0+d.toNat) (0,0,eB,[])).2.2.1.extract 0 0++(g.getD (0+(h.getD (0+d.toNat) (0,0,eB,[])).2.1.toNat) eB).extract 0 (g.getD (0+(h.getD (0+d.toNat) (0,0,eB,[])).2.1.toNat) eB).size),h,()))
 (none))
 (none))
 (none))
 (none))
 (none))
 (none))
 (none)))
 (cond (decide (c.getD d.toNat 0>e))
 (cond (decide (0<=d))
 (cond (decide (d<(↑h.length:Int)))
 (cond (decide (0<=e))
 (cond (decide (e<=(↑(h.getD (0+d.toNat) (0,0,eB,[])).2.2.1.size:Int)))
 (cond (decide (0<=(h.getD (0+d.toNat) (0,0,eB,[])).2.1))
 (cond (decide ((h.getD (0+d.toNat) (0,0,eB,[])).2.1<(↑g.length:Int)))
 (cond (decide (0<=e))
 (cond (decide (e<=(↑(g.getD (0+(h.getD (0+d.toNat) (0,0,eB,[])).2.1.toNat) eB).size:Int)))
 (cond (decide (((h.getD (0+d.toNat) (0,0,eB,[])).2.2.1.extract 0 e.toNat).size+((g.getD (0+(h.getD (0+d.toNat) (0,0,eB,[])).2.1.toNat) eB).extract e.toNat (g.getD (0+(h.getD (0+d.toNat) (0,0,eB,[])).2.1.toNat) eB).size).size<=9223372036854775807))
 (cond (decide (0<=(h.getD (0+d.toNat) (0,0,eB,[])).2.1))
 (cond (decide ((h.getD (0+d.toNat) (0,0,eB,[])).2.1<(↑g.length:Int)))
 (kn (c,IntKind.i64.wrap (d+1),()) ((e,()),g.set (0+(h.getD (0+d.toNat) (0,0,eB,[])).2.1.toNat) ((h.getD (0+d.toNat) (0,0,eB,[])).2.2.1.extract 0 e.toNat++(g.getD (0+(h.getD (0+d.toNat) (0,0,eB,[])).2.1.toNat) eB).extract e.toNat (g.getD (0+(h.getD (0+d.toNat) (0,0,eB,[])).2.1.toNat) eB).size),h,()))
 (none))
 (none))
 (none))
 (none))
 (none))
 (none))
 (none))
 (none))
 (none))
 (none))
 (none))
 (cond (decide (0<=d))
 (cond (decide (d<(↑h.length:Int)))
 (cond (decide (0<=c.getD d.toNat 0))
 (cond (decide (c.getD d.toNat 0<=(↑(h.getD (0+d.toNat) (0,0,eB,[])).2.2.1.size:Int)))
 (cond (decide (0<=(h.getD (0+d.toNat) (0,0,eB,[])).2.1))
 (cond (decide ((h.getD (0+d.toNat) (0,0,eB,[])).2.1<(↑g.length:Int)))
 (cond (decide (0<=c.getD d.toNat 0))
 (cond (decide (c.getD d.toNat 0<=(↑(g.getD (0+(h.getD (0+d.toNat) (0,0,eB,[])).2.1.toNat) eB).size:Int)))
 (cond (decide (((h.getD (0+d.toNat) (0,0,eB,[])).2.2.1.extract 0 (c.getD d.toNat 0).toNat).size+((g.getD (0+(h.getD (0+d.toNat) (0,0,eB,[])).2.1.toNat) eB).extract (c.getD d.toNat 0).toNat (g.getD (0+(h.getD (0+d.toNat) (0,0,eB,[])).2.1.toNat) eB).size).size<=9223372036854775807))
 (cond (decide (0<=(h.getD (0+d.toNat) (0,0,eB,[])).2.1))
 (cond (decide ((h.getD (0+d.toNat) (0,0,eB,[])).2.1<(↑g.length:Int)))
 (kn (c,IntKind.i64.wrap (d+1),()) ((e,()),g.set (0+(h.getD (0+d.toNat) (0,0,eB,[])).2.1.toNat) ((h.getD (0+d.toNat) (0,0,eB,[])).2.2.1.extract 0 (c.getD d.toNat 0).toNat++(g.getD (0+(h.getD (0+d.toNat) (0,0,eB,[])).2.1.toNat) eB).extract (c.getD d.toNat 0).toNat (g.getD (0+(h.getD (0+d.toNat) (0,0,eB,[])).2.1.toNat) eB).size),h,()))
 (none))
 (none))
 (none))
 (none))
 (none))
 (none))
 (none))
 (none))
 (none))
 (none))
 (none))))
 (none))
 (none))
 (cond (decide (0>e))
 (cond (decide (0<=d))
 (cond (decide (d<(↑h.length:Int)))
 (cond (decide (0<=e))
 (cond (decide (e<=(↑(h.getD (0+d.toNat) (0,0,eB,[])).2.2.1.size:Int)))
 (cond (decide (0<=(h.getD (0+d.toNat) (0,0,eB,[])).2.1))
 (cond (decide ((h.getD (0+d.toNat) (0,0,eB,[])).2.1<(↑g.length:Int)))
 (cond (decide (0<=e))
 (cond (decide (e<=(↑(g.getD (0+(h.getD (0+d.toNat) (0,0,eB,[])).2.1.toNat) eB).size:Int)))
 (cond (decide (((h.getD (0+d.toNat) (0,0,eB,[])).2.2.1.extract 0 e.toNat).size+((g.getD (0+(h.getD (0+d.toNat) (0,0,eB,[])).2.1.toNat) eB).extract e.toNat (g.getD (0+(h.getD (0+d.toNat) (0,0,eB,[])).2.1.toNat) eB).size).size<=9223372036854775807))
 (cond (decide (0<=(h.getD (0+d.toNat) (0,0,eB,[])).2.1))
 (cond (decide ((h.getD (0+d.toNat) (0,0,eB,[])).2.1<(↑g.length:Int)))
 (kn (c,IntKind.i64.wrap (d+1),()) ((e,()),g.set (0+(h.getD (0+d.toNat) (0,0,eB,[])).2.1.toNat) ((h.getD (0+d.toNat) (0,0,eB,[])).2.2.1.extract 0 e.toNat++(g.getD (0+(h.getD (0+d.toNat) (0,0,eB,[])).2.1.toNat) eB).extract e.toNat (g.getD (0+(h.getD (0+d.toNat) (0,0,eB,[])).2.1.toNat) eB).size),h,()))
 (none))
 (none))
 (none))
 (none))
 (none))
 (none))
 (none))
 (none))
 (none))
 (none))
 (none))
 (cond (decide (0<=d))
 (cond (decide (d<(↑h.length:Int)))
 (cond (decide (0<=(h.getD (0+d.toNat) (0,0,eB,[])).2.1))
 (cond (decide ((h.getD (0+d.toNat) (0,0,eB,[])).2.1<(↑g.length:Int)))
 (cond (decide (((h.getD (0+d.toNat) (0,0,eB,[])).2.2.1.extract 0 0).size+((g.getD (0+(h.getD (0+d.toNat) (0,0,eB,[])).2.1.toNat) eB).extract 0 (g.getD (0+(h.getD (0+d.toNat) (0,0,eB,[])).2.1.toNat) eB).size).size<=9223372036854775807))
 (cond (decide (0<=(h.getD (0+d.toNat) (0,0,eB,[])).2.1))
 (cond (decide ((h.getD (0+d.toNat) (0,0,eB,[])).2.1<(↑g.length:Int)))
 (kn (c,IntKind.i64.wrap (d+1),()) ((e,()),g.set (0+(h.getD (0+d.toNat) (0,0,eB,[])).2.1.toNat) ((h.getD (0+d.toNat) (0,0,eB,[])).2.2.1.extract 0 0++(g.getD (0+(h.getD (0+d.toNat) (0,0,eB,[])).2.1.toNat) eB).extract 0 (g.getD (0+(h.getD (0+d.toNat) (0,0,eB,[])).2.1.toNat) eB).size),h,()))
 (none))
 (none))
 (none))
 (none))
 (none))
 (none))
 (none))))
 (kr ((),(e,()),g,h,()))
def ee:kL->kM->Option rC:=fun x y=>dP (fun p=>(fun (a:kL) (b:kM)=>eV a.1 a.2.1 b.1.1 b.2.1 b.2.2.1 (fun a' b'=>some (.inl (a',b'))) fun r=>some (.inr r)) p.1 p.2) (x,y)
theorem QM (c d e g h) {α:Type} (kn:kL->kM->Option α) (kr:rC->Option α):eV c d e g h kn kr=(eV c d e g h (fun a b=>some (.inl (a,b))) fun r=>some (.inr r)).bind (Sum.elim (fun p:kL×kM=>kn p.1 p.2) kr):=by simp only [eV,af,ab,ac,ae,ah,Sum.elim_inl,Sum.elim_inr]
theorem QN (c d e g h):ee (c,d,()) ((e,()),g,h,())=eV c d e g h ee some:=aX (A:=kL) (B:=kM) (R:=rC) (fun a b kn kr=>eV a.1 a.2.1 b.1.1 b.2.1 b.2.2.1 kn kr) (fun a b kn kr=>QM a.1 a.2.1 b.1.1 b.2.1 b.2.2.1 kn kr) (c,d,()) ((e,()),g,h,())
def rD (ee:kL->kM->Option rC) {α:Type} (c:List Int) (d:Int) (e:Yb) (g:List cy) (K:WW->Option α):Option α :=
 (ee (c,0,()) ((d,()),e,g,())).bind fun r1 =>
 K ((),(r1.2.1.1,()),r1.2.2.1,(),[],())
def da:aq2->aq3->Option WW:=fun a b=>rD ee a.1 b.1.1 b.2.1 b.2.2.1 some
theorem aBD (ee:kL->kM->Option rC) (c d e g) {α:Type} (K:WW->Option α):rD ee c d e g K=(rD ee c d e g some).bind K:=by simp only [rD,af,ab,ac,ae,ah]
theorem auo (c d e g):da (c,()) ((d,()),e,g,())=rD ee c d e g some:=rfl
def Db:aC:=(.cons (cP 0) .nil)
def HV:aS:=BK
def Dc:List aA:=[⟨(.tup .nil),QK⟩]
abbrev aq4:Type:=Unit
abbrev aq5:Type:=BL
abbrev WX:Type:=Unit×QL
abbrev aBE:=aq4->aq5->Option WX
def nT:aC:=(.cons (cP 0) (.cons (.const .dead) (.cons (cW 502) (.cons lI (dz 20 .nil)))))
def rE:aS:=[(0,.cells (sL [lI,(cW 1),(cW 2)])),(1,qf),(2,.row 117 KF),(502,.row 3 (.cons (.int .i64) .nil))]
def tO:List eh:=[⟨(.exit 0),(.cons (cP 0) (.cons (.const .dead) (.cons (cW 502) (dz 21 .nil)))),[(0,.cells (sL [lI,(cW 1),(cW 2)])),(1,qf),(2,.row 117 KF),(502,.row 3 (.cons (.int .i64) .nil))]⟩]
abbrev kN:Type:=(Int×Unit)
abbrev kO:Type:=((Int×Unit)×Yb×(List cy)×List Int×Unit)
abbrev rF:Type:=Unit×((Int×Unit)×Yb×(List cy)×List Int×Unit)
def eW {α:Type} (c:Int) (d:Int) (e:Yb) (g:List cy) (h:List Int) (kn:kN->kO->Option α) (kr:rF->Option α):Option α :=
 cond (decide (c<(↑g.length:Int)))
 (cond (decide ((h.length+1)*8<=140737488355328))
 (kn (IntKind.i64.wrap (c+1),()) ((d,()),e,g,h++([]++[d]),()))
 (none))
 (kr ((),(d,()),e,g,h,()))
def gL:kN->kO->Option rF:=fun x y=>dP (fun p=>(fun (a:kN) (b:kO)=>eW a.1 b.1.1 b.2.1 b.2.2.1 b.2.2.2.1 (fun a' b'=>some (.inl (a',b'))) fun r=>some (.inr r)) p.1 p.2) (x,y)
theorem QO (c d e g h) {α:Type} (kn:kN->kO->Option α) (kr:rF->Option α):eW c d e g h kn kr=(eW c d e g h (fun a b=>some (.inl (a,b))) fun r=>some (.inr r)).bind (Sum.elim (fun p:kN×kO=>kn p.1 p.2) kr):=by simp only [eW,af,ab,ac,ae,ah,Sum.elim_inl,Sum.elim_inr]
theorem QP (c d e g h):gL (c,()) ((d,()),e,g,h,())=eW c d e g h gL some:=aX (A:=kN) (B:=kO) (R:=rF) (fun a b kn kr=>eW a.1 b.1.1 b.2.1 b.2.2.1 b.2.2.2.1 kn kr) (fun a b kn kr=>QO a.1 b.1.1 b.2.1 b.2.2.1 b.2.2.2.1 kn kr) (c,()) ((d,()),e,g,h,())
def rG (da:apj) (gL:kN->kO->Option rF) {α:Type} (c:Int) (d:Yb) (e:List cy) (K:WX->Option α):Option α :=
 (gL (0,()) ((c,()),d,e,[],())).bind fun r1 =>
 (da (r1.2.2.2.2.1,()) ((r1.2.1.1,()),r1.2.2.1,r1.2.2.2.1,())).bind fun r2 =>
 K ((),(r2.2.1.1,()),r2.2.2.1,(),r2.2.2.2.2.1,())
def vH:aq4->aq5->Option WX:=fun a b=>rG da gL b.1.1 b.2.1 b.2.2.1 some
theorem aBF (da) (gL:kN->kO->Option rF) (c d e) {α:Type} (K:WX->Option α):rG da gL c d e K=(rG da gL c d e some).bind K:=by simp only [rG,af,ab,ac,ae,ah]
theorem aup (c d e):vH () ((c,()),d,e,())=rG da gL c d e some:=rfl
end
end Go.Proofs.YtljfdfghagiblaaGreat.S2