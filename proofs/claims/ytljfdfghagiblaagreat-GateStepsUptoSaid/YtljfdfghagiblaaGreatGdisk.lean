/- Plain forms of the program's functions,by program. -/
import Derived.Test.YtljfdfghagiblaaGreatS2y
import Derived.Lib.Repeat
set_option maxRecDepth 100000
set_option maxHeartbeats 0
namespace Go.Proofs.YtljfdfghagiblaaGreat.S2
open Go
noncomputable section
def j0:aC:=(.cons lI .nil)
def oN:aS:=[]
def j1:List aA:=[⟨lS,[]⟩]
abbrev apm:Type:=(Int×Unit)
abbrev apn:Type:=Unit
abbrev VL:Type:=ByteArray×Unit
abbrev VM:=apm->apn->Option VL
def pX {α:Type} (c:Int) (K:VL->Option α):Option α :=
 cond (decide (0<=c))
 (cond (decide (c<=c))
 (cond (decide (c*1<=140737488355328))
 (K (Go.strOfNums (List.replicate c.toNat 0),()))
 (none))
 (none))
 (none)
def bU:apm->apn->Option VL:=fun a b=>pX a.1 some
theorem az7 (c) {α:Type} (K:VL->Option α):pX c K=(pX c some).bind K:=by simp only [pX,af,ab,ac,ae,ah]
theorem atF (c):bU (c,()) ()=pX c some:=rfl
def uR:aC:=.cons lS (.cons lI .nil)
def yp:aS:=[]
def uS:List aA:=[⟨.leaf .str,[]⟩]
abbrev acZ:Type:=ByteArray×Int×Unit
abbrev ac0:Type:=Unit
abbrev ac1:Type:=ByteArray×Unit
abbrev SX:=acZ->ac0->Option ac1
def bT:acZ->ac0->Option ac1:=fun a b=>cond (decide (0<=a.2.1/\a.2.1<=9223372036854775807/\a.1.size*a.2.1.toNat<=140737488355328)) (some (⟨(Go.Lib.repeatL a.1.data.toList a.2.1.toNat).toArray⟩,())) none
def z7:aC:=(.cons (cP 0) .nil)
def E6:aS:=yg
def Mc:List aA:=[⟨lI,[]⟩]
abbrev al2:Type:=Unit
abbrev al3:Type:=yh
abbrev az8:Type:=Int×Unit
abbrev az9:=al2->al3->Option az8
def IN:List aA:=[⟨lI,[(0,.cells (.cons lI (.cons (cW 1) (.cons (cW 2) .nil)))),(1,qf),(2,.row 151 (.cons (.int .i64) (.cons .str .nil)))]⟩]
abbrev VN:Type:=Int×((Int×Unit)×Yb×Y6×Unit)
def th {α:Type} (c:Int) (d:Yb) (e:Y6) (K:VN->Option α):Option α :=
 K ((↑d.length:Int),(c,()),d,e,())
def atH:al2->al3->Option VN:=fun a b=>th b.1.1 b.2.1 b.2.2.1 some
theorem ac2 (a:al2) (b:al3):cj (fun r:VN=>r.2=b) (atH a b):=by
 show cj _ (th b.1.1 b.2.1 b.2.2.1 some)
 unfold th
 repeat (first | (with_reducible refine bk fun _=>?_) | (with_reducible apply bm) | (with_reducible refine bD (fun _=>?_) (fun _=>?_)) | (with_reducible exact bn) | exact bp rfl)
def oO:al2->al3->Option az8:=fun a b=>(atH a b).map fun r=>(r.1,())
theorem aGe (c d e) {α:Type} (K:VN->Option α):th c d e K=(th c d e some).bind K:=by simp only [th,af,ab,ac,ae,ah]
theorem aAa (c d e):oO () ((c,()),d,e,())=(th c d e some).map fun r=>(r.1,()):=rfl
def Cw:aC:=(.cons (cP 0) .nil)
def IO:aS:=yg
def VO:List aA:=[⟨lI,[]⟩]
abbrev al4:Type:=Unit
abbrev al5:Type:=yh
abbrev aAb:Type:=Int×Unit
abbrev aGf:=al4->al5->Option aAb
def IP:List aA:=[⟨lI,[(0,.cells (.cons lI (.cons (cW 1) (.cons (cW 2) .nil)))),(1,qf),(2,.row 151 (.cons (.int .i64) (.cons .str .nil)))]⟩]
abbrev VP:Type:=Int×((Int×Unit)×Yb×Y6×Unit)
def tj {α:Type} (c:Int) (d:Yb) (e:Y6) (K:VP->Option α):Option α :=
 K (c,(c,()),d,e,())
def atI:al4->al5->Option VP:=fun a b=>tj b.1.1 b.2.1 b.2.2.1 some
theorem ac3 (a:al4) (b:al5):cj (fun r:VP=>r.2=b) (atI a b):=by
 show cj _ (tj b.1.1 b.2.1 b.2.2.1 some)
 unfold tj
 repeat (first | (with_reducible refine bk fun _=>?_) | (with_reducible apply bm) | (with_reducible refine bD (fun _=>?_) (fun _=>?_)) | (with_reducible exact bn) | exact bp rfl)
def E7:al4->al5->Option aAb:=fun a b=>(atI a b).map fun r=>(r.1,())
theorem aGg (c d e) {α:Type} (K:VP->Option α):tj c d e K=(tj c d e some).bind K:=by simp only [tj,af,ab,ac,ae,ah]
theorem aAc (c d e):E7 () ((c,()),d,e,())=(tj c d e some).map fun r=>(r.1,()):=rfl
def z8:aC:=(sL [(cP 0),lI])
def E8:aS:=yg
def Md:List aA:=[⟨lB,[]⟩]
abbrev al6:Type:=(Int×Unit)
abbrev al7:Type:=yh
abbrev aAd:Type:=Bool×Unit
abbrev aAe:=al6->al7->Option aAd
def IQ:List aA:=[⟨lB,[(0,.cells (.cons lI (.cons (cW 1) (.cons (cW 2) .nil)))),(1,qf),(2,.row 151 (.cons (.int .i64) (.cons .str .nil)))]⟩]
abbrev VQ:Type:=Bool×((Int×Unit)×Yb×Y6×Unit)
def oP {α:Type} (c:Int) (d:Int) (e:Yb) (g:Y6) (K:VQ->Option α):Option α :=
 cond (decide (c≥0))
 (K (decide (c<(↑e.length:Int)),(d,()),e,g,()))
 (K (false,(d,()),e,g,()))
def atJ:al6->al7->Option VQ:=fun a b=>oP a.1 b.1.1 b.2.1 b.2.2.1 some
theorem ac4 (a:al6) (b:al7):cj (fun r:VQ=>r.2=b) (atJ a b):=by
 show cj _ (oP a.1 b.1.1 b.2.1 b.2.2.1 some)
 unfold oP
 repeat (first | (with_reducible refine bk fun _=>?_) | (with_reducible apply bm) | (with_reducible refine bD (fun _=>?_) (fun _=>?_)) | (with_reducible exact bn) | exact bp rfl)
def oQ:al6->al7->Option aAd:=fun a b=>(atJ a b).map fun r=>(r.1,())
theorem aGh (c d e g) {α:Type} (K:VQ->Option α):oP c d e g K=(oP c d e g some).bind K:=by simp only [oP,af,ab,ac,ae,ah]
theorem aAf (c d e g):oQ (c,()) ((d,()),e,g,())=(oP c d e g some).map fun r=>(r.1,()):=rfl
def Aa:aC:=(sL [(cP 0),lI])
def E9:aS:=yg
def Me:List aA:=[⟨(.tup (sL [lS,lB])),[]⟩]
abbrev al8:Type:=(Int×Unit)
abbrev al9:Type:=yh
abbrev aAg:Type:=Mf×Unit
abbrev aGi:=al8->al9->Option aAg
def IR:List aA:=[⟨(.tup (.cons lS (.cons lB .nil))),[(0,.cells (.cons lI (.cons (cW 1) (.cons (cW 2) .nil)))),(1,qf),(2,.row 151 (.cons (.int .i64) (.cons .str .nil)))]⟩]
abbrev VR:Type:=(ByteArray×Bool×Unit)×((Int×Unit)×Yb×Y6×Unit)
def oR (oQ:aAe) {α:Type} (c:Int) (d:Int) (e:Yb) (g:Y6) (K:VR->Option α):Option α :=
 (oQ (c,()) ((d,()),e,g,())).bind fun r1 =>
 cond (!r1.1)
 (K ((eB,false,()),(d,()),e,g,()))
 (cond (decide (0<=c))
 (cond (decide (c<(↑e.length:Int)))
 (K ((e.getD (0+c.toNat) eB,true,()),(d,()),e,g,()))
 (none))
 (none))
def atK:al8->al9->Option VR:=fun a b=>oR oQ a.1 b.1.1 b.2.1 b.2.2.1 some
theorem ac5 (a:al8) (b:al9):cj (fun r:VR=>r.2=b) (atK a b):=by
 show cj _ (oR oQ a.1 b.1.1 b.2.1 b.2.2.1 some)
 unfold oR
 repeat (first | (with_reducible refine bk fun _=>?_) | (with_reducible apply bm) | (with_reducible refine bD (fun _=>?_) (fun _=>?_)) | (with_reducible exact bn) | exact bp rfl)
def BH:al8->al9->Option aAg:=fun a b=>(atK a b).map fun r=>(r.1,())
theorem aGj (oQ) (c d e g) {α:Type} (K:VR->Option α):oR oQ c d e g K=(oR oQ c d e g some).bind K:=by simp only [oR,af,ab,ac,ae,ah]
theorem aAh (c d e g):BH (c,()) ((d,()),e,g,())=(oR oQ c d e g some).map fun r=>(r.1,()):=rfl
def Cx:aC:=(sL [(cP 0),lI])
def IS:aS:=yg
def VS:List aA:=[⟨(.tup (sL [lS,lB])),[]⟩]
abbrev ama:Type:=(Int×Unit)
abbrev amb:Type:=yh
abbrev aAi:Type:=Mf×Unit
abbrev aGk:=ama->amb->Option aAi
def pY:aC:=(.cons (cP 0) (.cons lI (dz 4 (.cons lI (dz 33 .nil)))))
def uT:aS:=yg
def xc:List eh:=[⟨.ret,(.cons (cP 0) (.cons lI (dz 2 (.cons lS (.cons lB (dz 34 .nil)))))),yg⟩,⟨(.exit 0),(.cons (cP 0) (.cons lI (dz 38 .nil))),yg⟩]
abbrev na:Type:=Ht
abbrev nc:Type:=yh
abbrev oS:Type:=(P5×yh)⊕((Int×Unit)×yh)
def fm {α:Type} (c:Int) (d:Int) (e:Int) (g:Yb) (h:Y6) (kn:na->nc->Option α) (kr:oS->Option α):Option α :=
 cond (decide (d≥0))
 (cond (decide (0<=d))
 (cond (decide (d<(↑h.length:Int)))
 (cond ((h.getD (0+d.toNat) (0,eB)).1==c)
 (cond (decide (0<=d))
 (cond (decide (d<(↑h.length:Int)))
 (kr (.inl ((c,(h.getD (0+d.toNat) (0,eB)).2,true,()),(e,()),g,h,())))
 (none))
 (none))
 (kn (c,IntKind.i64.wrap (d-1),()) ((e,()),g,h,())))
 (none))
 (none))
 (kr (.inr ((c,()),(e,()),g,h,())))
def iZ:na->nc->Option oS:=fun x y=>dP (fun p=>(fun (a:na) (b:nc)=>fm a.1 a.2.1 b.1.1 b.2.1 b.2.2.1 (fun a' b'=>some (.inl (a',b'))) fun r=>some (.inr r)) p.1 p.2) (x,y)
theorem VT (c d e g h) {α:Type} (kn:na->nc->Option α) (kr:oS->Option α):fm c d e g h kn kr=(fm c d e g h (fun a b=>some (.inl (a,b))) fun r=>some (.inr r)).bind (Sum.elim (fun p:na×nc=>kn p.1 p.2) kr):=by simp only [fm,af,ab,ac,ae,ah,Sum.elim_inl,Sum.elim_inr]
theorem VU (c d e g h):iZ (c,d,()) ((e,()),g,h,())=fm c d e g h iZ some:=aX (A:=na) (B:=nc) (R:=oS) (fun a b kn kr=>fm a.1 a.2.1 b.1.1 b.2.1 b.2.2.1 kn kr) (fun a b kn kr=>VT a.1 a.2.1 b.1.1 b.2.1 b.2.2.1 kn kr) (c,d,()) ((e,()),g,h,())
def IT:List aA:=[⟨(.tup (.cons lS (.cons lB .nil))),[(0,.cells (.cons lI (.cons (cW 1) (.cons (cW 2) .nil)))),(1,qf),(2,.row 151 (.cons (.int .i64) (.cons .str .nil)))]⟩]
abbrev VV:Type:=(ByteArray×Bool×Unit)×((Int×Unit)×Yb×Y6×Unit)
def oT (BH:aGi) (iZ:na->nc->Option oS) {α:Type} (c:Int) (d:Int) (e:Yb) (g:Y6) (K:VV->Option α):Option α :=
 (iZ (c,IntKind.i64.wrap ((↑g.length:Int)-1),()) ((d,()),e,g,())).bind fun r1 =>
 Sum.elim (fun u2 =>
 K ((u2.1.2.1,u2.1.2.2.1,()),(u2.2.1.1,()),u2.2.2.1,u2.2.2.2.1,()))
 (fun u2 =>
 (BH (u2.1.1,()) ((u2.2.1.1,()),u2.2.2.1,u2.2.2.2.1,())).bind fun r3 =>
 K ((r3.1.1,r3.1.2.1,()),(u2.2.1.1,()),u2.2.2.1,u2.2.2.2.1,())) (r1)
def atL:ama->amb->Option VV:=fun a b=>oT BH iZ a.1 b.1.1 b.2.1 b.2.2.1 some
theorem amc (x:na) (y:nc):cj (fun r:oS=>((Sum.elim (fun r=>r.2=y) (fun r=>r.2=y)):oS->Prop) r) (iZ x y):=by
 refine Ab (fun s=>s.2=y) (fun s hs=>?_) rfl
 obtain ⟨a,b⟩:=s
 cases hs
 dsimp only
 unfold fm
 repeat (first | (with_reducible refine bk fun _=>?_) | (with_reducible apply bm) | (with_reducible refine bD (fun _=>?_) (fun _=>?_)) | (with_reducible exact bn) | exact bp rfl)
theorem ac6 (a:ama) (b:amb):cj (fun r:VV=>r.2=b) (atL a b):=by
 show cj _ (oT BH iZ a.1 b.1.1 b.2.1 b.2.2.1 some)
 unfold oT
 repeat (first | ((with_reducible refine xd (amc _ _) fun r hr=>?_); first | (rcases r with r | r<;>(have hr:r.2=_:=hr; obtain ⟨r1,r2⟩:=r; cases hr; simp only [Sum.elim_inl,Sum.elim_inr])) | (have hr:r.2=_:=hr; obtain ⟨r1,r2⟩:=r; cases hr)) | (with_reducible refine bk fun _=>?_) | (with_reducible apply bm) | (with_reducible refine bD (fun _=>?_) (fun _=>?_)) | (with_reducible exact bn) | exact bp rfl)
def BW:ama->amb->Option aAi:=fun a b=>(atL a b).map fun r=>(r.1,())
theorem aGl (BH) (iZ:na->nc->Option oS) (c d e g) {α:Type} (K:VV->Option α):oT BH iZ c d e g K=(oT BH iZ c d e g some).bind K:=by simp only [oT,af,ab,ac,ae,ah]
theorem aAj (c d e g):BW (c,()) ((d,()),e,g,())=(oT BH iZ c d e g some).map fun r=>(r.1,()):=rfl
def Ac:aC:=(sL [lI,(cP 0)])
def Fa:aS:=aa5
def Mg:List aA:=[⟨lI,[]⟩]
abbrev amd:Type:=(Int×Unit)
abbrev ame:Type:=aa6
abbrev aAk:Type:=Int×Unit
abbrev aGm:=amd->ame->Option aAk
def IU:List aA:=[⟨lI,[(0,.cells (.cons (cP 1) .nil)),(1,.cells (.cons lI (.cons (cW 2) (.cons (cW 3) .nil)))),(2,qf),(3,.row 151 (.cons (.int .i64) (.cons .str .nil)))]⟩]
abbrev VW:Type:=Int×(Unit×(Int×Unit)×Yb×Y6×Unit)
def oU {α:Type} (c:Int) (d:Int) (e:Yb) (g:Y6) (K:VW->Option α):Option α :=
 K (d,(),(d,()),e,g,())
def atM:amd->ame->Option VW:=fun a b=>oU a.1 b.2.1.1 b.2.2.1 b.2.2.2.1 some
theorem ac7 (a:amd) (b:ame):cj (fun r:VW=>r.2=b) (atM a b):=by
 show cj _ (oU a.1 b.2.1.1 b.2.2.1 b.2.2.2.1 some)
 unfold oU
 repeat (first | (with_reducible refine bk fun _=>?_) | (with_reducible apply bm) | (with_reducible refine bD (fun _=>?_) (fun _=>?_)) | (with_reducible exact bn) | exact bp rfl)
def BI:amd->ame->Option aAk:=fun a b=>(atM a b).map fun r=>(r.1,())
theorem aGn (c d e g) {α:Type} (K:VW->Option α):oU c d e g K=(oU c d e g some).bind K:=by simp only [oU,af,ab,ac,ae,ah]
theorem aAl (c d e g):BI (c,()) ((),(d,()),e,g,())=(oU c d e g some).map fun r=>(r.1,()):=rfl
def Ad:aC:=(sL [lI,(cP 0)])
def Fb:aS:=[(0,.cells (.cons SW .nil))]
def Mh:List aA:=[⟨lI,[]⟩]
abbrev amf:Type:=(Int×Unit)
abbrev amg:Type:=(pZ×Unit)
abbrev aAm:Type:=Int×Unit
abbrev aGo:=amf->amg->Option aAm
def IV:List aA:=[⟨lI,[(0,.cells (.cons (.leaf (.slc 3 (.cons (.int .i64) .nil))) .nil))]⟩]
abbrev VX:Type:=Int×((List Int×Unit)×Unit)
def nd {α:Type} (c:Int) (d:List Int) (K:VX->Option α):Option α :=
 cond (decide (c<(↑d.length:Int)))
 (cond (decide (0<=c))
 (cond (decide (c<(↑d.length:Int)))
 (K (d.getD c.toNat 0,(d,()),()))
 (none))
 (none))
 (K (0,(d,()),()))
def atN:amf->amg->Option VX:=fun a b=>nd a.1 b.1.1 some
theorem ac8 (a:amf) (b:amg):cj (fun r:VX=>r.2=b) (atN a b):=by
 show cj _ (nd a.1 b.1.1 some)
 unfold nd
 repeat (first | (with_reducible refine bk fun _=>?_) | (with_reducible apply bm) | (with_reducible refine bD (fun _=>?_) (fun _=>?_)) | (with_reducible exact bn) | exact bp rfl)
def BJ:amf->amg->Option aAm:=fun a b=>(atN a b).map fun r=>(r.1,())
theorem aGp (c d) {α:Type} (K:VX->Option α):nd c d K=(nd c d some).bind K:=by simp only [nd,af,ab,ac,ae,ah]
theorem aAn (c d):BJ (c,()) ((d,()),())=(nd c d some).map fun r=>(r.1,()):=rfl
def yq:aC:=(sL [(cP 0),(.fn 147 (.cons (cP 1) .nil))])
def Cy:aS:=atO
def yr:List aA:=[⟨(.tup .nil),[(0,.cells (sL [lI,(cW 2),(cW 4)])),(1,.cells (.cons (cP 0) .nil)),(2,qf),(3,.gone),(4,.row 151 nk)]⟩]
abbrev apo:Type:=(Unit×Unit)
abbrev apq:Type:=((Int×Unit)×Unit×Yb×Y6×Unit)
abbrev VY:Type:=Unit×((Int×Unit)×Unit×Yb×Unit×Y6×Unit)
abbrev aAo:=apo->apq->Option VY
def nq:aC:=(.cons (cP 0) (.cons (.fn 147 (.cons (cP 1) .nil)) (dz 8 (.cons (cW 3) (.cons lI (.cons lI (dz 39 .nil)))))))
def p0:aS:=atO
def tl:List eh:=[⟨(.exit 0),(.cons (cP 0) (dz 51 .nil)),atO⟩]
abbrev j3:Type:=(Unit×Int×Int×Unit)
abbrev j4:Type:=((Int×Unit)×Unit×Yb×Y6×Unit)
abbrev p5:Type:=Unit×((Int×Unit)×Unit×Yb×Y6×Unit)
def eG (BI:aGm) {α:Type} (c:Int) (d:Int) (e:Int) (g:Yb) (h:Y6) (kn:j3->j4->Option α) (kr:p5->Option α):Option α :=
 cond (decide (d<c))
 (cond (decide (0<=d))
 (cond (decide (d<(↑h.length:Int)))
 ((BI (d,()) ((),(e,()),g,h,())).bind fun r1 =>
 cond (decide (0<=if e<if 0>r1.1 then 0 else r1.1 then e else if 0>r1.1 then 0 else r1.1))
 (cond (decide ((if e<if 0>r1.1 then 0 else r1.1 then e else if 0>r1.1 then 0 else r1.1)<=(↑(h.getD (0+d.toNat) (0,eB)).2.size:Int)))
 (cond (decide (0<=(h.getD (0+d.toNat) (0,eB)).1))
 (cond (decide ((h.getD (0+d.toNat) (0,eB)).1<(↑g.length:Int)))
 (cond (decide (0<=if e<if 0>r1.1 then 0 else r1.1 then e else if 0>r1.1 then 0 else r1.1))
 (cond (decide ((if e<if 0>r1.1 then 0 else r1.1 then e else if 0>r1.1 then 0 else r1.1)<=(↑(g.getD (0+(h.getD (0+d.toNat) (0,eB)).1.toNat) eB).size:Int)))
 (cond (decide (((h.getD (0+d.toNat) (0,eB)).2.extract 0 (if e<if 0>r1.1 then 0 else r1.1 then e else if 0>r1.1 then 0 else r1.1).toNat).size+((g.getD (0+(h.getD (0+d.toNat) (0,eB)).1.toNat) eB).extract (if e<if 0>r1.1 then 0 else r1.1 then e else if 0>r1.1 then 0 else r1.1).toNat (g.getD (0+(h.getD (0+d.toNat) (0,eB)).1.toNat) eB).size).size<=9223372036854775807))
 (cond (decide (0<=(h.getD (0+d.toNat) (0,eB)).1))
 (cond (decide ((h.getD (0+d.toNat) (0,eB)).1<(↑g.length:Int)))
 (kn ((),c,IntKind.i64.wrap (d+1),()) ((e,()),(),g.set (0+(h.getD (0+d.toNat) (0,eB)).1.toNat) ((h.getD (0+d.toNat) (0,eB)).2.extract 0 (if e<if 0>r1.1 then 0 else r1.1 then e else if 0>r1.1 then 0 else r1.1).toNat++(g.getD (0+(h.getD (0+d.toNat) (0,eB)).1.toNat) eB).extract (if e<if 0>r1.1 then 0 else r1.1 then e else if 0>r1.1 then 0 else r1.1).toNat (g.getD (0+(h.getD (0+d.toNat) (0,eB)).1.toNat) eB).size),h,()))
 (none))
 (none))
 (none))
 (none))
 (none))
 (none))
 (none))
 (none))
 (none))
 (none))
 (none))
 (kr ((),(e,()),(),g,h,()))
def fX:j3->j4->Option p5:=fun x y=>dP (fun p=>(fun (a:j3) (b:j4)=>eG BI a.2.1 a.2.2.1 b.1.1 b.2.2.1 b.2.2.2.1 (fun a' b'=>some (.inl (a',b'))) fun r=>some (.inr r)) p.1 p.2) (x,y)
theorem P6 (BI) (c d e g h) {α:Type} (kn:j3->j4->Option α) (kr:p5->Option α):eG BI c d e g h kn kr=(eG BI c d e g h (fun a b=>some (.inl (a,b))) fun r=>some (.inr r)).bind (Sum.elim (fun p:j3×j4=>kn p.1 p.2) kr):=by simp only [eG,af,ab,ac,ae,ah,Sum.elim_inl,Sum.elim_inr]
theorem P7 (c d e g h):fX ((),c,d,()) ((e,()),(),g,h,())=eG BI c d e g h fX some:=aX (A:=j3) (B:=j4) (R:=p5) (fun a b kn kr=>eG BI a.2.1 a.2.2.1 b.1.1 b.2.2.1 b.2.2.2.1 kn kr) (fun a b kn kr=>P6 BI a.2.1 a.2.2.1 b.1.1 b.2.2.1 b.2.2.2.1 kn kr) ((),c,d,()) ((e,()),(),g,h,())
def p6 (fX:j3->j4->Option p5) {α:Type} (c:Int) (d:Yb) (e:Y6) (K:VY->Option α):Option α :=
 (fX ((),(↑e.length:Int),0,()) ((c,()),(),d,e,())).bind fun r1 =>
 K ((),(r1.2.1.1,()),(),r1.2.2.2.1,(),[],())
def tm:apo->apq->Option VY:=fun a b=>p6 fX b.1.1 b.2.2.1 b.2.2.2.1 some
theorem aAp (fX:j3->j4->Option p5) (c d e) {α:Type} (K:VY->Option α):p6 fX c d e K=(p6 fX c d e some).bind K:=by simp only [p6,af,ab,ac,ae,ah]
theorem atP (c d e):tm ((),()) ((c,()),(),d,e,())=p6 fX c d e some:=rfl
def yt:aC:=(sL [(cP 0),(.fn 61 (.cons (cP 1) .nil))])
def Cz:aS:=atQ
def yu:List aA:=[⟨(.tup .nil),[(0,.cells (sL [lI,(cW 2),(cW 4)])),(1,.cells (.cons SW .nil)),(2,qf),(3,.gone),(4,.row 151 nk)]⟩]
abbrev apr:Type:=(Unit×Unit)
abbrev aps:Type:=((Int×Unit)×pZ×Yb×Y6×Unit)
abbrev VZ:Type:=Unit×((Int×Unit)×pZ×Yb×Unit×Y6×Unit)
abbrev aAq:=apr->aps->Option VZ
def nr:aC:=(.cons (cP 0) (.cons (.fn 61 (.cons (cP 1) .nil)) (dz 8 (.cons (cW 3) (.cons lI (.cons lI (dz 39 .nil)))))))
def p7:aS:=atQ
def tn:List eh:=[⟨(.exit 0),(.cons (cP 0) (dz 51 .nil)),atQ⟩]
abbrev j5:Type:=(Unit×Int×Int×Unit)
abbrev j6:Type:=((Int×Unit)×pZ×Yb×Y6×Unit)
abbrev p8:Type:=Unit×((Int×Unit)×pZ×Yb×Y6×Unit)
def eH (BJ:aGo) {α:Type} (c:Int) (d:Int) (e:Int) (g:List Int) (h:Yb) (i:Y6) (kn:j5->j6->Option α) (kr:p8->Option α):Option α :=
 cond (decide (d<c))
 (cond (decide (0<=d))
 (cond (decide (d<(↑i.length:Int)))
 ((BJ (d,()) ((g,()),())).bind fun r1 =>
 cond (decide (0<=if e<if 0>r1.1 then 0 else r1.1 then e else if 0>r1.1 then 0 else r1.1))
 (cond (decide ((if e<if 0>r1.1 then 0 else r1.1 then e else if 0>r1.1 then 0 else r1.1)<=(↑(i.getD (0+d.toNat) (0,eB)).2.size:Int)))
 (cond (decide (0<=(i.getD (0+d.toNat) (0,eB)).1))
 (cond (decide ((i.getD (0+d.toNat) (0,eB)).1<(↑h.length:Int)))
 (cond (decide (0<=if e<if 0>r1.1 then 0 else r1.1 then e else if 0>r1.1 then 0 else r1.1))
 (cond (decide ((if e<if 0>r1.1 then 0 else r1.1 then e else if 0>r1.1 then 0 else r1.1)<=(↑(h.getD (0+(i.getD (0+d.toNat) (0,eB)).1.toNat) eB).size:Int)))
 (cond (decide (((i.getD (0+d.toNat) (0,eB)).2.extract 0 (if e<if 0>r1.1 then 0 else r1.1 then e else if 0>r1.1 then 0 else r1.1).toNat).size+((h.getD (0+(i.getD (0+d.toNat) (0,eB)).1.toNat) eB).extract (if e<if 0>r1.1 then 0 else r1.1 then e else if 0>r1.1 then 0 else r1.1).toNat (h.getD (0+(i.getD (0+d.toNat) (0,eB)).1.toNat) eB).size).size<=9223372036854775807))
 (cond (decide (0<=(i.getD (0+d.toNat) (0,eB)).1))
 (cond (decide ((i.getD (0+d.toNat) (0,eB)).1<(↑h.length:Int)))
 (kn ((),c,IntKind.i64.wrap (d+1),()) ((e,()),(g,()),h.set (0+(i.getD (0+d.toNat) (0,eB)).1.toNat) ((i.getD (0+d.toNat) (0,eB)).2.extract 0 (if e<if 0>r1.1 then 0 else r1.1 then e else if 0>r1.1 then 0 else r1.1).toNat++(h.getD (0+(i.getD (0+d.toNat) (0,eB)).1.toNat) eB).extract (if e<if 0>r1.1 then 0 else r1.1 then e else if 0>r1.1 then 0 else r1.1).toNat (h.getD (0+(i.getD (0+d.toNat) (0,eB)).1.toNat) eB).size),i,()))
 (none))
 (none))
 (none))
 (none))
 (none))
 (none))
 (none))
 (none))
 (none))
 (none))
 (none))
 (kr ((),(e,()),(g,()),h,i,()))
def fY:j5->j6->Option p8:=fun x y=>dP (fun p=>(fun (a:j5) (b:j6)=>eH BJ a.2.1 a.2.2.1 b.1.1 b.2.1.1 b.2.2.1 b.2.2.2.1 (fun a' b'=>some (.inl (a',b'))) fun r=>some (.inr r)) p.1 p.2) (x,y)
theorem P8 (BJ) (c d e g h i) {α:Type} (kn:j5->j6->Option α) (kr:p8->Option α):eH BJ c d e g h i kn kr=(eH BJ c d e g h i (fun a b=>some (.inl (a,b))) fun r=>some (.inr r)).bind (Sum.elim (fun p:j5×j6=>kn p.1 p.2) kr):=by simp only [eH,af,ab,ac,ae,ah,Sum.elim_inl,Sum.elim_inr]
theorem P9 (c d e g h i):fY ((),c,d,()) ((e,()),(g,()),h,i,())=eH BJ c d e g h i fY some:=aX (A:=j5) (B:=j6) (R:=p8) (fun a b kn kr=>eH BJ a.2.1 a.2.2.1 b.1.1 b.2.1.1 b.2.2.1 b.2.2.2.1 kn kr) (fun a b kn kr=>P8 BJ a.2.1 a.2.2.1 b.1.1 b.2.1.1 b.2.2.1 b.2.2.2.1 kn kr) ((),c,d,()) ((e,()),(g,()),h,i,())
def p9 (fY:j5->j6->Option p8) {α:Type} (c:Int) (d:List Int) (e:Yb) (g:Y6) (K:VZ->Option α):Option α :=
 (fY ((),(↑g.length:Int),0,()) ((c,()),(d,()),e,g,())).bind fun r1 =>
 K ((),(r1.2.1.1,()),(r1.2.2.1.1,()),r1.2.2.2.1,(),[],())
def tp:apr->aps->Option VZ:=fun a b=>p9 fY b.1.1 b.2.1.1 b.2.2.1 b.2.2.2.1 some
theorem aAr (fY:j5->j6->Option p8) (c d e g) {α:Type} (K:VZ->Option α):p9 fY c d e g K=(p9 fY c d e g some).bind K:=by simp only [p9,af,ab,ac,ae,ah]
theorem atR (c d e g):tp ((),()) ((c,()),(d,()),e,g,())=p9 fY c d e g some:=rfl
def HH:aC:=(.cons (cP 0) .nil)
def Mi:aS:=yg
def HI:List aA:=[⟨(.tup .nil),ac9⟩]
abbrev aAs:Type:=Unit
abbrev aAt:Type:=yh
abbrev amh:Type:=Unit×ada
abbrev aGq:=aAs->aAt->Option amh
def xe (tm:aAo) {α:Type} (c:Int) (d:Yb) (e:Y6) (K:amh->Option α):Option α :=
 (tm ((),()) ((c,()),(),d,e,())).bind fun r1 =>
 K ((),(r1.2.1.1,()),r1.2.2.2.1,(),r1.2.2.2.2.2.1,())
def Fc:aAs->aAt->Option amh:=fun a b=>xe tm b.1.1 b.2.1 b.2.2.1 some
theorem aGr (tm) (c d e) {α:Type} (K:amh->Option α):xe tm c d e K=(xe tm c d e some).bind K:=by simp only [xe,af,ab,ac,ae,ah]
theorem aAu (c d e):Fc () ((c,()),d,e,())=xe tm c d e some:=rfl
def Ae:aC:=(sL [(cP 0),SW])
def Fd:aS:=yg
def Af:List aA:=[⟨(.tup .nil),ac9⟩]
abbrev aAv:Type:=pZ
abbrev aAw:Type:=yh
abbrev ami:Type:=Unit×ada
abbrev aGd:=aAv->aAw->Option ami
def xf (tp:aAq) {α:Type} (c:List Int) (d:Int) (e:Yb) (g:Y6) (K:ami->Option α):Option α :=
 (tp ((),()) ((d,()),(c,()),e,g,())).bind fun r1 =>
 K ((),(r1.2.1.1,()),r1.2.2.2.1,(),r1.2.2.2.2.2.1,())
def uP:aAv->aAw->Option ami:=fun a b=>xf tp a.1 b.1.1 b.2.1 b.2.2.1 some
theorem aGs (tp) (c d e g) {α:Type} (K:ami->Option α):xf tp c d e g K=(xf tp c d e g some).bind K:=by simp only [xf,af,ab,ac,ae,ah]
theorem aAx (c d e g):uP (c,()) ((d,()),e,g,())=xf tp c d e g some:=rfl
def HJ:aC:=(sL [(cP 0),lI,lS])
def Mj:aS:=yg
def HK:List aA:=[⟨lB,ac9⟩]
abbrev aAy:Type:=(Int×ByteArray×Unit)
abbrev aAz:Type:=yh
abbrev amj:Type:=Bool×ada
abbrev aGt:=aAy->aAz->Option amj
def xg (oQ:aAe) (bT:SX) {α:Type} (c:Int) (d:ByteArray) (e:Int) (g:Yb) (h:Y6) (K:amj->Option α):Option α :=
 (oQ (c,()) ((e,()),g,h,())).bind fun r1 =>
 cond (!r1.1)
 (K (false,(e,()),g,(),h,()))
 (cond (decide ((↑d.size:Int)>e))
 (K (false,(e,()),g,(),h,()))
 ((bT ((ByteArray.mk #[0]),IntKind.i64.wrap (e-(↑d.size:Int)),()) ()).bind fun r2 =>
 cond (decide (d.size+r2.1.size<=9223372036854775807))
 (cond (decide ((h.length+1)*24<=140737488355328))
 (K (true,(e,()),g,(),h++([]++[(c,d++r2.1)]),()))
 (none))
 (none)))
def CA:aAy->aAz->Option amj:=fun a b=>xg oQ bT a.1 a.2.1 b.1.1 b.2.1 b.2.2.1 some
theorem aGu (oQ bT) (c d e g h) {α:Type} (K:amj->Option α):xg oQ bT c d e g h K=(xg oQ bT c d e g h some).bind K:=by simp only [xg,af,ab,ac,ae,ah]
theorem aAA (c d e g h):CA (c,d,()) ((e,()),g,h,())=xg oQ bT c d e g h some:=rfl
def CD:aC:=(sL [lI,lI])
def HL:aS:=[]
def CE:List aA:=[⟨(.tup amk),[]⟩,⟨(.tup (sL [(cP 0),(.const (.bool Bool.true))])),yg⟩]
abbrev apt:Type:=Ht
abbrev apu:Type:=Unit
abbrev V0:Type:=(Unit×Unit)⊕(Unit×yh)
abbrev aAB:=apt->apu->Option V0
def ns:aC:=(.cons (.const .dead) (.cons lI (dz 4 (.cons (cP 1736) (dz 17 (.cons lI (.cons lI (dz 14 .nil))))))))
def qh:aS:=[(501,qf),(1736,.cells aml)]
def tq:List eh:=[⟨(.exit 0),(dz 6 (.cons (cP 1736) (dz 33 .nil))),[(501,qf),(1736,.cells aml)]⟩]
abbrev j7:Type:=cr
abbrev j8:Type:=(Yb×(Int×Unit)×Unit)
abbrev qi:Type:=Unit×(Yb×(Int×Unit)×Unit)
def eI (bT:SX) {α:Type} (c:Int) (d:Int) (e:Int) (g:Yb) (h:Int) (kn:j7->j8->Option α) (kr:qi->Option α):Option α :=
 cond (decide (e<d))
 ((bT ((ByteArray.mk #[0]),c,()) ()).bind fun r1 =>
 cond (decide ((g.length+1)*16<=140737488355328))
 (kn (c,d,IntKind.i64.wrap (e+1),()) (g++([]++[r1.1]),(h,()),()))
 (none))
 (kr ((),g,(h,()),()))
def gD:j7->j8->Option qi:=fun x y=>dP (fun p=>(fun (a:j7) (b:j8)=>eI bT a.1 a.2.1 a.2.2.1 b.1 b.2.1.1 (fun a' b'=>some (.inl (a',b'))) fun r=>some (.inr r)) p.1 p.2) (x,y)
theorem Qa (bT) (c d e g h) {α:Type} (kn:j7->j8->Option α) (kr:qi->Option α):eI bT c d e g h kn kr=(eI bT c d e g h (fun a b=>some (.inl (a,b))) fun r=>some (.inr r)).bind (Sum.elim (fun p:j7×j8=>kn p.1 p.2) kr):=by simp only [eI,af,ab,ac,ae,ah,Sum.elim_inl,Sum.elim_inr]
theorem Qb (c d e g h):gD (c,d,e,()) (g,(h,()),())=eI bT c d e g h gD some:=aX (A:=j7) (B:=j8) (R:=qi) (fun a b kn kr=>eI bT a.1 a.2.1 a.2.2.1 b.1 b.2.1.1 kn kr) (fun a b kn kr=>Qa bT a.1 a.2.1 a.2.2.1 b.1 b.2.1.1 kn kr) (c,d,e,()) (g,(h,()),())
def qj (gD:j7->j8->Option qi) {α:Type} (c:Int) (d:Int) (K:V0->Option α):Option α :=
 cond (decide (c<1))
 (K (.inl ((),())))
 (cond (decide (c>256))
 (K (.inl ((),())))
 (cond (decide (d<32))
 (K (.inl ((),())))
 (cond (decide (d>512))
 (K (.inl ((),())))
 ((gD (d,c,0,()) ([],(d,()),())).bind fun r1 =>
 K (.inr ((),(r1.2.2.1.1,()),r1.2.1,[],()))))))
def qk:apt->apu->Option V0:=fun a b=>qj gD a.1 a.2.1 some
theorem aAC (gD:j7->j8->Option qi) (c d) {α:Type} (K:V0->Option α):qj gD c d K=(qj gD c d some).bind K:=by simp only [qj,af,ab,ac,ae,ah]
theorem atS (c d):qk (c,d,()) ()=qj gD c d some:=rfl
end
end Go.Proofs.YtljfdfghagiblaaGreat.S2