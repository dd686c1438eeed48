/- Plain forms of the program's functions,by program. -/
import Derived.Test.YtljfdfghagiblaaGreatGseal
import Derived.Test.YtljfdfghagiblaaGreatGmerkle
import Derived.Test.YtljfdfghagiblaaGreatGstore
set_option maxRecDepth 100000
set_option maxHeartbeats 0
namespace Go.Proofs.YtljfdfghagiblaaGreat.S2
open Go
noncomputable section
def CF:aC:=(sL [(cP 0),(cP 1),lU,lU,lI])
def HM:aS:=[atT,(1,.cells (.cons (cP 9) .nil)),(2,qa),(3,qa),(4,qb),(5,qc),(6,qd),(7,qe),(8,qf),(9,.cells (sL [lI,(cW 10),(cW 11)])),(10,qf),(11,.row 151 nk)]
def CG:List aA:=[⟨(.tup amk),[atT,(1,.cells (.cons (cP 9) .nil)),(2,qa),(3,qa),(4,qb),(5,qc),(6,qd),(7,qe),(8,qf),(9,.cells (sL [lI,(cW 10),(cW 11)])),(10,qf),(11,.row 151 nk)]⟩,⟨(.tup (sL [(cP 12),(.const (.bool Bool.true))])),[atT,(1,.cells (.cons (cP 9) .nil)),(2,qa),(3,qa),(4,qb),(5,qc),(6,qd),(7,qe),(8,qf),(9,.cells (sL [lI,(cW 10),(cW 11)])),(10,qf),(11,.row 151 nk),(12,.cells (sL [(cP 0),(cP 1),lU,lU,lI]))]⟩]
abbrev apv:Type:=cr
abbrev apw:Type:=(Yd×Unit×Y1×Y1×Y2×Y3×Y4×Y5×Yb×(Int×Unit)×Yb×Y6×Unit)
abbrev V1:Type:=(Unit×(Yd×Unit×Y1×Y1×Y2×Y3×Y4×Y5×Yb×(Int×Unit)×Yb×Y6×Unit))⊕(Unit×(Yd×Unit×Y1×Y1×Y2×Y3×Y4×Y5×Yb×(Int×Unit)×Yb×Y6×cr×Unit))
abbrev aAD:=apv->apw->Option V1
def j9 {α:Type} (c:Int) (d:Int) (e:Int) (g:List Int) (h:Int) (i:Bool) (j:Y1) (l:Y1) (m:Y2) (n:Y3) (o:Y4) (p:Y5) (q:Yb) (s:Int) (t:Yb) (v:Y6) (K:V1->Option α):Option α :=
 cond (decide (e<0))
 (K (.inl ((),(g,h,i,()),(),j,l,m,n,o,p,q,(s,()),t,v,())))
 (cond (decide (e>4))
 (K (.inl ((),(g,h,i,()),(),j,l,m,n,o,p,q,(s,()),t,v,())))
 (K (.inr ((),(g,h,i,()),(),j,l,m,n,o,p,q,(s,()),t,v,(c,d,e,()),()))))
def tt:apv->apw->Option V1:=fun a b=>j9 a.1 a.2.1 a.2.2.1 b.1.1 b.1.2.1 b.1.2.2.1 b.2.2.1 b.2.2.2.1 b.2.2.2.2.1 b.2.2.2.2.2.1 b.2.2.2.2.2.2.1 b.2.2.2.2.2.2.2.1 b.2.2.2.2.2.2.2.2.1 b.2.2.2.2.2.2.2.2.2.1.1 b.2.2.2.2.2.2.2.2.2.2.1 b.2.2.2.2.2.2.2.2.2.2.2.1 some
theorem aAE (c d e g h i j l m n o p q s t v) {α:Type} (K:V1->Option α):j9 c d e g h i j l m n o p q s t v K=(j9 c d e g h i j l m n o p q s t v some).bind K:=by simp only [j9,af,ab,ac,ae,ah]
theorem SY (c d e g h i j l m n o p q s t v):tt (c,d,e,()) ((g,h,i,()),(),j,l,m,n,o,p,q,(s,()),t,v,())=j9 c d e g h i j l m n o p q s t v some:=rfl
def nt:aC:=Qc
def tu:aS:=qq3
def yv:List aA:=[⟨(.tup (sL [(.agg IW),lI])),[]⟩]
abbrev V2:Type:=(Int×Unit)
abbrev Qd:Type:=(cr×Yd×Unit×Y1×Y1×Y2×Y3×Y4×Y5×Yb×(Int×Unit)×Yb×Y6×Unit)
abbrev apx:Type:=(Yt×Int×Unit)×Unit
abbrev V3:=V2->Qd->Option apx
def Fe:List aA:=[⟨(.tup (.cons (.agg (.cons lU (.cons lU (.cons lU (.cons lU (.cons lU (.cons lS .nil))))))) (.cons lI .nil))),[(0,.cells (.cons (cP 1) (.cons (cP 2) (.cons lU (.cons lU (.cons lI .nil)))))),(1,.cells (.cons (.leaf (.slc 38 (.cons (.int .u64) .nil))) (.cons lI (.cons lB (.cons (cM 3) (.cons (cM 4) (.cons (cM 5) (.cons (cM 6) (.cons (cM 7) (.cons (cM 8) (.cons (cW 9) .nil))))))))))),(2,.cells (.cons (cP 10) .nil)),(3,qa),(4,qa),(5,qb),(6,qc),(7,qd),(8,qe),(9,qf),(10,.cells (.cons lI (.cons (cW 11) (.cons (cW 12) .nil)))),(11,qf),(12,.row 151 (.cons (.int .i64) (.cons .str .nil)))]⟩]
abbrev Ml:Type:=(Yt×Int×Unit)×((Int×Int×Int×Unit)×Yd×Unit×Y1×Y1×Y2×Y3×Y4×Y5×Yb×(Int×Unit)×Yb×Y6×Unit)
def nu (bz:Mm) {α:Type} (c:Int) (d:Int) (e:Int) (g:Int) (h:List Int) (i:Int) (j:Bool) (l:Y1) (m:Y1) (n:Y2) (o:Y3) (p:Y4) (q:Y5) (s:Yb) (t:Int) (v:Yb) (w:Y6) (K:Ml->Option α):Option α :=
 (bz () ((),(t,()),v,w,())).bind fun r1 =>
 cond (!r1.1.2.1)
 (K (((r1.1.1.1,r1.1.1.2.1,r1.1.1.2.2.1,r1.1.1.2.2.2.1,r1.1.1.2.2.2.2.1,r1.1.1.2.2.2.2.2.1,()),235,()),(d,e,g,()),(h,i,j,()),(),l,m,n,o,p,q,s,(t,()),v,w,()))
 (cond (r1.1.1.2.2.1==1)
 (K (((r1.1.1.1,r1.1.1.2.1,r1.1.1.2.2.1,r1.1.1.2.2.2.1,r1.1.1.2.2.2.2.1,r1.1.1.2.2.2.2.2.1,()),234,()),(d,e,g,()),(h,i,j,()),(),l,m,n,o,p,q,s,(t,()),v,w,()))
 (cond (decide (0<=g))
 (cond (decide (c≥IntKind.u64.wrap (1*2 ^ Min.min g.toNat 64)))
 (K (((r1.1.1.1,r1.1.1.2.1,r1.1.1.2.2.1,r1.1.1.2.2.2.1,r1.1.1.2.2.2.2.1,r1.1.1.2.2.2.2.2.1,()),230,()),(d,e,g,()),(h,i,j,()),(),l,m,n,o,p,q,s,(t,()),v,w,()))
 (K (((r1.1.1.1,r1.1.1.2.1,r1.1.1.2.2.1,r1.1.1.2.2.2.1,r1.1.1.2.2.2.2.1,r1.1.1.2.2.2.2.2.1,()),0,()),(d,e,g,()),(h,i,j,()),(),l,m,n,o,p,q,s,(t,()),v,w,())))
 (none)))
def V4:V2->Qd->Option Ml:=fun a b=>nu bz a.1 b.1.1 b.1.2.1 b.1.2.2.1 b.2.1.1 b.2.1.2.1 b.2.1.2.2.1 b.2.2.2.1 b.2.2.2.2.1 b.2.2.2.2.2.1 b.2.2.2.2.2.2.1 b.2.2.2.2.2.2.2.1 b.2.2.2.2.2.2.2.2.1 b.2.2.2.2.2.2.2.2.2.1 b.2.2.2.2.2.2.2.2.2.2.1.1 b.2.2.2.2.2.2.2.2.2.2.2.1 b.2.2.2.2.2.2.2.2.2.2.2.2.1 some
theorem aa8 (a:V2) (b:Qd):cj (fun r:Ml=>r.2=b) (V4 a b):=by
 show cj _ (nu bz a.1 b.1.1 b.1.2.1 b.1.2.2.1 b.2.1.1 b.2.1.2.1 b.2.1.2.2.1 b.2.2.2.1 b.2.2.2.2.1 b.2.2.2.2.2.1 b.2.2.2.2.2.2.1 b.2.2.2.2.2.2.2.1 b.2.2.2.2.2.2.2.2.1 b.2.2.2.2.2.2.2.2.2.1 b.2.2.2.2.2.2.2.2.2.2.1.1 b.2.2.2.2.2.2.2.2.2.2.2.1 b.2.2.2.2.2.2.2.2.2.2.2.2.1 some)
 unfold nu
 repeat (first | (with_reducible refine bk fun _=>?_) | (with_reducible apply bm) | (with_reducible refine bD (fun _=>?_) (fun _=>?_)) | (with_reducible exact bn) | exact bp rfl)
def cz:V2->Qd->Option apx:=fun a b=>(V4 a b).map fun r=>(r.1,())
theorem aAF (bz) (c d e g h i j l m n o p q s t v w) {α:Type} (K:Ml->Option α):nu bz c d e g h i j l m n o p q s t v w K=(nu bz c d e g h i j l m n o p q s t v w some).bind K:=by simp only [nu,af,ab,ac,ae,ah]
def uU:aC:=(.cons (cP 0) .nil)
def Ag:aS:=qq3
def IX:List aA:=[⟨(.tup (sL [(.agg IW),lI])),[]⟩]
abbrev V5:Type:=Unit
abbrev V6:Type:=(cr×Yd×Unit×Y1×Y1×Y2×Y3×Y4×Y5×Yb×(Int×Unit)×Yb×Y6×Unit)
abbrev apy:Type:=(Yt×Int×Unit)×Unit
abbrev apz:=V5->V6->Option apy
def Ff:List aA:=[⟨(.tup (.cons (.agg (.cons lU (.cons lU (.cons lU (.cons lU (.cons lU (.cons lS .nil))))))) (.cons lI .nil))),[(0,.cells (.cons (cP 1) (.cons (cP 2) (.cons lU (.cons lU (.cons lI .nil)))))),(1,.cells (.cons (.leaf (.slc 38 (.cons (.int .u64) .nil))) (.cons lI (.cons lB (.cons (cM 3) (.cons (cM 4) (.cons (cM 5) (.cons (cM 6) (.cons (cM 7) (.cons (cM 8) (.cons (cW 9) .nil))))))))))),(2,.cells (.cons (cP 10) .nil)),(3,qa),(4,qa),(5,qb),(6,qc),(7,qd),(8,qe),(9,qf),(10,.cells (.cons lI (.cons (cW 11) (.cons (cW 12) .nil)))),(11,qf),(12,.row 151 (.cons (.int .i64) (.cons .str .nil)))]⟩]
abbrev Mn:Type:=(Yt×Int×Unit)×((Int×Int×Int×Unit)×Yd×Unit×Y1×Y1×Y2×Y3×Y4×Y5×Yb×(Int×Unit)×Yb×Y6×Unit)
def nv (bz:Mm) {α:Type} (c:Int) (d:Int) (e:Int) (g:List Int) (h:Int) (i:Bool) (j:Y1) (l:Y1) (m:Y2) (n:Y3) (o:Y4) (p:Y5) (q:Yb) (s:Int) (t:Yb) (v:Y6) (K:Mn->Option α):Option α :=
 (bz () ((),(s,()),t,v,())).bind fun r1 =>
 cond (!r1.1.2.1)
 (K (((r1.1.1.1,r1.1.1.2.1,r1.1.1.2.2.1,r1.1.1.2.2.2.1,r1.1.1.2.2.2.2.1,r1.1.1.2.2.2.2.2.1,()),235,()),(c,d,e,()),(g,h,i,()),(),j,l,m,n,o,p,q,(s,()),t,v,()))
 (cond (r1.1.1.2.2.1==0)
 (K (((r1.1.1.1,r1.1.1.2.1,r1.1.1.2.2.1,r1.1.1.2.2.2.1,r1.1.1.2.2.2.2.1,r1.1.1.2.2.2.2.2.1,()),237,()),(c,d,e,()),(g,h,i,()),(),j,l,m,n,o,p,q,(s,()),t,v,()))
 (K (((r1.1.1.1,r1.1.1.2.1,r1.1.1.2.2.1,r1.1.1.2.2.2.1,r1.1.1.2.2.2.2.1,r1.1.1.2.2.2.2.2.1,()),0,()),(c,d,e,()),(g,h,i,()),(),j,l,m,n,o,p,q,(s,()),t,v,())))
def V7:V5->V6->Option Mn:=fun a b=>nv bz b.1.1 b.1.2.1 b.1.2.2.1 b.2.1.1 b.2.1.2.1 b.2.1.2.2.1 b.2.2.2.1 b.2.2.2.2.1 b.2.2.2.2.2.1 b.2.2.2.2.2.2.1 b.2.2.2.2.2.2.2.1 b.2.2.2.2.2.2.2.2.1 b.2.2.2.2.2.2.2.2.2.1 b.2.2.2.2.2.2.2.2.2.2.1.1 b.2.2.2.2.2.2.2.2.2.2.2.1 b.2.2.2.2.2.2.2.2.2.2.2.2.1 some
theorem aa9 (a:V5) (b:V6):cj (fun r:Mn=>r.2=b) (V7 a b):=by
 show cj _ (nv bz b.1.1 b.1.2.1 b.1.2.2.1 b.2.1.1 b.2.1.2.1 b.2.1.2.2.1 b.2.2.2.1 b.2.2.2.2.1 b.2.2.2.2.2.1 b.2.2.2.2.2.2.1 b.2.2.2.2.2.2.2.1 b.2.2.2.2.2.2.2.2.1 b.2.2.2.2.2.2.2.2.2.1 b.2.2.2.2.2.2.2.2.2.2.1.1 b.2.2.2.2.2.2.2.2.2.2.2.1 b.2.2.2.2.2.2.2.2.2.2.2.2.1 some)
 unfold nv
 repeat (first | (with_reducible refine bk fun _=>?_) | (with_reducible apply bm) | (with_reducible refine bD (fun _=>?_) (fun _=>?_)) | (with_reducible exact bn) | exact bp rfl)
def i6:V5->V6->Option apy:=fun a b=>(V7 a b).map fun r=>(r.1,())
theorem aAG (bz) (c d e g h i j l m n o p q s t v) {α:Type} (K:Mn->Option α):nv bz c d e g h i j l m n o p q s t v K=(nv bz c d e g h i j l m n o p q s t v some).bind K:=by simp only [nv,af,ab,ac,ae,ah]
def yw:aC:=(sL [(cP 0),lB])
def CH:aS:=qq3
def yx:List aA:=[⟨lI,amm⟩]
abbrev apA:Type:=(Bool×Unit)
abbrev apB:Type:=(cr×Yd×Unit×Y1×Y1×Y2×Y3×Y4×Y5×Yb×(Int×Unit)×Yb×Y6×Unit)
abbrev V8:Type:=Int×(cr×Yd×Unit×Y1×Y1×Y2×Y3×Y4×Y5×Yb×(Int×Unit)×Yb×Unit×Y6×Unit)
abbrev apC:=apA->apB->Option V8
def uV (oy:atU) {α:Type} (c:Bool) (d:Int) (e:Int) (g:Int) (h:List Int) (i:Int) (j:Bool) (l:Y1) (m:Y1) (n:Y2) (o:Y3) (p:Y4) (q:Y5) (s:Yb) (t:Int) (v:Yb) (w:Y6) (K:V8->Option α):Option α :=
 (oy (c,()) ((),(t,()),v,w,())).bind fun r1 =>
 cond (!r1.1)
 (K (235,(d,e,g,()),(h,i,j,()),(),l,m,n,o,p,q,s,(r1.2.2.1.1,()),r1.2.2.2.1,(),r1.2.2.2.2.2.1,()))
 (K (0,(d,e,g,()),(h,i,j,()),(),l,m,n,o,p,q,s,(r1.2.2.1.1,()),r1.2.2.2.1,(),r1.2.2.2.2.2.1,()))
def gR:apA->apB->Option V8:=fun a b=>uV oy a.1 b.1.1 b.1.2.1 b.1.2.2.1 b.2.1.1 b.2.1.2.1 b.2.1.2.2.1 b.2.2.2.1 b.2.2.2.2.1 b.2.2.2.2.2.1 b.2.2.2.2.2.2.1 b.2.2.2.2.2.2.2.1 b.2.2.2.2.2.2.2.2.1 b.2.2.2.2.2.2.2.2.2.1 b.2.2.2.2.2.2.2.2.2.2.1.1 b.2.2.2.2.2.2.2.2.2.2.2.1 b.2.2.2.2.2.2.2.2.2.2.2.2.1 some
theorem aAH (oy) (c d e g h i j l m n o p q s t v w) {α:Type} (K:V8->Option α):uV oy c d e g h i j l m n o p q s t v w K=(uV oy c d e g h i j l m n o p q s t v w some).bind K:=by simp only [uV,af,ab,ac,ae,ah]
def ql:aC:=(.cons (cP 0) .nil)
def xh:aS:=qq3
def qm:List aA:=[⟨lI,amm⟩]
abbrev apD:Type:=Unit
abbrev apE:Type:=(cr×Yd×Unit×Y1×Y1×Y2×Y3×Y4×Y5×Yb×(Int×Unit)×Yb×Y6×Unit)
abbrev V9:Type:=Int×(cr×Yd×Unit×Y1×Y1×Y2×Y3×Y4×Y5×Yb×(Int×Unit)×Yb×Unit×Y6×Unit)
abbrev api:=apD->apE->Option V9
def uW (i6:apz) (gR:apC) {α:Type} (c:Int) (d:Int) (e:Int) (g:List Int) (h:Int) (i:Bool) (j:Y1) (l:Y1) (m:Y2) (n:Y3) (o:Y4) (p:Y5) (q:Yb) (s:Int) (t:Yb) (v:Y6) (K:V9->Option α):Option α :=
 (i6 () ((c,d,e,()),(g,h,i,()),(),j,l,m,n,o,p,q,(s,()),t,v,())).bind fun r1 =>
 cond (r1.1.2.1 != 0)
 (K (r1.1.2.1,(c,d,e,()),(g,h,i,()),(),j,l,m,n,o,p,q,(s,()),t,(),v,()))
 ((gR (Bool.true,()) ((c,d,e,()),(g,h,i,()),(),j,l,m,n,o,p,q,(s,()),t,v,())).bind fun r2 =>
 K (r2.1,(r2.2.1.1,r2.2.1.2.1,r2.2.1.2.2.1,()),(r2.2.2.1.1,r2.2.2.1.2.1,r2.2.2.1.2.2.1,()),(),r2.2.2.2.2.1,r2.2.2.2.2.2.1,r2.2.2.2.2.2.2.1,r2.2.2.2.2.2.2.2.1,r2.2.2.2.2.2.2.2.2.1,r2.2.2.2.2.2.2.2.2.2.1,r2.2.2.2.2.2.2.2.2.2.2.1,(r2.2.2.2.2.2.2.2.2.2.2.2.1.1,()),r2.2.2.2.2.2.2.2.2.2.2.2.2.1,(),r2.2.2.2.2.2.2.2.2.2.2.2.2.2.2.1,()))
def eE:apD->apE->Option V9:=fun a b=>uW i6 gR b.1.1 b.1.2.1 b.1.2.2.1 b.2.1.1 b.2.1.2.1 b.2.1.2.2.1 b.2.2.2.1 b.2.2.2.2.1 b.2.2.2.2.2.1 b.2.2.2.2.2.2.1 b.2.2.2.2.2.2.2.1 b.2.2.2.2.2.2.2.2.1 b.2.2.2.2.2.2.2.2.2.1 b.2.2.2.2.2.2.2.2.2.2.1.1 b.2.2.2.2.2.2.2.2.2.2.2.1 b.2.2.2.2.2.2.2.2.2.2.2.2.1 some
theorem aAI (i6 gR) (c d e g h i j l m n o p q s t v) {α:Type} (K:V9->Option α):uW i6 gR c d e g h i j l m n o p q s t v K=(uW i6 gR c d e g h i j l m n o p q s t v some).bind K:=by simp only [uW,af,ab,ac,ae,ah]
def qn:aC:=SZ
def xi:aS:=qq3
def qo:List aA:=[⟨(.tup (sL [lU,lB])),qq3⟩]
abbrev apF:Type:=Qe
abbrev apG:Type:=(cr×Yd×Unit×Y1×Y1×Y2×Y3×Y4×Y5×Yb×(Int×Unit)×Yb×Y6×Unit)
abbrev Wa:Type:=(Int×Bool×Unit)×(cr×Yd×Unit×Y1×Y1×Y2×Y3×Y4×Y5×Yb×(Int×Unit)×Yb×Y6×Unit)
abbrev Wb:=apF->apG->Option Wa
def nx:aC:=(.cons (cP 0) (.cons lU (dz 3 (.cons (cP 1160) (dz 7 (.cons ip (.cons lI (.cons lI (dz 52 .nil)))))))))
def qp:aS:=[yy,(1,.cells (sL [ip,lI,lB,(cM 3),(cM 4),(cM 5),(cM 6),(cM 7),(cM 8),(cW 9)])),adb,(3,qa),(4,qa),(5,qb),(6,qc),(7,qd),(8,qe),(9,qf),(10,.cells (sL [lI,(cW 11),(cW 12)])),(11,qf),(12,.row 151 nk),(1160,.cells Hr)]
def tv:List eh:=[⟨(.exit 0),(.cons (cP 0) (.cons lU (dz 3 (.cons (cP 1160) (dz 62 .nil))))),[yy,(1,.cells (sL [ip,lI,lB,(cM 3),(cM 4),(cM 5),(cM 6),(cM 7),(cM 8),(cW 9)])),adb,(3,qa),(4,qa),(5,qb),(6,qc),(7,qd),(8,qe),(9,qf),(10,.cells (sL [lI,(cW 11),(cW 12)])),(11,qf),(12,.row 151 nk),(1160,.cells Hr)]⟩]
abbrev ka:Type:=(Int×List Int×Int×Int×Unit)
abbrev i7:Type:=(cr×Yd×Unit×Y1×Y1×Y2×Y3×Y4×Y5×Yb×(Int×Unit)×Yb×Y6×Hs×Unit)
abbrev qq:Type:=(Int×Unit)×(cr×Yd×Unit×Y1×Y1×Y2×Y3×Y4×Y5×Yb×(Int×Unit)×Yb×Y6×Hs×Unit)
def eJ (bN:VI) {α:Type} (c:Int) (d:List Int) (e:Int) (g:Int) (h:Int) (i:Int) (j:Int) (l:List Int) (m:Int) (n:Bool) (o:Y1) (p:Y1) (q:Y2) (s:Y3) (t:Y4) (v:Y5) (w:Yb) (y:Int) (z:Yb) (C:Y6) (D:ByteArray) (E:List Int) (kn:ka->i7->Option α) (kr:qq->Option α):Option α :=
 cond (decide (g<e))
 (cond (decide (0<=g))
 (cond (decide (g<(↑d.length:Int)))
 ((bN (d.getD g.toNat 0,()) ((l,m,n,()),o,p,q,s,t,v,w,())).bind fun r1 =>
 kn (c,d,e,IntKind.i64.wrap (g+1),()) ((h,i,j,()),(r1.2.1.1,r1.2.1.2.1,r1.2.1.2.2.1,()),(),r1.2.2.1,r1.2.2.2.1,r1.2.2.2.2.1,r1.2.2.2.2.2.1,r1.2.2.2.2.2.2.1,r1.2.2.2.2.2.2.2.1,r1.2.2.2.2.2.2.2.2.1,(y,()),z,C,(D,E,()),()))
 (none))
 (none))
 (kr ((c,()),(h,i,j,()),(l,m,n,()),(),o,p,q,s,t,v,w,(y,()),z,C,(D,E,()),()))
def ir:ka->i7->Option qq:=fun x y=>dP (fun p=>(fun (a:ka) (b:i7)=>eJ bN a.1 a.2.1 a.2.2.1 a.2.2.2.1 b.1.1 b.1.2.1 b.1.2.2.1 b.2.1.1 b.2.1.2.1 b.2.1.2.2.1 b.2.2.2.1 b.2.2.2.2.1 b.2.2.2.2.2.1 b.2.2.2.2.2.2.1 b.2.2.2.2.2.2.2.1 b.2.2.2.2.2.2.2.2.1 b.2.2.2.2.2.2.2.2.2.1 b.2.2.2.2.2.2.2.2.2.2.1.1 b.2.2.2.2.2.2.2.2.2.2.2.1 b.2.2.2.2.2.2.2.2.2.2.2.2.1 b.2.2.2.2.2.2.2.2.2.2.2.2.2.1.1 b.2.2.2.2.2.2.2.2.2.2.2.2.2.1.2.1 (fun a' b'=>some (.inl (a',b'))) fun r=>some (.inr r)) p.1 p.2) (x,y)
theorem Qf (bN) (c d e g h i j l m n o q s t v w y z C D E G) {α:Type} (kn:ka->i7->Option α) (kr:qq->Option α):eJ bN c d e g h i j l m n o q s t v w y z C D E G kn kr=(eJ bN c d e g h i j l m n o q s t v w y z C D E G (fun a b=>some (.inl (a,b))) fun r=>some (.inr r)).bind (Sum.elim (fun p:ka×i7=>kn p.1 p.2) kr):=by simp only [eJ,af,ab,ac,ae,ah,Sum.elim_inl,Sum.elim_inr]
theorem Qg (c d e g h i j l m n o p q s t v w y z C D E):ir (c,d,e,g,()) ((h,i,j,()),(l,m,n,()),(),o,p,q,s,t,v,w,(y,()),z,C,(D,E,()),())=eJ bN c d e g h i j l m n o p q s t v w y z C D E ir some:=aX (A:=ka) (B:=i7) (R:=qq) (fun a b kn kr=>eJ bN a.1 a.2.1 a.2.2.1 a.2.2.2.1 b.1.1 b.1.2.1 b.1.2.2.1 b.2.1.1 b.2.1.2.1 b.2.1.2.2.1 b.2.2.2.1 b.2.2.2.2.1 b.2.2.2.2.2.1 b.2.2.2.2.2.2.1 b.2.2.2.2.2.2.2.1 b.2.2.2.2.2.2.2.2.1 b.2.2.2.2.2.2.2.2.2.1 b.2.2.2.2.2.2.2.2.2.2.1.1 b.2.2.2.2.2.2.2.2.2.2.2.1 b.2.2.2.2.2.2.2.2.2.2.2.2.1 b.2.2.2.2.2.2.2.2.2.2.2.2.2.1.1 b.2.2.2.2.2.2.2.2.2.2.2.2.2.1.2.1 kn kr) (fun a b kn kr=>Qf bN a.1 a.2.1 a.2.2.1 a.2.2.2.1 b.1.1 b.1.2.1 b.1.2.2.1 b.2.1.1 b.2.1.2.1 b.2.1.2.2.1 b.2.2.2.1 b.2.2.2.2.1 b.2.2.2.2.2.1 b.2.2.2.2.2.2.1 b.2.2.2.2.2.2.2.1 b.2.2.2.2.2.2.2.2.1 b.2.2.2.2.2.2.2.2.2.1 b.2.2.2.2.2.2.2.2.2.2.1.1 b.2.2.2.2.2.2.2.2.2.2.2.1 b.2.2.2.2.2.2.2.2.2.2.2.2.1 b.2.2.2.2.2.2.2.2.2.2.2.2.2.1.1 b.2.2.2.2.2.2.2.2.2.2.2.2.2.1.2.1 kn kr) (c,d,e,g,()) ((h,i,j,()),(l,m,n,()),(),o,p,q,s,t,v,w,(y,()),z,C,(D,E,()),())
def uX (bN:VI) (dT:adc) (cT:ade) (ir:ka->i7->Option qq) {α:Type} (c:Int) (d:ByteArray) (e:List Int) (g:Int) (h:Int) (i:Int) (j:List Int) (l:Int) (m:Bool) (n:Y1) (o:Y1) (p:Y2) (q:Y3) (s:Y4) (t:Y5) (v:Yb) (w:Int) (y:Yb) (z:Y6) (K:Wa->Option α):Option α :=
 (ir (c,e,(↑e.length:Int),0,()) ((g,h,i,()),(j,l,m,()),(),n,o,p,q,s,t,v,(w,()),y,z,(d,e,()),())).bind fun r1 =>
 (dT (r1.2.2.2.2.2.2.2.2.2.2.2.2.2.2.1.1,()) ()).bind fun r2 =>
 cond (r2.1.2.1)
 ((bN (r2.1.1.2.2.1,()) ((r1.2.2.1.1,r1.2.2.1.2.1,r1.2.2.1.2.2.1,()),r1.2.2.2.2.1,r1.2.2.2.2.2.1,r1.2.2.2.2.2.2.1,r1.2.2.2.2.2.2.2.1,r1.2.2.2.2.2.2.2.2.1,r1.2.2.2.2.2.2.2.2.2.1,r1.2.2.2.2.2.2.2.2.2.2.1,())).bind fun r3 =>
 (bN (r2.1.1.2.2.2.1,()) ((r3.2.1.1,r3.2.1.2.1,r3.2.1.2.2.1,()),r3.2.2.1,r3.2.2.2.1,r3.2.2.2.2.1,r3.2.2.2.2.2.1,r3.2.2.2.2.2.2.1,r3.2.2.2.2.2.2.2.1,r3.2.2.2.2.2.2.2.2.1,())).bind fun r4 =>
 cond ((↑r1.2.2.2.2.2.2.2.2.2.2.2.2.2.2.1.2.1.length:Int) != r1.2.1.2.2.1)
 (K ((0,false,()),(r1.2.1.1,r1.2.1.2.1,r1.2.1.2.2.1,()),(r4.2.1.1,r4.2.1.2.1,r4.2.1.2.2.1,()),(),r4.2.2.1,r4.2.2.2.1,r4.2.2.2.2.1,r4.2.2.2.2.2.1,r4.2.2.2.2.2.2.1,r4.2.2.2.2.2.2.2.1,r4.2.2.2.2.2.2.2.2.1,(r1.2.2.2.2.2.2.2.2.2.2.2.1.1,()),r1.2.2.2.2.2.2.2.2.2.2.2.2.1,r1.2.2.2.2.2.2.2.2.2.2.2.2.2.1,()))
 ((cT (r1.2.2.2.2.2.2.2.2.2.2.2.2.2.2.1.1,IntKind.i64.wrap r1.1.1,r1.2.2.2.2.2.2.2.2.2.2.2.2.2.2.1.2.1,()) ((r4.2.1.1,r4.2.1.2.1,r4.2.1.2.2.1,()),r4.2.2.1,r4.2.2.2.1,r4.2.2.2.2.1,r4.2.2.2.2.2.1,r4.2.2.2.2.2.2.1,r4.2.2.2.2.2.2.2.1,r4.2.2.2.2.2.2.2.2.1,())).bind fun r5 =>
 K ((r5.1.1,r5.1.2.1,()),(r1.2.1.1,r1.2.1.2.1,r1.2.1.2.2.1,()),(r5.2.1.1,r5.2.1.2.1,r5.2.1.2.2.1,()),(),r5.2.2.1,r5.2.2.2.1,r5.2.2.2.2.1,r5.2.2.2.2.2.1,r5.2.2.2.2.2.2.1,r5.2.2.2.2.2.2.2.1,r5.2.2.2.2.2.2.2.2.1,(r1.2.2.2.2.2.2.2.2.2.2.2.1.1,()),r1.2.2.2.2.2.2.2.2.2.2.2.2.1,r1.2.2.2.2.2.2.2.2.2.2.2.2.2.1,())))
 (cond ((↑r1.2.2.2.2.2.2.2.2.2.2.2.2.2.2.1.2.1.length:Int) != r1.2.1.2.2.1)
 (K ((0,false,()),(r1.2.1.1,r1.2.1.2.1,r1.2.1.2.2.1,()),(r1.2.2.1.1,r1.2.2.1.2.1,r1.2.2.1.2.2.1,()),(),r1.2.2.2.2.1,r1.2.2.2.2.2.1,r1.2.2.2.2.2.2.1,r1.2.2.2.2.2.2.2.1,r1.2.2.2.2.2.2.2.2.1,r1.2.2.2.2.2.2.2.2.2.1,r1.2.2.2.2.2.2.2.2.2.2.1,(r1.2.2.2.2.2.2.2.2.2.2.2.1.1,()),r1.2.2.2.2.2.2.2.2.2.2.2.2.1,r1.2.2.2.2.2.2.2.2.2.2.2.2.2.1,()))
 ((cT (r1.2.2.2.2.2.2.2.2.2.2.2.2.2.2.1.1,IntKind.i64.wrap r1.1.1,r1.2.2.2.2.2.2.2.2.2.2.2.2.2.2.1.2.1,()) ((r1.2.2.1.1,r1.2.2.1.2.1,r1.2.2.1.2.2.1,()),r1.2.2.2.2.1,r1.2.2.2.2.2.1,r1.2.2.2.2.2.2.1,r1.2.2.2.2.2.2.2.1,r1.2.2.2.2.2.2.2.2.1,r1.2.2.2.2.2.2.2.2.2.1,r1.2.2.2.2.2.2.2.2.2.2.1,())).bind fun r6 =>
 K ((r6.1.1,r6.1.2.1,()),(r1.2.1.1,r1.2.1.2.1,r1.2.1.2.2.1,()),(r6.2.1.1,r6.2.1.2.1,r6.2.1.2.2.1,()),(),r6.2.2.1,r6.2.2.2.1,r6.2.2.2.2.1,r6.2.2.2.2.2.1,r6.2.2.2.2.2.2.1,r6.2.2.2.2.2.2.2.1,r6.2.2.2.2.2.2.2.2.1,(r1.2.2.2.2.2.2.2.2.2.2.2.1.1,()),r1.2.2.2.2.2.2.2.2.2.2.2.2.1,r1.2.2.2.2.2.2.2.2.2.2.2.2.2.1,())))
def cA:apF->apG->Option Wa:=fun a b=>uX bN dT cT ir a.1 a.2.1.1 a.2.1.2.1 b.1.1 b.1.2.1 b.1.2.2.1 b.2.1.1 b.2.1.2.1 b.2.1.2.2.1 b.2.2.2.1 b.2.2.2.2.1 b.2.2.2.2.2.1 b.2.2.2.2.2.2.1 b.2.2.2.2.2.2.2.1 b.2.2.2.2.2.2.2.2.1 b.2.2.2.2.2.2.2.2.2.1 b.2.2.2.2.2.2.2.2.2.2.1.1 b.2.2.2.2.2.2.2.2.2.2.2.1 b.2.2.2.2.2.2.2.2.2.2.2.2.1 some
theorem aAJ (bN dT cT) (ir:ka->i7->Option qq) (c d e g h i j l m n o p q s t v w y z) {α:Type} (K:Wa->Option α):uX bN dT cT ir c d e g h i j l m n o p q s t v w y z K=(uX bN dT cT ir c d e g h i j l m n o p q s t v w y z some).bind K:=by simp only [uX,af,ab,ac,ae,ah]
def qr:aC:=SZ
def xj:aS:=qq3
def qt:List aA:=[⟨(.tup (sL [lS,lI])),qq3⟩]
abbrev apH:Type:=Qe
abbrev apI:Type:=(cr×Yd×Unit×Y1×Y1×Y2×Y3×Y4×Y5×Yb×(Int×Unit)×Yb×Y6×Unit)
abbrev Wc:Type:=Hu×(cr×Yd×Unit×Y1×Y1×Y2×Y3×Y4×Y5×Yb×(Int×Unit)×Yb×Y6×Unit)
abbrev apg:=apH->apI->Option Wc
def uY (cz:V3) (cA:Wb) (dT:adc) (lW:atV) {α:Type} (c:Int) (d:ByteArray) (e:List Int) (g:Int) (h:Int) (i:Int) (j:List Int) (l:Int) (m:Bool) (n:Y1) (o:Y1) (p:Y2) (q:Y3) (s:Y4) (t:Y5) (v:Yb) (w:Int) (y:Yb) (z:Y6) (K:Wc->Option α):Option α :=
 (cz (c,()) ((g,h,i,()),(j,l,m,()),(),n,o,p,q,s,t,v,(w,()),y,z,())).bind fun r1 =>
 cond (r1.1.2.1 != 0)
 (K ((eB,r1.1.2.1,()),(g,h,i,()),(j,l,m,()),(),n,o,p,q,s,t,v,(w,()),y,z,()))
 ((cA (c,(d,e,()),()) ((g,h,i,()),(j,l,m,()),(),n,o,p,q,s,t,v,(w,()),y,z,())).bind fun r2 =>
 cond (!r2.1.2.1)
 (K ((eB,232,()),(r2.2.1.1,r2.2.1.2.1,r2.2.1.2.2.1,()),(r2.2.2.1.1,r2.2.2.1.2.1,r2.2.2.1.2.2.1,()),(),r2.2.2.2.2.1,r2.2.2.2.2.2.1,r2.2.2.2.2.2.2.1,r2.2.2.2.2.2.2.2.1,r2.2.2.2.2.2.2.2.2.1,r2.2.2.2.2.2.2.2.2.2.1,r2.2.2.2.2.2.2.2.2.2.2.1,(r2.2.2.2.2.2.2.2.2.2.2.2.1.1,()),r2.2.2.2.2.2.2.2.2.2.2.2.2.1,r2.2.2.2.2.2.2.2.2.2.2.2.2.2.1,()))
 (cond (r2.1.1 != r1.1.1.1)
 (K ((eB,232,()),(r2.2.1.1,r2.2.1.2.1,r2.2.1.2.2.1,()),(r2.2.2.1.1,r2.2.2.1.2.1,r2.2.2.1.2.2.1,()),(),r2.2.2.2.2.1,r2.2.2.2.2.2.1,r2.2.2.2.2.2.2.1,r2.2.2.2.2.2.2.2.1,r2.2.2.2.2.2.2.2.2.1,r2.2.2.2.2.2.2.2.2.2.1,r2.2.2.2.2.2.2.2.2.2.2.1,(r2.2.2.2.2.2.2.2.2.2.2.2.1.1,()),r2.2.2.2.2.2.2.2.2.2.2.2.2.1,r2.2.2.2.2.2.2.2.2.2.2.2.2.2.1,()))
 (cond (d.toList==eB.toList)
 (K ((eB,0,()),(r2.2.1.1,r2.2.1.2.1,r2.2.1.2.2.1,()),(r2.2.2.1.1,r2.2.2.1.2.1,r2.2.2.1.2.2.1,()),(),r2.2.2.2.2.1,r2.2.2.2.2.2.1,r2.2.2.2.2.2.2.1,r2.2.2.2.2.2.2.2.1,r2.2.2.2.2.2.2.2.2.1,r2.2.2.2.2.2.2.2.2.2.1,r2.2.2.2.2.2.2.2.2.2.2.1,(r2.2.2.2.2.2.2.2.2.2.2.2.1.1,()),r2.2.2.2.2.2.2.2.2.2.2.2.2.1,r2.2.2.2.2.2.2.2.2.2.2.2.2.2.1,()))
 ((dT (d,()) ()).bind fun r3 =>
 cond (!r3.1.2.1)
 (K ((eB,233,()),(r2.2.1.1,r2.2.1.2.1,r2.2.1.2.2.1,()),(r2.2.2.1.1,r2.2.2.1.2.1,r2.2.2.1.2.2.1,()),(),r2.2.2.2.2.1,r2.2.2.2.2.2.1,r2.2.2.2.2.2.2.1,r2.2.2.2.2.2.2.2.1,r2.2.2.2.2.2.2.2.2.1,r2.2.2.2.2.2.2.2.2.2.1,r2.2.2.2.2.2.2.2.2.2.2.1,(r2.2.2.2.2.2.2.2.2.2.2.2.1.1,()),r2.2.2.2.2.2.2.2.2.2.2.2.2.1,r2.2.2.2.2.2.2.2.2.2.2.2.2.2.1,()))
 ((lW (r2.2.1.1,r2.2.1.2.1,c,(r3.1.1.1,r3.1.1.2.1,r3.1.1.2.2.1,r3.1.1.2.2.2.1,()),()) ((r2.2.2.1.1,r2.2.2.1.2.1,r2.2.2.1.2.2.1,()),r2.2.2.2.2.1,r2.2.2.2.2.2.1,r2.2.2.2.2.2.2.1,r2.2.2.2.2.2.2.2.1,r2.2.2.2.2.2.2.2.2.1,r2.2.2.2.2.2.2.2.2.2.1,r2.2.2.2.2.2.2.2.2.2.2.1,())).bind fun r4 =>
 cond (!r4.1.2.1)
 (K ((eB,233,()),(r2.2.1.1,r2.2.1.2.1,r2.2.1.2.2.1,()),(r4.2.1.1,r4.2.1.2.1,r4.2.1.2.2.1,()),(),r4.2.2.1,r4.2.2.2.1,r4.2.2.2.2.1,r4.2.2.2.2.2.1,r4.2.2.2.2.2.2.1,r4.2.2.2.2.2.2.2.1,r4.2.2.2.2.2.2.2.2.1,(r2.2.2.2.2.2.2.2.2.2.2.2.1.1,()),r2.2.2.2.2.2.2.2.2.2.2.2.2.1,r2.2.2.2.2.2.2.2.2.2.2.2.2.2.1,()))
 (K ((r4.1.1,0,()),(r2.2.1.1,r2.2.1.2.1,r2.2.1.2.2.1,()),(r4.2.1.1,r4.2.1.2.1,r4.2.1.2.2.1,()),(),r4.2.2.1,r4.2.2.2.1,r4.2.2.2.2.1,r4.2.2.2.2.2.1,r4.2.2.2.2.2.2.1,r4.2.2.2.2.2.2.2.1,r4.2.2.2.2.2.2.2.2.1,(r2.2.2.2.2.2.2.2.2.2.2.2.1.1,()),r2.2.2.2.2.2.2.2.2.2.2.2.2.1,r2.2.2.2.2.2.2.2.2.2.2.2.2.2.1,())))))))
def dk:apH->apI->Option Wc:=fun a b=>uY cz cA dT lW a.1 a.2.1.1 a.2.1.2.1 b.1.1 b.1.2.1 b.1.2.2.1 b.2.1.1 b.2.1.2.1 b.2.1.2.2.1 b.2.2.2.1 b.2.2.2.2.1 b.2.2.2.2.2.1 b.2.2.2.2.2.2.1 b.2.2.2.2.2.2.2.1 b.2.2.2.2.2.2.2.2.1 b.2.2.2.2.2.2.2.2.2.1 b.2.2.2.2.2.2.2.2.2.2.1.1 b.2.2.2.2.2.2.2.2.2.2.2.1 b.2.2.2.2.2.2.2.2.2.2.2.2.1 some
theorem aAK (cz cA dT lW) (c d e g h i j l m n o p q s t v w y z) {α:Type} (K:Wc->Option α):uY cz cA dT lW c d e g h i j l m n o p q s t v w y z K=(uY cz cA dT lW c d e g h i j l m n o p q s t v w y z some).bind K:=by simp only [uY,af,ab,ac,ae,ah]
def CI:aC:=(sL [lU,(cP 0),(cP 1),(cP 2),(cP 3)])
def HN:aS:=[(0,.cells (.cons (cP 4) .nil)),(1,.cells (.cons lU .nil)),(2,.cells (.cons lU .nil)),(3,.cells (.cons lS .nil)),(4,.cells (sL [(cP 5),(cP 6),lU,lU,lI])),(5,.cells (sL [ip,lI,lB,(cM 7),(cM 8),(cM 9),(cM 10),(cM 11),(cM 12),(cW 13)])),(6,.cells (.cons (cP 14) .nil)),(7,qa),(8,qa),(9,qb),(10,qc),(11,qd),(12,qe),(13,qf),(14,.cells (sL [lI,(cW 15),(cW 16)])),(15,qf),(16,.row 151 nk)]
def CJ:List aA:=[⟨lS,[(0,.cells (.cons (cP 4) .nil)),(1,.cells (.cons lU .nil)),(2,.cells (.cons lU .nil)),(3,.cells (.cons lS .nil)),(4,.cells (sL [(cP 5),(cP 6),lU,lU,lI])),(5,.cells (sL [ip,lI,lB,(cM 7),(cM 8),(cM 9),(cM 10),(cM 11),(cM 12),(cW 17)])),(6,.cells (.cons (cP 14) .nil)),(7,qa),(8,qa),(9,qb),(10,qc),(11,qd),(12,qe),(13,.gone),(14,.cells (sL [lI,(cW 15),(cW 16)])),(15,qf),(16,.row 151 nk),(17,qf)]⟩]
abbrev apJ:Type:=(Int×Unit)
abbrev apK:Type:=(Unit×(Int×Unit)×(Int×Unit)×ux×cr×Yd×Unit×Y1×Y1×Y2×Y3×Y4×Y5×Yb×(Int×Unit)×Yb×Y6×Unit)
abbrev Wd:Type:=ByteArray×(Unit×(Int×Unit)×(Int×Unit)×ux×cr×Yd×Unit×Y1×Y1×Y2×Y3×Y4×Y5×Unit×(Int×Unit)×Yb×Y6×Yb×Unit)
abbrev aAL:=apJ->apK->Option Wd
def uZ (lX:atW) (oz:atX) {α:Type} (c:Int) (d:Int) (e:Int) (g:ByteArray) (h:Int) (i:Int) (j:Int) (l:List Int) (m:Int) (n:Bool) (o:Y1) (p:Y1) (q:Y2) (s:Y3) (t:Y4) (v:Y5) (w:Yb) (y:Int) (z:Yb) (C:Y6) (K:Wd->Option α):Option α :=
 (lX (h,i,d,c,e,g,()) ((l,m,n,()),o,p,q,s,t,v,w,())).bind fun r1 =>
 (oz ((r1.1.1,r1.1.2.1,r1.1.2.2.1,r1.1.2.2.2.1,()),()) ()).bind fun r2 =>
 K (r2.1,(),(d,()),(e,()),(g,()),(h,i,j,()),(r1.2.1.1,r1.2.1.2.1,r1.2.1.2.2.1,()),(),r1.2.2.1,r1.2.2.2.1,r1.2.2.2.2.1,r1.2.2.2.2.2.1,r1.2.2.2.2.2.2.1,r1.2.2.2.2.2.2.2.1,(),(y,()),z,C,r1.2.2.2.2.2.2.2.2.2.1,())
def xV:apJ->apK->Option Wd:=fun a b=>uZ lX oz a.1 b.2.1.1 b.2.2.1.1 b.2.2.2.1.1 b.2.2.2.2.1.1 b.2.2.2.2.1.2.1 b.2.2.2.2.1.2.2.1 b.2.2.2.2.2.1.1 b.2.2.2.2.2.1.2.1 b.2.2.2.2.2.1.2.2.1 b.2.2.2.2.2.2.2.1 b.2.2.2.2.2.2.2.2.1 b.2.2.2.2.2.2.2.2.2.1 b.2.2.2.2.2.2.2.2.2.2.1 b.2.2.2.2.2.2.2.2.2.2.2.1 b.2.2.2.2.2.2.2.2.2.2.2.2.1 b.2.2.2.2.2.2.2.2.2.2.2.2.2.1 b.2.2.2.2.2.2.2.2.2.2.2.2.2.2.1.1 b.2.2.2.2.2.2.2.2.2.2.2.2.2.2.2.1 b.2.2.2.2.2.2.2.2.2.2.2.2.2.2.2.2.1 some
theorem aAM (lX oz) (c d e g h i j l m n o p q s t v w y z C) {α:Type} (K:Wd->Option α):uZ lX oz c d e g h i j l m n o p q s t v w y z C K=(uZ lX oz c d e g h i j l m n o p q s t v w y z C some).bind K:=by simp only [uZ,af,ab,ac,ae,ah]
def CK:aC:=(.cons lU .nil)
def HO:aS:=[]
def CL:List aA:=[⟨lS,[]⟩]
abbrev apL:Type:=(Int×Unit)
abbrev apM:Type:=Unit
abbrev We:Type:=ByteArray×Unit
abbrev aAN:=apL->apM->Option We
def yz {α:Type} (c:Int) (K:We->Option α):Option α :=
 K (eB,())
def yA:apL->apM->Option We:=fun a b=>yz a.1 some
theorem aAO (c) {α:Type} (K:We->Option α):yz c K=(yz c some).bind K:=by simp only [yz,af,ab,ac,ae,ah]
def yB:aC:=(sL [(cP 0),lU,(.agg Hr),(.fn 47 (sL [(cP 1),(cP 2),(cP 3),(cP 4)]))])
def CM:aS:=[(0,.cells (sL [(cP 5),(cP 6),lU,lU,lI])),(1,.cells (.cons (cP 0) .nil)),(2,.cells (.cons lU .nil)),(3,.cells (.cons lU .nil)),(4,.cells (.cons lS .nil)),(5,.cells (sL [ip,lI,lB,(cM 7),(cM 8),(cM 9),(cM 10),(cM 11),(cM 12),(cW 13)])),(6,.cells (.cons (cP 14) .nil)),(7,qa),(8,qa),(9,qb),(10,qc),(11,qd),(12,qe),(13,qf),(14,.cells (sL [lI,(cW 15),(cW 16)])),(15,qf),(16,.row 151 nk)]
def yC:List aA:=[⟨(.tup (sL [lS,lI])),[(0,.cells (sL [(cP 5),(cP 6),lU,lU,lI])),(1,.cells (.cons (cP 0) .nil)),(2,.cells (.cons lU .nil)),(3,.cells (.cons lU .nil)),(4,.cells (.cons lS .nil)),(5,.cells (sL [ip,lI,lB,(cM 7),(cM 8),(cM 9),(cM 10),(cM 11),(cM 12),(cW 17)])),(6,.cells (.cons (cP 14) .nil)),(7,qa),(8,qa),(9,qb),(10,qc),(11,qd),(12,qe),(13,.gone),(14,.cells (sL [lI,(cW 15),(cW 18)])),(15,qf),(16,.gone),(17,qf),(18,.row 151 nk)]⟩]
abbrev apN:Type:=(Int×Hs×Unit×Unit)
abbrev apO:Type:=(cr×Unit×(Int×Unit)×(Int×Unit)×ux×Yd×Unit×Y1×Y1×Y2×Y3×Y4×Y5×Yb×(Int×Unit)×Yb×Y6×Unit)
abbrev Wg:Type:=Hu×(cr×Unit×(Int×Unit)×(Int×Unit)×ux×Yd×Unit×Y1×Y1×Y2×Y3×Y4×Y5×Unit×(Int×Unit)×Yb×Unit×Yb×Y6×Unit)
abbrev aAP:=apN->apO->Option Wg
def va (cz:V3) (cA:Wb) (cT:ade) (fq:adf) (xV:aAL) {α:Type} (c:Int) (d:ByteArray) (e:List Int) (g:Int) (h:Int) (i:Int) (j:Int) (l:Int) (m:ByteArray) (n:List Int) (o:Int) (p:Bool) (q:Y1) (s:Y1) (t:Y2) (v:Y3) (w:Y4) (y:Y5) (z:Yb) (C:Int) (D:Yb) (E:Y6) (K:Wg->Option α):Option α :=
 (cz (c,()) ((g,h,i,()),(n,o,p,()),(),q,s,t,v,w,y,z,(C,()),D,E,())).bind fun r1 =>
 cond (r1.1.2.1 != 0)
 (K ((eB,r1.1.2.1,()),(g,h,i,()),(),(j,()),(l,()),(m,()),(n,o,p,()),(),q,s,t,v,w,y,(),(C,()),D,(),z,E,()))
 ((cA (c,(d,e,()),()) ((g,h,i,()),(n,o,p,()),(),q,s,t,v,w,y,z,(C,()),D,E,())).bind fun r2 =>
 cond (!r2.1.2.1)
 (K ((eB,232,()),(r2.2.1.1,r2.2.1.2.1,r2.2.1.2.2.1,()),(),(j,()),(l,()),(m,()),(r2.2.2.1.1,r2.2.2.1.2.1,r2.2.2.1.2.2.1,()),(),r2.2.2.2.2.1,r2.2.2.2.2.2.1,r2.2.2.2.2.2.2.1,r2.2.2.2.2.2.2.2.1,r2.2.2.2.2.2.2.2.2.1,r2.2.2.2.2.2.2.2.2.2.1,(),(r2.2.2.2.2.2.2.2.2.2.2.2.1.1,()),r2.2.2.2.2.2.2.2.2.2.2.2.2.1,(),r2.2.2.2.2.2.2.2.2.2.2.1,r2.2.2.2.2.2.2.2.2.2.2.2.2.2.1,()))
 (cond (r2.1.1 != r1.1.1.1)
 (K ((eB,232,()),(r2.2.1.1,r2.2.1.2.1,r2.2.1.2.2.1,()),(),(j,()),(l,()),(m,()),(r2.2.2.1.1,r2.2.2.1.2.1,r2.2.2.1.2.2.1,()),(),r2.2.2.2.2.1,r2.2.2.2.2.2.1,r2.2.2.2.2.2.2.1,r2.2.2.2.2.2.2.2.1,r2.2.2.2.2.2.2.2.2.1,r2.2.2.2.2.2.2.2.2.2.1,(),(r2.2.2.2.2.2.2.2.2.2.2.2.1.1,()),r2.2.2.2.2.2.2.2.2.2.2.2.2.1,(),r2.2.2.2.2.2.2.2.2.2.2.1,r2.2.2.2.2.2.2.2.2.2.2.2.2.2.1,()))
 ((xV (IntKind.u64.wrap (r1.1.1.2.1+1),()) ((),(j,()),(l,()),(m,()),(r2.2.1.1,r2.2.1.2.1,r2.2.1.2.2.1,()),(r2.2.2.1.1,r2.2.2.1.2.1,r2.2.2.1.2.2.1,()),(),r2.2.2.2.2.1,r2.2.2.2.2.2.1,r2.2.2.2.2.2.2.1,r2.2.2.2.2.2.2.2.1,r2.2.2.2.2.2.2.2.2.1,r2.2.2.2.2.2.2.2.2.2.1,r2.2.2.2.2.2.2.2.2.2.2.1,(r2.2.2.2.2.2.2.2.2.2.2.2.1.1,()),r2.2.2.2.2.2.2.2.2.2.2.2.2.1,r2.2.2.2.2.2.2.2.2.2.2.2.2.2.1,())).bind fun r3 =>
 (cT (r3.1,IntKind.i64.wrap c,e,()) ((r3.2.2.2.2.2.2.1.1,r3.2.2.2.2.2.2.1.2.1,r3.2.2.2.2.2.2.1.2.2.1,()),r3.2.2.2.2.2.2.2.2.1,r3.2.2.2.2.2.2.2.2.2.1,r3.2.2.2.2.2.2.2.2.2.2.1,r3.2.2.2.2.2.2.2.2.2.2.2.1,r3.2.2.2.2.2.2.2.2.2.2.2.2.1,r3.2.2.2.2.2.2.2.2.2.2.2.2.2.1,r3.2.2.2.2.2.2.2.2.2.2.2.2.2.2.2.2.2.2.1,())).bind fun r4 =>
 (fq (c,r3.1,r4.1.1,()) ((),(r3.2.2.2.2.2.2.2.2.2.2.2.2.2.2.2.1.1,()),r3.2.2.2.2.2.2.2.2.2.2.2.2.2.2.2.2.1,r3.2.2.2.2.2.2.2.2.2.2.2.2.2.2.2.2.2.1,())).bind fun r5 =>
 cond (!r5.1)
 (K ((eB,235,()),(r3.2.2.2.2.2.1.1,r3.2.2.2.2.2.1.2.1,r3.2.2.2.2.2.1.2.2.1,()),(),(r3.2.2.1.1,()),(r3.2.2.2.1.1,()),(r3.2.2.2.2.1.1,()),(r4.2.1.1,r4.2.1.2.1,r4.2.1.2.2.1,()),(),r4.2.2.1,r4.2.2.2.1,r4.2.2.2.2.1,r4.2.2.2.2.2.1,r4.2.2.2.2.2.2.1,r4.2.2.2.2.2.2.2.1,(),(r5.2.2.1.1,()),r5.2.2.2.1,(),r4.2.2.2.2.2.2.2.2.1,r5.2.2.2.2.2.1,()))
 (K ((r3.1,0,()),(r3.2.2.2.2.2.1.1,r3.2.2.2.2.2.1.2.1,r3.2.2.2.2.2.1.2.2.1,()),(),(r3.2.2.1.1,()),(r3.2.2.2.1.1,()),(r3.2.2.2.2.1.1,()),(r4.2.1.1,r4.2.1.2.1,r4.2.1.2.2.1,()),(),r4.2.2.1,r4.2.2.2.1,r4.2.2.2.2.1,r4.2.2.2.2.2.1,r4.2.2.2.2.2.2.1,r4.2.2.2.2.2.2.2.1,(),(r5.2.2.1.1,()),r5.2.2.2.1,(),r4.2.2.2.2.2.2.2.2.1,r5.2.2.2.2.2.1,())))))
def qu:apN->apO->Option Wg:=fun a b=>va cz cA cT fq xV a.1 a.2.1.1 a.2.1.2.1 b.1.1 b.1.2.1 b.1.2.2.1 b.2.2.1.1 b.2.2.2.1.1 b.2.2.2.2.1.1 b.2.2.2.2.2.1.1 b.2.2.2.2.2.1.2.1 b.2.2.2.2.2.1.2.2.1 b.2.2.2.2.2.2.2.1 b.2.2.2.2.2.2.2.2.1 b.2.2.2.2.2.2.2.2.2.1 b.2.2.2.2.2.2.2.2.2.2.1 b.2.2.2.2.2.2.2.2.2.2.2.1 b.2.2.2.2.2.2.2.2.2.2.2.2.1 b.2.2.2.2.2.2.2.2.2.2.2.2.2.1 b.2.2.2.2.2.2.2.2.2.2.2.2.2.2.1.1 b.2.2.2.2.2.2.2.2.2.2.2.2.2.2.2.1 b.2.2.2.2.2.2.2.2.2.2.2.2.2.2.2.2.1 some
theorem aAQ (cz cA cT fq xV) (c d e g h i j l m n o p q s t v w y z C D E) {α:Type} (K:Wg->Option α):va cz cA cT fq xV c d e g h i j l m n o p q s t v w y z C D E K=(va cz cA cT fq xV c d e g h i j l m n o p q s t v w y z C D E some).bind K:=by simp only [va,af,ab,ac,ae,ah]
def yD:aC:=(sL [(cP 0),lU,(.agg Hr),(.const (.fn 54 []))])
def CN:aS:=qq3
def yE:List aA:=[⟨(.tup (sL [lS,lI])),[yy,atY,adb,(3,qa),(4,qa),(5,qb),(6,qc),(7,qd),(8,qe),(9,.gone),(10,.cells (sL [lI,(cW 11),(cW 14)])),(11,qf),(12,.gone),(13,qf),(14,.row 151 nk)]⟩]
abbrev apP:Type:=Qe
abbrev apQ:Type:=(cr×Yd×Unit×Y1×Y1×Y2×Y3×Y4×Y5×Yb×(Int×Unit)×Yb×Y6×Unit)
abbrev Wh:Type:=Hu×(cr×Yd×Unit×Y1×Y1×Y2×Y3×Y4×Y5×Unit×(Int×Unit)×Yb×Unit×Yb×Y6×Unit)
abbrev aAR:=apP->apQ->Option Wh
def vb (cz:V3) (cA:Wb) (cT:ade) (fq:adf) (yA:aAN) {α:Type} (c:Int) (d:ByteArray) (e:List Int) (g:Int) (h:Int) (i:Int) (j:List Int) (l:Int) (m:Bool) (n:Y1) (o:Y1) (p:Y2) (q:Y3) (s:Y4) (t:Y5) (v:Yb) (w:Int) (y:Yb) (z:Y6) (K:Wh->Option α):Option α :=
 (cz (c,()) ((g,h,i,()),(j,l,m,()),(),n,o,p,q,s,t,v,(w,()),y,z,())).bind fun r1 =>
 cond (r1.1.2.1 != 0)
 (K ((eB,r1.1.2.1,()),(g,h,i,()),(j,l,m,()),(),n,o,p,q,s,t,(),(w,()),y,(),v,z,()))
 ((cA (c,(d,e,()),()) ((g,h,i,()),(j,l,m,()),(),n,o,p,q,s,t,v,(w,()),y,z,())).bind fun r2 =>
 cond (!r2.1.2.1)
 (K ((eB,232,()),(r2.2.1.1,r2.2.1.2.1,r2.2.1.2.2.1,()),(r2.2.2.1.1,r2.2.2.1.2.1,r2.2.2.1.2.2.1,()),(),r2.2.2.2.2.1,r2.2.2.2.2.2.1,r2.2.2.2.2.2.2.1,r2.2.2.2.2.2.2.2.1,r2.2.2.2.2.2.2.2.2.1,r2.2.2.2.2.2.2.2.2.2.1,(),(r2.2.2.2.2.2.2.2.2.2.2.2.1.1,()),r2.2.2.2.2.2.2.2.2.2.2.2.2.1,(),r2.2.2.2.2.2.2.2.2.2.2.1,r2.2.2.2.2.2.2.2.2.2.2.2.2.2.1,()))
 (cond (r2.1.1 != r1.1.1.1)
 (K ((eB,232,()),(r2.2.1.1,r2.2.1.2.1,r2.2.1.2.2.1,()),(r2.2.2.1.1,r2.2.2.1.2.1,r2.2.2.1.2.2.1,()),(),r2.2.2.2.2.1,r2.2.2.2.2.2.1,r2.2.2.2.2.2.2.1,r2.2.2.2.2.2.2.2.1,r2.2.2.2.2.2.2.2.2.1,r2.2.2.2.2.2.2.2.2.2.1,(),(r2.2.2.2.2.2.2.2.2.2.2.2.1.1,()),r2.2.2.2.2.2.2.2.2.2.2.2.2.1,(),r2.2.2.2.2.2.2.2.2.2.2.1,r2.2.2.2.2.2.2.2.2.2.2.2.2.2.1,()))
 ((yA (IntKind.u64.wrap (r1.1.1.2.1+1),()) ()).bind fun r3 =>
 (cT (r3.1,IntKind.i64.wrap c,e,()) ((r2.2.2.1.1,r2.2.2.1.2.1,r2.2.2.1.2.2.1,()),r2.2.2.2.2.1,r2.2.2.2.2.2.1,r2.2.2.2.2.2.2.1,r2.2.2.2.2.2.2.2.1,r2.2.2.2.2.2.2.2.2.1,r2.2.2.2.2.2.2.2.2.2.1,r2.2.2.2.2.2.2.2.2.2.2.1,())).bind fun r4 =>
 (fq (c,r3.1,r4.1.1,()) ((),(r2.2.2.2.2.2.2.2.2.2.2.2.1.1,()),r2.2.2.2.2.2.2.2.2.2.2.2.2.1,r2.2.2.2.2.2.2.2.2.2.2.2.2.2.1,())).bind fun r5 =>
 cond (!r5.1)
 (K ((eB,235,()),(r2.2.1.1,r2.2.1.2.1,r2.2.1.2.2.1,()),(r4.2.1.1,r4.2.1.2.1,r4.2.1.2.2.1,()),(),r4.2.2.1,r4.2.2.2.1,r4.2.2.2.2.1,r4.2.2.2.2.2.1,r4.2.2.2.2.2.2.1,r4.2.2.2.2.2.2.2.1,(),(r5.2.2.1.1,()),r5.2.2.2.1,(),r4.2.2.2.2.2.2.2.2.1,r5.2.2.2.2.2.1,()))
 (K ((r3.1,0,()),(r2.2.1.1,r2.2.1.2.1,r2.2.1.2.2.1,()),(r4.2.1.1,r4.2.1.2.1,r4.2.1.2.2.1,()),(),r4.2.2.1,r4.2.2.2.1,r4.2.2.2.2.1,r4.2.2.2.2.2.1,r4.2.2.2.2.2.2.1,r4.2.2.2.2.2.2.2.1,(),(r5.2.2.1.1,()),r5.2.2.2.1,(),r4.2.2.2.2.2.2.2.2.1,r5.2.2.2.2.2.1,())))))
def tw:apP->apQ->Option Wh:=fun a b=>vb cz cA cT fq yA a.1 a.2.1.1 a.2.1.2.1 b.1.1 b.1.2.1 b.1.2.2.1 b.2.1.1 b.2.1.2.1 b.2.1.2.2.1 b.2.2.2.1 b.2.2.2.2.1 b.2.2.2.2.2.1 b.2.2.2.2.2.2.1 b.2.2.2.2.2.2.2.1 b.2.2.2.2.2.2.2.2.1 b.2.2.2.2.2.2.2.2.2.1 b.2.2.2.2.2.2.2.2.2.2.1.1 b.2.2.2.2.2.2.2.2.2.2.2.1 b.2.2.2.2.2.2.2.2.2.2.2.2.1 some
theorem aAS (cz cA cT fq yA) (c d e g h i j l m n o p q s t v w y z) {α:Type} (K:Wh->Option α):vb cz cA cT fq yA c d e g h i j l m n o p q s t v w y z K=(vb cz cA cT fq yA c d e g h i j l m n o p q s t v w y z some).bind K:=by simp only [vb,af,ab,ac,ae,ah]
def qv:aC:=(sL [(cP 0),lU,lU,lS,(.agg Hr)])
def xk:aS:=qq3
def qw:List aA:=[⟨(.tup (sL [lS,lI])),[yy,atY,adb,(3,qa),(4,qa),(5,qb),(6,qc),(7,qd),(8,qe),(9,.gone),(10,.cells (sL [lI,(cW 11),(cW 14)])),(11,qf),(12,.gone),(13,qf),(14,.row 151 nk)]⟩]
abbrev apR:Type:=(Int×Int×ByteArray×Hs×Unit)
abbrev apS:Type:=(cr×Yd×Unit×Y1×Y1×Y2×Y3×Y4×Y5×Yb×(Int×Unit)×Yb×Y6×Unit)
abbrev Wi:Type:=Hu×(cr×Yd×Unit×Y1×Y1×Y2×Y3×Y4×Y5×Unit×(Int×Unit)×Yb×Unit×Yb×Y6×Unit)
abbrev aph:=apR->apS->Option Wi
def vd (cz:V3) (qu:aAP) {α:Type} (c:Int) (d:Int) (e:ByteArray) (g:ByteArray) (h:List Int) (i:Int) (j:Int) (l:Int) (m:List Int) (n:Int) (o:Bool) (p:Y1) (q:Y1) (s:Y2) (t:Y3) (v:Y4) (w:Y5) (y:Yb) (z:Int) (C:Yb) (D:Y6) (K:Wi->Option α):Option α :=
 (cz (c,()) ((i,j,l,()),(m,n,o,()),(),p,q,s,t,v,w,y,(z,()),C,D,())).bind fun r1 =>
 cond (r1.1.2.1==0)
 (cond (decide ((↑e.size:Int)>4096))
 (K ((eB,231,()),(i,j,l,()),(m,n,o,()),(),p,q,s,t,v,w,(),(z,()),C,(),y,D,()))
 ((qu (c,(g,h,()),(),()) ((i,j,l,()),(),(c,()),(d,()),(e,()),(m,n,o,()),(),p,q,s,t,v,w,y,(z,()),C,D,())).bind fun r2 =>
 K ((r2.1.1,r2.1.2.1,()),(r2.2.1.1,r2.2.1.2.1,r2.2.1.2.2.1,()),(r2.2.2.2.2.2.2.1.1,r2.2.2.2.2.2.2.1.2.1,r2.2.2.2.2.2.2.1.2.2.1,()),(),r2.2.2.2.2.2.2.2.2.1,r2.2.2.2.2.2.2.2.2.2.1,r2.2.2.2.2.2.2.2.2.2.2.1,r2.2.2.2.2.2.2.2.2.2.2.2.1,r2.2.2.2.2.2.2.2.2.2.2.2.2.1,r2.2.2.2.2.2.2.2.2.2.2.2.2.2.1,(),(r2.2.2.2.2.2.2.2.2.2.2.2.2.2.2.2.1.1,()),r2.2.2.2.2.2.2.2.2.2.2.2.2.2.2.2.2.1,(),r2.2.2.2.2.2.2.2.2.2.2.2.2.2.2.2.2.2.2.1,r2.2.2.2.2.2.2.2.2.2.2.2.2.2.2.2.2.2.2.2.1,())))
 ((qu (c,(g,h,()),(),()) ((i,j,l,()),(),(c,()),(d,()),(e,()),(m,n,o,()),(),p,q,s,t,v,w,y,(z,()),C,D,())).bind fun r3 =>
 K ((r3.1.1,r3.1.2.1,()),(r3.2.1.1,r3.2.1.2.1,r3.2.1.2.2.1,()),(r3.2.2.2.2.2.2.1.1,r3.2.2.2.2.2.2.1.2.1,r3.2.2.2.2.2.2.1.2.2.1,()),(),r3.2.2.2.2.2.2.2.2.1,r3.2.2.2.2.2.2.2.2.2.1,r3.2.2.2.2.2.2.2.2.2.2.1,r3.2.2.2.2.2.2.2.2.2.2.2.1,r3.2.2.2.2.2.2.2.2.2.2.2.2.1,r3.2.2.2.2.2.2.2.2.2.2.2.2.2.1,(),(r3.2.2.2.2.2.2.2.2.2.2.2.2.2.2.2.1.1,()),r3.2.2.2.2.2.2.2.2.2.2.2.2.2.2.2.2.1,(),r3.2.2.2.2.2.2.2.2.2.2.2.2.2.2.2.2.2.2.1,r3.2.2.2.2.2.2.2.2.2.2.2.2.2.2.2.2.2.2.2.1,()))
def eD:apR->apS->Option Wi:=fun a b=>vd cz qu a.1 a.2.1 a.2.2.1 a.2.2.2.1.1 a.2.2.2.1.2.1 b.1.1 b.1.2.1 b.1.2.2.1 b.2.1.1 b.2.1.2.1 b.2.1.2.2.1 b.2.2.2.1 b.2.2.2.2.1 b.2.2.2.2.2.1 b.2.2.2.2.2.2.1 b.2.2.2.2.2.2.2.1 b.2.2.2.2.2.2.2.2.1 b.2.2.2.2.2.2.2.2.2.1 b.2.2.2.2.2.2.2.2.2.2.1.1 b.2.2.2.2.2.2.2.2.2.2.2.1 b.2.2.2.2.2.2.2.2.2.2.2.2.1 some
theorem aAT (cz qu) (c d e g h i j l m n o p q s t v w y z C D) {α:Type} (K:Wi->Option α):vd cz qu c d e g h i j l m n o p q s t v w y z C D K=(vd cz qu c d e g h i j l m n o p q s t v w y z C D some).bind K:=by simp only [vd,af,ab,ac,ae,ah]
def ve:aC:=SZ
def Ah:aS:=qq3
def vf:List aA:=[⟨lI,[yy,atY,adb,(3,qa),(4,qa),(5,qb),(6,qc),(7,qd),(8,qe),(9,.gone),(10,.cells (sL [lI,(cW 11),(cW 14)])),(11,qf),(12,.gone),(13,qf),(14,.row 151 nk)]⟩]
abbrev apT:Type:=Qe
abbrev apU:Type:=(cr×Yd×Unit×Y1×Y1×Y2×Y3×Y4×Y5×Yb×(Int×Unit)×Yb×Y6×Unit)
abbrev Wj:Type:=Int×(cr×Yd×Unit×Y1×Y1×Y2×Y3×Y4×Y5×Unit×(Int×Unit)×Yb×Unit×Yb×Y6×Unit)
abbrev azY:=apT->apU->Option Wj
def vg (tw:aAR) {α:Type} (c:Int) (d:ByteArray) (e:List Int) (g:Int) (h:Int) (i:Int) (j:List Int) (l:Int) (m:Bool) (n:Y1) (o:Y1) (p:Y2) (q:Y3) (s:Y4) (t:Y5) (v:Yb) (w:Int) (y:Yb) (z:Y6) (K:Wj->Option α):Option α :=
 (tw (c,(d,e,()),()) ((g,h,i,()),(j,l,m,()),(),n,o,p,q,s,t,v,(w,()),y,z,())).bind fun r1 =>
 K (r1.1.2.1,(r1.2.1.1,r1.2.1.2.1,r1.2.1.2.2.1,()),(r1.2.2.1.1,r1.2.2.1.2.1,r1.2.2.1.2.2.1,()),(),r1.2.2.2.2.1,r1.2.2.2.2.2.1,r1.2.2.2.2.2.2.1,r1.2.2.2.2.2.2.2.1,r1.2.2.2.2.2.2.2.2.1,r1.2.2.2.2.2.2.2.2.2.1,(),(r1.2.2.2.2.2.2.2.2.2.2.2.1.1,()),r1.2.2.2.2.2.2.2.2.2.2.2.2.1,(),r1.2.2.2.2.2.2.2.2.2.2.2.2.2.2.1,r1.2.2.2.2.2.2.2.2.2.2.2.2.2.2.2.1,())
def jF:apT->apU->Option Wj:=fun a b=>vg tw a.1 a.2.1.1 a.2.1.2.1 b.1.1 b.1.2.1 b.1.2.2.1 b.2.1.1 b.2.1.2.1 b.2.1.2.2.1 b.2.2.2.1 b.2.2.2.2.1 b.2.2.2.2.2.1 b.2.2.2.2.2.2.1 b.2.2.2.2.2.2.2.1 b.2.2.2.2.2.2.2.2.1 b.2.2.2.2.2.2.2.2.2.1 b.2.2.2.2.2.2.2.2.2.2.1.1 b.2.2.2.2.2.2.2.2.2.2.2.1 b.2.2.2.2.2.2.2.2.2.2.2.2.1 some
theorem aAU (tw) (c d e g h i j l m n o p q s t v w y z) {α:Type} (K:Wj->Option α):vg tw c d e g h i j l m n o p q s t v w y z K=(vg tw c d e g h i j l m n o p q s t v w y z some).bind K:=by simp only [vg,af,ab,ac,ae,ah]
def CO:aC:=(.cons (cP 0) .nil)
def HP:aS:=qq3
def CP:List aA:=[⟨lB,amm⟩]
abbrev apV:Type:=Unit
abbrev apW:Type:=(cr×Yd×Unit×Y1×Y1×Y2×Y3×Y4×Y5×Yb×(Int×Unit)×Yb×Y6×Unit)
abbrev Wk:Type:=Bool×(cr×Yd×Unit×Y1×Y1×Y2×Y3×Y4×Y5×Yb×(Int×Unit)×Yb×Unit×Y6×Unit)
abbrev aAV:=apV->apW->Option Wk
def vh (iT:apX) (lY:atZ) {α:Type} (c:Int) (d:Int) (e:Int) (g:List Int) (h:Int) (i:Bool) (j:Y1) (l:Y1) (m:Y2) (n:Y3) (o:Y4) (p:Y5) (q:Yb) (s:Int) (t:Yb) (v:Y6) (K:Wk->Option α):Option α :=
 (iT (e,[],()) ((g,h,i,()),j,l,m,n,o,p,q,())).bind fun r1 =>
 cond (r1.1.2.1)
 (cond (decide (0<=e))
 (cond (decide (e<(↑r1.1.1.length:Int)))
 (cond (decide (0<(↑(r1.1.1.getD e.toNat []).length:Int)))
 ((lY ((r1.1.1.getD e.toNat []).getD 0 0,()) ((),(s,()),t,v,())).bind fun r2 =>
 K (r2.1,(c,d,e,()),(r1.2.1.1,r1.2.1.2.1,r1.2.1.2.2.1,()),(),r1.2.2.1,r1.2.2.2.1,r1.2.2.2.2.1,r1.2.2.2.2.2.1,r1.2.2.2.2.2.2.1,r1.2.2.2.2.2.2.2.1,r1.2.2.2.2.2.2.2.2.1,(r2.2.2.1.1,()),r2.2.2.2.1,(),r2.2.2.2.2.2.1,()))
 (none))
 (none))
 (none))
 (K (false,(c,d,e,()),(r1.2.1.1,r1.2.1.2.1,r1.2.1.2.2.1,()),(),r1.2.2.1,r1.2.2.2.1,r1.2.2.2.2.1,r1.2.2.2.2.2.1,r1.2.2.2.2.2.2.1,r1.2.2.2.2.2.2.2.1,r1.2.2.2.2.2.2.2.2.1,(s,()),t,(),v,()))
def xW:apV->apW->Option Wk:=fun a b=>vh iT lY b.1.1 b.1.2.1 b.1.2.2.1 b.2.1.1 b.2.1.2.1 b.2.1.2.2.1 b.2.2.2.1 b.2.2.2.2.1 b.2.2.2.2.2.1 b.2.2.2.2.2.2.1 b.2.2.2.2.2.2.2.1 b.2.2.2.2.2.2.2.2.1 b.2.2.2.2.2.2.2.2.2.1 b.2.2.2.2.2.2.2.2.2.2.1.1 b.2.2.2.2.2.2.2.2.2.2.2.1 b.2.2.2.2.2.2.2.2.2.2.2.2.1 some
theorem aAW (iT lY) (c d e g h i j l m n o p q s t v) {α:Type} (K:Wk->Option α):vh iT lY c d e g h i j l m n o p q s t v K=(vh iT lY c d e g h i j l m n o p q s t v some).bind K:=by simp only [vh,af,ab,ac,ae,ah]
def vj:aC:=(sL [(cP 0),(.agg Hr)])
def Ai:aS:=qq3
def vl:List aA:=[⟨(.tup (sL [lB,lI])),amm⟩]
abbrev apY:Type:=(Hs×Unit)
abbrev apZ:Type:=(cr×Yd×Unit×Y1×Y1×Y2×Y3×Y4×Y5×Yb×(Int×Unit)×Yb×Y6×Unit)
abbrev Wl:Type:=(Bool×Int×Unit)×(cr×Yd×Unit×Y1×Y1×Y2×Y3×Y4×Y5×Yb×(Int×Unit)×Yb×Unit×Y6×Unit)
abbrev az0:=apY->apZ->Option Wl
def vm (i6:apz) (cA:Wb) (gR:apC) {α:Type} (c:ByteArray) (d:List Int) (e:Int) (g:Int) (h:Int) (i:List Int) (j:Int) (l:Bool) (m:Y1) (n:Y1) (o:Y2) (p:Y3) (q:Y4) (s:Y5) (t:Yb) (v:Int) (w:Yb) (y:Y6) (K:Wl->Option α):Option α :=
 (i6 () ((e,g,h,()),(i,j,l,()),(),m,n,o,p,q,s,t,(v,()),w,y,())).bind fun r1 =>
 cond (r1.1.2.1 != 0)
 (K ((false,r1.1.2.1,()),(e,g,h,()),(i,j,l,()),(),m,n,o,p,q,s,t,(v,()),w,(),y,()))
 ((cA (r1.1.1.2.2.2.1,(c,d,()),()) ((e,g,h,()),(i,j,l,()),(),m,n,o,p,q,s,t,(v,()),w,y,())).bind fun r2 =>
 cond (!r2.1.2.1)
 (K ((false,232,()),(r2.2.1.1,r2.2.1.2.1,r2.2.1.2.2.1,()),(r2.2.2.1.1,r2.2.2.1.2.1,r2.2.2.1.2.2.1,()),(),r2.2.2.2.2.1,r2.2.2.2.2.2.1,r2.2.2.2.2.2.2.1,r2.2.2.2.2.2.2.2.1,r2.2.2.2.2.2.2.2.2.1,r2.2.2.2.2.2.2.2.2.2.1,r2.2.2.2.2.2.2.2.2.2.2.1,(r2.2.2.2.2.2.2.2.2.2.2.2.1.1,()),r2.2.2.2.2.2.2.2.2.2.2.2.2.1,(),r2.2.2.2.2.2.2.2.2.2.2.2.2.2.1,()))
 (cond (r2.1.1 != r1.1.1.2.2.2.2.1)
 (cond (r2.1.1 != r1.1.1.1)
 (K ((false,232,()),(r2.2.1.1,r2.2.1.2.1,r2.2.1.2.2.1,()),(r2.2.2.1.1,r2.2.2.1.2.1,r2.2.2.1.2.2.1,()),(),r2.2.2.2.2.1,r2.2.2.2.2.2.1,r2.2.2.2.2.2.2.1,r2.2.2.2.2.2.2.2.1,r2.2.2.2.2.2.2.2.2.1,r2.2.2.2.2.2.2.2.2.2.1,r2.2.2.2.2.2.2.2.2.2.2.1,(r2.2.2.2.2.2.2.2.2.2.2.2.1.1,()),r2.2.2.2.2.2.2.2.2.2.2.2.2.1,(),r2.2.2.2.2.2.2.2.2.2.2.2.2.2.1,()))
 ((gR (r2.1.1==r1.1.1.2.2.2.2.1,()) ((r2.2.1.1,r2.2.1.2.1,r2.2.1.2.2.1,()),(r2.2.2.1.1,r2.2.2.1.2.1,r2.2.2.1.2.2.1,()),(),r2.2.2.2.2.1,r2.2.2.2.2.2.1,r2.2.2.2.2.2.2.1,r2.2.2.2.2.2.2.2.1,r2.2.2.2.2.2.2.2.2.1,r2.2.2.2.2.2.2.2.2.2.1,r2.2.2.2.2.2.2.2.2.2.2.1,(r2.2.2.2.2.2.2.2.2.2.2.2.1.1,()),r2.2.2.2.2.2.2.2.2.2.2.2.2.1,r2.2.2.2.2.2.2.2.2.2.2.2.2.2.1,())).bind fun r3 =>
 cond (r3.1 != 0)
 (K ((false,r3.1,()),(r3.2.1.1,r3.2.1.2.1,r3.2.1.2.2.1,()),(r3.2.2.1.1,r3.2.2.1.2.1,r3.2.2.1.2.2.1,()),(),r3.2.2.2.2.1,r3.2.2.2.2.2.1,r3.2.2.2.2.2.2.1,r3.2.2.2.2.2.2.2.1,r3.2.2.2.2.2.2.2.2.1,r3.2.2.2.2.2.2.2.2.2.1,r3.2.2.2.2.2.2.2.2.2.2.1,(r3.2.2.2.2.2.2.2.2.2.2.2.1.1,()),r3.2.2.2.2.2.2.2.2.2.2.2.2.1,(),r3.2.2.2.2.2.2.2.2.2.2.2.2.2.2.1,()))
 (K ((r2.1.1==r1.1.1.2.2.2.2.1,0,()),(r3.2.1.1,r3.2.1.2.1,r3.2.1.2.2.1,()),(r3.2.2.1.1,r3.2.2.1.2.1,r3.2.2.1.2.2.1,()),(),r3.2.2.2.2.1,r3.2.2.2.2.2.1,r3.2.2.2.2.2.2.1,r3.2.2.2.2.2.2.2.1,r3.2.2.2.2.2.2.2.2.1,r3.2.2.2.2.2.2.2.2.2.1,r3.2.2.2.2.2.2.2.2.2.2.1,(r3.2.2.2.2.2.2.2.2.2.2.2.1.1,()),r3.2.2.2.2.2.2.2.2.2.2.2.2.1,(),r3.2.2.2.2.2.2.2.2.2.2.2.2.2.2.1,()))))
 ((gR (r2.1.1==r1.1.1.2.2.2.2.1,()) ((r2.2.1.1,r2.2.1.2.1,r2.2.1.2.2.1,()),(r2.2.2.1.1,r2.2.2.1.2.1,r2.2.2.1.2.2.1,()),(),r2.2.2.2.2.1,r2.2.2.2.2.2.1,r2.2.2.2.2.2.2.1,r2.2.2.2.2.2.2.2.1,r2.2.2.2.2.2.2.2.2.1,r2.2.2.2.2.2.2.2.2.2.1,r2.2.2.2.2.2.2.2.2.2.2.1,(r2.2.2.2.2.2.2.2.2.2.2.2.1.1,()),r2.2.2.2.2.2.2.2.2.2.2.2.2.1,r2.2.2.2.2.2.2.2.2.2.2.2.2.2.1,())).bind fun r4 =>
 cond (r4.1 != 0)
 (K ((false,r4.1,()),(r4.2.1.1,r4.2.1.2.1,r4.2.1.2.2.1,()),(r4.2.2.1.1,r4.2.2.1.2.1,r4.2.2.1.2.2.1,()),(),r4.2.2.2.2.1,r4.2.2.2.2.2.1,r4.2.2.2.2.2.2.1,r4.2.2.2.2.2.2.2.1,r4.2.2.2.2.2.2.2.2.1,r4.2.2.2.2.2.2.2.2.2.1,r4.2.2.2.2.2.2.2.2.2.2.1,(r4.2.2.2.2.2.2.2.2.2.2.2.1.1,()),r4.2.2.2.2.2.2.2.2.2.2.2.2.1,(),r4.2.2.2.2.2.2.2.2.2.2.2.2.2.2.1,()))
 (K ((r2.1.1==r1.1.1.2.2.2.2.1,0,()),(r4.2.1.1,r4.2.1.2.1,r4.2.1.2.2.1,()),(r4.2.2.1.1,r4.2.2.1.2.1,r4.2.2.1.2.2.1,()),(),r4.2.2.2.2.1,r4.2.2.2.2.2.1,r4.2.2.2.2.2.2.1,r4.2.2.2.2.2.2.2.1,r4.2.2.2.2.2.2.2.2.1,r4.2.2.2.2.2.2.2.2.2.1,r4.2.2.2.2.2.2.2.2.2.2.1,(r4.2.2.2.2.2.2.2.2.2.2.2.1.1,()),r4.2.2.2.2.2.2.2.2.2.2.2.2.1,(),r4.2.2.2.2.2.2.2.2.2.2.2.2.2.2.1,())))))
def jH:apY->apZ->Option Wl:=fun a b=>vm i6 cA gR a.1.1 a.1.2.1 b.1.1 b.1.2.1 b.1.2.2.1 b.2.1.1 b.2.1.2.1 b.2.1.2.2.1 b.2.2.2.1 b.2.2.2.2.1 b.2.2.2.2.2.1 b.2.2.2.2.2.2.1 b.2.2.2.2.2.2.2.1 b.2.2.2.2.2.2.2.2.1 b.2.2.2.2.2.2.2.2.2.1 b.2.2.2.2.2.2.2.2.2.2.1.1 b.2.2.2.2.2.2.2.2.2.2.2.1 b.2.2.2.2.2.2.2.2.2.2.2.2.1 some
theorem aAX (i6 cA gR) (c d e g h i j l m n o p q s t v w y) {α:Type} (K:Wl->Option α):vm i6 cA gR c d e g h i j l m n o p q s t v w y K=(vm i6 cA gR c d e g h i j l m n o p q s t v w y some).bind K:=by simp only [vm,af,ab,ac,ae,ah]
end
end Go.Proofs.YtljfdfghagiblaaGreat.S2