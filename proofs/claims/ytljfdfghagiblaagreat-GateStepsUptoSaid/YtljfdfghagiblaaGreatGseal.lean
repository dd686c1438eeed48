/- Plain forms of the program's functions,by program. -/
import Derived.Test.YtljfdfghagiblaaGreatGwire
set_option maxRecDepth 100000
set_option maxHeartbeats 0
namespace Go.Proofs.YtljfdfghagiblaaGreat.S2
open Go
noncomputable section
def DR:aC:=(sL [(cP 0),lU,lU,lS,lS])
def If:aS:=BX
def DS:List aA:=[⟨lU,[(0,.cells (sL [ip,lI,lB,(cM 1),(cM 2),(cM 3),(cM 4),(cM 5),(cM 6),(cW 8)])),(1,qa),(2,qa),(3,qb),(4,qc),(5,qd),(6,qe),(7,.gone),(8,qf)]⟩]
abbrev asa:Type:=(Int×Int×ByteArray×ByteArray×Unit)
abbrev asb:Type:=jv
abbrev XB:Type:=Int×(Yd×Y1×Y1×Y2×Y3×Y4×Y5×Unit×Yb×Unit)
abbrev aCw:=asa->asb->Option XB
def sA (dl:adl) {α:Type} (c:Int) (d:Int) (e:ByteArray) (g:ByteArray) (h:List Int) (i:Int) (j:Bool) (l:Y1) (m:Y1) (n:Y2) (o:Y3) (p:Y4) (q:Y5) (s:Yb) (K:XB->Option α):Option α :=
 cond (!BY (aw.ofList [ak.int IntKind.u64,ak.int IntKind.u64,ak.str,ak.str]).eqb (c,d,e,g) p)
 ((dl () ((h,i,j,()),l,m,n,o,p,q,s,())).bind fun r1 =>
 cond (decide ((r1.2.2.2.2.2.2.2.2.1.length+1)*16<=140737488355328))
 (cond (aV (aw.ofList [ak.int IntKind.u64,ak.int IntKind.u64,ak.int IntKind.u64,ak.str]).eqb 0 (c,d,r1.1,e) r1.2.2.2.2.2.2.2.1==0)
 (K (r1.1,(r1.2.1.1,r1.2.1.2.1,r1.2.1.2.2.1,()),r1.2.2.1,r1.2.2.2.1,r1.2.2.2.2.1,r1.2.2.2.2.2.1,cx (aw.ofList [ak.int IntKind.u64,ak.int IntKind.u64,ak.str,ak.str]).eqb (c,d,e,g) r1.1 r1.2.2.2.2.2.2.1,cx (aw.ofList [ak.int IntKind.u64,ak.int IntKind.u64,ak.int IntKind.u64,ak.str]).eqb (c,d,r1.1,e) (↑(r1.2.2.2.2.2.2.2.2.1++([]++[g])).length:Int) r1.2.2.2.2.2.2.2.1,(),r1.2.2.2.2.2.2.2.2.1++([]++[g]),()))
 (K (r1.1,(r1.2.1.1,r1.2.1.2.1,r1.2.1.2.2.1,()),r1.2.2.1,r1.2.2.2.1,r1.2.2.2.2.1,r1.2.2.2.2.2.1,cx (aw.ofList [ak.int IntKind.u64,ak.int IntKind.u64,ak.str,ak.str]).eqb (c,d,e,g) r1.1 r1.2.2.2.2.2.2.1,r1.2.2.2.2.2.2.2.1,(),r1.2.2.2.2.2.2.2.2.1++([]++[g]),())))
 (none))
 (K (aV (aw.ofList [ak.int IntKind.u64,ak.int IntKind.u64,ak.str,ak.str]).eqb 0 (c,d,e,g) p,(h,i,j,()),l,m,n,o,p,q,(),s,()))
def wA:asa->asb->Option XB:=fun a b=>sA dl a.1 a.2.1 a.2.2.1 a.2.2.2.1 b.1.1 b.1.2.1 b.1.2.2.1 b.2.1 b.2.2.1 b.2.2.2.1 b.2.2.2.2.1 b.2.2.2.2.2.1 b.2.2.2.2.2.2.1 b.2.2.2.2.2.2.2.1 some
theorem aCx (dl) (c d e g h i j l m n o p q s) {α:Type} (K:XB->Option α):sA dl c d e g h i j l m n o p q s K=(sA dl c d e g h i j l m n o p q s some).bind K:=by simp only [sA,af,ab,ac,ae,ah]
theorem auT (c d e g h i j l m n o p q s):wA (c,d,e,g,()) ((h,i,j,()),l,m,n,o,p,q,s,())=sA dl c d e g h i j l m n o p q s some:=rfl
def DT:aC:=(sL [(cP 0),lU,lU,lS,lU])
def Ig:aS:=BX
def DU:List aA:=[⟨(.tup (sL [lS,lB])),BX⟩]
abbrev asc:Type:=(Int×Int×ByteArray×Int×Unit)
abbrev asd:Type:=jv
abbrev XC:Type:=Mf×jv
abbrev aCy:=asc->asd->Option XC
def sB (bN:VI) {α:Type} (c:Int) (d:Int) (e:ByteArray) (g:Int) (h:List Int) (i:Int) (j:Bool) (l:Y1) (m:Y1) (n:Y2) (o:Y3) (p:Y4) (q:Y5) (s:Yb) (K:XC->Option α):Option α :=
 cond (decide (aV (aw.ofList [ak.int IntKind.u64,ak.int IntKind.u64,ak.int IntKind.u64,ak.str]).eqb 0 (c,d,g,e) q>0))
 (cond (decide (0<=IntKind.i64.wrap (aV (aw.ofList [ak.int IntKind.u64,ak.int IntKind.u64,ak.int IntKind.u64,ak.str]).eqb 0 (c,d,g,e) q-1)))
 (cond (decide (IntKind.i64.wrap (aV (aw.ofList [ak.int IntKind.u64,ak.int IntKind.u64,ak.int IntKind.u64,ak.str]).eqb 0 (c,d,g,e) q-1)<(↑s.length:Int)))
 (K ((s.getD (0+(IntKind.i64.wrap (aV (aw.ofList [ak.int IntKind.u64,ak.int IntKind.u64,ak.int IntKind.u64,ak.str]).eqb 0 (c,d,g,e) q-1)).toNat) eB,true,()),(h,i,j,()),l,m,n,o,p,q,s,()))
 (none))
 (none))
 ((bN (g,()) ((h,i,j,()),l,m,n,o,p,q,s,())).bind fun r1 =>
 K ((eB,false,()),(r1.2.1.1,r1.2.1.2.1,r1.2.1.2.2.1,()),r1.2.2.1,r1.2.2.2.1,r1.2.2.2.2.1,r1.2.2.2.2.2.1,r1.2.2.2.2.2.2.1,r1.2.2.2.2.2.2.2.1,r1.2.2.2.2.2.2.2.2.1,()))
def wB:asc->asd->Option XC:=fun a b=>sB bN a.1 a.2.1 a.2.2.1 a.2.2.2.1 b.1.1 b.1.2.1 b.1.2.2.1 b.2.1 b.2.2.1 b.2.2.2.1 b.2.2.2.2.1 b.2.2.2.2.2.1 b.2.2.2.2.2.2.1 b.2.2.2.2.2.2.2.1 some
theorem aCz (bN) (c d e g h i j l m n o p q s) {α:Type} (K:XC->Option α):sB bN c d e g h i j l m n o p q s K=(sB bN c d e g h i j l m n o p q s some).bind K:=by simp only [sB,af,ab,ac,ae,ah]
theorem auU (c d e g h i j l m n o p q s):wB (c,d,e,g,()) ((h,i,j,()),l,m,n,o,p,q,s,())=sB bN c d e g h i j l m n o p q s some:=rfl
def wC:aC:=I2
def zb:aS:=[]
def wD:List aA:=[⟨lS,[]⟩]
abbrev adY:Type:=I3
abbrev adZ:Type:=Unit
abbrev MJ:Type:=ByteArray×Unit
abbrev ad0:=adY->adZ->Option MJ
def ma (be:Mq) {α:Type} (c:Int) (d:Int) (e:Int) (g:Int) (K:MJ->Option α):Option α :=
 (be (c,()) ()).bind fun r1 =>
 (be (d,()) ()).bind fun r2 =>
 cond (decide (r1.1.size+r2.1.size<=9223372036854775807))
 ((be (e,()) ()).bind fun r3 =>
 cond (decide ((r1.1++r2.1).size+r3.1.size<=9223372036854775807))
 ((be (g,()) ()).bind fun r4 =>
 cond (decide ((r1.1++r2.1++r3.1).size+r4.1.size<=9223372036854775807))
 (K (r1.1++r2.1++r3.1++r4.1,()))
 (none))
 (none))
 (none)
def dV:adY->adZ->Option MJ:=fun a b=>ma be a.1 a.2.1 a.2.2.1 a.2.2.2.1 some
theorem auV (be) (c d e g) {α:Type} (K:MJ->Option α):ma be c d e g K=(ma be c d e g some).bind K:=by simp only [ma,af,ab,ac,ae,ah]
theorem amp (c d e g):dV (c,d,e,g,()) ()=ma be c d e g some:=rfl
def wE:aC:=I2
def zc:aS:=[]
def wF:List aA:=[⟨lS,[]⟩]
abbrev ad1:Type:=I3
abbrev ad2:Type:=Unit
abbrev MK:Type:=ByteArray×Unit
abbrev ad3:=ad1->ad2->Option MK
def mb (dV:ad0) {α:Type} (c:Int) (d:Int) (e:Int) (g:Int) (K:MK->Option α):Option α :=
 (dV (c,d,e,g,()) ()).bind fun r1 =>
 K (r1.1,())
def dW:ad1->ad2->Option MK:=fun a b=>mb dV a.1 a.2.1 a.2.2.1 a.2.2.2.1 some
theorem auW (dV) (c d e g) {α:Type} (K:MK->Option α):mb dV c d e g K=(mb dV c d e g some).bind K:=by simp only [mb,af,ab,ac,ae,ah]
theorem amq (c d e g):dW (c,d,e,g,()) ()=mb dV c d e g some:=rfl
def Az:aC:=(.cons (.agg I2) .nil)
def DV:aS:=[]
def AA:List aA:=[⟨lS,[]⟩]
abbrev ad4:Type:=(I3×Unit)
abbrev ad5:Type:=Unit
abbrev ML:Type:=ByteArray×Unit
abbrev atX:=ad4->ad5->Option ML
def mc (dV:ad0) {α:Type} (c:Int) (d:Int) (e:Int) (g:Int) (K:ML->Option α):Option α :=
 (dV (c,d,e,g,()) ()).bind fun r1 =>
 K (r1.1,())
def oz:ad4->ad5->Option ML:=fun a b=>mc dV a.1.1 a.1.2.1 a.1.2.2.1 a.1.2.2.2.1 some
theorem auX (dV) (c d e g) {α:Type} (K:ML->Option α):mc dV c d e g K=(mc dV c d e g some).bind K:=by simp only [mc,af,ab,ac,ae,ah]
theorem amr (c d e g):oz ((c,d,e,g,()),()) ()=mc dV c d e g some:=rfl
def pD:aC:=(.cons lS .nil)
def wG:aS:=[]
def pE:List aA:=[⟨(.tup (sL [(.agg I2),lB])),[]⟩]
abbrev ad6:Type:=ux
abbrev ad7:Type:=Unit
abbrev MM:Type:=(I3×Bool×Unit)×Unit
abbrev adc:=ad6->ad7->Option MM
def mf (bH:S8) {α:Type} (c:ByteArray) (K:MM->Option α):Option α :=
 (bH (c,()) ()).bind fun r1 =>
 cond (!r1.1.2.2.1)
 (K (((0,0,0,0,()),false,()),()))
 ((bH (r1.1.2.1,()) ()).bind fun r2 =>
 cond (!r2.1.2.2.1)
 (K (((0,0,0,0,()),false,()),()))
 ((bH (r2.1.2.1,()) ()).bind fun r3 =>
 cond (!r3.1.2.2.1)
 (K (((0,0,0,0,()),false,()),()))
 ((bH (r3.1.2.1,()) ()).bind fun r4 =>
 cond (!r4.1.2.2.1)
 (K (((0,0,0,0,()),false,()),()))
 (cond (!r4.1.2.1.toList==eB.toList)
 (K (((0,0,0,0,()),false,()),()))
 (K (((r1.1.1,r2.1.1,r3.1.1,r4.1.1,()),true,()),()))))))
def dT:ad6->ad7->Option MM:=fun a b=>mf bH a.1 some
theorem auY (bH c) {α:Type} (K:MM->Option α):mf bH c K=(mf bH c some).bind K:=by simp only [mf,af,ab,ac,ae,ah]
theorem ams (c):dT (c,()) ()=mf bH c some:=rfl
def AB:aC:=(sL [(cP 0),lU,lU,lU,lU,lU,lS])
def DW:aS:=BX
def AC:List aA:=[⟨(.agg I2),[(0,.cells (sL [ip,lI,lB,(cM 1),(cM 2),(cM 3),(cM 4),(cM 5),(cM 6),(cW 8)])),(1,qa),(2,qa),(3,qb),(4,qc),(5,qd),(6,qe),(7,.gone),(8,qf)]⟩]
abbrev ad8:Type:=Yt
abbrev ad9:Type:=jv
abbrev MN:Type:=I3×(Yd×Y1×Y1×Y2×Y3×Y4×Y5×Unit×Yb×Unit)
abbrev atW:=ad8->ad9->Option MN
def mg (dl:adl) (dW:ad3) (wA:aCw) {α:Type} (c:Int) (d:Int) (e:Int) (g:Int) (h:Int) (i:ByteArray) (j:List Int) (l:Int) (m:Bool) (n:Y1) (o:Y1) (p:Y2) (q:Y3) (s:Y4) (t:Y5) (v:Yb) (K:MN->Option α):Option α :=
 (dl () ((j,l,m,()),n,o,p,q,s,t,v,())).bind fun r1 =>
 (dW (d,e,g,h,()) ()).bind fun r2 =>
 (wA (c,r1.1,r2.1,i,()) ((r1.2.1.1,r1.2.1.2.1,r1.2.1.2.2.1,()),r1.2.2.1,r1.2.2.2.1,r1.2.2.2.2.1,r1.2.2.2.2.2.1,r1.2.2.2.2.2.2.1,r1.2.2.2.2.2.2.2.1,r1.2.2.2.2.2.2.2.2.1,())).bind fun r3 =>
 K ((g,h,r1.1,r3.1,()),(r3.2.1.1,r3.2.1.2.1,r3.2.1.2.2.1,()),r3.2.2.1,r3.2.2.2.1,r3.2.2.2.2.1,r3.2.2.2.2.2.1,r3.2.2.2.2.2.2.1,r3.2.2.2.2.2.2.2.1,(),r3.2.2.2.2.2.2.2.2.2.1,())
def lX:ad8->ad9->Option MN:=fun a b=>mg dl dW wA a.1 a.2.1 a.2.2.1 a.2.2.2.1 a.2.2.2.2.1 a.2.2.2.2.2.1 b.1.1 b.1.2.1 b.1.2.2.1 b.2.1 b.2.2.1 b.2.2.2.1 b.2.2.2.2.1 b.2.2.2.2.2.1 b.2.2.2.2.2.2.1 b.2.2.2.2.2.2.2.1 some
theorem auZ (dl dW wA) (c d e g h i j l m n o p q s t v) {α:Type} (K:MN->Option α):mg dl dW wA c d e g h i j l m n o p q s t v K=(mg dl dW wA c d e g h i j l m n o p q s t v some).bind K:=by simp only [mg,af,ab,ac,ae,ah]
theorem amt (c d e g h i j l m n o p q s t v):lX (c,d,e,g,h,i,()) ((j,l,m,()),n,o,p,q,s,t,v,())=mg dl dW wA c d e g h i j l m n o p q s t v some:=rfl
def AD:aC:=(sL [(cP 0),lU,lU,lU,(.agg I2)])
def DX:aS:=BX
def AE:List aA:=[⟨(.tup (sL [lS,lB])),BX⟩]
abbrev aea:Type:=(Int×Int×Int×I3×Unit)
abbrev aeb:Type:=jv
abbrev MO:Type:=Mf×jv
abbrev atV:=aea->aeb->Option MO
def mh (dW:ad3) (wB:aCy) {α:Type} (c:Int) (d:Int) (e:Int) (g:Int) (h:Int) (i:Int) (j:Int) (l:List Int) (m:Int) (n:Bool) (o:Y1) (p:Y1) (q:Y2) (s:Y3) (t:Y4) (v:Y5) (w:Yb) (K:MO->Option α):Option α :=
 (dW (d,e,g,h,()) ()).bind fun r1 =>
 (wB (c,i,r1.1,j,()) ((l,m,n,()),o,p,q,s,t,v,w,())).bind fun r2 =>
 K ((r2.1.1,r2.1.2.1,()),(r2.2.1.1,r2.2.1.2.1,r2.2.1.2.2.1,()),r2.2.2.1,r2.2.2.2.1,r2.2.2.2.2.1,r2.2.2.2.2.2.1,r2.2.2.2.2.2.2.1,r2.2.2.2.2.2.2.2.1,r2.2.2.2.2.2.2.2.2.1,())
def lW:aea->aeb->Option MO:=fun a b=>mh dW wB a.1 a.2.1 a.2.2.1 a.2.2.2.1.1 a.2.2.2.1.2.1 a.2.2.2.1.2.2.1 a.2.2.2.1.2.2.2.1 b.1.1 b.1.2.1 b.1.2.2.1 b.2.1 b.2.2.1 b.2.2.2.1 b.2.2.2.2.1 b.2.2.2.2.2.1 b.2.2.2.2.2.2.1 b.2.2.2.2.2.2.2.1 some
theorem au0 (dW wB) (c d e g h i j l m n o p q s t v w) {α:Type} (K:MO->Option α):mh dW wB c d e g h i j l m n o p q s t v w K=(mh dW wB c d e g h i j l m n o p q s t v w some).bind K:=by simp only [mh,af,ab,ac,ae,ah]
theorem amu (c d e g h i j l m n o p q s t v w):lW (c,d,e,(g,h,i,j,()),()) ((l,m,n,()),o,p,q,s,t,v,w,())=mh dW wB c d e g h i j l m n o p q s t v w some:=rfl
end
end Go.Proofs.YtljfdfghagiblaaGreat.S2