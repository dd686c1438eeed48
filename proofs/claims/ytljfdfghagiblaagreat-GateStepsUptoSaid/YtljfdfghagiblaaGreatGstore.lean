/- Plain forms of the program's functions,by program. -/
import Derived.Test.YtljfdfghagiblaaGreatGslot
import Derived.Test.YtljfdfghagiblaaGreatGwire
set_option maxRecDepth 100000
set_option maxHeartbeats 0
namespace Go.Proofs.YtljfdfghagiblaaGreat.S2
open Go
noncomputable section
def AR:aC:=(.cons (.agg IW) .nil)
def D4:aS:=[]
def AS:List aA:=[⟨lB,[]⟩]
abbrev aeu:Type:=(Yt×Unit)
abbrev aev:Type:=Unit
abbrev M1:Type:=Bool×Unit
abbrev avh:=aeu->aev->Option M1
def mB {α:Type} (c:Int) (d:Int) (e:Int) (g:Int) (h:Int) (i:ByteArray) (K:M1->Option α):Option α :=
 cond (e==1)
 (K (true,()))
 (cond (e==0)
 (cond (g==0)
 (cond (h==0)
 (K (i.toList==eB.toList,()))
 (K (false,())))
 (K (false,())))
 (K (false,())))
def mC:aeu->aev->Option M1:=fun a b=>mB a.1.1 a.1.2.1 a.1.2.2.1 a.1.2.2.2.1 a.1.2.2.2.2.1 a.1.2.2.2.2.2.1 some
theorem avi (c d e g h i) {α:Type} (K:M1->Option α):mB c d e g h i K=(mB c d e g h i some).bind K:=by simp only [mB,af,ab,ac,ae,ah]
theorem amE (c d e g h i):mC ((c,d,e,g,h,i,()),()) ()=mB c d e g h i some:=rfl
def AT:aC:=(.cons (.agg IW) .nil)
def D5:aS:=[]
def AU:List aA:=[⟨lS,[]⟩]
abbrev aew:Type:=(Yt×Unit)
abbrev aex:Type:=Unit
abbrev M2:Type:=ByteArray×Unit
abbrev avj:=aew->aex->Option M2
def mD (be:Mq) (mE:avk) {α:Type} (c:Int) (d:Int) (e:Int) (g:Int) (h:Int) (i:ByteArray) (K:M2->Option α):Option α :=
 (be (c,()) ()).bind fun r1 =>
 cond (decide (0+r1.1.size<=9223372036854775807))
 ((be (d,()) ()).bind fun r2 =>
 cond (decide ((eB++r1.1).size+r2.1.size<=9223372036854775807))
 ((be (e,()) ()).bind fun r3 =>
 cond (decide ((eB++r1.1++r2.1).size+r3.1.size<=9223372036854775807))
 ((be (g,()) ()).bind fun r4 =>
 cond (decide ((eB++r1.1++r2.1++r3.1).size+r4.1.size<=9223372036854775807))
 ((be (h,()) ()).bind fun r5 =>
 cond (decide ((eB++r1.1++r2.1++r3.1++r4.1).size+r5.1.size<=9223372036854775807))
 ((mE (i,()) ()).bind fun r6 =>
 cond (decide ((eB++r1.1++r2.1++r3.1++r4.1++r5.1).size+r6.1.size<=9223372036854775807))
 (K (eB++r1.1++r2.1++r3.1++r4.1++r5.1++r6.1,()))
 (none))
 (none))
 (none))
 (none))
 (none))
 (none)
def mG:aew->aex->Option M2:=fun a b=>mD be mE a.1.1 a.1.2.1 a.1.2.2.1 a.1.2.2.2.1 a.1.2.2.2.2.1 a.1.2.2.2.2.2.1 some
theorem avl (be mE) (c d e g h i) {α:Type} (K:M2->Option α):mD be mE c d e g h i K=(mD be mE c d e g h i some).bind K:=by simp only [mD,af,ab,ac,ae,ah]
theorem amF (c d e g h i):mG ((c,d,e,g,h,i,()),()) ()=mD be mE c d e g h i some:=rfl
def AV:aC:=(.cons lS .nil)
def D6:aS:=[]
def AW:List aA:=[⟨(.tup (sL [(.agg IW),lB])),[]⟩]
abbrev aey:Type:=ux
abbrev aez:Type:=Unit
abbrev M3:Type:=(Yt×Bool×Unit)×Unit
abbrev avm:=aey->aez->Option M3
def mH (bH:S8) (mI:avn) (mC:avh) {α:Type} (c:ByteArray) (K:M3->Option α):Option α :=
 (bH (c,()) ()).bind fun r1 =>
 cond (!r1.1.2.2.1)
 (K (((0,0,0,0,0,eB,()),false,()),()))
 ((bH (r1.1.2.1,()) ()).bind fun r2 =>
 cond (!r2.1.2.2.1)
 (K (((0,0,0,0,0,eB,()),false,()),()))
 ((bH (r2.1.2.1,()) ()).bind fun r3 =>
 cond (!r3.1.2.2.1)
 (K (((0,0,0,0,0,eB,()),false,()),()))
 ((bH (r3.1.2.1,()) ()).bind fun r4 =>
 cond (!r4.1.2.2.1)
 (K (((0,0,0,0,0,eB,()),false,()),()))
 ((bH (r4.1.2.1,()) ()).bind fun r5 =>
 cond (!r5.1.2.2.1)
 (K (((0,0,0,0,0,eB,()),false,()),()))
 ((mI (r5.1.2.1,(↑r5.1.2.1.size:Int),()) ()).bind fun r6 =>
 cond (!r6.1.2.2.1)
 (K (((0,0,0,0,0,eB,()),false,()),()))
 (cond (!r6.1.2.1.toList==eB.toList)
 (K (((0,0,0,0,0,eB,()),false,()),()))
 ((mC ((r1.1.1,r2.1.1,r3.1.1,r4.1.1,r5.1.1,r6.1.1,()),()) ()).bind fun r7 =>
 cond (!r7.1)
 (K (((0,0,0,0,0,eB,()),false,()),()))
 (K (((r1.1.1,r2.1.1,r3.1.1,r4.1.1,r5.1.1,r6.1.1,()),true,()),())))))))))
def lx:aey->aez->Option M3:=fun a b=>mH bH mI mC a.1 some
theorem avo (bH mI mC c) {α:Type} (K:M3->Option α):mH bH mI mC c K=(mH bH mI mC c some).bind K:=by simp only [mH,af,ab,ac,ae,ah]
theorem amG (c):lx (c,()) ()=mH bH mI mC c some:=rfl
def AX:aC:=(.cons (cP 0) .nil)
def D7:aS:=yg
def AY:List aA:=[⟨(.tup amk),yg⟩,⟨(.tup (sL [(cP 3),(.const (.bool Bool.true))])),[(0,.cells (sL [lI,(cW 1),(cW 2)])),(1,qf),(2,.row 151 nk),(3,.cells (.cons (cP 0) .nil))]⟩]
abbrev aeA:Type:=Unit
abbrev aeB:Type:=yh
abbrev M4:Type:=(Unit×yh)⊕(Unit×((Int×Unit)×Yb×Y6×Unit×Unit))
abbrev at5:=aeA->aeB->Option M4
def mJ (oO:az9) {α:Type} (c:Int) (d:Yb) (e:Y6) (K:M4->Option α):Option α :=
 (oO () ((c,()),d,e,())).bind fun r1 =>
 cond (decide (r1.1<2))
 (K (.inl ((),(c,()),d,e,())))
 (K (.inr ((),(c,()),d,e,(),())))
def oA:aeA->aeB->Option M4:=fun a b=>mJ oO b.1.1 b.2.1 b.2.2.1 some
theorem avp (oO) (c d e) {α:Type} (K:M4->Option α):mJ oO c d e K=(mJ oO c d e some).bind K:=by simp only [mJ,af,ab,ac,ae,ah]
theorem amH (c d e):oA () ((c,()),d,e,())=mJ oO c d e some:=rfl
def jO:aC:=(.cons (cP 0) .nil)
def oe:aS:=aa5
def wL:List aA:=[⟨(.tup (sL [(.agg IW),lB])),[]⟩]
abbrev M5:Type:=Unit
abbrev M6:Type:=aa6
abbrev aeC:Type:=(Yt×Bool×Unit)×Unit
abbrev Mm:=M5->M6->Option aeC
def B3:List aA:=[⟨(.tup (.cons (.agg (.cons lU (.cons lU (.cons lU (.cons lU (.cons lU (.cons lS .nil))))))) (.cons lB .nil))),[(0,.cells (.cons (cP 1) .nil)),(1,.cells (.cons lI (.cons (cW 2) (.cons (cW 3) .nil)))),(2,qf),(3,.row 151 (.cons (.int .i64) (.cons .str .nil)))]⟩]
abbrev Ij:Type:=(Yt×Bool×Unit)×(Unit×(Int×Unit)×Yb×Y6×Unit)
def iH (lu:avb) (lx:avm) {α:Type} (c:Int) (d:Yb) (e:Y6) (K:Ij->Option α):Option α :=
 (lu (0,1,()) ((c,()),d,e,())).bind fun r1 =>
 cond (r1.1.1==0)
 (K (((0,0,0,0,0,eB,()),false,()),(),(c,()),d,e,()))
 ((lx (r1.1.2.1,()) ()).bind fun r2 =>
 K (((r2.1.1.1,r2.1.1.2.1,r2.1.1.2.2.1,r2.1.1.2.2.2.1,r2.1.1.2.2.2.2.1,r2.1.1.2.2.2.2.2.1,()),r2.1.2.1,()),(),(c,()),d,e,()))
def Td:M5->M6->Option Ij:=fun a b=>iH lu lx b.2.1.1 b.2.2.1 b.2.2.2.1 some
theorem Te (a:M5) (b:M6):cj (fun r:Ij=>r.2=b) (Td a b):=by
 show cj _ (iH lu lx b.2.1.1 b.2.2.1 b.2.2.2.1 some)
 unfold iH
 repeat (first | (with_reducible refine bk fun _=>?_) | (with_reducible apply bm) | (with_reducible refine bD (fun _=>?_) (fun _=>?_)) | (with_reducible exact bn) | exact bp rfl)
def bz:M5->M6->Option aeC:=fun a b=>(Td a b).map fun r=>(r.1,())
theorem avq (lu lx) (c d e) {α:Type} (K:Ij->Option α):iH lu lx c d e K=(iH lu lx c d e some).bind K:=by simp only [iH,af,ab,ac,ae,ah]
theorem amI (c d e):bz () ((),(c,()),d,e,())=(iH lu lx c d e some).map fun r=>(r.1,()):=rfl
def pG:aC:=(sL [(cP 0),(.agg IW)])
def wM:aS:=aa5
def pH:List aA:=[⟨lB,amJ⟩]
abbrev aeD:Type:=(Yt×Unit)
abbrev aeE:Type:=aa6
abbrev M7:Type:=Bool×amK
abbrev Tf:=aeD->aeE->Option M7
def mK (mG:avj) (mA:avf) {α:Type} (c:Int) (d:Int) (e:Int) (g:Int) (h:Int) (i:ByteArray) (j:Int) (l:Yb) (m:Y6) (K:M7->Option α):Option α :=
 (mG ((c,d,e,g,h,i,()),()) ()).bind fun r1 =>
 (mA (0,1,r1.1,()) ((j,()),l,m,())).bind fun r2 =>
 K (r2.1,(),(r2.2.1.1,()),r2.2.2.1,(),r2.2.2.2.2.1,())
def bW:aeD->aeE->Option M7:=fun a b=>mK mG mA a.1.1 a.1.2.1 a.1.2.2.1 a.1.2.2.2.1 a.1.2.2.2.2.1 a.1.2.2.2.2.2.1 b.2.1.1 b.2.2.1 b.2.2.2.1 some
theorem avr (mG mA) (c d e g h i j l m) {α:Type} (K:M7->Option α):mK mG mA c d e g h i j l m K=(mK mG mA c d e g h i j l m some).bind K:=by simp only [mK,af,ab,ac,ae,ah]
theorem amL (c d e g h i j l m):bW ((c,d,e,g,h,i,()),()) ((),(j,()),l,m,())=mK mG mA c d e g h i j l m some:=rfl
def AZ:aC:=Qc
def D8:aS:=aa5
def A3:List aA:=[⟨lB,amJ⟩]
abbrev aeF:Type:=(Int×Unit)
abbrev aeG:Type:=aa6
abbrev M8:Type:=Bool×amK
abbrev atZ:=aeF->aeG->Option M8
def mL (bW:Tf) {α:Type} (c:Int) (d:Int) (e:Yb) (g:Y6) (K:M8->Option α):Option α :=
 (bW ((c,0,0,0,0,eB,()),()) ((),(d,()),e,g,())).bind fun r1 =>
 K (r1.1,(),(r1.2.2.1.1,()),r1.2.2.2.1,(),r1.2.2.2.2.2.1,())
def lY:aeF->aeG->Option M8:=fun a b=>mL bW a.1 b.2.1.1 b.2.2.1 b.2.2.2.1 some
theorem avs (bW) (c d e g) {α:Type} (K:M8->Option α):mL bW c d e g K=(mL bW c d e g some).bind K:=by simp only [mL,af,ab,ac,ae,ah]
theorem amM (c d e g):lY (c,()) ((),(d,()),e,g,())=mL bW c d e g some:=rfl
def wN:aC:=(sL [(cP 0),lU,lS,lU])
def zf:aS:=aa5
def wO:List aA:=[⟨lB,amJ⟩]
abbrev aeH:Type:=adv
abbrev aeI:Type:=aa6
abbrev M9:Type:=Bool×amK
abbrev adf:=aeH->aeI->Option M9
def mM (bz:Mm) (bW:Tf) {α:Type} (c:Int) (d:ByteArray) (e:Int) (g:Int) (h:Yb) (i:Y6) (K:M9->Option α):Option α :=
 (bz () ((),(g,()),h,i,())).bind fun r1 =>
 cond (!r1.1.2.1)
 (K (false,(),(g,()),h,(),i,()))
 (cond (r1.1.1.2.2.1==1)
 (K (false,(),(g,()),h,(),i,()))
 ((bW ((r1.1.1.1,r1.1.1.2.1,1,c,e,d,()),()) ((),(g,()),h,i,())).bind fun r2 =>
 K (r2.1,(),(r2.2.2.1.1,()),r2.2.2.2.1,(),r2.2.2.2.2.2.1,())))
def fq:aeH->aeI->Option M9:=fun a b=>mM bz bW a.1 a.2.1 a.2.2.1 b.2.1.1 b.2.2.1 b.2.2.2.1 some
theorem avt (bz bW) (c d e g h i) {α:Type} (K:M9->Option α):mM bz bW c d e g h i K=(mM bz bW c d e g h i some).bind K:=by simp only [mM,af,ab,ac,ae,ah]
theorem amN (c d e g h i):fq (c,d,e,()) ((),(g,()),h,i,())=mM bz bW c d e g h i some:=rfl
def A4:aC:=(sL [(cP 0),lB])
def D9:aS:=aa5
def A5:List aA:=[⟨lB,amJ⟩]
abbrev aeJ:Type:=(Bool×Unit)
abbrev aeK:Type:=aa6
abbrev Na:Type:=Bool×amK
abbrev atU:=aeJ->aeK->Option Na
def mN (bz:Mm) (bW:Tf) {α:Type} (c:Bool) (d:Int) (e:Yb) (g:Y6) (K:Na->Option α):Option α :=
 (bz () ((),(d,()),e,g,())).bind fun r1 =>
 cond (!r1.1.2.1)
 (K (false,(),(d,()),e,(),g,()))
 (cond (r1.1.1.2.2.1==0)
 (K (false,(),(d,()),e,(),g,()))
 (cond (c)
 (cond (r1.1.1.2.1==18446744073709551615)
 (K (false,(),(d,()),e,(),g,()))
 (cond (c)
 ((bW ((r1.1.1.2.2.2.2.1,IntKind.u64.wrap (r1.1.1.2.1+1),0,0,0,eB,()),()) ((),(d,()),e,g,())).bind fun r2 =>
 K (r2.1,(),(r2.2.2.1.1,()),r2.2.2.2.1,(),r2.2.2.2.2.2.1,()))
 ((bW ((r1.1.1.1,r1.1.1.2.1,0,0,0,eB,()),()) ((),(d,()),e,g,())).bind fun r3 =>
 K (r3.1,(),(r3.2.2.1.1,()),r3.2.2.2.1,(),r3.2.2.2.2.2.1,()))))
 (cond (c)
 ((bW ((r1.1.1.2.2.2.2.1,IntKind.u64.wrap (r1.1.1.2.1+1),0,0,0,eB,()),()) ((),(d,()),e,g,())).bind fun r4 =>
 K (r4.1,(),(r4.2.2.1.1,()),r4.2.2.2.1,(),r4.2.2.2.2.2.1,()))
 ((bW ((r1.1.1.1,r1.1.1.2.1,0,0,0,eB,()),()) ((),(d,()),e,g,())).bind fun r5 =>
 K (r5.1,(),(r5.2.2.1.1,()),r5.2.2.2.1,(),r5.2.2.2.2.2.1,())))))
def oy:aeJ->aeK->Option Na:=fun a b=>mN bz bW a.1 b.2.1.1 b.2.2.1 b.2.2.2.1 some
theorem avu (bz bW) (c d e g) {α:Type} (K:Na->Option α):mN bz bW c d e g K=(mN bz bW c d e g some).bind K:=by simp only [mN,af,ab,ac,ae,ah]
theorem amO (c d e g):oy (c,()) ((),(d,()),e,g,())=mN bz bW c d e g some:=rfl
end
end Go.Proofs.YtljfdfghagiblaaGreat.S2