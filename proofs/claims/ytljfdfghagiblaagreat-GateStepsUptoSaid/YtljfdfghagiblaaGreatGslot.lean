/- Plain forms of the program's functions,by program. -/
import Derived.Test.YtljfdfghagiblaaGreatGdisk
set_option maxRecDepth 100000
set_option maxHeartbeats 0
namespace Go.Proofs.YtljfdfghagiblaaGreat.S2
open Go
noncomputable section
def wH:aC:=(.cons lI .nil)
def zd:aS:=[]
def wI:List aA:=[⟨lB,[]⟩]
abbrev aec:Type:=(Int×Unit)
abbrev aed:Type:=Unit
abbrev MP:Type:=Bool×Unit
abbrev aee:=aec->aed->Option MP
def mi {α:Type} (c:Int) (K:MP->Option α):Option α :=
 cond (decide (c≥32))
 (K (decide (c<=512),()))
 (K (false,()))
def dX:aec->aed->Option MP:=fun a b=>mi a.1 some
theorem au1 (c) {α:Type} (K:MP->Option α):mi c K=(mi c some).bind K:=by simp only [mi,af,ab,ac,ae,ah]
theorem amv (c):dX (c,()) ()=mi c some:=rfl
def AF:aC:=(.cons lU .nil)
def DY:aS:=[]
def AG:List aA:=[⟨lS,[]⟩]
abbrev aef:Type:=(Int×Unit)
abbrev aeg:Type:=Unit
abbrev MQ:Type:=ByteArray×Unit
abbrev au2:=aef->aeg->Option MQ
def mj {α:Type} (c:Int) (K:MQ->Option α):Option α :=
 K (Go.strOfNums [IntKind.u8.wrap (c.fdiv 72057594037927936),IntKind.u8.wrap (c.fdiv 281474976710656),IntKind.u8.wrap (c.fdiv 1099511627776),IntKind.u8.wrap (c.fdiv 4294967296),IntKind.u8.wrap (c.fdiv 16777216),IntKind.u8.wrap (c.fdiv 65536),IntKind.u8.wrap (c.fdiv 256),IntKind.u8.wrap (c.fdiv 1)],())
def lp:aef->aeg->Option MQ:=fun a b=>mj a.1 some
theorem au3 (c) {α:Type} (K:MQ->Option α):mj c K=(mj c some).bind K:=by simp only [mj,af,ab,ac,ae,ah]
theorem amw (c):lp (c,()) ()=mj c some:=rfl
def AH:aC:=(.cons lS .nil)
def DZ:aS:=[]
def AI:List aA:=[⟨lU,[]⟩]
abbrev aeh:Type:=ux
abbrev aei:Type:=Unit
abbrev MS:Type:=Int×Unit
abbrev au4:=aeh->aei->Option MS
def lr:aC:=(.cons lS (dz 2 (.cons lU (dz 2 (.cons lI (.cons lI (dz 11 .nil)))))))
def od:aS:=[]
def o5:List eh:=[⟨(.exit 0),(dz 3 (.cons lU (dz 15 .nil))),[]⟩]
abbrev iD:Type:=(ByteArray×Int×Int×Int×Unit)
abbrev iE:Type:=Unit
abbrev ml:Type:=(Int×Unit)×Unit
def dB {α:Type} (c:ByteArray) (d:Int) (e:Int) (g:Int) (kn:iD->iE->Option α) (kr:ml->Option α):Option α :=
 cond (decide (g<e))
 (cond (decide (0<=g))
 (cond (decide (g<(↑c.size:Int)))
 (kn (c,IntKind.u64.wrap (↑(BitVec.ofInt 64 (IntKind.u64.wrap (d*256)) ||| BitVec.ofInt 64 (IntKind.u64.wrap (dM c g))).toNat:Int),e,IntKind.i64.wrap (g+1),()) ())
 (none))
 (none))
 (kr ((d,()),()))
def fb:iD->iE->Option ml:=fun x y=>dP (fun p=>(fun (a:iD) (b:iE)=>dB a.1 a.2.1 a.2.2.1 a.2.2.2.1 (fun a' b'=>some (.inl (a',b'))) fun r=>some (.inr r)) p.1 p.2) (x,y)
theorem K1 (c d e g) {α:Type} (kn:iD->iE->Option α) (kr:ml->Option α):dB c d e g kn kr=(dB c d e g (fun a b=>some (.inl (a,b))) fun r=>some (.inr r)).bind (Sum.elim (fun p:iD×iE=>kn p.1 p.2) kr):=by simp only [dB,af,ab,ac,ae,ah,Sum.elim_inl,Sum.elim_inr]
theorem K2 (c d e g):fb (c,d,e,g,()) ()=dB c d e g fb some:=aX (A:=iD) (B:=iE) (R:=ml) (fun a b kn kr=>dB a.1 a.2.1 a.2.2.1 a.2.2.2.1 kn kr) (fun a b kn kr=>K1 a.1 a.2.1 a.2.2.1 a.2.2.2.1 kn kr) (c,d,e,g,()) ()
def mq (fb:iD->iE->Option ml) {α:Type} (c:ByteArray) (K:MS->Option α):Option α :=
 (fb (c,0,(↑c.size:Int),0,()) ()).bind fun r1 =>
 K (r1.1.1,())
def jy:aeh->aei->Option MS:=fun a b=>mq fb a.1 some
theorem au5 (fb:iD->iE->Option ml) (c) {α:Type} (K:MS->Option α):mq fb c K=(mq fb c some).bind K:=by simp only [mq,af,ab,ac,ae,ah]
theorem amx (c):jy (c,()) ()=mq fb c some:=rfl
def AJ:aC:=(sL [lU,lS,lI])
def D0:aS:=[]
def AK:List aA:=[⟨(.tup (sL [lS,lB])),[]⟩]
abbrev aej:Type:=adv
abbrev aek:Type:=Unit
abbrev MT:Type:=Mf×Unit
abbrev au6:=aej->aek->Option MT
def mr (dX:aee) (lp:au2) (bT:SX) {α:Type} (c:Int) (d:ByteArray) (e:Int) (K:MT->Option α):Option α :=
 (dX (e,()) ()).bind fun r1 =>
 cond (!r1.1)
 (K ((eB,false,()),()))
 (cond (c==0)
 (K ((eB,false,()),()))
 (cond (decide ((↑d.size:Int)>IntKind.i64.wrap (e-18)))
 (K ((eB,false,()),()))
 ((lp (c,()) ()).bind fun r2 =>
 cond (decide (r2.1.size+(Go.strOfNums ([]++[IntKind.u8.wrap ((↑d.size:Int).fdiv 256)]++[IntKind.u8.wrap (↑d.size:Int)])).size<=9223372036854775807))
 (cond (decide ((r2.1++Go.strOfNums ([]++[IntKind.u8.wrap ((↑d.size:Int).fdiv 256)]++[IntKind.u8.wrap (↑d.size:Int)])).size+d.size<=9223372036854775807))
 ((bT ((ByteArray.mk #[0]),IntKind.i64.wrap (IntKind.i64.wrap (e-18)-(↑d.size:Int)),()) ()).bind fun r3 =>
 cond (decide ((r2.1++Go.strOfNums ([]++[IntKind.u8.wrap ((↑d.size:Int).fdiv 256)]++[IntKind.u8.wrap (↑d.size:Int)])++d).size+r3.1.size<=9223372036854775807))
 ((lp (c,()) ()).bind fun r4 =>
 cond (decide ((r2.1++Go.strOfNums ([]++[IntKind.u8.wrap ((↑d.size:Int).fdiv 256)]++[IntKind.u8.wrap (↑d.size:Int)])++d++r3.1).size+r4.1.size<=9223372036854775807))
 (K ((r2.1++Go.strOfNums ([]++[IntKind.u8.wrap ((↑d.size:Int).fdiv 256)]++[IntKind.u8.wrap (↑d.size:Int)])++d++r3.1++r4.1,true,()),()))
 (none))
 (none))
 (none))
 (none))))
def mu:aej->aek->Option MT:=fun a b=>mr dX lp bT a.1 a.2.1 a.2.2.1 some
theorem au7 (dX lp bT) (c d e) {α:Type} (K:MT->Option α):mr dX lp bT c d e K=(mr dX lp bT c d e some).bind K:=by simp only [mr,af,ab,ac,ae,ah]
theorem amy (c d e):mu (c,d,e,()) ()=mr dX lp bT c d e some:=rfl
def AL:aC:=(.cons lS .nil)
def D1:aS:=[]
def AM:List aA:=[⟨(.tup (sL [lU,lS,lB])),[]⟩]
abbrev ael:Type:=ux
abbrev aem:Type:=Unit
abbrev MU:Type:=P5×Unit
abbrev au8:=ael->aem->Option MU
def mv (dX:aee) (jy:au4) {α:Type} (c:ByteArray) (K:MU->Option α):Option α :=
 (dX ((↑c.size:Int),()) ()).bind fun r1 =>
 cond (!r1.1)
 (K ((0,eB,false,()),()))
 (cond (decide (8<=(↑c.size:Int)))
 ((jy (c.extract 0 8,()) ()).bind fun r2 =>
 cond (decide (10<=(↑c.size:Int)))
 ((jy (c.extract 8 10,()) ()).bind fun r3 =>
 cond (r2.1==0)
 (K ((0,eB,false,()),()))
 (cond (decide (0<=IntKind.i64.wrap ((↑c.size:Int)-8)))
 (cond (decide (IntKind.i64.wrap ((↑c.size:Int)-8)<=(↑c.size:Int)))
 ((jy (c.extract (IntKind.i64.wrap ((↑c.size:Int)-8)).toNat c.size,()) ()).bind fun r4 =>
 cond (r2.1 != r4.1)
 (K ((0,eB,false,()),()))
 (cond (decide (IntKind.i64.wrap r3.1>IntKind.i64.wrap ((↑c.size:Int)-18)))
 (K ((0,eB,false,()),()))
 (cond (decide (10<=IntKind.i64.wrap (10+IntKind.i64.wrap r3.1)))
 (cond (decide (IntKind.i64.wrap (10+IntKind.i64.wrap r3.1)<=(↑c.size:Int)))
 (K ((r2.1,c.extract 10 (IntKind.i64.wrap (10+IntKind.i64.wrap r3.1)).toNat,true,()),()))
 (none))
 (none))))
 (none))
 (none)))
 (none))
 (none))
def jz:ael->aem->Option MU:=fun a b=>mv dX jy a.1 some
theorem au9 (dX jy c) {α:Type} (K:MU->Option α):mv dX jy c K=(mv dX jy c some).bind K:=by simp only [mv,af,ab,ac,ae,ah]
theorem amz (c):jz (c,()) ()=mv dX jy c some:=rfl
def pF:aC:=(sL [(cP 0),lI,lI])
def wJ:aS:=yg
def Fu:List aA:=[⟨(.tup (sL [lI,lU,lS])),[]⟩]
abbrev MV:Type:=Ht
abbrev MW:Type:=yh
abbrev aen:Type:=adS×Unit
abbrev aeo:=MV->MW->Option aen
def B1:List aA:=[⟨(.tup (.cons lI (.cons lU (.cons lS .nil)))),[(0,.cells (.cons lI (.cons (cW 1) (.cons (cW 2) .nil)))),(1,qf),(2,.row 151 (.cons (.int .i64) (.cons .str .nil)))]⟩]
abbrev Ih:Type:=(Int×Int×ByteArray×Unit)×((Int×Unit)×Yb×Y6×Unit)
def iF (BW:aGk) (jz:au8) {α:Type} (c:Int) (d:Int) (e:Int) (g:Yb) (h:Y6) (K:Ih->Option α):Option α :=
 (BW (c,()) ((e,()),g,h,())).bind fun r1 =>
 (BW (d,()) ((e,()),g,h,())).bind fun r2 =>
 (jz (r1.1.1,()) ()).bind fun r3 =>
 (jz (r2.1.1,()) ()).bind fun r4 =>
 cond (r4.1.2.2.1)
 (cond (!r3.1.2.2.1)
 (K ((d,r4.1.1,r4.1.2.1,()),(e,()),g,h,()))
 (cond (decide (r4.1.1>r3.1.1))
 (K ((d,r4.1.1,r4.1.2.1,()),(e,()),g,h,()))
 (cond (!r3.1.2.2.1)
 (K ((d,0,eB,()),(e,()),g,h,()))
 (K ((c,r3.1.1,r3.1.2.1,()),(e,()),g,h,())))))
 (cond (!r3.1.2.2.1)
 (K ((d,0,eB,()),(e,()),g,h,()))
 (K ((c,r3.1.1,r3.1.2.1,()),(e,()),g,h,())))
def S9:MV->MW->Option Ih:=fun a b=>iF BW jz a.1 a.2.1 b.1.1 b.2.1 b.2.2.1 some
theorem Ta (a:MV) (b:MW):cj (fun r:Ih=>r.2=b) (S9 a b):=by
 show cj _ (iF BW jz a.1 a.2.1 b.1.1 b.2.1 b.2.2.1 some)
 unfold iF
 repeat (first | (with_reducible refine bk fun _=>?_) | (with_reducible apply bm) | (with_reducible refine bD (fun _=>?_) (fun _=>?_)) | (with_reducible exact bn) | exact bp rfl)
def dC:MV->MW->Option aen:=fun a b=>(S9 a b).map fun r=>(r.1,())
theorem ava (BW jz) (c d e g h) {α:Type} (K:Ih->Option α):iF BW jz c d e g h K=(iF BW jz c d e g h some).bind K:=by simp only [iF,af,ab,ac,ae,ah]
theorem amA (c d e g h):dC (c,d,()) ((e,()),g,h,())=(iF BW jz c d e g h some).map fun r=>(r.1,()):=rfl
def wK:aC:=(sL [(cP 0),lI,lI])
def ze:aS:=yg
def K3:List aA:=[⟨(.tup (sL [lU,lS])),[]⟩]
abbrev MX:Type:=Ht
abbrev MY:Type:=yh
abbrev aep:Type:=(Int×ByteArray×Unit)×Unit
abbrev avb:=MX->MY->Option aep
def B2:List aA:=[⟨(.tup (.cons lU (.cons lS .nil))),[(0,.cells (.cons lI (.cons (cW 1) (.cons (cW 2) .nil)))),(1,qf),(2,.row 151 (.cons (.int .i64) (.cons .str .nil)))]⟩]
abbrev Ii:Type:=(Int×ByteArray×Unit)×((Int×Unit)×Yb×Y6×Unit)
def iG (dC:aeo) {α:Type} (c:Int) (d:Int) (e:Int) (g:Yb) (h:Y6) (K:Ii->Option α):Option α :=
 (dC (c,d,()) ((e,()),g,h,())).bind fun r1 =>
 K ((r1.1.2.1,r1.1.2.2.1,()),(e,()),g,h,())
def Tb:MX->MY->Option Ii:=fun a b=>iG dC a.1 a.2.1 b.1.1 b.2.1 b.2.2.1 some
theorem Tc (a:MX) (b:MY):cj (fun r:Ii=>r.2=b) (Tb a b):=by
 show cj _ (iG dC a.1 a.2.1 b.1.1 b.2.1 b.2.2.1 some)
 unfold iG
 repeat (first | (with_reducible refine bk fun _=>?_) | (with_reducible apply bm) | (with_reducible refine bD (fun _=>?_) (fun _=>?_)) | (with_reducible exact bn) | exact bp rfl)
def lu:MX->MY->Option aep:=fun a b=>(Tb a b).map fun r=>(r.1,())
theorem avc (dC) (c d e g h) {α:Type} (K:Ii->Option α):iG dC c d e g h K=(iG dC c d e g h some).bind K:=by simp only [iG,af,ab,ac,ae,ah]
theorem amB (c d e g h):lu (c,d,()) ((e,()),g,h,())=(iG dC c d e g h some).map fun r=>(r.1,()):=rfl
def AN:aC:=(sL [(cP 0),lI,lI,lS])
def D2:aS:=yg
def AO:List aA:=[⟨lB,ac9⟩]
abbrev aeq:Type:=adS
abbrev aer:Type:=yh
abbrev MZ:Type:=Bool×ada
abbrev avd:=aeq->aer->Option MZ
def mw (oO:az9) (dC:aeo) (E7:aGf) (mu:au6) (CA:aGt) {α:Type} (c:Int) (d:Int) (e:ByteArray) (g:Int) (h:Yb) (i:Y6) (K:MZ->Option α):Option α :=
 cond (c==d)
 (K (false,(g,()),h,(),i,()))
 (cond (decide (c<0))
 (K (false,(g,()),h,(),i,()))
 (cond (decide (d<0))
 (K (false,(g,()),h,(),i,()))
 ((oO () ((g,()),h,i,())).bind fun r1 =>
 cond (decide (c≥r1.1))
 (K (false,(g,()),h,(),i,()))
 ((oO () ((g,()),h,i,())).bind fun r2 =>
 cond (decide (d≥r2.1))
 (K (false,(g,()),h,(),i,()))
 ((dC (c,d,()) ((g,()),h,i,())).bind fun r3 =>
 cond (r3.1.2.1==18446744073709551615)
 (K (false,(g,()),h,(),i,()))
 ((E7 () ((g,()),h,i,())).bind fun r4 =>
 (mu (IntKind.u64.wrap (r3.1.2.1+1),e,r4.1,()) ()).bind fun r5 =>
 cond (!r5.1.2.1)
 (K (false,(g,()),h,(),i,()))
 (cond (r3.1.1==c)
 ((CA (d,r5.1.1,()) ((g,()),h,i,())).bind fun r6 =>
 K (r6.1,(r6.2.1.1,()),r6.2.2.1,(),r6.2.2.2.2.1,()))
 ((CA (c,r5.1.1,()) ((g,()),h,i,())).bind fun r7 =>
 K (r7.1,(r7.2.1.1,()),r7.2.2.1,(),r7.2.2.2.2.1,())))))))))
def my:aeq->aer->Option MZ:=fun a b=>mw oO dC E7 mu CA a.1 a.2.1 a.2.2.1 b.1.1 b.2.1 b.2.2.1 some
theorem ave (oO dC E7 mu CA) (c d e g h i) {α:Type} (K:MZ->Option α):mw oO dC E7 mu CA c d e g h i K=(mw oO dC E7 mu CA c d e g h i some).bind K:=by simp only [mw,af,ab,ac,ae,ah]
theorem amC (c d e g h i):my (c,d,e,()) ((g,()),h,i,())=mw oO dC E7 mu CA c d e g h i some:=rfl
def AP:aC:=(sL [(cP 0),lI,lI,lS])
def D3:aS:=yg
def AQ:List aA:=[⟨lB,ac9⟩]
abbrev aes:Type:=adS
abbrev aet:Type:=yh
abbrev M0:Type:=Bool×ada
abbrev avf:=aes->aet->Option M0
def mz (my:avd) (Fc:aGq) {α:Type} (c:Int) (d:Int) (e:ByteArray) (g:Int) (h:Yb) (i:Y6) (K:M0->Option α):Option α :=
 (my (c,d,e,()) ((g,()),h,i,())).bind fun r1 =>
 cond (!r1.1)
 (K (false,(r1.2.1.1,()),r1.2.2.1,(),r1.2.2.2.2.1,()))
 ((Fc () ((r1.2.1.1,()),r1.2.2.1,r1.2.2.2.2.1,())).bind fun r2 =>
 K (true,(r2.2.1.1,()),r2.2.2.1,(),r2.2.2.2.2.1,()))
def mA:aes->aet->Option M0:=fun a b=>mz my Fc a.1 a.2.1 a.2.2.1 b.1.1 b.2.1 b.2.2.1 some
theorem avg (my Fc) (c d e g h i) {α:Type} (K:M0->Option α):mz my Fc c d e g h i K=(mz my Fc c d e g h i some).bind K:=by simp only [mz,af,ab,ac,ae,ah]
theorem amD (c d e g h i):mA (c,d,e,()) ((g,()),h,i,())=mz my Fc c d e g h i some:=rfl
end
end Go.Proofs.YtljfdfghagiblaaGreat.S2