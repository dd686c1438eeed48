/- Plain forms of the program's functions,by program. -/
import Derived.Test.YtljfdfghagiblaaGreatGr03
import Derived.Test.YtljfdfghagiblaaGreatGrwire
set_option maxRecDepth 100000
set_option maxHeartbeats 0
namespace Go.Proofs.YtljfdfghagiblaaGreat.S2
open Go
noncomputable section
def gn:aC:=(.cons lI .nil)
def jo:aS:=[]
def gp:List aA:=[⟨lI,[]⟩]
abbrev aqJ:Type:=(Int×Unit)
abbrev aqK:Type:=Unit
abbrev WN:Type:=Int×Unit
abbrev Qy:=aqJ->aqK->Option WN
def nL:aC:=(.cons lI (dz 2 (.cons lI (.cons lI (dz 8 .nil)))))
def rj:aS:=[]
def tH:List eh:=[⟨(.exit 0),(dz 3 (.cons lI (dz 9 .nil))),[]⟩]
abbrev kw:Type:=cr
abbrev kx:Type:=Unit
abbrev rk:Type:=(Int×Unit)×Unit
def eQ {α:Type} (c:Int) (d:Int) (e:Int) (kn:kw->kx->Option α) (kr:rk->Option α):Option α :=
 cond (decide (e<c))
 (kn (c,IntKind.i64.wrap (2*d),IntKind.i64.wrap (e+1),()) ())
 (kr ((d,()),()))
def gI:kw->kx->Option rk:=fun x y=>dP (fun p=>(fun (a:kw) (b:kx)=>eQ a.1 a.2.1 a.2.2.1 (fun a' b'=>some (.inl (a',b'))) fun r=>some (.inr r)) p.1 p.2) (x,y)
theorem Qz (c d e) {α:Type} (kn:kw->kx->Option α) (kr:rk->Option α):eQ c d e kn kr=(eQ c d e (fun a b=>some (.inl (a,b))) fun r=>some (.inr r)).bind (Sum.elim (fun p:kw×kx=>kn p.1 p.2) kr):=by simp only [eQ,af,ab,ac,ae,ah,Sum.elim_inl,Sum.elim_inr]
theorem QA (c d e):gI (c,d,e,()) ()=eQ c d e gI some:=aX (A:=kw) (B:=kx) (R:=rk) (fun a b kn kr=>eQ a.1 a.2.1 a.2.2.1 kn kr) (fun a b kn kr=>Qz a.1 a.2.1 a.2.2.1 kn kr) (c,d,e,()) ()
def rl (gI:kw->kx->Option rk) {α:Type} (c:Int) (K:WN->Option α):Option α :=
 (gI (c,1,0,()) ()).bind fun r1 =>
 K (r1.1.1,())
def br:aqJ->aqK->Option WN:=fun a b=>rl gI a.1 some
theorem aBt (gI:kw->kx->Option rk) (c) {α:Type} (K:WN->Option α):rl gI c K=(rl gI c some).bind K:=by simp only [rl,af,ab,ac,ae,ah]
theorem aui (c):br (c,()) ()=rl gI c some:=rfl
def ky:aC:=(sL [(cP 0),lS])
def oX:aS:=BZ
def kz:List aA:=[⟨lU,KH⟩]
abbrev aqL:Type:=ux
abbrev aqM:Type:=jw
abbrev WO:Type:=Int×Hv
abbrev aqN:=aqL->aqM->Option WO
def rm (gU:aqI) {α:Type} (c:ByteArray) (d:Int) (e:List Int) (g:List bO) (h:List Int) (K:WO->Option α):Option α :=
 cond (decide (4+c.size<=9223372036854775807))
 ((gU ((ByteArray.mk #[108,101,97,102])++c,()) ((d,()),e,g,h,())).bind fun r1 =>
 K (r1.1,(r1.2.1.1,()),r1.2.2.1,(),r1.2.2.2.2.1,r1.2.2.2.2.2.1,()))
 (none)
def db:aqL->aqM->Option WO:=fun a b=>rm gU a.1 b.1.1 b.2.1 b.2.2.1 b.2.2.2.1 some
theorem aBu (gU) (c d e g h) {α:Type} (K:WO->Option α):rm gU c d e g h K=(rm gU c d e g h some).bind K:=by simp only [rm,af,ab,ac,ae,ah]
theorem auj (c d e g h):db (c,()) ((d,()),e,g,h,())=rm gU c d e g h some:=rfl
def kA:aC:=(sL [(cP 0),lU,lU])
def oY:aS:=BZ
def kB:List aA:=[⟨lU,KH⟩]
abbrev aqO:Type:=Ht
abbrev aqP:Type:=jw
abbrev WP:Type:=Int×Hv
abbrev aqQ:=aqO->aqP->Option WP
def rn (bj:QB) (gU:aqI) {α:Type} (c:Int) (d:Int) (e:Int) (g:List Int) (h:List bO) (i:List Int) (K:WP->Option α):Option α :=
 (bj (c,()) ()).bind fun r1 =>
 cond (decide (4+r1.1.size<=9223372036854775807))
 ((bj (d,()) ()).bind fun r2 =>
 cond (decide (((ByteArray.mk #[110,111,100,101])++r1.1).size+r2.1.size<=9223372036854775807))
 ((gU ((ByteArray.mk #[110,111,100,101])++r1.1++r2.1,()) ((e,()),g,h,i,())).bind fun r3 =>
 K (r3.1,(r3.2.1.1,()),r3.2.2.1,(),r3.2.2.2.2.1,r3.2.2.2.2.2.1,()))
 (none))
 (none)
def cU:aqO->aqP->Option WP:=fun a b=>rn bj gU a.1 a.2.1 b.1.1 b.2.1 b.2.2.1 b.2.2.2.1 some
theorem aBv (bj gU) (c d e g h i) {α:Type} (K:WP->Option α):rn bj gU c d e g h i K=(rn bj gU c d e g h i some).bind K:=by simp only [rn,af,ab,ac,ae,ah]
theorem auk (c d e g h i):cU (c,d,()) ((e,()),g,h,i,())=rn bj gU c d e g h i some:=rfl
def C7:aC:=(sL [(cP 0),lI,(.leaf (.slc 9 Fj))])
def HS:aS:=BZ
def C8:List aA:=[⟨(.tup (sL [abd,lB])),KH⟩]
abbrev aqR:Type:=(Int×Yb×Unit)
abbrev aqS:Type:=jw
abbrev WQ:Type:=(List (List Int)×Bool×Unit)×Hv
abbrev aBw:=aqR->aqS->Option WQ
def gV:aC:=(.cons (cP 0) (.cons lI (.cons (.leaf (.slc 9 Fj)) (dz 5 (.cons (cW 508) (.cons lI (dz 73 .nil)))))))
def jx:aS:=[amo,Mv,(2,.gone),uy,(508,.row 38 pn),(600,.row 153 KE)]
def jK:List eh:=[⟨(.exit 0),(.cons (cP 0) (dz 7 (.cons (cW 508) (dz 74 .nil)))),[amo,Mv,(2,.gone),uy,(508,.row 38 pn),(600,.row 153 KE)]⟩]
abbrev gW:Type:=(Int×Yb×Int×Unit)
abbrev gX:Type:=((Int×Unit)×List Int×Unit×List Int×List Int×(List bO)×Unit)
abbrev kC:Type:=Unit×((Int×Unit)×List Int×Unit×List Int×List Int×(List bO)×Unit)
def eR (br:Qy) (db:aqN) {α:Type} (c:Int) (d:Yb) (e:Int) (g:Int) (h:List Int) (i:List Int) (j:List Int) (l:List bO) (kn:gW->gX->Option α) (kr:kC->Option α):Option α :=
 (br (c,()) ()).bind fun r1 =>
 cond (decide (e<r1.1))
 (cond (decide (e<(↑d.length:Int)))
 (cond (decide (0<=e))
 (cond (decide (e<(↑d.length:Int)))
 ((db (d.getD e.toNat eB,()) ((g,()),h,l,i,())).bind fun r2 =>
 cond (decide ((j.length+1)*8<=140737488355328))
 (kn (c,d,IntKind.i64.wrap (e+1),()) ((r2.2.1.1,()),r2.2.2.1,(),r2.2.2.2.2.1,j++([]++[r2.1]),r2.2.2.2.2.2.1,()))
 (none))
 (none))
 (none))
 ((db (eB,()) ((g,()),h,l,i,())).bind fun r3 =>
 cond (decide ((j.length+1)*8<=140737488355328))
 (kn (c,d,IntKind.i64.wrap (e+1),()) ((r3.2.1.1,()),r3.2.2.1,(),r3.2.2.2.2.1,j++([]++[r3.1]),r3.2.2.2.2.2.1,()))
 (none)))
 (kr ((),(g,()),h,(),i,j,l,()))
def eb:gW->gX->Option kC:=fun x y=>dP (fun p=>(fun (a:gW) (b:gX)=>eR br db a.1 a.2.1 a.2.2.1 b.1.1 b.2.1 b.2.2.2.1 b.2.2.2.2.1 b.2.2.2.2.2.1 (fun a' b'=>some (.inl (a',b'))) fun r=>some (.inr r)) p.1 p.2) (x,y)
theorem QC (br db) (c d e g h i j l) {α:Type} (kn:gW->gX->Option α) (kr:kC->Option α):eR br db c d e g h i j l kn kr=(eR br db c d e g h i j l (fun a b=>some (.inl (a,b))) fun r=>some (.inr r)).bind (Sum.elim (fun p:gW×gX=>kn p.1 p.2) kr):=by simp only [eR,af,ab,ac,ae,ah,Sum.elim_inl,Sum.elim_inr]
theorem QD (c d e g h i j l):eb (c,d,e,()) ((g,()),h,(),i,j,l,())=eR br db c d e g h i j l eb some:=aX (A:=gW) (B:=gX) (R:=kC) (fun a b kn kr=>eR br db a.1 a.2.1 a.2.2.1 b.1.1 b.2.1 b.2.2.2.1 b.2.2.2.2.1 b.2.2.2.2.2.1 kn kr) (fun a b kn kr=>QC br db a.1 a.2.1 a.2.2.1 b.1.1 b.2.1 b.2.2.2.1 b.2.2.2.2.1 b.2.2.2.2.2.1 kn kr) (c,d,e,()) ((g,()),h,(),i,j,l,())
def iy:aC:=(.cons (cP 0) (dz 7 (.cons ip (.cons (.const .dead) (.cons (cW 510) (.cons (cW 511) (.cons lI (dz 70 .nil))))))))
def jL:aS:=[(0,.cells (sL [(cW 1),(cW 620),(cW 3),lI])),Mv,(2,.gone),uy,(510,.row 22 S4),(511,.row 38 pn),(620,.row 153 KE)]
def kD:List eh:=[⟨(.exit 4),(.cons (cP 0) (dz 9 (.cons (cW 510) (.cons (cW 511) (dz 71 .nil))))),[(0,.cells (sL [(cW 1),(cW 620),(cW 3),lI])),Mv,(2,.gone),uy,(510,.row 22 S4),(511,.row 38 pn),(620,.row 153 KE)]⟩]
abbrev gy:Type:=(List Int×Int×Unit)
abbrev gz:Type:=((Int×Unit)×List Int×Unit×List Int×List (List Int)×List Int×(List bO)×Unit)
abbrev jM:Type:=Unit×((Int×Unit)×List Int×Unit×List Int×List (List Int)×List Int×(List bO)×Unit)
def dx (cU:aqQ) {α:Type} (c:List Int) (d:Int) (e:Int) (g:List Int) (h:List Int) (i:List (List Int)) (j:List Int) (l:List bO) (kn:gy->gz->Option α) (kr:jM->Option α):Option α :=
 cond (decide (d<(↑c.length:Int)))
 (cond (decide (0<=d))
 (cond (decide (d<(↑c.length:Int)))
 (cond (decide (0<=IntKind.i64.wrap (d+1)))
 (cond (decide (IntKind.i64.wrap (d+1)<(↑c.length:Int)))
 ((cU (c.getD d.toNat 0,c.getD (IntKind.i64.wrap (d+1)).toNat 0,()) ((e,()),g,l,h,())).bind fun r1 =>
 cond (decide ((j.length+1)*8<=140737488355328))
 (kn (c,IntKind.i64.wrap (d+2),()) ((r1.2.1.1,()),r1.2.2.1,(),r1.2.2.2.2.1,i,j++([]++[r1.1]),r1.2.2.2.2.2.1,()))
 (none))
 (none))
 (none))
 (none))
 (none))
 (kr ((),(e,()),g,(),h,i,j,l,()))
def cL:gy->gz->Option jM:=fun x y=>dP (fun p=>(fun (a:gy) (b:gz)=>dx cU a.1 a.2.1 b.1.1 b.2.1 b.2.2.2.1 b.2.2.2.2.1 b.2.2.2.2.2.1 b.2.2.2.2.2.2.1 (fun a' b'=>some (.inl (a',b'))) fun r=>some (.inr r)) p.1 p.2) (x,y)
theorem KX (cU) (c d e g h i j l) {α:Type} (kn:gy->gz->Option α) (kr:jM->Option α):dx cU c d e g h i j l kn kr=(dx cU c d e g h i j l (fun a b=>some (.inl (a,b))) fun r=>some (.inr r)).bind (Sum.elim (fun p:gy×gz=>kn p.1 p.2) kr):=by simp only [dx,af,ab,ac,ae,ah,Sum.elim_inl,Sum.elim_inr]
theorem KY (c d e g h i j l):cL (c,d,()) ((e,()),g,(),h,i,j,l,())=dx cU c d e g h i j l cL some:=aX (A:=gy) (B:=gz) (R:=jM) (fun a b kn kr=>dx cU a.1 a.2.1 b.1.1 b.2.1 b.2.2.2.1 b.2.2.2.2.1 b.2.2.2.2.2.1 b.2.2.2.2.2.2.1 kn kr) (fun a b kn kr=>KX cU a.1 a.2.1 b.1.1 b.2.1 b.2.2.2.1 b.2.2.2.2.1 b.2.2.2.2.2.1 b.2.2.2.2.2.2.1 kn kr) (c,d,()) ((e,()),g,(),h,i,j,l,())
def kE:aC:=(.cons (cP 0) (dz 7 (.cons ip (.cons (.const .dead) (.cons (cW 510) (dz 72 .nil))))))
def nM:aS:=[(0,.cells (sL [(cW 1),(cW 640),(cW 3),lI])),Mv,(2,.gone),uy,(510,.row 22 S4),(640,.row 153 KE)]
def oZ:List eh:=[⟨(.exit 2),(dz 10 (.cons (cW 510) (dz 72 .nil))),[(0,.cells (sL [(cW 1),(cW 640),(cW 3),lI])),Mv,(2,.gone),uy,(510,.row 22 S4),(640,.row 153 KE)]⟩]
abbrev iz:Type:=pZ
abbrev iA:Type:=((Int×Unit)×List Int×Unit×List Int×List (List Int)×(List bO)×Unit)
abbrev l9:Type:=Unit×((Int×Unit)×List Int×Unit×List Int×List (List Int)×(List bO)×Unit)
def dy (cL:gy->gz->Option jM) {α:Type} (c:List Int) (d:Int) (e:List Int) (g:List Int) (h:List (List Int)) (i:List bO) (kn:iz->iA->Option α) (kr:l9->Option α):Option α :=
 cond (decide ((↑c.length:Int)>1))
 ((cL (c,0,()) ((d,()),e,(),g,h,[],i,())).bind fun r1 =>
 cond (decide ((r1.2.2.2.2.2.1.length+1)*24<=140737488355328))
 (kn (r1.2.2.2.2.2.2.1,()) ((r1.2.1.1,()),r1.2.2.1,(),r1.2.2.2.2.1,r1.2.2.2.2.2.1++([]++[r1.2.2.2.2.2.2.1]),r1.2.2.2.2.2.2.2.1,()))
 (none))
 (kr ((),(d,()),e,(),g,h,i,()))
def eS:iz->iA->Option l9:=fun x y=>dP (fun p=>(fun (a:iz) (b:iA)=>dy cL a.1 b.1.1 b.2.1 b.2.2.2.1 b.2.2.2.2.1 b.2.2.2.2.2.1 (fun a' b'=>some (.inl (a',b'))) fun r=>some (.inr r)) p.1 p.2) (x,y)
theorem KZ (cL:gy->gz->Option jM) (c d e g h i) {α:Type} (kn:iz->iA->Option α) (kr:l9->Option α):dy cL c d e g h i kn kr=(dy cL c d e g h i (fun a b=>some (.inl (a,b))) fun r=>some (.inr r)).bind (Sum.elim (fun p:iz×iA=>kn p.1 p.2) kr):=by simp only [dy,af,ab,ac,ae,ah,Sum.elim_inl,Sum.elim_inr]
theorem K0 (c d e g h i):eS (c,()) ((d,()),e,(),g,h,i,())=dy cL c d e g h i eS some:=aX (A:=iz) (B:=iA) (R:=l9) (fun a b kn kr=>dy cL a.1 b.1.1 b.2.1 b.2.2.2.1 b.2.2.2.2.1 b.2.2.2.2.2.1 kn kr) (fun a b kn kr=>KZ cL a.1 b.1.1 b.2.1 b.2.2.2.1 b.2.2.2.2.1 b.2.2.2.2.2.1 kn kr) (c,()) ((d,()),e,(),g,h,i,())
def ro (br:Qy) (eb:gW->gX->Option kC) (eS:iz->iA->Option l9) {α:Type} (c:Int) (d:Yb) (e:Int) (g:List Int) (h:List bO) (i:List Int) (K:WQ->Option α):Option α :=
 cond (decide (c<0))
 (K (([],false,()),(e,()),g,(),i,h,()))
 (cond (decide (c>8))
 (K (([],false,()),(e,()),g,(),i,h,()))
 ((br (c,()) ()).bind fun r1 =>
 cond (decide ((↑d.length:Int)>r1.1))
 (K (([],false,()),(e,()),g,(),i,h,()))
 ((eb (c,d,0,()) ((e,()),g,(),i,[],h,())).bind fun r2 =>
 (eS (r2.2.2.2.2.2.1,()) ((r2.2.1.1,()),r2.2.2.1,(),r2.2.2.2.2.1,[]++[r2.2.2.2.2.2.1],r2.2.2.2.2.2.2.1,())).bind fun r3 =>
 K ((r3.2.2.2.2.2.1,true,()),(r3.2.1.1,()),r3.2.2.1,(),r3.2.2.2.2.1,r3.2.2.2.2.2.2.1,()))))
def xY:aqR->aqS->Option WQ:=fun a b=>ro br eb eS a.1 a.2.1 b.1.1 b.2.1 b.2.2.1 b.2.2.2.1 some
theorem aBx (br) (eb:gW->gX->Option kC) (eS:iz->iA->Option l9) (c d e g h i) {α:Type} (K:WQ->Option α):ro br eb eS c d e g h i K=(ro br eb eS c d e g h i some).bind K:=by simp only [ro,af,ab,ac,ae,ah]
def vC:aC:=(sL [(cP 0),lS,lI,ip])
def Ap:aS:=BZ
def vD:List aA:=[⟨(.tup (sL [lU,lB])),KH⟩]
abbrev aqT:Type:=(ByteArray×Int×List Int×Unit)
abbrev aqU:Type:=jw
abbrev WR:Type:=(Int×Bool×Unit)×Hv
abbrev aqV:=aqT->aqU->Option WR
def nN:aC:=(.cons (cP 0) (.cons (.const .dead) (.cons lI (.cons ip (dz 6 (.cons lU (.cons lI (dz 43 .nil))))))))
def rp:aS:=[amo,Mv,(2,.gone),uy,(600,.row 153 KE)]
def tI:List eh:=[⟨(.exit 0),(dz 10 (.cons lU (dz 44 .nil))),[amo,Mv,(2,.gone),uy,(600,.row 153 KE)]⟩]
abbrev kF:Type:=(Int×List Int×Int×Int×Unit)
abbrev kG:Type:=Hv
abbrev rq:Type:=(Int×Unit)×Hv
def eT (cU:aqQ) {α:Type} (c:Int) (d:List Int) (e:Int) (g:Int) (h:Int) (i:List Int) (j:List Int) (l:List bO) (kn:kF->kG->Option α) (kr:rq->Option α):Option α :=
 cond (decide (g<(↑d.length:Int)))
 (cond (c.tmod 2==0)
 (cond (decide (0<=g))
 (cond (decide (g<(↑d.length:Int)))
 ((cU (e,d.getD g.toNat 0,()) ((h,()),i,l,j,())).bind fun r1 =>
 kn (IntKind.i64.wrap (c.tdiv 2),d,r1.1,IntKind.i64.wrap (g+1),()) ((r1.2.1.1,()),r1.2.2.1,(),r1.2.2.2.2.1,r1.2.2.2.2.2.1,()))
 (none))
 (none))
 (cond (decide (0<=g))
 (cond (decide (g<(↑d.length:Int)))
 ((cU (d.getD g.toNat 0,e,()) ((h,()),i,l,j,())).bind fun r2 =>
 kn (IntKind.i64.wrap (c.tdiv 2),d,r2.1,IntKind.i64.wrap (g+1),()) ((r2.2.1.1,()),r2.2.2.1,(),r2.2.2.2.2.1,r2.2.2.2.2.2.1,()))
 (none))
 (none)))
 (kr ((e,()),(h,()),i,(),j,l,()))
def gJ:kF->kG->Option rq:=fun x y=>dP (fun p=>(fun (a:kF) (b:kG)=>eT cU a.1 a.2.1 a.2.2.1 a.2.2.2.1 b.1.1 b.2.1 b.2.2.2.1 b.2.2.2.2.1 (fun a' b'=>some (.inl (a',b'))) fun r=>some (.inr r)) p.1 p.2) (x,y)
theorem QE (cU) (c d e g h i j l) {α:Type} (kn:kF->kG->Option α) (kr:rq->Option α):eT cU c d e g h i j l kn kr=(eT cU c d e g h i j l (fun a b=>some (.inl (a,b))) fun r=>some (.inr r)).bind (Sum.elim (fun p:kF×kG=>kn p.1 p.2) kr):=by simp only [eT,af,ab,ac,ae,ah,Sum.elim_inl,Sum.elim_inr]
theorem QF (c d e g h i j l):gJ (c,d,e,g,()) ((h,()),i,(),j,l,())=eT cU c d e g h i j l gJ some:=aX (A:=kF) (B:=kG) (R:=rq) (fun a b kn kr=>eT cU a.1 a.2.1 a.2.2.1 a.2.2.2.1 b.1.1 b.2.1 b.2.2.2.1 b.2.2.2.2.1 kn kr) (fun a b kn kr=>QE cU a.1 a.2.1 a.2.2.1 a.2.2.2.1 b.1.1 b.2.1 b.2.2.2.1 b.2.2.2.2.1 kn kr) (c,d,e,g,()) ((h,()),i,(),j,l,())
def rr (br:Qy) (db:aqN) (gJ:kF->kG->Option rq) {α:Type} (c:ByteArray) (d:Int) (e:List Int) (g:Int) (h:List Int) (i:List bO) (j:List Int) (K:WR->Option α):Option α :=
 cond (decide ((↑e.length:Int)>8))
 (K ((0,false,()),(g,()),h,(),j,i,()))
 (cond (decide (d<0))
 (K ((0,false,()),(g,()),h,(),j,i,()))
 ((br ((↑e.length:Int),()) ()).bind fun r1 =>
 cond (decide (d≥r1.1))
 (K ((0,false,()),(g,()),h,(),j,i,()))
 ((db (c,()) ((g,()),h,i,j,())).bind fun r2 =>
 (gJ (d,e,r2.1,0,()) ((r2.2.1.1,()),r2.2.2.1,(),r2.2.2.2.2.1,r2.2.2.2.2.2.1,())).bind fun r3 =>
 K ((r3.1.1,true,()),(r3.2.1.1,()),r3.2.2.1,(),r3.2.2.2.2.1,r3.2.2.2.2.2.1,()))))
def gr:aqT->aqU->Option WR:=fun a b=>rr br db gJ a.1 a.2.1 a.2.2.1 b.1.1 b.2.1 b.2.2.1 b.2.2.2.1 some
theorem aBy (br db) (gJ:kF->kG->Option rq) (c d e g h i j) {α:Type} (K:WR->Option α):rr br db gJ c d e g h i j K=(rr br db gJ c d e g h i j some).bind K:=by simp only [rr,af,ab,ac,ae,ah]
end
end Go.Proofs.YtljfdfghagiblaaGreat.S2