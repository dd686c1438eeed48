/- The program's functions come to their plain forms,by program. -/
import Derived.Test.YtljfdfghagiblaaGreatGr03
import Derived.Test.YtljfdfghagiblaaGreatHrwire
import Derived.Test.YtljfdfghagiblaaGreatGmerkle
import Derived.Test.YtljfdfghagiblaaGreatAbove
set_option maxRecDepth 100000
set_option maxHeartbeats 0
namespace Go.Proofs.YtljfdfghagiblaaGreat.S2
open Go
noncomputable section
def ahe:=aN []
def T2:FD:=aJ tP ahe Tryz.f5
def ahf:=bR [] []
def ahg:RC:=⟨false,Ed,[]⟩
theorem aD7 c {α:Type} (K:SV->ar->Option α):ai (ao [] []) ahf ahg T2 (vw.svs (c,())) (Am.mem ()) K=qZ c (fun r=>aj vz r K):=by kernel_rfl
def XF:bu:=⟨vw,Am,vz,oI⟩
theorem aD8:al tP T2 [] []:=bC aB trivial trivial
theorem awA:aF tP ahe 5 Tryz.f5 T2:=cf
theorem Tg:aq tP 5 XF:=ay aD8 (byRef:=ahf) awA ahg vw Am vz (fun a b=>(aD7 ..).trans (aBi ..))
def ahh:=aN []
def T3:FD:=aJ tP ahh Tryz.f25
def ahi:=bR [] []
def ahj:RC:=⟨true,FK,[]⟩
theorem aD9 c d e g {α:Type} (K:SV->ar->Option α):ai (ao [] []) ahi ahj T3 (q0.svs ()) (xt.mem ((c,()),d,e,g,())) K=q7 c d e g (fun r=>aj Fk r K):=by kernel_rfl
def XP:bu:=⟨q0,xt,CY,pU⟩
theorem aEa:al tP T3 [] []:=bC aB trivial trivial
theorem awB:aF tP ahh 25 Tryz.f25 T3:=cf
def awC:bu:=⟨q0,xt,Fk,ado⟩
theorem ana:aq tP 25 awC:=ay aEa (byRef:=ahi) awB ahj q0 xt Fk (fun a b=>(aD9 ..).trans (aBj ..))
theorem Tq:aq tP 25 XP:=bE ana (by rfl) abe
def ahk:=aN []
def T4:FD:=aJ tP ahk Tryz.f27
def ahl:=bR [] []
def ahm:RC:=⟨true,FK,[]⟩
theorem aEb c d e g {α:Type} (K:SV->ar->Option α):ai (ao [] []) ahl ahm T4 (q8.svs ()) (xu.mem ((c,()),d,e,g,())) K=q9 c d e g (fun r=>aj Fl r K):=by kernel_rfl
def XR:bu:=⟨q8,xu,CZ,pW⟩
theorem aEc:al tP T4 [] []:=bC aB trivial trivial
theorem awD:aF tP ahk 27 Tryz.f27 T4:=cf
def awE:bu:=⟨q8,xu,Fl,adp⟩
theorem anb:aq tP 27 awE:=ay aEc (byRef:=ahl) awD ahm q8 xu Fl (fun a b=>(aEb ..).trans (aBk ..))
theorem Ts:aq tP 27 XR:=bE anb (by rfl) abf
def NR:=aN [(2,⟨2,[0,1,5],[],[4,5,6,7,8,9,10,11,12,13,14,15,16,17,18,19,20,21,22,23,24],[4]⟩)]
def FL:FD:=aJ tP NR Tryz.f62
def NS:=bR [] []
def ahn:RC:=⟨true,FK,[]⟩
theorem aho (c:Int) (d:Int) (e:Int) (g:List Int) (h:List (Int×Int×Int×ByteArray×ByteArray×Int)) (i:List Int) {α:Type} (kn:St->Option α) (K:iW->St->Option α):round (ao [] []) NS (NR 2) (FL.loop 2) kn ⟨nI.svs (c,d,()),ra.mem ((e,()),g,h,i,())⟩ K=dJ c d e g h i (fun a b=>kn ⟨nI.svs a,ra.mem b⟩) (fun r=>aR tD r K):=by kernel_rfl
def X5:cc:=⟨nI,ra,tD,fC⟩
theorem ahp:al tP FL [] []:=bC aB trivial trivial
theorem abz:bK tP (FL.loop 2) X5:=ce ahp (byRef:=NS) (lan:=NR 2) (id:=2) nI ra tD (fun a b=>(aho ..).trans (Qq ..))
theorem aEd (fC:ja->jb->Option kl) c d e g h {α:Type} (K:SV->ar->Option α):ai (ao [] [(2,⟨nI,ra,tD,fC⟩)]) NS ahn FL (vA.svs (c,())) (Ao.mem ((d,()),e,g,h,())) K=ko fC c d e g h (fun r=>aj Fm r K):=by kernel_rfl
def ahq:bu:=⟨vA,Ao,IZ,gT⟩
theorem aEe:al tP FL [] [(2,X5)]:=bC aB trivial ⟨abz,trivial⟩
theorem awF:aF tP NR 62 Tryz.f62 FL:=cf
def awG:bu:=⟨vA,Ao,Fm,adq⟩
theorem anc:aq tP 62 awG:=ay aEe (byRef:=NS) awF ahn vA Ao Fm (fun a b=>(aEd ..).trans (aBl ..))
theorem ahr:aq tP 62 ahq:=bE anc (by rfl) abg
def NT:=aN [(2,⟨2,[0,1,5],[],[4,5,6,7,8,9,10,11,12,13,14,15,16,17,18,19,20,21,22,23],[4]⟩)]
def FM:FD:=aJ tP NT Tryz.f134
def NU:=bR [] []
def ahs:RC:=⟨true,FK,[]⟩
theorem aht (c:Int) (d:Int) (e:Int) (g:List Int) (h:List (Int×Int×Int×ByteArray×ByteArray×Int)) (i:List Int) {α:Type} (kn:St->Option α) (K:iW->St->Option α):round (ao [] []) NU (NT 2) (FM.loop 2) kn ⟨nJ.svs (c,d,()),rb.mem ((e,()),g,h,i,())⟩ K=dK c d e g h i (fun a b=>kn ⟨nJ.svs a,rb.mem b⟩) (fun r=>aR tE r K):=by kernel_rfl
def X6:cc:=⟨nJ,rb,tE,fD⟩
theorem ahu:al tP FM [] []:=bC aB trivial trivial
theorem abA:bK tP (FM.loop 2) X6:=ce ahu (byRef:=NU) (lan:=NT 2) (id:=2) nJ rb tE (fun a b=>(aht ..).trans (Qt ..))
theorem aEf (fD:jc->jd->Option kp) c d e g h {α:Type} (K:SV->ar->Option α):ai (ao [] [(2,⟨nJ,rb,tE,fD⟩)]) NU ahs FM (yN.svs (c,())) (C0.mem ((d,()),e,g,h,())) K=kq fD c d e g h (fun r=>aj Fn r K):=by kernel_rfl
def asS:bu:=⟨yN,C0,Qs,tF⟩
theorem aEg:al tP FM [] [(2,X6)]:=bC aB trivial ⟨abA,trivial⟩
theorem awH:aF tP NT 134 Tryz.f134 FM:=cf
def awI:bu:=⟨yN,C0,Fn,ads⟩
theorem ane:aq tP 134 awI:=ay aEg (byRef:=NU) awH ahs yN C0 Fn (fun a b=>(aEf ..).trans (aBn ..))
theorem awJ:aq tP 134 asS:=bE ane (by rfl) abh
def NV:=aN [(2,⟨2,[0,3,5],[],[4,5,6,7,8,9,10,11,12,13,14,15,16,17,18,19,20,21,22,23,24,25,26,27,28,29,30,31,32,33,34,35,36,37,38,39,40,41,42,43,44,45,46,47,48,49,50,51,52,53,54,55,56,57,58,59,60,61],[4]⟩)]
def FN:FD:=aJ tP NV Tryz.f135
def NW:=bR [] []
def ahv:RC:=⟨false,FK,[]⟩
theorem ahw (c:Int) (d:Int) (e:List Int) (g:List (Int×Int×Int×ByteArray×ByteArray×Int)) (h:List Int) (i:Int) (j:Int) (l:Int) (m:ByteArray) (n:ByteArray) (o:Int) {α:Type} (kn:St->Option α) (K:iW->St->Option α):round (ao [] []) NW (NV 2) (FN.loop 2) kn ⟨nK.svs (c,()),rd.mem ((d,()),e,g,h,(i,j,l,m,n,o,()),())⟩ K=eP c d e g h i j l m n o (fun a b=>kn ⟨nK.svs a,rd.mem b⟩) (fun r=>aR tG r K):=by kernel_rfl
def X7:cc:=⟨nK,rd,tG,gH⟩
theorem ahx:al tP FN [] []:=bC aB trivial trivial
theorem abB:bK tP (FN.loop 2) X7:=ce ahx (byRef:=NW) (lan:=NV 2) (id:=2) nK rd tG (fun a b=>(ahw ..).trans (Qv ..))
theorem aEh (gH:ku->kv->Option re) c d e g h i j l m n {α:Type} (K:SV->ar->Option α):ai (ao [] [(2,⟨nK,rd,tG,gH⟩)]) NW ahv FN (C1.svs ((c,d,e,g,h,i,()),())) (HR.mem ((j,()),l,m,n,())) K=rf gH c d e g h i j l m n (fun r=>aj C3 r K):=by kernel_rfl
def asT:bu:=⟨C1,HR,C3,vB⟩
theorem aEi:al tP FN [] [(2,X7)]:=bC aB trivial ⟨abB,trivial⟩
theorem awK:aF tP NV 135 Tryz.f135 FN:=cf
theorem awL:aq tP 135 asT:=ay aEi (byRef:=NW) awK ahv C1 HR C3 (fun a b=>(aEh ..).trans (aBp ..))
def ahy:=aN []
def T5:FD:=aJ tP ahy Tryz.f116
def ahz:=bR [62,134] [(62,Ed),(134,Ed)]
def ahA:RC:=⟨false,FK,[(1,1,2)]⟩
theorem aEj (gT tF) c d e g h i j l m n {α:Type} (K:SV->ar->Option α):ai (ao [(62,⟨vA,Ao,IZ,gT⟩),(134,⟨yN,C0,Qs,tF⟩)] []) ahz ahA T5 (yO.svs ((c,d,e,g,h,i,()),())) (C4.mem ((j,()),l,m,n,())) K=rg gT tF c d e g h i j l m n (fun r=>aj yP r K):=by kernel_rfl
def ahB:bu:=⟨yO,C4,yP,iU⟩
theorem aEk:al tP T5 [(62,ahq),(134,asS)] []:=bC aB ⟨ahr,awJ,trivial⟩ trivial
theorem awM:aF tP ahy 116 Tryz.f116 T5:=cf
theorem ahC:aq tP 116 ahB:=ay aEk (byRef:=ahz) awM ahA yO C4 yP (fun a b=>(aEj ..).trans (aBq ..))
def ahD:=aN []
def T6:FD:=aJ tP ahD Tryz.f117
def ahE:=bR [116,135] [(116,Ed),(135,Ed)]
def ahF:RC:=⟨false,FK,[(1,1,2)]⟩
theorem aEl (vB iU) c d e g h i j l m n {α:Type} (K:SV->ar->Option α):ai (ao [(135,⟨C1,HR,C3,vB⟩),(116,⟨yO,C4,yP,iU⟩)] []) ahE ahF T6 (yQ.svs ((c,d,e,g,h,i,()),())) (C5.mem ((j,()),l,m,n,())) K=rh vB iU c d e g h i j l m n (fun r=>aj yR r K):=by kernel_rfl
def ahG:bu:=⟨yQ,C5,yR,iV⟩
theorem aEm:al tP T6 [(135,asT),(116,ahB)] []:=bC aB ⟨awL,ahC,trivial⟩ trivial
theorem awN:aF tP ahD 117 Tryz.f117 T6:=cf
theorem ahH:aq tP 117 ahG:=ay aEm (byRef:=ahE) awN ahF yQ C5 yR (fun a b=>(aEl ..).trans (aBr ..))
def ahI:=aN []
def T7:FD:=aJ tP ahI Tryz.f103
def ahJ:=bR [117] [(117,Ed)]
def ahK:RC:=⟨false,FK,[(1,1,2)]⟩
theorem aEn (iV) c d e g h {α:Type} (K:SV->ar->Option α):ai (ao [(117,⟨yQ,C5,yR,iV⟩)] []) ahJ ahK T7 (yS.svs (c,())) (C6.mem ((d,()),e,g,h,())) K=ri iV c d e g h (fun r=>aj yT r K):=by kernel_rfl
def ahL:bu:=⟨yS,C6,yT,gU⟩
theorem aEo:al tP T7 [(117,ahG)] []:=bC aB ⟨ahH,trivial⟩ trivial
theorem awO:aF tP ahI 103 Tryz.f103 T7:=cf
theorem ahM:aq tP 103 ahL:=ay aEo (byRef:=ahJ) awO ahK yS C6 yT (fun a b=>(aEn ..).trans (aBs ..))
end
noncomputable section
def X1:bu:=⟨ym,io,yn,jD⟩
theorem TX:aq tP 67 X1:=Above.holds
def FF:=aN [(14,⟨14,[0,8,11,47,48],[(.slot 11,511,22,.cons (.slc 38 pn) .nil)],[8,11,48,49,50,51,52,53,54,55,56,57],[11]⟩),(5,⟨5,[0,1,2,8,26,27],[(.slot 8,508,38,.cons (.int .u64) .nil)],[8,9,10,27,28,29,30,31,32,33,34,35,36,37,38,39,40,41,42,43,44],[0,1,8]⟩)]
def xz:FD:=aJ tP FF Tryz.f33
def FG:=bR [66,67] [(66,lK),(67,lK)]
def agQ:RC:=⟨true,[(2,9,9,.cons .str .nil)],[]⟩
theorem agR (dI jD) (c:Int) (d:Yb) (e:Int) (g:Int) (h:List Int) (i:Int) (j:Bool) (l:Y1) (m:Y1) (n:Y2) (o:Y3) (p:Y4) (q:Y5) (s:Yb) (t:List Int) {α:Type} (kn:St->Option α) (K:iW->St->Option α):round (ao [(66,⟨nG,tC,nH,dI⟩),(67,⟨ym,io,yn,jD⟩)] []) FG (FF 5) (xz.loop 5) kn ⟨jJ.svs (c,d,e,g,()),lZ.mem ((h,i,j,()),l,m,n,o,p,q,s,t,())⟩ K=eK dI c d e g h i j l m n o p q s t (fun a b=>kn ⟨jJ.svs a,lZ.mem b⟩) (fun r=>aR nz r K):=by kernel_rfl
def NK:cc:=⟨jJ,lZ,nz,fB⟩
theorem agS:al tP xz [(66,K9),(67,X1)] []:=bC aB ⟨I9,TX,trivial⟩ trivial
theorem La:bK tP (xz.loop 5) NK:=ce agS (byRef:=FG) (lan:=FF 5) (id:=5) jJ lZ nz (fun a b=>(agR ..).trans (Qi ..))
theorem abu (dI jD) (fB:i8->i9->Option nA) (c:List Int) (d:Int) (e:Int) (g:List Int) (h:Int) (i:Bool) (j:Y1) (l:Y1) (m:Y2) (n:Y3) (o:Y4) (p:Y5) (q:Yb) (s:List (List Int)) {α:Type} (kn:St->Option α) (K:iW->St->Option α):round (ao [(66,⟨nG,tC,nH,dI⟩),(67,⟨ym,io,yn,jD⟩)] [(5,⟨jJ,lZ,nz,fB⟩)]) FG (FF 14) (xz.loop 14) kn ⟨kd.svs (c,d,e,()),nB.mem ((g,h,i,()),j,l,m,n,o,p,q,s,())⟩ K=dw jD c d e g h i j l m n o p q s (fun a b=>kn ⟨kd.svs a,nB.mem b⟩) (fun r=>aR oW r K):=by kernel_rfl
def Re:cc:=⟨kd,nB,oW,eL⟩
theorem abv:al tP xz [(66,K9),(67,X1)] [(5,NK)]:=bC aB ⟨I9,TX,trivial⟩ ⟨La,trivial⟩
theorem TY:bK tP (xz.loop 14) Re:=ce abv (byRef:=FG) (lan:=FF 14) (id:=14) kd nB oW (fun a b=>(abu ..).trans (KV ..))
theorem aDU (dI jD) (fB:i8->i9->Option nA) (eL:iu->iw->Option l8) c d e g h i j l m n o p {α:Type} (K:SV->ar->Option α):ai (ao [(66,⟨nG,tC,nH,dI⟩),(67,⟨ym,io,yn,jD⟩)] [(5,⟨jJ,lZ,nz,fB⟩),(14,⟨kd,nB,oW,eL⟩)]) FG agQ xz (yH.svs (c,d,())) (CT.mem ((e,g,h,()),i,j,l,m,n,o,p,())) K=qJ fB eL c d e g h i j l m n o p (fun r=>aj yI r K):=by kernel_rfl
def agi:bu:=⟨yH,CT,yI,iT⟩
theorem aDV:al tP xz [(66,K9),(67,X1)] [(5,NK),(14,Re)]:=bC aB ⟨I9,TX,trivial⟩ ⟨La,TY,trivial⟩
theorem aws:aF tP FF 33 Tryz.f33 xz:=cf
theorem agk:aq tP 33 agi:=ay aDV (byRef:=FG) aws agQ yH CT yI (fun a b=>(aDU ..).trans (aA8 ..))
def NL:=aN [(5,⟨5,[3,15,16,17],[],[2,4,5,17,18,19,20,21,22,23,24,25,26,27,28,29],[2]⟩)]
def FH:FD:=aJ tP NL Tryz.f68
def NM:=bR [] []
def agT:RC:=⟨true,[],[]⟩
theorem agU (c:Int) (d:List (List Int)) (e:Int) (g:Int) {α:Type} (kn:St->Option α) (K:iW->St->Option α):round (ao [] []) NM (NL 5) (FH.loop 5) kn ⟨nC.svs (c,d,e,g,()),qK.mem ()⟩ K=eM c d e g (fun a b=>kn ⟨nC.svs a,qK.mem b⟩) (fun r=>aR tz r K):=by kernel_rfl
def X2:cc:=⟨nC,qK,tz,gE⟩
theorem agV:al tP FH [] []:=bC aB trivial trivial
theorem abw:bK tP (FH.loop 5) X2:=ce agV (byRef:=NM) (lan:=NL 5) (id:=5) nC qK tz (fun a b=>(agU ..).trans (Qk ..))
theorem aDW (gE:ke->kf->Option qL) c {α:Type} (K:SV->ar->Option α):ai (ao [] [(5,⟨nC,qK,tz,gE⟩)]) NM agT FH (yJ.svs (c,())) (CU.mem ()) K=qM gE c (fun r=>aj yK r K):=by kernel_rfl
def agW:bu:=⟨yJ,CU,yK,qN⟩
theorem aDX:al tP FH [] [(5,X2)]:=bC aB trivial ⟨abw,trivial⟩
theorem awt:aF tP NL 68 Tryz.f68 FH:=cf
theorem agX:aq tP 68 agW:=ay aDX (byRef:=NM) awt agT yJ CU yK (fun a b=>(aDW ..).trans (aBa ..))
def NN:=aN [(5,⟨5,[0,1,6,25,26],[(.slot 6,506,38,.cons (.int .u64) .nil)],[6,7,26,27,28,29,30,31,32,33,34,35,36,37,38,39,40,41,42],[6]⟩)]
def FI:FD:=aJ tP NN Tryz.f34
def NO:=bR [] []
def agY:RC:=⟨true,[],[]⟩
theorem agZ (qN) (c:List (List Int)) (d:Int) (e:Int) (g:Int) (h:List Int) {α:Type} (kn:St->Option α) (K:iW->St->Option α):round (ao [(68,⟨yJ,CU,yK,qN⟩)] []) NO (NN 5) (FI.loop 5) kn ⟨nD.svs (c,d,e,g,()),qO.mem (h,())⟩ K=eN c d e g h (fun a b=>kn ⟨nD.svs a,qO.mem b⟩) (fun r=>aR tA r K):=by kernel_rfl
def X3:cc:=⟨nD,qO,tA,gF⟩
theorem ag0:al tP FI [(68,agW)] []:=bC aB ⟨agX,trivial⟩ trivial
theorem abx:bK tP (FI.loop 5) X3:=ce ag0 (byRef:=NO) (lan:=NN 5) (id:=5) nD qO tA (fun a b=>(agZ ..).trans (Qm ..))
theorem aDY (qN) (gF:kg->kh->Option qP) c d {α:Type} (K:SV->ar->Option α):ai (ao [(68,⟨yJ,CU,yK,qN⟩)] [(5,⟨nD,qO,tA,gF⟩)]) NO agY FI (CV.svs (c,d,())) (HQ.mem ()) K=qQ qN gF c d (fun r=>aj CW r K):=by kernel_rfl
def asQ:bu:=⟨CV,HQ,CW,xX⟩
theorem aDZ:al tP FI [(68,agW)] [(5,X3)]:=bC aB ⟨agX,trivial⟩ ⟨abx,trivial⟩
theorem awu:aF tP NN 34 Tryz.f34 FI:=cf
theorem awq:aq tP 34 asQ:=ay aDZ (byRef:=NO) awu agY CV HQ CW (fun a b=>(aDY ..).trans (aBb ..))
def NP:=aN [(5,⟨5,[0,2,10,30,31,32],[],[10,11,12,32,33,34,35,36,37,38,39,40,41,42,43,44],[10]⟩)]
def FJ:FD:=aJ tP NP Tryz.f74
def NQ:=bR [66,110] [(66,lK),(110,lK)]
def ag1:RC:=⟨true,[(2,9,9,.cons .str .nil)],[]⟩
theorem ag2 (dI nF) (c:Int) (d:Int) (e:List Int) (g:Int) (h:Int) (i:List Int) (j:Int) (l:Bool) (m:Y1) (n:Y1) (o:Y2) (p:Y3) (q:Y4) (s:Y5) (t:Yb) {α:Type} (kn:St->Option α) (K:iW->St->Option α):round (ao [(66,⟨nG,tC,nH,dI⟩),(110,⟨yL,CX,yM,nF⟩)] []) NQ (NP 5) (FJ.loop 5) kn ⟨nE.svs (c,d,e,g,h,()),qT.mem ((i,j,l,()),m,n,o,p,q,s,t,())⟩ K=eO nF c d e g h i j l m n o p q s t (fun a b=>kn ⟨nE.svs a,qT.mem b⟩) (fun r=>aR tB r K):=by kernel_rfl
def X4:cc:=⟨nE,qT,tB,gG⟩
theorem ag3:al tP FJ [(66,K9),(110,ag4)] []:=bC aB ⟨I9,ag5,trivial⟩ trivial
theorem aby:bK tP (FJ.loop 5) X4:=ce ag3 (byRef:=NQ) (lan:=NP 5) (id:=5) nE qT tB (fun a b=>(ag2 ..).trans (Qo ..))
theorem aD0 (dI nF) (gG:ki->kj->Option qU) c d e g h i j l m n o p q {α:Type} (K:SV->ar->Option α):ai (ao [(66,⟨nG,tC,nH,dI⟩),(110,⟨yL,CX,yM,nF⟩)] [(5,⟨nE,qT,tB,gG⟩)]) NQ ag1 FJ (qR.svs (c,d,e,())) (xr.mem ((g,h,i,()),j,l,m,n,o,p,q,())) K=qV dI gG c d e g h i j l m n o p q (fun r=>aj qS r K):=by kernel_rfl
def Rc:bu:=⟨qR,xr,qS,cT⟩
theorem aD1:al tP FJ [(66,K9),(110,ag4)] [(5,X4)]:=bC aB ⟨I9,ag5,trivial⟩ ⟨aby,trivial⟩
theorem awv:aF tP NP 74 Tryz.f74 FJ:=cf
theorem NC:aq tP 74 Rc:=ay aD1 (byRef:=NQ) awv ag1 qR xr qS (fun a b=>(aD0 ..).trans (aBd ..))
end
end Go.Proofs.YtljfdfghagiblaaGreat.S2