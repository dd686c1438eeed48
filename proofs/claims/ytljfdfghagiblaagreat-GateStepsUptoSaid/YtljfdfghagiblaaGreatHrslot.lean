/- The program's functions come to their plain forms,by program. -/
import Derived.Test.YtljfdfghagiblaaGreatGseal
import Derived.Test.YtljfdfghagiblaaGreatHrwire
import Derived.Test.YtljfdfghagiblaaGreatGrslot
import Derived.Test.YtljfdfghagiblaaGreatHstore
set_option maxRecDepth 100000
set_option maxHeartbeats 0
namespace Go.Proofs.YtljfdfghagiblaaGreat.S2
open Go
noncomputable section
def aj0:=aN []
def UL:FD:=aJ tP aj0 Tryz.f84
def aj1:=bR [83] [(83,lK)]
def aj2:RC:=⟨false,NJ,[(1,9,7)]⟩
theorem aFN (dl) c d e g h i j l m n o p q s {α:Type} (K:SV->ar->Option α):ai (ao [(83,⟨vo,Ak,vq,dl⟩)] []) aj1 aj2 UL (DR.svs (c,d,e,g,())) (If.mem ((h,i,j,()),l,m,n,o,p,q,s,())) K=sA dl c d e g h i j l m n o p q s (fun r=>aj DS r K):=by kernel_rfl
def atg:bu:=⟨DR,If,DS,wA⟩
theorem aFO:al tP UL [(83,X0)] []:=bC aB ⟨TS,trivial⟩ trivial
theorem ax8:aF tP aj0 84 Tryz.f84 UL:=cf
theorem ax9:aq tP 84 atg:=ay aFO (byRef:=aj1) ax8 aj2 DR If DS (fun a b=>(aFN ..).trans (aCx ..))
def aj3:=aN []
def UM:FD:=aJ tP aj3 Tryz.f76
def aj4:=bR [22] [(22,lK)]
def aj5:RC:=⟨false,[(2,9,9,.cons .str .nil)],[]⟩
theorem aFP (bN) c d e g h i j l m n o p q s {α:Type} (K:SV->ar->Option α):ai (ao [(22,⟨kb,oV,kc,bN⟩)] []) aj4 aj5 UM (DT.svs (c,d,e,g,())) (Ig.mem ((h,i,j,()),l,m,n,o,p,q,s,())) K=sB bN c d e g h i j l m n o p q s (fun r=>aj DU r K):=by kernel_rfl
def ath:bu:=⟨DT,Ig,DU,wB⟩
theorem aFQ:al tP UM [(22,I4)] []:=bC aB ⟨Fx,trivial⟩ trivial
theorem aya:aF tP aj3 76 Tryz.f76 UM:=cf
theorem ayb:aq tP 76 ath:=ay aFQ (byRef:=aj4) aya aj5 DT Ig DU (fun a b=>(aFP ..).trans (aCz ..))
def YP:=aN []
def OA:FD:=aJ tP YP Tryz.f82
def YQ:=bR [] []
def YR:RC:=⟨true,[],[]⟩
theorem ayc (be) c d e g {α:Type} (K:SV->ar->Option α):ai (ao [(111,⟨mP,sC,mQ,be⟩)] []) YQ YR OA (wC.svs (c,d,e,g,())) (zb.mem ()) K=ma be c d e g (fun r=>aj wD r K):=by kernel_rfl
def UN:bu:=⟨wC,zb,wD,dV⟩
theorem ayd:al tP OA [(111,Ja)] []:=bC aB ⟨Im,trivial⟩ trivial
theorem anr:aF tP YP 82 Tryz.f82 OA:=cf
theorem YS:aq tP 82 UN:=ay ayd (byRef:=YQ) anr YR wC zb wD (fun a b=>(ayc ..).trans (auV ..))
def YT:=aN []
def OB:FD:=aJ tP YT Tryz.f77
def YU:=bR [] []
def YV:RC:=⟨true,[],[]⟩
theorem aye (dV) c d e g {α:Type} (K:SV->ar->Option α):ai (ao [(82,⟨wC,zb,wD,dV⟩)] []) YU YV OB (wE.svs (c,d,e,g,())) (zc.mem ()) K=mb dV c d e g (fun r=>aj wF r K):=by kernel_rfl
def UO:bu:=⟨wE,zc,wF,dW⟩
theorem ayf:al tP OB [(82,UN)] []:=bC aB ⟨YS,trivial⟩ trivial
theorem ans:aF tP YT 77 Tryz.f77 OB:=cf
theorem YW:aq tP 77 UO:=ay ayf (byRef:=YU) ans YV wE zc wF (fun a b=>(aye ..).trans (auW ..))
def YX:=aN []
def OC:FD:=aJ tP YX Tryz.f48
def YY:=bR [] []
def YZ:RC:=⟨true,[],[]⟩
theorem ayg (dV) c d e g {α:Type} (K:SV->ar->Option α):ai (ao [(82,⟨wC,zb,wD,dV⟩)] []) YY YZ OC (Az.svs ((c,d,e,g,()),())) (DV.mem ()) K=mc dV c d e g (fun r=>aj AA r K):=by kernel_rfl
def afU:bu:=⟨Az,DV,AA,oz⟩
theorem ayh:al tP OC [(82,UN)] []:=bC aB ⟨YS,trivial⟩ trivial
theorem ant:aF tP YX 48 Tryz.f48 OC:=cf
theorem am2:aq tP 48 afU:=ay ayh (byRef:=YY) ant YZ Az DV AA (fun a b=>(ayg ..).trans (auX ..))
def Y0:=aN [(3,⟨3,[0,2,4,14,15,16],[],[0,3,6,7,8,9,16,17,18,19,20,21,22,23,24,25,26,27,28,29,30,31,32,33],[0,2,3,4]⟩)]
def OD:FD:=aJ tP Y0 Tryz.f40
def OE:=bR [] []
def Y7:RC:=⟨true,[],[]⟩
theorem ayi (bH) c {α:Type} (K:SV->ar->Option α):ai ((ao [(75,⟨pJ,wP,pK,bH⟩)] []).unroll OE [(3,6)]) OE Y7 OD (pD.svs (c,())) (wG.mem ()) K=mf bH c (fun r=>aj pE r K):=by kernel_rfl
def NA:bu:=⟨pD,wG,pE,dT⟩
theorem ayj:al tP OD [(75,OF)] []:=bC aB ⟨OG,trivial⟩ trivial
theorem anu:aF tP Y0 40 Tryz.f40 OD:=cf
theorem NB:aq tP 40 NA:=OH ayj (byRef:=OE) [(3,6)] anu Y7 pD wG pE (fun a b=>(ayi ..).trans (auY ..))
def Y8:=aN []
def OI:FD:=aJ tP Y8 Tryz.f49
def Y9:=bR [83,84] [(83,lK),(84,lK)]
def Za:RC:=⟨false,NJ,[(1,9,7)]⟩
theorem ayk (dl dW wA) c d e g h i j l m n o p q s t v {α:Type} (K:SV->ar->Option α):ai (ao [(83,⟨vo,Ak,vq,dl⟩),(77,⟨wE,zc,wF,dW⟩),(84,⟨DR,If,DS,wA⟩)] []) Y9 Za OI (AB.svs (c,d,e,g,h,i,())) (DW.mem ((j,l,m,()),n,o,p,q,s,t,v,())) K=mg dl dW wA c d e g h i j l m n o p q s t v (fun r=>aj AC r K):=by kernel_rfl
def afT:bu:=⟨AB,DW,AC,lX⟩
theorem ayl:al tP OI [(83,X0),(77,UO),(84,atg)] []:=bC aB ⟨TS,YW,ax9,trivial⟩ trivial
theorem anv:aF tP Y8 49 Tryz.f49 OI:=cf
theorem am1:aq tP 49 afT:=ay ayl (byRef:=Y9) anv Za AB DW AC (fun a b=>(ayk ..).trans (auZ ..))
def Zb:=aN []
def OJ:FD:=aJ tP Zb Tryz.f41
def Zc:=bR [76] [(76,lK)]
def Zd:RC:=⟨false,[(2,9,9,.cons .str .nil)],[]⟩
theorem aym (dW wB) c d e g h i j l m n o p q s t v w {α:Type} (K:SV->ar->Option α):ai (ao [(77,⟨wE,zc,wF,dW⟩),(76,⟨DT,Ig,DU,wB⟩)] []) Zc Zd OJ (AD.svs (c,d,e,(g,h,i,j,()),())) (DX.mem ((l,m,n,()),o,p,q,s,t,v,w,())) K=mh dW wB c d e g h i j l m n o p q s t v w (fun r=>aj AE r K):=by kernel_rfl
def afP:bu:=⟨AD,DX,AE,lW⟩
theorem ayn:al tP OJ [(77,UO),(76,ath)] []:=bC aB ⟨YW,ayb,trivial⟩ trivial
theorem anw:aF tP Zb 41 Tryz.f41 OJ:=cf
theorem am0:aq tP 41 afP:=ay ayn (byRef:=Zc) anw Zd AD DX AE (fun a b=>(aym ..).trans (au0 ..))
end
noncomputable section
def On:=aN [(3,⟨3,[0,3,4],[],[0,4,6,7,8,9,10,11,12,13,14,15,16,17],[3]⟩)]
def F1:FD:=aJ tP On Tryz.f141
def Oo:=bR [] []
def ai6:RC:=⟨true,[],[]⟩
theorem ai7 (c:Int) (d:Int) (e:List Int) {α:Type} (kn:St->Option α) (K:iW->St->Option α):round (ao [] []) Oo (On 3) (F1.loop 3) kn ⟨nX.svs (c,d,()),rQ.mem (e,())⟩ K=eZ c d e (fun a b=>kn ⟨nX.svs a,rQ.mem b⟩) (fun r=>aR tT r K):=by kernel_rfl
def YJ:cc:=⟨nX,rQ,tT,fZ⟩
theorem ai8:al tP F1 [] []:=bC aB trivial trivial
theorem abP:bK tP (F1.loop 3) YJ:=ce ai8 (byRef:=Oo) (lan:=On 3) (id:=3) nX rQ tT (fun a b=>(ai7 ..).trans (QW ..))
theorem aFd (fZ:kT->kU->Option rR) c {α:Type} (K:SV->ar->Option α):ai (ao [] [(3,⟨nX,rQ,tT,fZ⟩)]) Oo ai6 F1 (Dr.svs (c,())) (H3.mem ()) K=rS fZ c (fun r=>aj Ds r K):=by kernel_rfl
def as6:bu:=⟨Dr,H3,Ds,tU⟩
theorem aFe:al tP F1 [] [(3,YJ)]:=bC aB trivial ⟨abP,trivial⟩
theorem axE:aF tP On 141 Tryz.f141 F1:=cf
theorem axF:aq tP 141 as6:=ay aFe (byRef:=Oo) axE ai6 Dr H3 Ds (fun a b=>(aFd ..).trans (aB5 ..))
def ai9:=aN []
def Ux:FD:=aJ tP ai9 Tryz.f126
def aja:=bR [] []
def ajb:RC:=⟨true,[],[]⟩
theorem aFf (tU bU) c d e {α:Type} (K:SV->ar->Option α):ai (ao [(141,⟨Dr,H3,Ds,tU⟩),(35,⟨j0,oN,j1,bU⟩)] []) aja ajb Ux (Dt.svs (c,d,e,())) (H4.mem ()) K=rT tU bU c d e (fun r=>aj Du r K):=by kernel_rfl
def as7:bu:=⟨Dt,H4,Du,wo⟩
theorem aFg:al tP Ux [(141,as6),(35,I6)] []:=bC aB ⟨axF,Fz,trivial⟩ trivial
theorem axG:aF tP ai9 126 Tryz.f126 Ux:=cf
theorem axH:aq tP 126 as7:=ay aFg (byRef:=aja) axG ajb Dt H4 Du (fun a b=>(aFf ..).trans (aB7 ..))
def Oq:=aN [(5,⟨5,[0,5,6],[],[5,6,32,33,34,35,36,37,38,39,40,41,42],[0,5]⟩)]
def F6:FD:=aJ tP Oq Tryz.f133
def Ot:=bR [] []
def ajc:RC:=⟨true,[],[]⟩
theorem ajd (bU) (c:ByteArray) (d:Int) (e:Int) {α:Type} (kn:St->Option α) (K:iW->St->Option α):round (ao [(35,⟨j0,oN,j1,bU⟩)] []) Ot (Oq 5) (F6.loop 5) kn ⟨nY.svs (c,d,e,()),rV.mem ()⟩ K=e7 c d e (fun a b=>kn ⟨nY.svs a,rV.mem b⟩) (fun r=>aR tV r K):=by kernel_rfl
def YK:cc:=⟨nY,rV,tV,gM⟩
theorem aje:al tP F6 [(35,I6)] []:=bC aB ⟨Fz,trivial⟩ trivial
theorem abQ:bK tP (F6.loop 5) YK:=ce aje (byRef:=Ot) (lan:=Oq 5) (id:=5) nY rV tV (fun a b=>(ajd ..).trans (QY ..))
theorem aFh (bU) (gM:kV->kW->Option rW) c {α:Type} (K:SV->ar->Option α):ai (ao [(35,⟨j0,oN,j1,bU⟩)] [(5,⟨nY,rV,tV,gM⟩)]) Ot ajc F6 (Dv.svs (c,())) (H5.mem ()) K=rX bU gM c (fun r=>aj Dw r K):=by kernel_rfl
def as8:bu:=⟨Dv,H5,Dw,tW⟩
theorem aFi:al tP F6 [(35,I6)] [(5,YK)]:=bC aB ⟨Fz,trivial⟩ ⟨abQ,trivial⟩
theorem axI:aF tP Oq 133 Tryz.f133 F6:=cf
theorem axJ:aq tP 133 as8:=ay aFi (byRef:=Ot) axI ajc Dv H5 Dw (fun a b=>(aFh ..).trans (aB9 ..))
def ajf:=aN []
def Uy:FD:=aJ tP ajf Tryz.f113
def ajg:=bR [] []
def ajh:RC:=⟨true,[],[]⟩
theorem aFj (tW) c d {α:Type} (K:SV->ar->Option α):ai (ao [(133,⟨Dv,H5,Dw,tW⟩)] []) ajg ajh Uy (yY.svs (c,d,())) (Dx.mem ()) K=rY tW c d (fun r=>aj yZ r K):=by kernel_rfl
def aji:bu:=⟨yY,Dx,yZ,gN⟩
theorem aFk:al tP Uy [(133,as8)] []:=bC aB ⟨axJ,trivial⟩ trivial
theorem axK:aF tP ajf 113 Tryz.f113 Uy:=cf
theorem ajj:aq tP 113 aji:=ay aFk (byRef:=ajg) axK ajh yY Dx yZ (fun a b=>(aFj ..).trans (aCa ..))
def ajk:=aN []
def Uz:FD:=aJ tP ajk Tryz.f85
def ajl:=bR [112] [(112,o8)]
def ajm:RC:=⟨true,[(2,2,117,.cons (.int .i64) qq7)],[]⟩
theorem aFl (fT gN) c d e g h {α:Type} (K:SV->ar->Option α):ai (ao [(112,⟨vE,Aq,I0,fT⟩),(113,⟨yY,Dx,yZ,gN⟩)] []) ajl ajm Uz (za.svs (c,d,())) (Dy.mem ((e,()),g,h,())) K=kX fT gN c d e g h (fun r=>aj Fs r K):=by kernel_rfl
def as9:bu:=⟨za,Dy,Q0,tX⟩
theorem aFm:al tP Uz [(112,ah5),(113,aji)] []:=bC aB ⟨ah6,ajj,trivial⟩ trivial
theorem axL:aF tP ajk 85 Tryz.f85 Uz:=cf
def axM:bu:=⟨za,Dy,Fs,adT⟩
theorem anp:aq tP 85 axM:=ay aFm (byRef:=ajl) axL ajm za Dy Fs (fun a b=>(aFl ..).trans (aCc ..))
theorem axN:aq tP 85 as9:=bE anp (by rfl) abl
def ajn:=aN []
def UA:FD:=aJ tP ajn Tryz.f105
def ajo:=bR [112,127] [(112,o8),(127,o8)]
def ajp:RC:=⟨false,abK,[(1,2,2)]⟩
theorem aFn (fT gN wo tL) c d e g h i {α:Type} (K:SV->ar->Option α):ai (ao [(112,⟨vE,Aq,I0,fT⟩),(113,⟨yY,Dx,yZ,gN⟩),(126,⟨Dt,H4,Du,wo⟩),(127,⟨C9,HU,Da,tL⟩)] []) ajo ajp UA (Dz.svs (c,d,e,())) (H6.mem ((g,()),h,i,())) K=rZ fT gN wo tL c d e g h i (fun r=>aj DA r K):=by kernel_rfl
def ata:bu:=⟨Dz,H6,DA,wq⟩
theorem aFo:al tP UA [(112,ah5),(113,aji),(126,as7),(127,asV)] []:=bC aB ⟨ah6,ajj,axH,awZ,trivial⟩ trivial
theorem axO:aF tP ajn 105 Tryz.f105 UA:=cf
theorem axP:aq tP 105 ata:=ay aFo (byRef:=ajo) axO ajp Dz H6 DA (fun a b=>(aFn ..).trans (aCe ..))
end
end Go.Proofs.YtljfdfghagiblaaGreat.S2