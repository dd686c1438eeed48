/- The program's functions come to their plain forms,by program. -/
import Derived.Test.YtljfdfghagiblaaGreatGrdisk
import Derived.Test.YtljfdfghagiblaaGreatHdisk
import Derived.Test.YtljfdfghagiblaaGreatGstore
import Derived.Test.YtljfdfghagiblaaGreatHrseal
import Derived.Test.YtljfdfghagiblaaGreatHrwire
set_option maxRecDepth 100000
set_option maxHeartbeats 0
namespace Go.Proofs.YtljfdfghagiblaaGreat.S2
open Go
noncomputable section
def N1:=aN [(5,⟨5,[0,1,6,7],[],[6,7,26,27,28,29,30,31,32,33,34,35,36,37,38,39,40,41,42,43,44,45,46,47,48,49,50,51,52],[6]⟩)]
def FV:FD:=aJ tP N1 Tryz.f112
def N2:=bR [] []
def ah2:RC:=⟨true,[(2,2,117,.cons (.int .i64) qq7)],[]⟩
theorem ah3 (c:Int) (d:ByteArray) (e:Int) (g:Int) (h:Yb) (i:List (Int×Int×ByteArray×List Int)) {α:Type} (kn:St->Option α) (K:iW->St->Option α):round (ao [] []) N2 (N1 5) (FV.loop 5) kn ⟨nO.svs (c,d,e,()),ru.mem ((g,()),h,i,())⟩ K=dL c d e g h i (fun a b=>kn ⟨nO.svs a,ru.mem b⟩) (fun r=>aR tJ r K):=by kernel_rfl
def Yc:cc:=⟨nO,ru,tJ,fE⟩
theorem ah4:al tP FV [] []:=bC aB trivial trivial
theorem abI:bK tP (FV.loop 5) Yc:=ce ah4 (byRef:=N2) (lan:=N1 5) (id:=5) nO ru tJ (fun a b=>(ah3 ..).trans (QG ..))
theorem aEz (fE:je->jf->Option kH) c d e g {α:Type} (K:SV->ar->Option α):ai (ao [] [(5,⟨nO,ru,tJ,fE⟩)]) N2 ah2 FV (vE.svs (c,())) (Aq.mem ((d,()),e,g,())) K=kI fE c d e g (fun r=>aj Fo r K):=by kernel_rfl
def ah5:bu:=⟨vE,Aq,I0,fT⟩
theorem aEA:al tP FV [] [(5,Yc)]:=bC aB trivial ⟨abI,trivial⟩
theorem awV:aF tP N1 112 Tryz.f112 FV:=cf
def awW:bu:=⟨vE,Aq,Fo,adw⟩
theorem ang:aq tP 112 awW:=ay aEA (byRef:=N2) awV ah2 vE Aq Fo (fun a b=>(aEz ..).trans (aBz ..))
theorem ah6:aq tP 112 ah5:=bE ang (by rfl) abi
def N3:=aN [(5,⟨5,[0,1,6,7],[(.cell 1768 1,501,9,.cons .str .nil)],[7,25,26,27,28,29,30,31,32,33,34,35,36,37,38,39,40],[6]⟩)]
def FW:FD:=aJ tP N3 Tryz.f8
def N4:=bR [] []
def ah7:RC:=⟨false,o8,[]⟩
theorem ah8 (bU) (c:Int) (d:Int) (e:Int) (g:Yb) (h:Int) {α:Type} (kn:St->Option α) (K:iW->St->Option α):round (ao [(35,⟨j0,oN,j1,bU⟩)] []) N4 (N3 5) (FW.loop 5) kn ⟨nP.svs (c,d,e,()),rx.mem (g,(h,()),())⟩ K=eU bU c d e g h (fun a b=>kn ⟨nP.svs a,rx.mem b⟩) (fun r=>aR tK r K):=by kernel_rfl
def Ye:cc:=⟨nP,rx,tK,gK⟩
theorem ah9:al tP FW [(35,I6)] []:=bC aB ⟨Fz,trivial⟩ trivial
theorem abJ:bK tP (FW.loop 5) Ye:=ce ah9 (byRef:=N4) (lan:=N3 5) (id:=5) nP rx tK (fun a b=>(ah8 ..).trans (QI ..))
theorem aEB (bU) (gK:kJ->kK->Option ry) c d {α:Type} (K:SV->ar->Option α):ai (ao [(35,⟨j0,oN,j1,bU⟩)] [(5,⟨nP,rx,tK,gK⟩)]) N4 ah7 FW (vF.svs (c,d,())) (Ar.mem ()) K=rz gK c d (fun r=>aj vG r K):=by kernel_rfl
def XH:bu:=⟨vF,Ar,vG,lM⟩
theorem aEC:al tP FW [(35,I6)] [(5,Ye)]:=bC aB ⟨Fz,trivial⟩ ⟨abJ,trivial⟩
theorem awX:aF tP N3 8 Tryz.f8 FW:=cf
theorem Ti:aq tP 8 XH:=ay aEC (byRef:=N4) awX ah7 vF Ar vG (fun a b=>(aEB ..).trans (aBA ..))
def aia:=aN []
def Uc:FD:=aJ tP aia Tryz.f127
def aib:=bR [] []
def aic:RC:=⟨false,abK,[(1,2,2)]⟩
theorem aED (bU) c d e g h {α:Type} (K:SV->ar->Option α):ai (ao [(35,⟨j0,oN,j1,bU⟩)] []) aib aic Uc (C9.svs (c,d,())) (HU.mem ((e,()),g,h,())) K=rA bU c d e g h (fun r=>aj Da r K):=by kernel_rfl
def asV:bu:=⟨C9,HU,Da,tL⟩
theorem aEE:al tP Uc [(35,I6)] []:=bC aB ⟨Fz,trivial⟩ trivial
theorem awY:aF tP aia 127 Tryz.f127 Uc:=cf
theorem awZ:aq tP 127 asV:=ay aEE (byRef:=aib) awY aic C9 HU Da (fun a b=>(aED ..).trans (aBC ..))
def N5:=aN [(1,⟨1,[0,1,4],[],[4,5,6,7,8,9,10,11,12,13,14,15,16,17,18,19,20,21,22,23,24,25,26,27,28,29,30,31,32,33,34,35,36,37,38,39,40,41,42,43,44,45,46,47,48,49,50,51,52,53,54,55,56,57,58,59,60,61,62,63,64],[0]⟩)]
def FX:FD:=aJ tP N5 Tryz.f21
def N6:=bR [] []
def aid:RC:=⟨false,o8,[(0,2,2)]⟩
theorem aie (c:List Int) (d:Int) (e:Int) (g:Yb) (h:List (Int×Int×ByteArray×List Int)) {α:Type} (kn:St->Option α) (K:iW->St->Option α):round (ao [] []) N6 (N5 1) (FX.loop 1) kn ⟨nS.svs (c,d,()),rB.mem ((e,()),g,h,())⟩ K=eV c d e g h (fun a b=>kn ⟨nS.svs a,rB.mem b⟩) (fun r=>aR tN r K):=by kernel_rfl
def Yf:cc:=⟨nS,rB,tN,ee⟩
theorem aif:al tP FX [] []:=bC aB trivial trivial
theorem abL:bK tP (FX.loop 1) Yf:=ce aif (byRef:=N6) (lan:=N5 1) (id:=1) nS rB tN (fun a b=>(aie ..).trans (QM ..))
theorem aEF (ee:kL->kM->Option rC) c d e g {α:Type} (K:SV->ar->Option α):ai (ao [] [(1,⟨nS,rB,tN,ee⟩)]) N6 aid FX (nQ.svs (c,())) (tM.mem ((d,()),e,g,())) K=rD ee c d e g (fun r=>aj nR r K):=by kernel_rfl
def K7:bu:=⟨nQ,tM,nR,da⟩
theorem aEG:al tP FX [] [(1,Yf)]:=bC aB trivial ⟨abL,trivial⟩
theorem aw0:aF tP N5 21 Tryz.f21 FX:=cf
theorem I5:aq tP 21 K7:=ay aEG (byRef:=N6) aw0 aid nQ tM nR (fun a b=>(aEF ..).trans (aBD ..))
def N7:=aN [(2,⟨2,[0,2,3],[(.slot 2,502,3,.cons (.int .i64) .nil)],[2,3,5,6,7,8,9,10,11,12,13,14,15,16,17,18,19,20],[0,2]⟩)]
def FY:FD:=aJ tP N7 Tryz.f107
def N8:=bR [21] [(21,o8)]
def aig:RC:=⟨false,o8,[(0,2,2)]⟩
theorem aih (da) (c:Int) (d:Int) (e:Yb) (g:List (Int×Int×ByteArray×List Int)) (h:List Int) {α:Type} (kn:St->Option α) (K:iW->St->Option α):round (ao [(21,⟨nQ,tM,nR,da⟩)] []) N8 (N7 2) (FY.loop 2) kn ⟨nT.svs (c,()),rE.mem ((d,()),e,g,h,())⟩ K=eW c d e g h (fun a b=>kn ⟨nT.svs a,rE.mem b⟩) (fun r=>aR tO r K):=by kernel_rfl
def Yg:cc:=⟨nT,rE,tO,gL⟩
theorem aii:al tP FY [(21,K7)] []:=bC aB ⟨I5,trivial⟩ trivial
theorem abM:bK tP (FY.loop 2) Yg:=ce aii (byRef:=N8) (lan:=N7 2) (id:=2) nT rE tO (fun a b=>(aih ..).trans (QO ..))
theorem aEH (da) (gL:kN->kO->Option rF) c d e {α:Type} (K:SV->ar->Option α):ai (ao [(21,⟨nQ,tM,nR,da⟩)] [(2,⟨nT,rE,tO,gL⟩)]) N8 aig FY (Db.svs ()) (HV.mem ((c,()),d,e,())) K=rG da gL c d e (fun r=>aj Dc r K):=by kernel_rfl
def asW:bu:=⟨Db,HV,Dc,vH⟩
theorem aEI:al tP FY [(21,K7)] [(2,Yg)]:=bC aB ⟨I5,trivial⟩ ⟨abM,trivial⟩
theorem aw1:aF tP N7 107 Tryz.f107 FY:=cf
theorem aw2:aq tP 107 asW:=ay aEI (byRef:=N8) aw1 aig Db HV Dc (fun a b=>(aEH ..).trans (aBF ..))
end
noncomputable section
def ZE:=aN []
def OU:FD:=aJ tP ZE Tryz.f131
def ZF:=bR [] []
def ZG:RC:=⟨true,[],[]⟩
theorem ayG c d e g h i {α:Type} (K:SV->ar->Option α):ai (ao [] []) ZF ZG OU (AR.svs ((c,d,e,g,h,i,()),())) (D4.mem ()) K=mB c d e g h i (fun r=>aj AS r K):=by kernel_rfl
def akf:bu:=⟨AR,D4,AS,mC⟩
theorem ayH:al tP OU [] []:=bC aB trivial trivial
theorem anQ:aF tP ZE 131 Tryz.f131 OU:=cf
theorem anR:aq tP 131 akf:=ay ayH (byRef:=ZF) anQ ZG AR D4 AS (fun a b=>(ayG ..).trans (avi ..))
def ZH:=aN [(3,⟨3,[1,3,16,17],[],[3,5,17,18,19,20,21,22,23,24],[1,3]⟩)]
def OV:FD:=aJ tP ZH Tryz.f124
def OW:=bR [] []
def ZI:RC:=⟨true,[],[]⟩
theorem ayI (be mE) c d e g h i {α:Type} (K:SV->ar->Option α):ai ((ao [(111,⟨mP,sC,mQ,be⟩),(140,⟨A8,Eb,A9,mE⟩)] []).unroll OW [(3,7)]) OW ZI OV (AT.svs ((c,d,e,g,h,i,()),())) (D5.mem ()) K=mD be mE c d e g h i (fun r=>aj AU r K):=by kernel_rfl
def akg:bu:=⟨AT,D5,AU,mG⟩
theorem ayJ:al tP OV [(111,Ja),(140,akh)] []:=bC aB ⟨Im,anS,trivial⟩ trivial
theorem anT:aF tP ZH 124 Tryz.f124 OV:=cf
theorem anU:aq tP 124 akg:=OH ayJ (byRef:=OW) [(3,7)] anT ZI AT D5 AU (fun a b=>(ayI ..).trans (avl ..))
def ZJ:=aN [(3,⟨3,[0,2,4,13],[],[0,3,5,6,7,8,13,14,15,16,17,18,19,20,21,22,23,24,25,26,27,28,29],[0,2,3,4]⟩)]
def OX:FD:=aJ tP ZJ Tryz.f109
def OY:=bR [] []
def ZK:RC:=⟨true,[],[]⟩
theorem ayK (bH mI mC) c {α:Type} (K:SV->ar->Option α):ai ((ao [(75,⟨pJ,wP,pK,bH⟩),(130,⟨Ba,Ec,Bb,mI⟩),(131,⟨AR,D4,AS,mC⟩)] []).unroll OY [(3,7)]) OY ZK OX (AV.svs (c,())) (D6.mem ()) K=mH bH mI mC c (fun r=>aj AW r K):=by kernel_rfl
def aki:bu:=⟨AV,D6,AW,lx⟩
theorem ayL:al tP OX [(75,OF),(130,akj),(131,akf)] []:=bC aB ⟨OG,anV,anR,trivial⟩ trivial
theorem anW:aF tP ZJ 109 Tryz.f109 OX:=cf
theorem anX:aq tP 109 aki:=OH ayL (byRef:=OY) [(3,7)] anW ZK AV D6 AW (fun a b=>(ayK ..).trans (avo ..))
def ZL:=aN []
def OZ:FD:=aJ tP ZL Tryz.f30
def ZM:=bR [64] [(64,sD)]
def ZN:RC:=⟨false,[Nq],[]⟩
theorem ayM (oO) c d e {α:Type} (K:SV->ar->Option α):ai (ao [(64,⟨z7,E6,Mc,oO⟩)] []) ZM ZN OZ (AX.svs ()) (D7.mem ((c,()),d,e,())) K=mJ oO c d e (fun r=>aj AY r K):=by kernel_rfl
def agM:bu:=⟨AX,D7,AY,oA⟩
theorem ayN:al tP OZ [(64,avF)] []:=bC aB ⟨ash,trivial⟩ trivial
theorem anY:aF tP ZL 30 Tryz.f30 OZ:=cf
theorem am9:aq tP 30 agM:=ay ayN (byRef:=ZM) anY ZN AX D7 AY (fun a b=>(ayM ..).trans (avp ..))
def ZO:=aN []
def O0:FD:=aJ tP ZO Tryz.f73
def ZP:=bR [108] [(108,sD)]
def ZQ:RC:=⟨true,[(3,2,151,.cons (.int .i64) Fj)],[]⟩
theorem ayO (lu lx) c d e {α:Type} (K:SV->ar->Option α):ai (ao [(108,⟨wK,ze,K3,lu⟩),(109,⟨AV,D6,AW,lx⟩)] []) ZP ZQ O0 (jO.svs ()) (oe.mem ((),(c,()),d,e,())) K=iH lu lx c d e (fun r=>aj B3 r K):=by kernel_rfl
def I8:bu:=⟨jO,oe,wL,bz⟩
theorem ayP:al tP O0 [(108,akb),(109,aki)] []:=bC aB ⟨anL,anX,trivial⟩ trivial
theorem anZ:aF tP ZO 73 Tryz.f73 O0:=cf
def an0:bu:=⟨jO,oe,B3,Td⟩
theorem akk:aq tP 73 an0:=ay ayP (byRef:=ZP) anZ ZQ jO oe B3 (fun a b=>(ayO ..).trans (avq ..))
theorem Il:aq tP 73 I8:=bE akk (by rfl) Te
def ZR:=aN []
def O1:FD:=aJ tP ZR Tryz.f99
def ZS:=bR [123] [(123,sD)]
def ZT:RC:=⟨false,[Nq],[(2,2,3)]⟩
theorem ayQ (mG mA) c d e g h i j l m {α:Type} (K:SV->ar->Option α):ai (ao [(124,⟨AT,D5,AU,mG⟩),(123,⟨AP,D3,AQ,mA⟩)] []) ZS ZT O1 (pG.svs ((c,d,e,g,h,i,()),())) (wM.mem ((),(j,()),l,m,())) K=mK mG mA c d e g h i j l m (fun r=>aj pH r K):=by kernel_rfl
def O3:bu:=⟨pG,wM,pH,bW⟩
theorem ayR:al tP O1 [(124,akg),(123,ake)] []:=bC aB ⟨anU,anP,trivial⟩ trivial
theorem an1:aF tP ZR 99 Tryz.f99 O1:=cf
theorem O4:aq tP 99 O3:=ay ayR (byRef:=ZS) an1 ZT pG wM pH (fun a b=>(ayQ ..).trans (avr ..))
def ZU:=aN []
def O5:FD:=aJ tP ZU Tryz.f65
def ZV:=bR [99] []
def ZW:RC:=⟨false,[Nq],[(2,2,3)]⟩
theorem ayS (bW) c d e g {α:Type} (K:SV->ar->Option α):ai (ao [(99,⟨pG,wM,pH,bW⟩)] []) ZV ZW O5 (AZ.svs (c,())) (D8.mem ((),(d,()),e,g,())) K=mL bW c d e g (fun r=>aj A3 r K):=by kernel_rfl
def agj:bu:=⟨AZ,D8,A3,lY⟩
theorem ayT:al tP O5 [(99,O3)] []:=bC aB ⟨O4,trivial⟩ trivial
theorem an2:aF tP ZU 65 Tryz.f65 O5:=cf
theorem am3:aq tP 65 agj:=ay ayT (byRef:=ZV) an2 ZW AZ D8 A3 (fun a b=>(ayS ..).trans (avs ..))
def ZX:=aN []
def O6:FD:=aJ tP ZX Tryz.f81
def ZY:=bR [73,99] []
def ZZ:RC:=⟨false,[Nq],[(2,2,3)]⟩
theorem ayU (bz bW) c d e g h i {α:Type} (K:SV->ar->Option α):ai (ao [(73,⟨jO,oe,wL,bz⟩),(99,⟨pG,wM,pH,bW⟩)] []) ZY ZZ O6 (wN.svs (c,d,e,())) (zf.mem ((),(g,()),h,i,())) K=mM bz bW c d e g h i (fun r=>aj wO r K):=by kernel_rfl
def TF:bu:=⟨wN,zf,wO,fq⟩
theorem ayV:al tP O6 [(73,I8),(99,O3)] []:=bC aB ⟨Il,O4,trivial⟩ trivial
theorem an3:aF tP ZX 81 Tryz.f81 O6:=cf
theorem XY:aq tP 81 TF:=ay ayV (byRef:=ZY) an3 ZZ wN zf wO (fun a b=>(ayU ..).trans (avt ..))
def Z0:=aN []
def O7:FD:=aJ tP Z0 Tryz.f91
def Z1:=bR [73,99] []
def Z2:RC:=⟨false,[Nq],[(2,2,3)]⟩
theorem ayW (bz bW) c d e g {α:Type} (K:SV->ar->Option α):ai (ao [(73,⟨jO,oe,wL,bz⟩),(99,⟨pG,wM,pH,bW⟩)] []) Z1 Z2 O7 (A4.svs (c,())) (D9.mem ((),(d,()),e,g,())) K=mN bz bW c d e g (fun r=>aj A5 r K):=by kernel_rfl
def afE:bu:=⟨A4,D9,A5,oy⟩
theorem ayX:al tP O7 [(73,I8),(99,O3)] []:=bC aB ⟨Il,O4,trivial⟩ trivial
theorem an4:aF tP Z0 91 Tryz.f91 O7:=cf
theorem amZ:aq tP 91 afE:=ay ayX (byRef:=Z1) an4 Z2 A4 D9 A5 (fun a b=>(ayW ..).trans (avu ..))
end
end Go.Proofs.YtljfdfghagiblaaGreat.S2