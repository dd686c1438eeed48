/- The program's functions come to their plain forms,by program. -/
import Derived.Test.YtljfdfghagiblaaGreatGslot
import Derived.Test.YtljfdfghagiblaaGreatHdisk
import Derived.Test.YtljfdfghagiblaaGreatGrseal
import Derived.Test.YtljfdfghagiblaaGreatHmerkle
import Derived.Test.YtljfdfghagiblaaGreatHrwire
set_option maxRecDepth 100000
set_option maxHeartbeats 0
namespace Go.Proofs.YtljfdfghagiblaaGreat.S2
open Go
noncomputable section
def Ze:=aN []
def OL:FD:=aJ tP Ze Tryz.f149
def Zf:=bR [] []
def Zg:RC:=⟨true,[],[]⟩
theorem ayo c {α:Type} (K:SV->ar->Option α):ai (ao [] []) Zf Zg OL (wH.svs (c,())) (zd.mem ()) K=mi c (fun r=>aj wI r K):=by kernel_rfl
def UP:bu:=⟨wH,zd,wI,dX⟩
theorem ayp:al tP OL [] []:=bC aB trivial trivial
theorem anx:aF tP Ze 149 Tryz.f149 OL:=cf
theorem Zh:aq tP 149 UP:=ay ayp (byRef:=Zf) anx Zg wH zd wI (fun a b=>(ayo ..).trans (au1 ..))
def Zi:=aN [(3,⟨3,[0,3,5],[],[4,5,6,7,8,9,10,11,12,13,14,15,16],[3]⟩)]
def OM:FD:=aJ tP Zi Tryz.f151
def ON:=bR [] []
def Zj:RC:=⟨true,[],[]⟩
theorem ayq c {α:Type} (K:SV->ar->Option α):ai ((ao [] []).unroll ON [(3,9)]) ON Zj OM (AF.svs (c,())) (DY.mem ()) K=mj c (fun r=>aj AG r K):=by kernel_rfl
def aj6:bu:=⟨AF,DY,AG,lp⟩
theorem ayr:al tP OM [] []:=bC aB trivial trivial
theorem anz:aF tP Zi 151 Tryz.f151 OM:=cf
theorem anA:aq tP 151 aj6:=OH ayr (byRef:=ON) [(3,9)] anz Zj AF DY AG (fun a b=>(ayq ..).trans (au3 ..))
def Io:=aN [(3,⟨3,[0,3,6,7],[],[3,4,7,8,9,10,11,12,13,14,15,16,17],[3]⟩)]
def Bc:FD:=aJ tP Io Tryz.f150
def Ip:=bR [] []
def Zk:RC:=⟨true,[],[]⟩
theorem abU (c:ByteArray) (d:Int) (e:Int) (g:Int) {α:Type} (kn:St->Option α) (K:iW->St->Option α):round (ao [] []) Ip (Io 3) (Bc.loop 3) kn ⟨lr.svs (c,d,e,g,()),od.mem ()⟩ K=dB c d e g (fun a b=>kn ⟨lr.svs a,od.mem b⟩) (fun r=>aR o5 r K):=by kernel_rfl
def Ri:cc:=⟨lr,od,o5,fb⟩
theorem abV:al tP Bc [] []:=bC aB trivial trivial
theorem UQ:bK tP (Bc.loop 3) Ri:=ce abV (byRef:=Ip) (lan:=Io 3) (id:=3) lr od o5 (fun a b=>(abU ..).trans (K1 ..))
theorem ays (fb:iD->iE->Option ml) c {α:Type} (K:SV->ar->Option α):ai (ao [] [(3,⟨lr,od,o5,fb⟩)]) Ip Zk Bc (AH.svs (c,())) (DZ.mem ()) K=mq fb c (fun r=>aj AI r K):=by kernel_rfl
def aj7:bu:=⟨AH,DZ,AI,jy⟩
theorem ayt:al tP Bc [] [(3,Ri)]:=bC aB trivial ⟨UQ,trivial⟩
theorem anB:aF tP Io 150 Tryz.f150 Bc:=cf
theorem anC:aq tP 150 aj7:=ay ayt (byRef:=Ip) anB Zk AH DZ AI (fun a b=>(ays ..).trans (au5 ..))
def Zl:=aN []
def OO:FD:=aJ tP Zl Tryz.f144
def Zm:=bR [] []
def Zn:RC:=⟨true,[],[]⟩
theorem ayu (dX lp bT) c d e {α:Type} (K:SV->ar->Option α):ai (ao [(149,⟨wH,zd,wI,dX⟩),(151,⟨AF,DY,AG,lp⟩),(63,⟨uR,yp,uS,bT⟩)] []) Zm Zn OO (AJ.svs (c,d,e,())) (D0.mem ()) K=mr dX lp bT c d e (fun r=>aj AK r K):=by kernel_rfl
def aj8:bu:=⟨AJ,D0,AK,mu⟩
theorem ayv:al tP OO [(149,UP),(151,aj6),(63,I7)] []:=bC aB ⟨Zh,anA,Ik,trivial⟩ trivial
theorem anD:aF tP Zl 144 Tryz.f144 OO:=cf
theorem anE:aq tP 144 aj8:=ay ayv (byRef:=Zm) anD Zn AJ D0 AK (fun a b=>(ayu ..).trans (au7 ..))
def Zo:=aN []
def OP:FD:=aJ tP Zo Tryz.f143
def Zp:=bR [] []
def Zq:RC:=⟨true,[],[]⟩
theorem ayw (dX jy) c {α:Type} (K:SV->ar->Option α):ai (ao [(149,⟨wH,zd,wI,dX⟩),(150,⟨AH,DZ,AI,jy⟩)] []) Zp Zq OP (AL.svs (c,())) (D1.mem ()) K=mv dX jy c (fun r=>aj AM r K):=by kernel_rfl
def aj9:bu:=⟨AL,D1,AM,jz⟩
theorem ayx:al tP OP [(149,UP),(150,aj7)] []:=bC aB ⟨Zh,anC,trivial⟩ trivial
theorem anF:aF tP Zo 143 Tryz.f143 OP:=cf
theorem anG:aq tP 143 aj9:=ay ayx (byRef:=Zp) anF Zq AL D1 AM (fun a b=>(ayw ..).trans (au9 ..))
def Zr:=aN []
def OQ:FD:=aJ tP Zr Tryz.f129
def Zs:=bR [142] [(142,sD)]
def Zt:RC:=⟨true,[(3,2,151,.cons (.int .i64) Fj)],[]⟩
theorem ayy (BW jz) c d e g h {α:Type} (K:SV->ar->Option α):ai (ao [(142,⟨Cx,IS,VS,BW⟩),(143,⟨AL,D1,AM,jz⟩)] []) Zs Zt OQ (pF.svs (c,d,())) (wJ.mem ((e,()),g,h,())) K=iF BW jz c d e g h (fun r=>aj B1 r K):=by kernel_rfl
def UR:bu:=⟨pF,wJ,Fu,dC⟩
theorem ayz:al tP OQ [(142,aCP),(143,aj9)] []:=bC aB ⟨aCS,anG,trivial⟩ trivial
theorem anH:aF tP Zr 129 Tryz.f129 OQ:=cf
def anI:bu:=⟨pF,wJ,B1,S9⟩
theorem aka:aq tP 129 anI:=ay ayz (byRef:=Zs) anH Zt pF wJ B1 (fun a b=>(ayy ..).trans (ava ..))
theorem Zu:aq tP 129 UR:=bE aka (by rfl) Ta
def Zv:=aN []
def OR:FD:=aJ tP Zv Tryz.f108
def Zw:=bR [129] [(129,sD)]
def Zx:RC:=⟨true,[Nq],[]⟩
theorem ayA (dC) c d e g h {α:Type} (K:SV->ar->Option α):ai (ao [(129,⟨pF,wJ,Fu,dC⟩)] []) Zw Zx OR (wK.svs (c,d,())) (ze.mem ((e,()),g,h,())) K=iG dC c d e g h (fun r=>aj B2 r K):=by kernel_rfl
def akb:bu:=⟨wK,ze,K3,lu⟩
theorem ayB:al tP OR [(129,UR)] []:=bC aB ⟨Zu,trivial⟩ trivial
theorem anJ:aF tP Zv 108 Tryz.f108 OR:=cf
def anK:bu:=⟨wK,ze,B2,Tb⟩
theorem akc:aq tP 108 anK:=ay ayB (byRef:=Zw) anJ Zx wK ze B2 (fun a b=>(ayA ..).trans (avc ..))
theorem anL:aq tP 108 akb:=bE akc (by rfl) Tc
def Zy:=aN []
def OS:FD:=aJ tP Zy Tryz.f138
def Zz:=bR [64,129,145,146] [(64,sD),(129,sD),(145,sD),(146,sD)]
def ZA:RC:=⟨false,abp,[(1,2,2)]⟩
theorem ayC (oO dC E7 mu CA) c d e g h i {α:Type} (K:SV->ar->Option α):ai (ao [(64,⟨z7,E6,Mc,oO⟩),(129,⟨pF,wJ,Fu,dC⟩),(145,⟨Cw,IO,VO,E7⟩),(144,⟨AJ,D0,AK,mu⟩),(146,⟨HJ,Mj,HK,CA⟩)] []) Zz ZA OS (AN.svs (c,d,e,())) (D2.mem ((g,()),h,i,())) K=mw oO dC E7 mu CA c d e g h i (fun r=>aj AO r K):=by kernel_rfl
def akd:bu:=⟨AN,D2,AO,my⟩
theorem ayD:al tP OS [(64,avF),(129,UR),(145,aCH),(144,aj8),(146,aC5)] []:=bC aB ⟨ash,Zu,aCK,anE,aC7,trivial⟩ trivial
theorem anM:aF tP Zy 138 Tryz.f138 OS:=cf
theorem anN:aq tP 138 akd:=ay ayD (byRef:=Zz) anM ZA AN D2 AO (fun a b=>(ayC ..).trans (ave ..))
def ZB:=aN []
def OT:FD:=aJ tP ZB Tryz.f123
def ZC:=bR [138,139] [(138,sD),(139,sD)]
def ZD:RC:=⟨false,abp,[(1,2,2)]⟩
theorem ayE (my Fc) c d e g h i {α:Type} (K:SV->ar->Option α):ai (ao [(138,⟨AN,D2,AO,my⟩),(139,⟨HH,Mi,HI,Fc⟩)] []) ZC ZD OT (AP.svs (c,d,e,())) (D3.mem ((g,()),h,i,())) K=mz my Fc c d e g h i (fun r=>aj AQ r K):=by kernel_rfl
def ake:bu:=⟨AP,D3,AQ,mA⟩
theorem ayF:al tP OT [(138,akd),(139,aC1)] []:=bC aB ⟨anN,aC3,trivial⟩ trivial
theorem anO:aF tP ZB 123 Tryz.f123 OT:=cf
theorem anP:aq tP 123 ake:=ay ayF (byRef:=ZC) anO ZD AP D3 AQ (fun a b=>(ayE ..).trans (avg ..))
end
noncomputable section
def aiF:=aN []
def Uo:FD:=aJ tP aiF Tryz.f87
def aiG:=bR [116] [(116,Ed)]
def aiH:RC:=⟨false,FK,[(1,1,2)]⟩
theorem aEV (iU) c d e g {α:Type} (K:SV->ar->Option α):ai (ao [(116,⟨yO,C4,yP,iU⟩)] []) aiG aiH Uo (Df.svs ()) (HX.mem ((c,()),d,e,g,())) K=wc iU c d e g (fun r=>aj Dg r K):=by kernel_rfl
def as3:bu:=⟨Df,HX,Dg,yc⟩
theorem aEW:al tP Uo [(116,ahB)] []:=bC aB ⟨ahC,trivial⟩ trivial
theorem axs:aF tP aiF 87 Tryz.f87 Uo:=cf
theorem axt:aq tP 87 as3:=ay aEW (byRef:=aiG) axs aiH Df HX Dg (fun a b=>(aEV ..).trans (aBT ..))
def aiI:=aN []
def Up:FD:=aJ tP aiI Tryz.f23
def aiJ:=bR [62] [(62,Ed)]
def aiK:RC:=⟨false,Ed,[(0,2,3)]⟩
theorem aEX (gT) c d e g h {α:Type} (K:SV->ar->Option α):ai (ao [(62,⟨vA,Ao,IZ,gT⟩)] []) aiJ aiK Up (ji.svs (c,())) (nf.mem ((d,()),e,g,h,())) K=wd gT c d e g h (fun r=>aj jj r K):=by kernel_rfl
def GT:bu:=⟨ji,nf,jj,bI⟩
theorem aEY:al tP Up [(62,ahq)] []:=bC aB ⟨ahr,trivial⟩ trivial
theorem axu:aF tP aiI 23 Tryz.f23 Up:=cf
theorem B4:aq tP 23 GT:=ay aEY (byRef:=aiJ) axu aiK ji nf jj (fun a b=>(aEX ..).trans (aBU ..))
def aiL:=aN []
def Uq:FD:=aJ tP aiL Tryz.f88
def aiM:=bR [117] [(117,Ed)]
def aiN:RC:=⟨false,FK,[(1,1,2)]⟩
theorem aEZ (iV) c d e g h i j l {α:Type} (K:SV->ar->Option α):ai (ao [(117,⟨yQ,C5,yR,iV⟩)] []) aiM aiN Uq (Dh.svs (c,d,e,g,())) (HY.mem ((h,()),i,j,l,())) K=we iV c d e g h i j l (fun r=>aj Di r K):=by kernel_rfl
def as4:bu:=⟨Dh,HY,Di,yd⟩
theorem aE0:al tP Uq [(117,ahG)] []:=bC aB ⟨ahH,trivial⟩ trivial
theorem axv:aF tP aiL 88 Tryz.f88 Uq:=cf
theorem axw:aq tP 88 as4:=ay aE0 (byRef:=aiM) axv aiN Dh HY Di (fun a b=>(aEZ ..).trans (aBW ..))
def Ok:=aN [(2,⟨2,[0,1,2,3,4,12],[],[10,11,12,13,14,15,16,17,18,19,20,21,22,23,24,25,26,27,28,29,30,31,32,33,34,35,36,37,38,39,40,41,42,43,44,45,46,47,48,49,50,51,52,53,54,55,56,57,58],[0,4,10,11]⟩)]
def F0:FD:=aJ tP Ok Tryz.f79
def Ol:=bR [23] [(23,Ed)]
def aiO:RC:=⟨false,anf,[(2,2,3)]⟩
theorem aiP (bI) (c:Int) (d:Int) (e:ByteArray) (g:Int) (h:Int) (i:Int) (j:List Int) (l:List (Int×Int×Int×ByteArray×ByteArray×Int)) (m:List Int) {α:Type} (kn:St->Option α) (K:iW->St->Option α):round (ao [(23,⟨ji,nf,jj,bI⟩)] []) Ol (Ok 2) (F0.loop 2) kn ⟨nW.svs (c,d,e,g,h,()),rK.mem ((i,()),j,l,m,())⟩ K=eY c d e g h i j l m (fun a b=>kn ⟨nW.svs a,rK.mem b⟩) (fun r=>aR tS r K):=by kernel_rfl
def YH:cc:=⟨nW,rK,tS,iC⟩
theorem aiQ:al tP F0 [(23,GT)] []:=bC aB ⟨B4,trivial⟩ trivial
theorem abO:bK tP (F0.loop 2) YH:=ce aiQ (byRef:=Ol) (lan:=Ok 2) (id:=2) nW rK tS (fun a b=>(aiP ..).trans (QU ..))
theorem aE1 (bI) (iC:kQ->kR->Option rM) c d e g h i j l {α:Type} (K:SV->ar->Option α):ai (ao [(23,⟨ji,nf,jj,bI⟩)] [(2,⟨nW,rK,tS,iC⟩)]) Ol aiO F0 (Dj.svs (c,d,e,g,())) (HZ.mem ((h,()),i,j,l,())) K=wg bI iC c d e g h i j l (fun r=>aj Dk r K):=by kernel_rfl
def as5:bu:=⟨Dj,HZ,Dk,ye⟩
theorem aE2:al tP F0 [(23,GT)] [(2,YH)]:=bC aB ⟨B4,trivial⟩ ⟨abO,trivial⟩
theorem axx:aF tP Ok 79 Tryz.f79 F0:=cf
theorem axy:aq tP 79 as5:=ay aE2 (byRef:=Ol) axx aiO Dj HZ Dk (fun a b=>(aE1 ..).trans (aBY ..))
def aiR:=aN []
def Ur:FD:=aJ tP aiR Tryz.f80
def aiS:=bR [] []
def aiT:RC:=⟨true,[],[]⟩
theorem aE3 (bj) c d e g {α:Type} (K:SV->ar->Option α):ai (ao [(104,⟨la,o3,lc,bj⟩)] []) aiS aiT Ur (wh.svs (c,d,e,g,())) (Aw.mem ()) K=rN bj c d e g (fun r=>aj wi r K):=by kernel_rfl
def YI:bu:=⟨wh,Aw,wi,dU⟩
theorem aE4:al tP Ur [(104,Jd)] []:=bC aB ⟨FQ,trivial⟩ trivial
theorem axz:aF tP aiR 80 Tryz.f80 Ur:=cf
theorem Us:aq tP 80 YI:=ay aE4 (byRef:=aiS) axz aiT wh Aw wi (fun a b=>(aE3 ..).trans (aBZ ..))
def aiU:=aN []
def Ut:FD:=aJ tP aiU Tryz.f53
def aiV:=bR [] []
def aiW:RC:=⟨true,[],[]⟩
theorem aE5 (dU) c d e g {α:Type} (K:SV->ar->Option α):ai (ao [(80,⟨wh,Aw,wi,dU⟩)] []) aiV aiW Ut (Dl.svs ((c,d,e,g,()),())) (H0.mem ()) K=rO dU c d e g (fun r=>aj Dm r K):=by kernel_rfl
def as1:bu:=⟨Dl,H0,Dm,yb⟩
theorem aE6:al tP Ut [(80,YI)] []:=bC aB ⟨Us,trivial⟩ trivial
theorem axA:aF tP aiU 53 Tryz.f53 Ut:=cf
theorem axm:aq tP 53 as1:=ay aE6 (byRef:=aiV) axA aiW Dl H0 Dm (fun a b=>(aE5 ..).trans (aB0 ..))
def aiX:=aN []
def Uu:FD:=aJ tP aiX Tryz.f44
def aiY:=bR [] []
def aiZ:RC:=⟨true,[],[]⟩
theorem aE7 (cv) c {α:Type} (K:SV->ar->Option α):ai (ao [(78,⟨sm,xw,sn,cv⟩)] []) aiY aiZ Uu (wj.svs (c,())) (Ax.mem ()) K=rP cv c (fun r=>aj wk r K):=by kernel_rfl
def Ys:bu:=⟨wj,Ax,wk,gY⟩
theorem aE8:al tP Uu [(78,Rh)] []:=bC aB ⟨Om,trivial⟩ trivial
theorem axB:aF tP aiX 44 Tryz.f44 Uu:=cf
theorem Uj:aq tP 44 Ys:=ay aE8 (byRef:=aiY) axB aiZ wj Ax wk (fun a b=>(aE7 ..).trans (aB1 ..))
def ai0:=aN []
def Uv:FD:=aJ tP ai0 Tryz.f51
def ai1:=bR [87,88] [(87,Ed),(88,Ed)]
def ai2:RC:=⟨false,FK,[(1,1,2)]⟩
theorem aE9 (yc dU yd) c d e g h i j l m n {α:Type} (K:SV->ar->Option α):ai (ao [(87,⟨Df,HX,Dg,yc⟩),(80,⟨wh,Aw,wi,dU⟩),(88,⟨Dh,HY,Di,yd⟩)] []) ai1 ai2 Uv (Dn.svs (c,d,e,g,h,i,())) (H1.mem ((j,()),l,m,n,())) K=wm yc dU yd c d e g h i j l m n (fun r=>aj Do r K):=by kernel_rfl
def as0:bu:=⟨Dn,H1,Do,ya⟩
theorem aFa:al tP Uv [(87,as3),(80,YI),(88,as4)] []:=bC aB ⟨axt,Us,axw,trivial⟩ trivial
theorem axC:aF tP ai0 51 Tryz.f51 Uv:=cf
theorem axl:aq tP 51 as0:=ay aFa (byRef:=ai1) axC ai2 Dn H1 Do (fun a b=>(aE9 ..).trans (aB2 ..))
def ai3:=aN []
def Uw:FD:=aJ tP ai3 Tryz.f45
def ai4:=bR [79] [(79,Ed)]
def ai5:RC:=⟨false,anf,[(2,2,3)]⟩
theorem aFb (dU ye) c d e g h i j l m n o {α:Type} (K:SV->ar->Option α):ai (ao [(80,⟨wh,Aw,wi,dU⟩),(79,⟨Dj,HZ,Dk,ye⟩)] []) ai4 ai5 Uw (Dp.svs (c,d,e,(g,h,i,j,()),())) (H2.mem ((l,()),m,n,o,())) K=wn dU ye c d e g h i j l m n o (fun r=>aj Dq r K):=by kernel_rfl
def asY:bu:=⟨Dp,H2,Dq,xZ⟩
theorem aFc:al tP Uw [(80,YI),(79,as5)] []:=bC aB ⟨Us,axy,trivial⟩ trivial
theorem axD:aF tP ai3 45 Tryz.f45 Uw:=cf
theorem axe:aq tP 45 asY:=ay aFc (byRef:=ai4) axD ai5 Dp H2 Dq (fun a b=>(aFb ..).trans (aB3 ..))
end
end Go.Proofs.YtljfdfghagiblaaGreat.S2