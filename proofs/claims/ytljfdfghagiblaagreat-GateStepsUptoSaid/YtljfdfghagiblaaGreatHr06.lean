/- The program's functions come to their plain forms,by program. -/
import Derived.Test.YtljfdfghagiblaaGreatGrstore
import Derived.Test.YtljfdfghagiblaaGreatHgate
import Derived.Test.YtljfdfghagiblaaGreatHrslot
import Derived.Test.YtljfdfghagiblaaGreatHrwire
import Derived.Test.YtljfdfghagiblaaGreatGr06
import Derived.Test.YtljfdfghagiblaaGreatHmerkle
set_option maxRecDepth 100000
set_option maxHeartbeats 0
namespace Go.Proofs.YtljfdfghagiblaaGreat.S2
open Go
noncomputable section
def agJ:=aN []
def TV:FD:=aJ tP agJ Tryz.f6
def agK:=bR [30,31,32] [(30,sD)]
def agL:RC:=⟨false,[(4,9,9,.cons .str .nil),Nq],[]⟩
theorem aDQ (qk oA tt xW) c d e g h i j l m n o {α:Type} (K:SV->ar->Option α):ai (ao [(29,⟨CD,HL,CE,qk⟩),(30,⟨AX,D7,AY,oA⟩),(31,⟨CF,HM,CG,tt⟩),(32,⟨CO,HP,CP,xW⟩)] []) agK agL TV (qH.svs (c,())) (xq.mem ((d,e,g,()),h,i,j,l,m,n,o,())) K=ny qk oA tt xW c d e g h i j l m n o (fun r=>aj qI r K):=by kernel_rfl
def Q6:bu:=⟨qH,xq,qI,eF⟩
theorem aDR:al tP TV [(29,asL),(30,agM),(31,asM),(32,asP)] []:=bC aB ⟨avU,am9,avW,awe,trivial⟩ trivial
theorem awp:aF tP agJ 6 Tryz.f6 TV:=cf
theorem Nk:aq tP 6 Q6:=ay aDR (byRef:=agK) awp agL qH xq qI (fun a b=>(aDQ ..).trans (aA4 ..))
def agN:=aN []
def TW:FD:=aJ tP agN Tryz.f7
def agO:=bR [6,10,12,16,33] [(6,lK),(33,lK)]
def agP:RC:=⟨true,[],[]⟩
theorem aDS (gj eF iT xX dk eD eE) {α:Type} (K:SV->ar->Option α):ai (ao [(4,⟨qx,xl,qy,gj⟩),(6,⟨qH,xq,qI,eF⟩),(33,⟨yH,CT,yI,iT⟩),(34,⟨CV,HQ,CW,xX⟩),(10,⟨qr,xj,qt,dk⟩),(12,⟨qv,xk,qw,eD⟩),(16,⟨ql,xh,qm,eE⟩)] []) agO agP TW (vr.svs ()) (Al.mem ()) K=vu gj eF iT xX dk eD eE (fun r=>aj vt r K):=by kernel_rfl
def XG:bu:=⟨vr,Al,vt,nm⟩
theorem aDT:al tP TW [(4,Q5),(6,Q6),(33,agi),(34,asQ),(10,Q7),(12,Q8),(16,Q9)] []:=bC aB ⟨Nj,Nk,agk,awq,Nl,Nm,Np,trivial⟩ trivial
theorem awr:aF tP agN 7 Tryz.f7 TW:=cf
theorem Th:aq tP 7 XG:=ay aDT (byRef:=agO) awr agP vr Al vt (fun a b=>(aDS ..).trans (aA6 ..))
end
noncomputable section
def ajq:=aN []
def UB:FD:=aJ tP ajq Tryz.f106
def ajr:=bR [] []
def ajs:RC:=⟨true,[],[]⟩
theorem aFp (bj wt) c d e g h i {α:Type} (K:SV->ar->Option α):ai (ao [(104,⟨la,o3,lc,bj⟩),(128,⟨DL,Ic,DM,wt⟩)] []) ajr ajs UB (DB.svs ((c,d,e,g,h,i,()),())) (H7.mem ()) K=sa bj wt c d e g h i (fun r=>aj DC r K):=by kernel_rfl
def atb:bu:=⟨DB,H7,DC,wu⟩
theorem aFq:al tP UB [(104,Jd),(128,atc)] []:=bC aB ⟨FQ,axQ,trivial⟩ trivial
theorem axR:aF tP ajq 106 Tryz.f106 UB:=cf
theorem axS:aq tP 106 atb:=ay aFq (byRef:=ajr) axR ajs DB H7 DC (fun a b=>(aFp ..).trans (aCh ..))
def ajt:=aN []
def UC:FD:=aJ tP ajt Tryz.f86
def aju:=bR [] []
def ajv:RC:=⟨true,[],[]⟩
theorem aFr (wv ww) c {α:Type} (K:SV->ar->Option α):ai (ao [(114,⟨DP,Ie,DQ,wv⟩),(115,⟨DN,Id,DO,ww⟩)] []) aju ajv UC (DD.svs (c,())) (H8.mem ()) K=sb wv ww c (fun r=>aj DE r K):=by kernel_rfl
def atd:bu:=⟨DD,H8,DE,tY⟩
theorem aFs:al tP UC [(114,ate),(115,atf)] []:=bC aB ⟨axT,axU,trivial⟩ trivial
theorem axV:aF tP ajt 86 Tryz.f86 UC:=cf
theorem axW:aq tP 86 atd:=ay aFs (byRef:=aju) axV ajv DD H8 DE (fun a b=>(aFr ..).trans (aCl ..))
def ajw:=aN []
def UD:FD:=aJ tP ajw Tryz.f50
def ajx:=bR [85] [(85,o8)]
def ajy:RC:=⟨true,[(2,2,117,.cons (.int .i64) qq7)],[]⟩
theorem aFt (tX tY) c d e {α:Type} (K:SV->ar->Option α):ai (ao [(85,⟨za,Dy,Q0,tX⟩),(86,⟨DD,H8,DE,tY⟩)] []) ajx ajy UD (gZ.svs ()) (kY.mem ((c,()),d,e,())) K=kZ tX tY c d e (fun r=>aj Ft r K):=by kernel_rfl
def GU:bu:=⟨gZ,kY,nZ,a7⟩
theorem aFu:al tP UD [(85,as9),(86,atd)] []:=bC aB ⟨axN,axW,trivial⟩ trivial
theorem axX:aF tP ajw 50 Tryz.f50 UD:=cf
def axY:bu:=⟨gZ,kY,Ft,adU⟩
theorem anq:aq tP 50 axY:=ay aFu (byRef:=ajx) axX ajy gZ kY Ft (fun a b=>(aFt ..).trans (aCm ..))
theorem B5:aq tP 50 GU:=bE anq (by rfl) abm
def ajz:=aN []
def UE:FD:=aJ tP ajz Tryz.f72
def ajA:=bR [105,107] [(105,o8),(107,o8)]
def ajB:RC:=⟨false,abK,[(1,2,2)]⟩
theorem aFv (wu wq vH) c d e g h i j l m {α:Type} (K:SV->ar->Option α):ai (ao [(106,⟨DB,H7,DC,wu⟩),(105,⟨Dz,H6,DA,wq⟩),(107,⟨Db,HV,Dc,vH⟩)] []) ajA ajB UE (wx.svs ((c,d,e,g,h,i,()),())) (Ay.mem ((j,()),l,m,())) K=sc wu wq vH c d e g h i j l m (fun r=>aj wy r K):=by kernel_rfl
def YL:bu:=⟨wx,Ay,wy,dc⟩
theorem aFw:al tP UE [(106,atb),(105,ata),(107,asW)] []:=bC aB ⟨axS,axP,aw2,trivial⟩ trivial
theorem axZ:aF tP ajz 72 Tryz.f72 UE:=cf
theorem UF:aq tP 72 YL:=ay aFw (byRef:=ajA) axZ ajB wx Ay wy (fun a b=>(aFv ..).trans (aCn ..))
def ajC:=aN []
def UG:FD:=aJ tP ajC Tryz.f37
def ajD:=bR [72] [(72,o8)]
def ajE:RC:=⟨false,abK,[(1,2,2)]⟩
theorem aFx (dc) c d e g {α:Type} (K:SV->ar->Option α):ai (ao [(72,⟨wx,Ay,wy,dc⟩)] []) ajD ajE UG (DF.svs (c,())) (H9.mem ((d,()),e,g,())) K=sd dc c d e g (fun r=>aj DG r K):=by kernel_rfl
def as2:bu:=⟨DF,H9,DG,tR⟩
theorem aFy:al tP UG [(72,YL)] []:=bC aB ⟨UF,trivial⟩ trivial
theorem ax0:aF tP ajC 37 Tryz.f37 UG:=cf
theorem axp:aq tP 37 as2:=ay aFy (byRef:=ajD) ax0 ajE DF H9 DG (fun a b=>(aFx ..).trans (aCo ..))
def ajF:=aN []
def UH:FD:=aJ tP ajF Tryz.f90
def ajG:=bR [50,72] [(50,o8),(72,o8)]
def ajH:RC:=⟨false,abK,[(1,2,2)]⟩
theorem aFz (a7 dc) c d e g h i {α:Type} (K:SV->ar->Option α):ai (ao [(50,⟨gZ,kY,nZ,a7⟩),(72,⟨wx,Ay,wy,dc⟩)] []) ajG ajH UH (DH.svs (c,d,e,())) (Ia.mem ((g,()),h,i,())) K=sf a7 dc c d e g h i (fun r=>aj DI r K):=by kernel_rfl
def asZ:bu:=⟨DH,Ia,DI,vW⟩
theorem aFA:al tP UH [(50,GU),(72,YL)] []:=bC aB ⟨B5,UF,trivial⟩ trivial
theorem ax1:aF tP ajF 90 Tryz.f90 UH:=cf
theorem axi:aq tP 90 asZ:=ay aFA (byRef:=ajG) ax1 ajH DH Ia DI (fun a b=>(aFz ..).trans (aCp ..))
def ajI:=aN []
def UI:FD:=aJ tP ajI Tryz.f92
def ajJ:=bR [50,72] [(50,o8),(72,o8)]
def ajK:RC:=⟨false,abK,[(1,2,2)]⟩
theorem aFB (a7 dc) c d e g {α:Type} (K:SV->ar->Option α):ai (ao [(50,⟨gZ,kY,nZ,a7⟩),(72,⟨wx,Ay,wy,dc⟩)] []) ajJ ajK UI (DJ.svs (c,())) (Ib.mem ((d,()),e,g,())) K=sg a7 dc c d e g (fun r=>aj DK r K):=by kernel_rfl
def asX:bu:=⟨DJ,Ib,DK,vL⟩
theorem aFC:al tP UI [(50,GU),(72,YL)] []:=bC aB ⟨B5,UF,trivial⟩ trivial
theorem ax2:aF tP ajI 92 Tryz.f92 UI:=cf
theorem aw9:aq tP 92 asX:=ay aFC (byRef:=ajJ) ax2 ajK DJ Ib DK (fun a b=>(aFB ..).trans (aCq ..))
end
noncomputable section
def NX:=aN [(3,⟨3,[0,3,4],[],[3,4,5,6,7,8,9,10,11],[3]⟩)]
def FO:FD:=aJ tP NX Tryz.f69
def NY:=bR [] []
def ahN:RC:=⟨true,[],[]⟩
theorem ahO (c:Int) (d:Int) (e:Int) {α:Type} (kn:St->Option α) (K:iW->St->Option α):round (ao [] []) NY (NX 3) (FO.loop 3) kn ⟨nL.svs (c,d,e,()),rj.mem ()⟩ K=eQ c d e (fun a b=>kn ⟨nL.svs a,rj.mem b⟩) (fun r=>aR tH r K):=by kernel_rfl
def X8:cc:=⟨nL,rj,tH,gI⟩
theorem ahP:al tP FO [] []:=bC aB trivial trivial
theorem abC:bK tP (FO.loop 3) X8:=ce ahP (byRef:=NY) (lan:=NX 3) (id:=3) nL rj tH (fun a b=>(ahO ..).trans (Qz ..))
theorem aEp (gI:kw->kx->Option rk) c {α:Type} (K:SV->ar->Option α):ai (ao [] [(3,⟨nL,rj,tH,gI⟩)]) NY ahN FO (gn.svs (c,())) (jo.mem ()) K=rl gI c (fun r=>aj gp r K):=by kernel_rfl
def BO:bu:=⟨gn,jo,gp,br⟩
theorem aEq:al tP FO [] [(3,X8)]:=bC aB trivial ⟨abC,trivial⟩
theorem awP:aF tP NX 69 Tryz.f69 FO:=cf
theorem xA:aq tP 69 BO:=ay aEq (byRef:=NY) awP ahN gn jo gp (fun a b=>(aEp ..).trans (aBt ..))
def ahQ:=aN []
def T8:FD:=aJ tP ahQ Tryz.f70
def ahR:=bR [103] [(103,Ed)]
def ahS:RC:=⟨false,FK,[(1,1,2)]⟩
theorem aEr (gU) c d e g h {α:Type} (K:SV->ar->Option α):ai (ao [(103,⟨yS,C6,yT,gU⟩)] []) ahR ahS T8 (ky.svs (c,())) (oX.mem ((d,()),e,g,h,())) K=rm gU c d e g h (fun r=>aj kz r K):=by kernel_rfl
def Jb:bu:=⟨ky,oX,kz,db⟩
theorem aEs:al tP T8 [(103,ahL)] []:=bC aB ⟨ahM,trivial⟩ trivial
theorem awQ:aF tP ahQ 70 Tryz.f70 T8:=cf
theorem FP:aq tP 70 Jb:=ay aEs (byRef:=ahR) awQ ahS ky oX kz (fun a b=>(aEr ..).trans (aBu ..))
def ahT:=aN []
def T9:FD:=aJ tP ahT Tryz.f71
def ahU:=bR [103] [(103,Ed)]
def ahV:RC:=⟨false,FK,[(1,1,2)]⟩
theorem aEt (bj gU) c d e g h i {α:Type} (K:SV->ar->Option α):ai (ao [(104,⟨la,o3,lc,bj⟩),(103,⟨yS,C6,yT,gU⟩)] []) ahU ahV T9 (kA.svs (c,d,())) (oY.mem ((e,()),g,h,i,())) K=rn bj gU c d e g h i (fun r=>aj kB r K):=by kernel_rfl
def Jc:bu:=⟨kA,oY,kB,cU⟩
theorem aEu:al tP T9 [(104,Jd),(103,ahL)] []:=bC aB ⟨FQ,ahM,trivial⟩ trivial
theorem awR:aF tP ahT 71 Tryz.f71 T9:=cf
theorem FS:aq tP 71 Jc:=ay aEu (byRef:=ahU) awR ahV kA oY kB (fun a b=>(aEt ..).trans (aBv ..))
def zh:=aN [(14,⟨14,[0,8,10,11,12],[(.cell 0 1,620,153,.cons (.int .i64) qq9),(.slot 11,511,38,.cons (.int .u64) .nil)],[11,12,57,58,59,60,61,62,63,64,65,66,67,68,69,70,71,72,73,74,75,76],[0,10,11]⟩),(11,⟨11,[0,8,10],[(.cell 0 1,640,153,.cons (.int .i64) qq9),(.slot 10,510,22,.cons (.slc 38 pn) .nil)],[100620,8,10,11,12,53,54,55,56,57,58,59,60,61,62,63,64,65,66,67,68,69,70,71,72,73,74,75,76,77,78,79,80,81],[10]⟩),(5,⟨5,[0,1,2,8,9],[(.cell 0 1,600,153,.cons (.int .i64) qq9),(.slot 8,508,38,.cons (.int .u64) .nil)],[8,9,27,28,29,30,31,32,33,34,35,36,37,38,39,40,41,42,43,44,45,46,47,48,49,50],[0,8]⟩)]
def oC:FD:=aJ tP zh Tryz.f36
def zi:=bR [70,71] [(70,Ed),(71,Ed)]
def ahW:RC:=⟨true,anf,[(2,1,2)]⟩
theorem ahX (br db cU) (c:Int) (d:Yb) (e:Int) (g:Int) (h:List Int) (i:List Int) (j:List Int) (l:List (Int×Int×Int×ByteArray×ByteArray×Int)) {α:Type} (kn:St->Option α) (K:iW->St->Option α):round (ao [(69,⟨gn,jo,gp,br⟩),(70,⟨ky,oX,kz,db⟩),(71,⟨kA,oY,kB,cU⟩)] []) zi (zh 5) (oC.loop 5) kn ⟨gV.svs (c,d,e,()),jx.mem ((g,()),h,(),i,j,l,())⟩ K=eR br db c d e g h i j l (fun a b=>kn ⟨gV.svs a,jx.mem b⟩) (fun r=>aR jK r K):=by kernel_rfl
def In:cc:=⟨gV,jx,jK,eb⟩
theorem ahY:al tP oC [(69,BO),(70,Jb),(71,Jc)] []:=bC aB ⟨xA,FP,FS,trivial⟩ trivial
theorem FT:bK tP (oC.loop 5) In:=ce ahY (byRef:=zi) (lan:=zh 5) (id:=5) gV jx jK (fun a b=>(ahX ..).trans (QC ..))
theorem abD (br db cU) (eb:gW->gX->Option kC) (c:List Int) (d:Int) (e:Int) (g:List Int) (h:List Int) (i:List (List Int)) (j:List Int) (l:List (Int×Int×Int×ByteArray×ByteArray×Int)) {α:Type} (kn:St->Option α) (K:iW->St->Option α):round (ao [(69,⟨gn,jo,gp,br⟩),(70,⟨ky,oX,kz,db⟩),(71,⟨kA,oY,kB,cU⟩)] [(5,⟨gV,jx,jK,eb⟩)]) zi (zh 14) (oC.loop 14) kn ⟨iy.svs (c,d,()),jL.mem ((e,()),g,(),h,i,j,l,())⟩ K=dx cU c d e g h i j l (fun a b=>kn ⟨iy.svs a,jL.mem b⟩) (fun r=>aR kD r K):=by kernel_rfl
def Je:cc:=⟨iy,jL,kD,cL⟩
theorem abE:al tP oC [(69,BO),(70,Jb),(71,Jc)] [(5,In)]:=bC aB ⟨xA,FP,FS,trivial⟩ ⟨FT,trivial⟩
theorem Jf:bK tP (oC.loop 14) Je:=ce abE (byRef:=zi) (lan:=zh 14) (id:=14) iy jL kD (fun a b=>(abD ..).trans (KX ..))
theorem abF (br db cU) (eb:gW->gX->Option kC) (cL:gy->gz->Option jM) (c:List Int) (d:Int) (e:List Int) (g:List Int) (h:List (List Int)) (i:List (Int×Int×Int×ByteArray×ByteArray×Int)) {α:Type} (kn:St->Option α) (K:iW->St->Option α):round (ao [(69,⟨gn,jo,gp,br⟩),(70,⟨ky,oX,kz,db⟩),(71,⟨kA,oY,kB,cU⟩)] [(5,⟨gV,jx,jK,eb⟩),(14,⟨iy,jL,kD,cL⟩)]) zi (zh 11) (oC.loop 11) kn ⟨kE.svs (c,()),nM.mem ((d,()),e,(),g,h,i,())⟩ K=dy cL c d e g h i (fun a b=>kn ⟨kE.svs a,nM.mem b⟩) (fun r=>aR oZ r K):=by kernel_rfl
def Rg:cc:=⟨kE,nM,oZ,eS⟩
theorem abG:al tP oC [(69,BO),(70,Jb),(71,Jc)] [(5,In),(14,Je)]:=bC aB ⟨xA,FP,FS,trivial⟩ ⟨FT,Jf,trivial⟩
theorem Ua:bK tP (oC.loop 11) Rg:=ce abG (byRef:=zi) (lan:=zh 11) (id:=11) kE nM oZ (fun a b=>(abF ..).trans (KZ ..))
theorem aEv (br db cU) (eb:gW->gX->Option kC) (cL:gy->gz->Option jM) (eS:iz->iA->Option l9) c d e g h i {α:Type} (K:SV->ar->Option α):ai (ao [(69,⟨gn,jo,gp,br⟩),(70,⟨ky,oX,kz,db⟩),(71,⟨kA,oY,kB,cU⟩)] [(5,⟨gV,jx,jK,eb⟩),(14,⟨iy,jL,kD,cL⟩),(11,⟨kE,nM,oZ,eS⟩)]) zi ahW oC (C7.svs (c,d,())) (HS.mem ((e,()),g,h,i,())) K=ro br eb eS c d e g h i (fun r=>aj C8 r K):=by kernel_rfl
def asU:bu:=⟨C7,HS,C8,xY⟩
theorem aEw:al tP oC [(69,BO),(70,Jb),(71,Jc)] [(5,In),(14,Je),(11,Rg)]:=bC aB ⟨xA,FP,FS,trivial⟩ ⟨FT,Jf,Ua,trivial⟩
theorem awS:aF tP zh 36 Tryz.f36 oC:=cf
theorem awT:aq tP 36 asU:=ay aEw (byRef:=zi) awS ahW C7 HS C8 (fun a b=>(aEv ..).trans (aBx ..))
def NZ:=aN [(5,⟨5,[0,2,3,10,11],[(.cell 0 1,600,153,.cons (.int .i64) qq9)],[2,10,11,29,30,31,32,33,34,35,36,37,38,39,40,41,42,43,44,45,46,47,48,49,50,51,52,53],[10]⟩)]
def FU:FD:=aJ tP NZ Tryz.f89
def N0:=bR [70,71] [(70,Ed),(71,Ed)]
def ahZ:RC:=⟨false,anf,[(2,1,2)]⟩
theorem ah0 (br db cU) (c:Int) (d:List Int) (e:Int) (g:Int) (h:Int) (i:List Int) (j:List Int) (l:List (Int×Int×Int×ByteArray×ByteArray×Int)) {α:Type} (kn:St->Option α) (K:iW->St->Option α):round (ao [(69,⟨gn,jo,gp,br⟩),(70,⟨ky,oX,kz,db⟩),(71,⟨kA,oY,kB,cU⟩)] []) N0 (NZ 5) (FU.loop 5) kn ⟨nN.svs (c,d,e,g,()),rp.mem ((h,()),i,(),j,l,())⟩ K=eT cU c d e g h i j l (fun a b=>kn ⟨nN.svs a,rp.mem b⟩) (fun r=>aR tI r K):=by kernel_rfl
def X9:cc:=⟨nN,rp,tI,gJ⟩
theorem ah1:al tP FU [(69,BO),(70,Jb),(71,Jc)] []:=bC aB ⟨xA,FP,FS,trivial⟩ trivial
theorem abH:bK tP (FU.loop 5) X9:=ce ah1 (byRef:=N0) (lan:=NZ 5) (id:=5) nN rp tI (fun a b=>(ah0 ..).trans (QE ..))
theorem aEx (br db cU) (gJ:kF->kG->Option rq) c d e g h i j {α:Type} (K:SV->ar->Option α):ai (ao [(69,⟨gn,jo,gp,br⟩),(70,⟨ky,oX,kz,db⟩),(71,⟨kA,oY,kB,cU⟩)] [(5,⟨nN,rp,tI,gJ⟩)]) N0 ahZ FU (vC.svs (c,d,e,())) (Ap.mem ((g,()),h,i,j,())) K=rr br db gJ c d e g h i j (fun r=>aj vD r K):=by kernel_rfl
def Ya:bu:=⟨vC,Ap,vD,gr⟩
theorem aEy:al tP FU [(69,BO),(70,Jb),(71,Jc)] [(5,X9)]:=bC aB ⟨xA,FP,FS,trivial⟩ ⟨abH,trivial⟩
theorem awU:aF tP NZ 89 Tryz.f89 FU:=cf
theorem Ub:aq tP 89 Ya:=ay aEy (byRef:=N0) awU ahZ vC Ap vD (fun a b=>(aEx ..).trans (aBy ..))
end
end Go.Proofs.YtljfdfghagiblaaGreat.S2