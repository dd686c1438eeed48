/- The program follows what its translator says. -/
import Derived.Test.YtljfdfghagiblaaGreatS2za
import Derived.Test.YtljfdfghagiblaaGreatProg
import Derived.KernelRfl
import Derived.Test.YtljfdfghagiblaaGreatRep
import Derived.Test.YtljfdfghagiblaaGreatGwire
import Derived.Test.YtljfdfghagiblaaGreatGrwire
namespace Go.Proofs.YtljfdfghagiblaaGreat.S2
open Go
theorem aB:tP.follows .mixedOrders=true:=by kernel_rfl
noncomputable section
def Iq:=aN [(1,⟨1,[0,1],[(.slot 0,500,5,.cons (.int .u8) .nil)],[0,1,5,6,7,8,9,10,11,12,13,14],[0,1]⟩)]
def Bd:FD:=aJ tP Iq Tryz.f132
def Ir:=bR [] []
def Z3:RC:=⟨true,[],[]⟩
theorem abW (c:Int) (d:List Int) {α:Type} (kn:St->Option α) (K:iW->St->Option α):round (ao [] []) Ir (Iq 1) (Bd.loop 1) kn ⟨ly.svs (c,()),og.mem (d,())⟩ K=bZ c d (fun a b=>kn ⟨ly.svs a,og.mem b⟩) (fun r=>aR o6 r K):=by kernel_rfl
def Rj:cc:=⟨ly,og,o6,dY⟩
theorem abX:al tP Bd [] []:=bC aB trivial trivial
theorem US:bK tP (Bd.loop 1) Rj:=ce abX (byRef:=Ir) (lan:=Iq 1) (id:=1) ly og o6 (fun a b=>(abW ..).trans (K4 ..))
theorem ayY (dY:iI->iJ->Option mO) c {α:Type} (K:SV->ar->Option α):ai (ao [] [(1,⟨ly,og,o6,dY⟩)]) Ir Z3 Bd (A6.svs (c,())) (Ea.mem ()) K=jP dY c (fun r=>aj A7 r K):=by kernel_rfl
def akl:bu:=⟨A6,Ea,A7,oB⟩
theorem ayZ:al tP Bd [] [(1,Rj)]:=bC aB trivial ⟨US,trivial⟩
theorem an5:aF tP Iq 132 Tryz.f132 Bd:=cf
theorem an6:aq tP 132 akl:=ay ayZ (byRef:=Ir) an5 Z3 A6 Ea A7 (fun a b=>(ayY ..).trans (avw ..))
def Z4:=aN []
def O8:FD:=aJ tP Z4 Tryz.f111
def Z5:=bR [] []
def Z6:RC:=⟨true,[],[]⟩
theorem ay0 (oB) c {α:Type} (K:SV->ar->Option α):ai (ao [(132,⟨A6,Ea,A7,oB⟩)] []) Z5 Z6 O8 (mP.svs (c,())) (sC.mem ()) K=jQ oB c (fun r=>aj mQ r K):=by kernel_rfl
def Ja:bu:=⟨mP,sC,mQ,be⟩
theorem ay1:al tP O8 [(132,akl)] []:=bC aB ⟨an6,trivial⟩ trivial
theorem an7:aF tP Z4 111 Tryz.f111 O8:=cf
theorem Im:aq tP 111 Ja:=ay ay1 (byRef:=Z5) an7 Z6 mP sC mQ (fun a b=>(ay0 ..).trans (avy ..))
def Z7:=aN []
def O9:FD:=aJ tP Z7 Tryz.f140
def Z8:=bR [] []
def Z9:RC:=⟨true,[],[]⟩
theorem ay2 (be) c {α:Type} (K:SV->ar->Option α):ai (ao [(111,⟨mP,sC,mQ,be⟩)] []) Z8 Z9 O9 (A8.svs (c,())) (Eb.mem ()) K=mR be c (fun r=>aj A9 r K):=by kernel_rfl
def akh:bu:=⟨A8,Eb,A9,mE⟩
theorem ay3:al tP O9 [(111,Ja)] []:=bC aB ⟨Im,trivial⟩ trivial
theorem an8:aF tP Z7 140 Tryz.f140 O9:=cf
theorem anS:aq tP 140 akh:=ay ay3 (byRef:=Z8) an8 Z9 A8 Eb A9 (fun a b=>(ay2 ..).trans (avz ..))
def Is:=aN [(3,⟨3,[0,5,9,10],[],[2,3,4,5,6,7,10,11,12,13,14,15,16,17,18,19,20,21,22,23,24,25,26,27,28,29,30,31,32,33,34,35,36,37,38,39,40,41,42,43],[2,3,4]⟩)]
def Be:FD:=aJ tP Is Tryz.f75
def It:=bR [] []
def aaa:RC:=⟨true,[],[]⟩
theorem abY (c:ByteArray) (d:Int) (e:Int) (g:Int) {α:Type} (kn:St->Option α) (K:iW->St->Option α):round (ao [] []) It (Is 3) (Be.loop 3) kn ⟨lz.svs (c,d,e,g,()),oh.mem ()⟩ K=dD c d e g (fun a b=>kn ⟨lz.svs a,oh.mem b⟩) (fun r=>aR o7 r K):=by kernel_rfl
def Rk:cc:=⟨lz,oh,o7,fc⟩
theorem abZ:al tP Be [] []:=bC aB trivial trivial
theorem UT:bK tP (Be.loop 3) Rk:=ce abZ (byRef:=It) (lan:=Is 3) (id:=3) lz oh o7 (fun a b=>(abY ..).trans (K5 ..))
theorem ay4 (fc:iK->iL->Option mS) c {α:Type} (K:SV->ar->Option α):ai (ao [] [(3,⟨lz,oh,o7,fc⟩)]) It aaa Be (pJ.svs (c,())) (wP.mem ()) K=mT fc c (fun r=>aj pK r K):=by kernel_rfl
def OF:bu:=⟨pJ,wP,pK,bH⟩
theorem ay5:al tP Be [] [(3,Rk)]:=bC aB trivial ⟨UT,trivial⟩
theorem an9:aF tP Is 75 Tryz.f75 Be:=cf
theorem OG:aq tP 75 OF:=ay ay5 (byRef:=It) an9 aaa pJ wP pK (fun a b=>(ay4 ..).trans (avA ..))
def aab:=aN []
def Pa:FD:=aJ tP aab Tryz.f130
def aac:=bR [] []
def aad:RC:=⟨true,[],[]⟩
theorem ay6 (bH) c d {α:Type} (K:SV->ar->Option α):ai (ao [(75,⟨pJ,wP,pK,bH⟩)] []) aac aad Pa (Ba.svs (c,d,())) (Ec.mem ()) K=mU bH c d (fun r=>aj Bb r K):=by kernel_rfl
def akj:bu:=⟨Ba,Ec,Bb,mI⟩
theorem ay7:al tP Pa [(75,OF)] []:=bC aB ⟨OG,trivial⟩ trivial
theorem aoa:aF tP aab 130 Tryz.f130 Pa:=cf
theorem anV:aq tP 130 akj:=ay ay7 (byRef:=aac) aoa aad Ba Ec Bb (fun a b=>(ay6 ..).trans (avB ..))
end
noncomputable section
def XZ:=aN []
def Ee:FD:=aJ tP XZ Tryz.f28
def NE:=bR [] []
def am4:RC:=⟨true,[],[]⟩
theorem awg c {α:Type} (K:SV->ar->Option α):ai (ao [] []) NE am4 Ee (Fg.svs (c,())) (IY.mem ()) K=aba c (fun r=>aj Aj r K):=by kernel_rfl
def ago:bu:=⟨Fg,IY,Aj,ju⟩
theorem TM:al tP Ee [] []:=bC aB trivial trivial
theorem NF:aF tP XZ 28 Tryz.f28 Ee:=cf
theorem NG:ai (ao [] []) NE ⟨true,[],[]⟩ Ee [.nils] [] (fun v m=>some (v,m))=some (.ps 38 (.cons (.int .u64) .nil) [],[]):=by kernel_rfl
theorem NH:ai (ao [] []) NE ⟨true,[],[]⟩ Ee [.pe] [] (fun v m=>some (v,m))=some (.ps 38 (.cons (.int .u64) .nil) [],[]):=by kernel_rfl
theorem am5:aq tP 28 ago:=by
 have h0:ju ([],()) ()=some ([],()):=by simp [ju]
 refine am6 (e:=38) (r:=(.cons (.int .u64) .nil)) (outs:=Aj) (F:=ju) ?_ ?_ ?_
 ·intro o ho
  cases Option.some.inj (h0.symm.trans ho)
  exact NI TM NF ⟨true,[],[]⟩ NG
 ·intro o ho
  cases Option.some.inj (h0.symm.trans ho)
  exact NI TM NF ⟨true,[],[]⟩ NH
 ·intro x xs o ho
  have h2:=awg (x::xs) (fun v m=>some (v,m))
  have ho:cond (decide ((x::xs).length*8<=140737488355328)) (some (x::xs,())) none=some o:=ho
  cases hb:decide ((x::xs).length*8<=140737488355328) with
  | false=>rw [hb] at ho; cases ho
  | true =>
  rw [hb] at ho
  cases ho
  refine NI TM NF ⟨true,[],[]⟩ (h2.trans ?_)
  have hb2:decide ((0+(xs.length+1))*8<=140737488355328)=true:=by rw [Nat.zero_add]; exact hb
  show (cond (decide (0<xs.length+1)) (cond (decide ((0+(xs.length+1))*8<=140737488355328)) (some _) none) none:Option (SV×ar))=_
  rw [hb2,decide_eq_true (Nat.succ_pos _)]
  rfl
def agp:=aN []
def TN:FD:=aJ tP agp Tryz.f4
def agq:=bR [] []
def agr:RC:=⟨false,lK,[]⟩
theorem aDE (ju) c {α:Type} (K:SV->ar->Option α):ai (ao [(28,⟨Fg,IY,Aj,ju⟩)] []) agq agr TN (qx.svs (c,())) (xl.mem ()) K=qz ju c (fun r=>aj qy r K):=by kernel_rfl
def Q5:bu:=⟨qx,xl,qy,gj⟩
theorem aDF:al tP TN [(28,ago)] []:=bC aB ⟨am5,trivial⟩ trivial
theorem awh:aF tP agp 4 Tryz.f4 TN:=cf
theorem Nj:aq tP 4 Q5:=ay aDF (byRef:=agq) awh agr qx xl qy (fun a b=>(aDE ..).trans (aAY ..))
def ags:=aN []
def TO:FD:=aJ tP ags Tryz.f24
def agt:=bR [] []
def agu:RC:=⟨true,NJ,[]⟩
theorem aDG c d e g h i j l m n {α:Type} (K:SV->ar->Option α):ai (ao [] []) agt agu TO (qA.svs ()) (xn.mem ((c,d,e,()),g,h,i,j,l,m,n,())) K=qB c d e g h i j l m n (fun r=>aj Fh r K):=by kernel_rfl
def XO:bu:=⟨qA,xn,CQ,pT⟩
theorem aDH:al tP TO [] []:=bC aB trivial trivial
theorem awi:aF tP ags 24 Tryz.f24 TO:=cf
def awj:bu:=⟨qA,xn,Fh,adi⟩
theorem am7:aq tP 24 awj:=ay aDH (byRef:=agt) awi agu qA xn Fh (fun a b=>(aDG ..).trans (aAZ ..))
theorem Tp:aq tP 24 XO:=bE am7 (by rfl) abb
def agv:=aN []
def TP:FD:=aJ tP agv Tryz.f26
def agw:=bR [] []
def agx:RC:=⟨true,NJ,[]⟩
theorem aDI c d e g h i j l m n {α:Type} (K:SV->ar->Option α):ai (ao [] []) agw agx TP (qC.svs ()) (xp.mem ((c,d,e,()),g,h,i,j,l,m,n,())) K=qD c d e g h i j l m n (fun r=>aj Fi r K):=by kernel_rfl
def XQ:bu:=⟨qC,xp,CR,pV⟩
theorem aDJ:al tP TP [] []:=bC aB trivial trivial
theorem awk:aF tP agv 26 Tryz.f26 TP:=cf
def awl:bu:=⟨qC,xp,Fi,adj⟩
theorem am8:aq tP 26 awl:=ay aDJ (byRef:=agw) awk agx qC xp Fi (fun a b=>(aDI ..).trans (aA0 ..))
theorem Tr:aq tP 26 XQ:=bE am8 (by rfl) abc
def agy:=aN []
def TQ:FD:=aJ tP agy Tryz.f83
def agz:=bR [] []
def agA:RC:=⟨false,NJ,[]⟩
theorem aDK c d e g h i j l m n {α:Type} (K:SV->ar->Option α):ai (ao [] []) agz agA TQ (vo.svs ()) (Ak.mem ((c,d,e,()),g,h,i,j,l,m,n,())) K=qE c d e g h i j l m n (fun r=>aj vq r K):=by kernel_rfl
def X0:bu:=⟨vo,Ak,vq,dl⟩
theorem aDL:al tP TQ [] []:=bC aB trivial trivial
theorem awm:aF tP agy 83 Tryz.f83 TQ:=cf
theorem TS:aq tP 83 X0:=ay aDL (byRef:=agz) awm agA vo Ak vq (fun a b=>(aDK ..).trans (aA1 ..))
def agB:=aN []
def TT:FD:=aJ tP agB Tryz.f100
def agC:=bR [83] [(83,lK)]
def agD:RC:=⟨false,NJ,[]⟩
theorem aDM (dl) c d e g h i j l m n o {α:Type} (K:SV->ar->Option α):ai (ao [(83,⟨vo,Ak,vq,dl⟩)] []) agC agD TT (yF.svs (c,())) (CS.mem ((d,e,g,()),h,i,j,l,m,n,o,())) K=qF dl c d e g h i j l m n o (fun r=>aj yG r K):=by kernel_rfl
def agE:bu:=⟨yF,CS,yG,gS⟩
theorem aDN:al tP TT [(83,X0)] []:=bC aB ⟨TS,trivial⟩ trivial
theorem awn:aF tP agB 100 Tryz.f100 TT:=cf
theorem agF:aq tP 100 agE:=ay aDN (byRef:=agC) awn agD yF CS yG (fun a b=>(aDM ..).trans (aA2 ..))
def agG:=aN []
def TU:FD:=aJ tP agG Tryz.f22
def agH:=bR [] []
def agI:RC:=⟨false,lK,[]⟩
theorem aDO c d e g h i j l m n o {α:Type} (K:SV->ar->Option α):ai (ao [] []) agH agI TU (kb.svs (c,())) (oV.mem ((d,e,g,()),h,i,j,l,m,n,o,())) K=qG c d e g h i j l m n o (fun r=>aj kc r K):=by kernel_rfl
def I4:bu:=⟨kb,oV,kc,bN⟩
theorem aDP:al tP TU [] []:=bC aB trivial trivial
theorem awo:aF tP agG 22 Tryz.f22 TU:=cf
theorem Fx:aq tP 22 I4:=ay aDP (byRef:=agH) awo agI kb oV kc (fun a b=>(aDO ..).trans (aA3 ..))
end
noncomputable section
def ag6:=aN []
def TZ:FD:=aJ tP ag6 Tryz.f66
def ag7:=bR [100] [(100,lK)]
def ag8:RC:=⟨false,NJ,[]⟩
theorem aD2 (gS) c d e g h i j l m n o {α:Type} (K:SV->ar->Option α):ai (ao [(100,⟨yF,CS,yG,gS⟩)] []) ag7 ag8 TZ (nG.svs (c,())) (tC.mem ((d,e,g,()),h,i,j,l,m,n,o,())) K=qW gS c d e g h i j l m n o (fun r=>aj nH r K):=by kernel_rfl
def K9:bu:=⟨nG,tC,nH,dI⟩
theorem aD3:al tP TZ [(100,agE)] []:=bC aB ⟨agF,trivial⟩ trivial
theorem aww:aF tP ag6 66 Tryz.f66 TZ:=cf
theorem I9:aq tP 66 K9:=ay aD3 (byRef:=ag7) aww ag8 nG tC nH (fun a b=>(aD2 ..).trans (aBe ..))
def ag9:=aN []
def T0:FD:=aJ tP ag9 Tryz.f102
def aha:=bR [100] [(100,lK)]
def ahb:RC:=⟨false,NJ,[]⟩
theorem aD4 (be gS) c d e g h i j l m n o p {α:Type} (K:SV->ar->Option α):ai (ao [(111,⟨mP,sC,mQ,be⟩),(100,⟨yF,CS,yG,gS⟩)] []) aha ahb T0 (uM.svs (c,d,())) (zY.mem ((e,g,h,()),i,j,l,m,n,o,p,())) K=qX be gS c d e g h i j l m n o p (fun r=>aj uN r K):=by kernel_rfl
def asR:bu:=⟨uM,zY,uN,gh⟩
theorem aD5:al tP T0 [(111,Ja),(100,agE)] []:=bC aB ⟨Im,agF,trivial⟩ trivial
theorem awx:aF tP ag9 102 Tryz.f102 T0:=cf
theorem awy:aq tP 102 asR:=ay aD5 (byRef:=aha) awx ahb uM zY uN (fun a b=>(aD4 ..).trans (aBg ..))
def ahc:=aN []
def T1:FD:=aJ tP ahc Tryz.f110
def L9:=bR [102] [(102,lK)]
def ahd:RC:=⟨false,NJ,[]⟩
theorem aD6 (gh) c d e g h i j l m n o p q {α:Type} (K:SV->ar->Option α):ai (ao [(102,⟨uM,zY,uN,gh⟩)] []) L9 ahd T1 (yL.svs (c,d,e,())) (CX.mem ((g,h,i,()),j,l,m,n,o,p,q,())) K=qY gh c d e g h i j l m n o p q (fun r=>aj yM r K):=by kernel_rfl
def ag4:bu:=⟨yL,CX,yM,nF⟩
theorem apc:al tP T1 [(102,asR)] []:=bC aB ⟨awy,trivial⟩ trivial
theorem awz:aF tP ahc 110 Tryz.f110 T1:=cf
theorem ag5:aq tP 110 ag4:=ay apc (byRef:=L9) awz ahd yL CX yM (fun a b=>(aD6 ..).trans (aBh ..))
end
noncomputable section
def Ou:=aN [(2,⟨2,[0,3],[(.slot 3,503,5,.cons (.int .u8) .nil)],[0,3,5,6,7,8,9,10,11,12,13,14,15],[0,3]⟩)]
def F7:FD:=aJ tP Ou Tryz.f104
def Ov:=bR [] []
def ajL:RC:=⟨true,[],[]⟩
theorem ajM (c:Int) (d:List Int) {α:Type} (kn:St->Option α) (K:iW->St->Option α):round (ao [] []) Ov (Ou 2) (F7.loop 2) kn ⟨n8.svs (c,()),si.mem (d,())⟩ K=cm c d (fun a b=>kn ⟨n8.svs a,si.mem b⟩) (fun r=>aR tZ r K):=by kernel_rfl
def YM:cc:=⟨n8,si,tZ,ga⟩
theorem ajN:al tP F7 [] []:=bC aB trivial trivial
theorem abR:bK tP (F7.loop 2) YM:=ce ajN (byRef:=Ov) (lan:=Ou 2) (id:=2) n8 si tZ (fun a b=>(ajM ..).trans (Q1 ..))
theorem aFD (ga:lg->lh->Option sj) c {α:Type} (K:SV->ar->Option α):ai (ao [] [(2,⟨n8,si,tZ,ga⟩)]) Ov ajL F7 (la.svs (c,())) (o3.mem ()) K=n9 ga c (fun r=>aj lc r K):=by kernel_rfl
def Jd:bu:=⟨la,o3,lc,bj⟩
theorem aFE:al tP F7 [] [(2,YM)]:=bC aB trivial ⟨abR,trivial⟩
theorem ax3:aF tP Ou 104 Tryz.f104 F7:=cf
theorem FQ:aq tP 104 Jd:=ay aFE (byRef:=Ov) ax3 ajL la o3 lc (fun a b=>(aFD ..).trans (aCr ..))
def ajO:=aN []
def UJ:FD:=aJ tP ajO Tryz.f128
def ajP:=bR [] []
def ajQ:RC:=⟨true,[],[]⟩
theorem aFF (bj) c {α:Type} (K:SV->ar->Option α):ai (ao [(104,⟨la,o3,lc,bj⟩)] []) ajP ajQ UJ (DL.svs (c,())) (Ic.mem ()) K=sk bj c (fun r=>aj DM r K):=by kernel_rfl
def atc:bu:=⟨DL,Ic,DM,wt⟩
theorem aFG:al tP UJ [(104,Jd)] []:=bC aB ⟨FQ,trivial⟩ trivial
theorem ax4:aF tP ajO 128 Tryz.f128 UJ:=cf
theorem axQ:aq tP 128 atc:=ay aFG (byRef:=ajP) ax4 ajQ DL Ic DM (fun a b=>(aFF ..).trans (aCs ..))
def Ow:=aN [(4,⟨4,[0,5,6,7],[],[2,3,4,5,6,7,8,9,10,11,12,13,14,15,16,17,18,19,20,21,22,23,24,25,26,27,28,29,30,31,32,33,34,35,36,37,38,39,40,41,42,43,44],[2,3,4]⟩)]
def F8:FD:=aJ tP Ow Tryz.f78
def Ox:=bR [] []
def ajR:RC:=⟨true,[],[]⟩
theorem ajS (bj) (c:ByteArray) (d:Int) (e:Int) (g:Int) {α:Type} (kn:St->Option α) (K:iW->St->Option α):round (ao [(104,⟨la,o3,lc,bj⟩)] []) Ox (Ow 4) (F8.loop 4) kn ⟨oa.svs (c,d,e,g,()),sq.mem ()⟩ K=fU bj c d e g (fun a b=>kn ⟨oa.svs a,sq.mem b⟩) (fun r=>aR t7 r K):=by kernel_rfl
def YN:cc:=⟨oa,sq,t7,gO⟩
theorem ajT:al tP F8 [(104,Jd)] []:=bC aB ⟨FQ,trivial⟩ trivial
theorem abS:bK tP (F8.loop 4) YN:=ce ajT (byRef:=Ox) (lan:=Ow 4) (id:=4) oa sq t7 (fun a b=>(ajS ..).trans (Q2 ..))
theorem aFH (bj) (gO:li->lj->Option sr) c {α:Type} (K:SV->ar->Option α):ai (ao [(104,⟨la,o3,lc,bj⟩)] [(4,⟨oa,sq,t7,gO⟩)]) Ox ajR F8 (sm.svs (c,())) (xw.mem ()) K=ss gO c (fun r=>aj sn r K):=by kernel_rfl
def Rh:bu:=⟨sm,xw,sn,cv⟩
theorem aFI:al tP F8 [(104,Jd)] [(4,YN)]:=bC aB ⟨FQ,trivial⟩ ⟨abS,trivial⟩
theorem ax5:aF tP Ow 78 Tryz.f78 F8:=cf
theorem Om:aq tP 78 Rh:=ay aFI (byRef:=Ox) ax5 ajR sm xw sn (fun a b=>(aFH ..).trans (aCt ..))
def ajU:=aN []
def UK:FD:=aJ tP ajU Tryz.f115
def ajV:=bR [] []
def ajW:RC:=⟨true,[],[]⟩
theorem aFJ (cv) c d {α:Type} (K:SV->ar->Option α):ai (ao [(78,⟨sm,xw,sn,cv⟩)] []) ajV ajW UK (DN.svs (c,d,())) (Id.mem ()) K=su cv c d (fun r=>aj DO r K):=by kernel_rfl
def atf:bu:=⟨DN,Id,DO,ww⟩
theorem aFK:al tP UK [(78,Rh)] []:=bC aB ⟨Om,trivial⟩ trivial
theorem ax6:aF tP ajU 115 Tryz.f115 UK:=cf
theorem axU:aq tP 115 atf:=ay aFK (byRef:=ajV) ax6 ajW DN Id DO (fun a b=>(aFJ ..).trans (aCu ..))
def Oy:=aN [(2,⟨2,[0,1,7],[(.slot 7,507,38,.cons (.int .u64) .nil)],[0,4,5,6,7,8,9,10,12,13,14,15,16,17,18,19,20,21,22,23,24,25,26,27,28],[0,4,5,6,7]⟩)]
def F9:FD:=aJ tP Oy Tryz.f114
def Oz:=bR [] []
def ajX:RC:=⟨true,[],[]⟩
theorem ajY (cv) (c:ByteArray) (d:Int) (e:List Int) {α:Type} (kn:St->Option α) (K:iW->St->Option α):round (ao [(78,⟨sm,xw,sn,cv⟩)] []) Oz (Oy 2) (F9.loop 2) kn ⟨oc.svs (c,d,()),sw.mem (e,())⟩ K=e9 cv c d e (fun a b=>kn ⟨oc.svs a,sw.mem b⟩) (fun r=>aR t8 r K):=by kernel_rfl
def YO:cc:=⟨oc,sw,t8,gb⟩
theorem ajZ:al tP F9 [(78,Rh)] []:=bC aB ⟨Om,trivial⟩ trivial
theorem abT:bK tP (F9.loop 2) YO:=ce ajZ (byRef:=Oz) (lan:=Oy 2) (id:=2) oc sw t8 (fun a b=>(ajY ..).trans (Q3 ..))
theorem aFL (cv) (gb:ll->lm->Option sx) c d {α:Type} (K:SV->ar->Option α):ai (ao [(78,⟨sm,xw,sn,cv⟩)] [(2,⟨oc,sw,t8,gb⟩)]) Oz ajX F9 (DP.svs (c,d,())) (Ie.mem ()) K=sy gb c d (fun r=>aj DQ r K):=by kernel_rfl
def ate:bu:=⟨DP,Ie,DQ,wv⟩
theorem aFM:al tP F9 [(78,Rh)] [(2,YO)]:=bC aB ⟨Om,trivial⟩ ⟨abT,trivial⟩
theorem ax7:aF tP Oy 114 Tryz.f114 F9:=cf
theorem axT:aq tP 114 ate:=ay aFM (byRef:=Oz) ax7 ajX DP Ie DQ (fun a b=>(aFL ..).trans (aCv ..))
end
end Go.Proofs.YtljfdfghagiblaaGreat.S2