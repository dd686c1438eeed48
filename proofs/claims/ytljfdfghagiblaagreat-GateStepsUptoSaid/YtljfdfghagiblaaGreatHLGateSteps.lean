/- The program's functions come to their plain forms,by program. -/
import Derived.Test.YtljfdfghagiblaaGreatGrgate
import Derived.Test.YtljfdfghagiblaaGreatHrseal
import Derived.Test.YtljfdfghagiblaaGreatHr06
import Derived.Test.YtljfdfghagiblaaGreatGLGateSteps
set_option maxRecDepth 100000
set_option maxHeartbeats 0
namespace Go.Proofs.YtljfdfghagiblaaGreat.S2
open Go
noncomputable section
def aij:=aN []
def Ud:FD:=aJ tP aij Tryz.f42
def aik:=bR [50] [(50,o8)]
def ail:RC:=⟨true,Ue,[]⟩
theorem aEJ (a7 br) c d e g h i j l m n o {α:Type} (K:SV->ar->Option α):ai (ao [(50,⟨gZ,kY,nZ,a7⟩),(69,⟨gn,jo,gp,br⟩)] []) aik ail Ud (rH.svs (c,())) (xv.mem ((d,e,g,()),(h,()),(i,()),j,l,m,n,o,())) K=nU a7 br c d e g h i j l m n o (fun r=>aj Fp r K):=by kernel_rfl
def Yh:bu:=⟨rH,xv,Dd,el⟩
theorem aEK:al tP Ud [(50,GU),(69,BO)] []:=bC aB ⟨B5,xA,trivial⟩ trivial
theorem aw3:aF tP aij 42 Tryz.f42 Ud:=cf
def aw4:bu:=⟨rH,xv,Fp,W0⟩
theorem anh:aq tP 42 aw4:=ay aEK (byRef:=aik) aw3 ail rH xv Fp (fun a b=>(aEJ ..).trans (aBG ..))
theorem Uf:aq tP 42 Yh:=bE anh (by rfl) abj
def Yi:=aN []
def N9:FD:=aJ tP Yi Tryz.f57
def Yj:=bR [50] [(50,o8)]
def Yk:RC:=⟨true,Ue,[]⟩
theorem aw5 (a7) c d e g h i j l m n {α:Type} (K:SV->ar->Option α):ai (ao [(50,⟨gZ,kY,nZ,a7⟩)] []) Yj Yk N9 (po.svs ()) (vI.mem ((c,d,e,()),(g,()),(h,()),i,j,l,m,n,())) K=jN a7 c d e g h i j l m n (fun r=>aj B0 r K):=by kernel_rfl
def Ug:bu:=⟨po,vI,Fq,fr⟩
theorem aw6:al tP N9 [(50,GU)] []:=bC aB ⟨B5,trivial⟩ trivial
theorem ani:aF tP Yi 57 Tryz.f57 N9:=cf
def anj:bu:=⟨po,vI,B0,MA⟩
theorem aim:aq tP 57 anj:=ay aw6 (byRef:=Yj) ani Yk po vI B0 (fun a b=>(aw5 ..).trans (auq ..))
theorem Ym:aq tP 57 Ug:=bE aim (by rfl) S5
def Yn:=aN []
def Oa:FD:=aJ tP Yn Tryz.f58
def Yo:=bR [92] [(92,o8)]
def Yp:RC:=⟨false,Ue,[(3,2,7)]⟩
theorem aw7 (vL) c d e g h i j l m n o {α:Type} (K:SV->ar->Option α):ai (ao [(92,⟨DJ,Ib,DK,vL⟩)] []) Yo Yp Oa (vJ.svs (c,())) (yU.mem ((d,e,g,()),(h,()),(i,()),j,l,m,n,o,())) K=pp vL c d e g h i j l m n o (fun r=>aj vK r K):=by kernel_rfl
def Uh:bu:=⟨vJ,yU,vK,dA⟩
theorem aw8:al tP Oa [(92,asX)] []:=bC aB ⟨aw9,trivial⟩ trivial
theorem ank:aF tP Yn 58 Tryz.f58 Oa:=cf
theorem Yq:aq tP 58 Uh:=ay aw8 (byRef:=Yo) ank Yp vJ yU vK (fun a b=>(aw7 ..).trans (aur ..))
def ain:=aN []
def Ui:FD:=aJ tP ain Tryz.f17
def aio:=bR [57,58] []
def aip:RC:=⟨false,Ue,[(3,2,7)]⟩
theorem aEL (fr dA) c d e g h i j l m n {α:Type} (K:SV->ar->Option α):ai (ao [(57,⟨po,vI,Fq,fr⟩),(58,⟨vJ,yU,vK,dA⟩)] []) aio aip Ui (vM.svs ()) (As.mem ((c,d,e,()),(g,()),(h,()),i,j,l,m,n,())) K=vO fr dA c d e g h i j l m n (fun r=>aj vN r K):=by kernel_rfl
def XL:bu:=⟨vM,As,vN,jG⟩
theorem aEM:al tP Ui [(57,Ug),(58,Uh)] []:=bC aB ⟨Ym,Yq,trivial⟩ trivial
theorem axa:aF tP ain 17 Tryz.f17 Ui:=cf
theorem Tm:aq tP 17 XL:=ay aEM (byRef:=aio) axa aip vM As vN (fun a b=>(aEL ..).trans (aBI ..))
def Oc:=aN [(2,⟨2,[0,1,5,8],[(.cell 1 2,700,38,.cons (.int .u64) .nil)],[8,11,12,13,14,15,16,17,18,19,20,21,22,23,24,25,26,27],[0,1,5]⟩)]
def FZ:FD:=aJ tP Oc Tryz.f59
def Od:=bR [23,89] [(23,Ed),(89,Ed)]
def aiq:RC:=⟨false,air,[(3,1,4),(3,2,5)]⟩
theorem ais (bI gY br gr) (c:Int) (d:Int) (e:Int) (g:Int) (h:Int) (i:Int) (j:Int) (l:List Int) (m:List (Int×Int×Int×ByteArray×ByteArray×Int)) (n:Yb) (o:List (Int×Int×ByteArray×List Int)) (p:List Int) (q:ByteArray) (s:List Int) {α:Type} (kn:St->Option α) (K:iW->St->Option α):round (ao [(23,⟨ji,nf,jj,bI⟩),(44,⟨wj,Ax,wk,gY⟩),(69,⟨gn,jo,gp,br⟩),(89,⟨vC,Ap,vD,gr⟩)] []) Od (Oc 2) (FZ.loop 2) kn ⟨nV.svs (c,d,()),rI.mem ((e,g,h,()),(i,()),(j,()),l,m,(),n,o,p,(q,s,()),())⟩ K=eX bI c d e g h i j l m n o p q s (fun a b=>kn ⟨nV.svs a,rI.mem b⟩) (fun r=>aR tQ r K):=by kernel_rfl
def Yr:cc:=⟨nV,rI,tQ,iB⟩
theorem ait:al tP FZ [(23,GT),(44,Ys),(69,BO),(89,Ya)] []:=bC aB ⟨B4,Uj,xA,Ub,trivial⟩ trivial
theorem abN:bK tP (FZ.loop 2) Yr:=ce ait (byRef:=Od) (lan:=Oc 2) (id:=2) nV rI tQ (fun a b=>(ais ..).trans (QR ..))
theorem aEN (bI gY br gr) (iB:kP->jg->Option rJ) c d e g h i j l m n o p q {α:Type} (K:SV->ar->Option α):ai (ao [(23,⟨ji,nf,jj,bI⟩),(44,⟨wj,Ax,wk,gY⟩),(69,⟨gn,jo,gp,br⟩),(89,⟨vC,Ap,vD,gr⟩)] [(2,⟨nV,rI,tQ,iB⟩)]) Od aiq FZ (yV.svs (c,(d,e,()),())) (De.mem ((g,h,i,()),(j,()),(l,()),m,n,o,p,q,())) K=vP bI gY br gr iB c d e g h i j l m n o p q (fun r=>aj yW r K):=by kernel_rfl
def aiu:bu:=⟨yV,De,yW,jh⟩
theorem aEO:al tP FZ [(23,GT),(44,Ys),(69,BO),(89,Ya)] [(2,Yr)]:=bC aB ⟨B4,Uj,xA,Ub,trivial⟩ ⟨abN,trivial⟩
theorem axb:aF tP Oc 59 Tryz.f59 FZ:=cf
theorem aiv:aq tP 59 aiu:=ay aEO (byRef:=Od) axb aiq yV De yW (fun a b=>(aEN ..).trans (aBJ ..))
def Yu:=aN []
def Oe:FD:=aJ tP Yu Tryz.f43
def Yv:=bR [50,59] [(50,o8)]
def Yw:RC:=⟨false,Ue,[(2,1,4),(2,2,5)]⟩
theorem axc (a7 jh) c d e g h i j l m n o p q {α:Type} (K:SV->ar->Option α):ai (ao [(50,⟨gZ,kY,nZ,a7⟩),(59,⟨yV,De,yW,jh⟩)] []) Yv Yw Oe (pq.svs (c,(d,e,()),())) (vQ.mem ((g,h,i,()),(j,()),(l,()),m,n,o,p,q,())) K=pu a7 jh c d e g h i j l m n o p q (fun r=>aj pt r K):=by kernel_rfl
def Of:bu:=⟨pq,vQ,pt,ct⟩
theorem axd:al tP Oe [(50,GU),(59,aiu)] []:=bC aB ⟨B5,aiv,trivial⟩ trivial
theorem anl:aF tP Yu 43 Tryz.f43 Oe:=cf
theorem Og:aq tP 43 Of:=ay axd (byRef:=Yv) anl Yw pq vQ pt (fun a b=>(axc ..).trans (aus ..))
def aiw:=aN []
def Uk:FD:=aJ tP aiw Tryz.f11
def aix:=bR [42,43,45] [(45,Ed)]
def aiy:RC:=⟨false,air,[(3,1,4),(3,2,5)]⟩
theorem aEP (el ct gY xZ) c d e g h i j l m n o p q {α:Type} (K:SV->ar->Option α):ai (ao [(42,⟨rH,xv,Dd,el⟩),(43,⟨pq,vQ,pt,ct⟩),(44,⟨wj,Ax,wk,gY⟩),(45,⟨Dp,H2,Dq,xZ⟩)] []) aix aiy Uk (vR.svs (c,(d,e,()),())) (At.mem ((g,h,i,()),(j,()),(l,()),m,n,o,p,q,())) K=vT el ct gY xZ c d e g h i j l m n o p q (fun r=>aj vS r K):=by kernel_rfl
def XJ:bu:=⟨vR,At,vS,jE⟩
theorem aEQ:al tP Uk [(42,Yh),(43,Of),(44,Ys),(45,asY)] []:=bC aB ⟨Uf,Og,Uj,axe,trivial⟩ trivial
theorem axf:aF tP aiw 11 Tryz.f11 Uk:=cf
theorem Tk:aq tP 11 XJ:=ay aEQ (byRef:=aix) axf aiy vR At vS (fun a b=>(aEP ..).trans (aBL ..))
def Yx:=aN []
def Oh:FD:=aJ tP Yx Tryz.f52
def Yy:=bR [89,90] [(89,Ed),(90,o8)]
def Yz:RC:=⟨false,air,[(3,1,4),(4,2,7)]⟩
theorem axg (gr vW) c d e g h i j l m n o p q s {α:Type} (K:SV->ar->Option α):ai (ao [(89,⟨vC,Ap,vD,gr⟩),(90,⟨DH,Ia,DI,vW⟩)] []) Yy Yz Oh (vU.svs (c,(d,e,()),g,())) (yX.mem ((h,i,j,()),(l,()),(m,()),n,o,p,q,s,())) K=pv gr vW c d e g h i j l m n o p q s (fun r=>aj vV r K):=by kernel_rfl
def Ul:bu:=⟨vU,yX,vV,ft⟩
theorem axh:al tP Oh [(89,Ya),(90,asZ)] []:=bC aB ⟨Ub,axi,trivial⟩ trivial
theorem anm:aF tP Yx 52 Tryz.f52 Oh:=cf
theorem YA:aq tP 52 Ul:=ay axh (byRef:=Yy) anm Yz vU yX vV (fun a b=>(axg ..).trans (aut ..))
def YB:=aN []
def Oi:FD:=aJ tP YB Tryz.f13
def YC:=bR [42,43,50,51,52] [(50,o8),(51,Ed)]
def YD:RC:=⟨false,air,[(3,1,4),(3,2,5),(4,2,7)]⟩
theorem axj (el ct a7 ya yb ft) c d e g h i j l m n o p q s t {α:Type} (K:SV->ar->Option α):ai (ao [(42,⟨rH,xv,Dd,el⟩),(43,⟨pq,vQ,pt,ct⟩),(50,⟨gZ,kY,nZ,a7⟩),(51,⟨Dn,H1,Do,ya⟩),(53,⟨Dl,H0,Dm,yb⟩),(52,⟨vU,yX,vV,ft⟩)] []) YC YD Oi (pw.svs (c,d,e,(g,h,()),())) (vX.mem ((i,j,l,()),(m,()),(n,()),o,p,q,s,t,())) K=py el ct a7 ya yb ft c d e g h i j l m n o p q s t (fun r=>aj px r K):=by kernel_rfl
def Nh:bu:=⟨pw,vX,px,fL⟩
theorem axk:al tP Oi [(42,Yh),(43,Of),(50,GU),(51,as0),(53,as1),(52,Ul)] []:=bC aB ⟨Uf,Og,B5,axl,axm,YA,trivial⟩ trivial
theorem ann:aF tP YB 13 Tryz.f13 Oi:=cf
theorem Nn:aq tP 13 Nh:=ay axk (byRef:=YC) ann YD pw vX px (fun a b=>(axj ..).trans (auu ..))
def YE:=aN []
def Oj:FD:=aJ tP YE Tryz.f15
def YF:=bR [42,43,52] []
def YG:RC:=⟨false,Ue,[(2,1,4),(2,2,5),(3,2,7)]⟩
theorem axn (el ct ft) c d e g h i j l m n o p q {α:Type} (K:SV->ar->Option α):ai (ao [(42,⟨rH,xv,Dd,el⟩),(43,⟨pq,vQ,pt,ct⟩),(52,⟨vU,yX,vV,ft⟩)] []) YF YG Oj (pA.svs (c,(d,e,()),())) (vY.mem ((g,h,i,()),(j,()),(l,()),m,n,o,p,q,())) K=pC el ct ft c d e g h i j l m n o p q (fun r=>aj pB r K):=by kernel_rfl
def Ni:bu:=⟨pA,vY,pB,fM⟩
theorem axo:al tP Oj [(42,Yh),(43,Of),(52,Ul)] []:=bC aB ⟨Uf,Og,YA,trivial⟩ trivial
theorem ano:aF tP YE 15 Tryz.f15 Oj:=cf
theorem No:aq tP 15 Ni:=ay axo (byRef:=YF) ano YG pA vY pB (fun a b=>(axn ..).trans (auv ..))
def aiz:=aN []
def Um:FD:=aJ tP aiz Tryz.f9
def aiA:=bR [36,37] [(36,Ed),(37,o8)]
def aiB:RC:=⟨false,Ue,[(2,1,4),(3,2,7)]⟩
theorem aER (xY tR) c d e g h i j l m n {α:Type} (K:SV->ar->Option α):ai (ao [(36,⟨C7,HS,C8,xY⟩),(37,⟨DF,H9,DG,tR⟩)] []) aiA aiB Um (vZ.svs ()) (Au.mem ((c,d,e,()),(g,()),(h,()),i,j,l,m,n,())) K=v7 xY tR c d e g h i j l m n (fun r=>aj v6 r K):=by kernel_rfl
def XI:bu:=⟨vZ,Au,v6,nn⟩
theorem aES:al tP Um [(36,asU),(37,as2)] []:=bC aB ⟨awT,axp,trivial⟩ trivial
theorem axq:aF tP aiz 9 Tryz.f9 Um:=cf
theorem Tj:aq tP 9 XI:=ay aES (byRef:=aiA) axq aiB vZ Au v6 (fun a b=>(aER ..).trans (aBQ ..))
def aiC:=aN []
def Un:FD:=aJ tP aiC Tryz.f19
def aiD:=bR [50,57,58,59] [(50,o8)]
def aiE:RC:=⟨false,air,[(3,1,4),(3,2,5),(4,2,7)]⟩
theorem aET (fr a7 jh dA) c d e g h i j l m n o p {α:Type} (K:SV->ar->Option α):ai (ao [(57,⟨po,vI,Fq,fr⟩),(50,⟨gZ,kY,nZ,a7⟩),(59,⟨yV,De,yW,jh⟩),(58,⟨vJ,yU,vK,dA⟩)] []) aiD aiE Un (v8.svs ((c,d,()),())) (Av.mem ((e,g,h,()),(i,()),(j,()),l,m,n,o,p,())) K=wb fr a7 jh dA c d e g h i j l m n o p (fun r=>aj wa r K):=by kernel_rfl
def XN:bu:=⟨v8,Av,wa,jI⟩
theorem aEU:al tP Un [(57,Ug),(50,GU),(59,aiu),(58,Uh)] []:=bC aB ⟨Ym,B5,aiv,Yq,trivial⟩ trivial
theorem axr:aF tP aiC 19 Tryz.f19 Un:=cf
theorem To:aq tP 19 XN:=ay aEU (byRef:=aiD) axr aiE v8 Av wa (fun a b=>(aET ..).trans (aBR ..))
end
noncomputable section
def Fv:=aN [(100044,⟨100044,[2,7,8,9,10,11,13,15,16,17,20],[(.cell 2089 9,710,9,.cons .str .nil),(.cell 2283 2,712,151,.cons (.int .i64) Fj),(.cell 2153 2,713,38,.cons (.int .u64) .nil),(.cell 2153 1,714,153,.cons (.int .i64) qq9),(.cell 2921 2,715,117,.cons (.int .i64) qq7)],[],[2,6,7,8,9,10,11,13,15,16,17]⟩),(13,⟨13,[2,7,8,9,10,11,13,15,16,17],[(.cell 2089 9,700,9,.cons .str .nil),(.cell 2283 2,702,151,.cons (.int .i64) Fj),(.cell 2153 2,703,38,.cons (.int .u64) .nil),(.cell 2153 1,704,153,.cons (.int .i64) qq9),(.cell 2921 2,705,117,.cons (.int .i64) qq7)],[6,16,17,18,19,20,21,22,23,24,25,26,27,28,29,30,31,32,71,72,73,74,75,76,77,78,79,80,81,82,83,84,85,86,87,88,89,90,91,92,93,94,95,96,97,98,99,100,101,102,103,104,105,106,107,108,109,110,111,112,113,114,115,116,117,118,119,120,121,122,123,124,125,126,127,128,129,130,131,132,133,134,135,136,137,138,139,140,141,142,143,144,145,146,147,148,149,150,151,152,153,154,155,156,157,158,159,160,161,162,163,164,165,166,167,168,169,170,171,172,173,174,175,176,177,178,179,180,181,182,183,184,185,186,187,188,189,190,191,192,193,194,195,196,197,198,199,200,201,202,203,204,205,206,207,208,209,210,211,212,213,214,215,216,217,218,219,220,221,222,223,224,225,226,227,228,229,230,231,232,233,234,235,236],[6]⟩)]
def xx:FD:=aJ tP Fv Tryz.f3
def Fw:=bR [6,9,10,11,12,13,14,15,16,17,18,19,20,21,22,23,24,25,26,27] [(6,lK),(20,sD),(21,o8),(22,lK),(23,Ed),(24,lK),(25,Ed),(26,lK),(27,Ed)]
def aeV:RC:=⟨true,[],[]⟩
theorem KI (gj oI eF nm lM nn dk jE eD fL jF fM eE jG jH jI uP da bN bI pT pU pV pW) (c:List (Int×Int×Int×Int×Int×ByteArray×ByteArray×List Int×List Int)) (d:ByteArray) (e:Int) (g:Bool) (h:Yb) (i:Y6) (j:List Int) (l:List (Int×Int×Int×ByteArray×ByteArray×Int)) (m:List (Int×Int×ByteArray×List Int)) (n:Int) (o:Int) (p:Int) (q:Int) (s:Int) (t:ByteArray) (v:ByteArray) (w:List Int) (y:List Int) (z:ByteArray) (C:List Int) (D:List Int) (E:Int) (G:Bool) (H:Y1) (I:Y1) (J:Y2) (L:Y3) (M:Y4) (N:Y5) (P:Int) (Q:List Int) (R:Int) (S:Int) (T:Int) (V:Int) (W:Yb) (X:Int) (Z:Yb) (U:Int) (x40:Int) (x41:Int) {α:Type} (K:iW->St->Option α):piece (ao [(4,⟨qx,xl,qy,gj⟩),(5,⟨vw,Am,vz,oI⟩),(6,⟨qH,xq,qI,eF⟩),(7,⟨vr,Al,vt,nm⟩),(8,⟨vF,Ar,vG,lM⟩),(9,⟨vZ,Au,v6,nn⟩),(10,⟨qr,xj,qt,dk⟩),(11,⟨vR,At,vS,jE⟩),(12,⟨qv,xk,qw,eD⟩),(13,⟨pw,vX,px,fL⟩),(14,⟨ve,Ah,vf,jF⟩),(15,⟨pA,vY,pB,fM⟩),(16,⟨ql,xh,qm,eE⟩),(17,⟨vM,As,vN,jG⟩),(18,⟨vj,Ai,vl,jH⟩),(19,⟨v8,Av,wa,jI⟩),(20,⟨Ae,Fd,Af,uP⟩),(21,⟨nQ,tM,nR,da⟩),(22,⟨kb,oV,kc,bN⟩),(23,⟨ji,nf,jj,bI⟩),(24,⟨qA,xn,CQ,pT⟩),(25,⟨q0,xt,CY,pU⟩),(26,⟨qC,xp,CR,pV⟩),(27,⟨q8,xu,CZ,pW⟩)] []) Fw (Fv 100044) (xx.loop 100044) ⟨fJ.svs (c,d,e,g,()),gi.mem (h,i,j,l,m,(n,o,p,q,s,t,v,w,y,()),(z,C,()),(D,E,G,()),H,I,J,L,M,N,(P,()),Q,(R,S,T,()),(),(V,()),W,(X,()),Z,(U,x40,x41,()),())⟩ K=dO pT pU pV pW c d e g h i j l m n o p q s t v w y z C D E G H I J L M N P Q R S T V W X Z U x40 x41 (fun r=>aR fK r K):=by kernel_rfl
def xy:cc:=⟨fJ,gi,fK,ax⟩
theorem KJ:al tP xx [(4,Q5),(5,XF),(6,Q6),(7,XG),(8,XH),(9,XI),(10,Q7),(11,XJ),(12,Q8),(13,Nh),(14,XK),(15,Ni),(16,Q9),(17,XL),(18,XM),(19,XN),(20,amT),(21,K7),(22,I4),(23,GT),(24,XO),(25,XP),(26,XQ),(27,XR)] []:=bC aB ⟨Nj,Tg,Nk,Th,Ti,Tj,Nl,Tk,Nm,Nn,Tl,No,Np,Tm,Tn,To,aeW,I5,Fx,B4,Tp,Tq,Tr,Ts,trivial⟩ trivial
theorem zg:Fy tP (xx.loop 100044) xy:=avC KJ (byRef:=Fw) (lan:=Fv 100044) (id:=100044) fJ gi fK (fun a b=>(KI ..).trans (KG ..))
theorem abn (gj oI eF nm lM nn dk jE eD fL jF fM eE jG jH jI uP da bN bI pT pU pV pW) (ax:i5->gw->Option fl) (c:List (Int×Int×Int×Int×Int×ByteArray×ByteArray×List Int×List Int)) (d:ByteArray) (e:Int) (g:Yb) (h:Y6) (i:List Int) (j:List (Int×Int×Int×ByteArray×ByteArray×Int)) (l:List (Int×Int×ByteArray×List Int)) (m:List Int) (n:Int) (o:Bool) (p:Y1) (q:Y1) (s:Y2) (t:Y3) (v:Y4) (w:Y5) (y:Int) (z:List Int) (C:Int) (D:Int) (E:Int) (G:Int) (H:Yb) (I:Int) (J:Yb) (L:Int) (M:Int) (N:Int) {α:Type} (kn:St->Option α) (K:iW->St->Option α):round (ao [(4,⟨qx,xl,qy,gj⟩),(5,⟨vw,Am,vz,oI⟩),(6,⟨qH,xq,qI,eF⟩),(7,⟨vr,Al,vt,nm⟩),(8,⟨vF,Ar,vG,lM⟩),(9,⟨vZ,Au,v6,nn⟩),(10,⟨qr,xj,qt,dk⟩),(11,⟨vR,At,vS,jE⟩),(12,⟨qv,xk,qw,eD⟩),(13,⟨pw,vX,px,fL⟩),(14,⟨ve,Ah,vf,jF⟩),(15,⟨pA,vY,pB,fM⟩),(16,⟨ql,xh,qm,eE⟩),(17,⟨vM,As,vN,jG⟩),(18,⟨vj,Ai,vl,jH⟩),(19,⟨v8,Av,wa,jI⟩),(20,⟨Ae,Fd,Af,uP⟩),(21,⟨nQ,tM,nR,da⟩),(22,⟨kb,oV,kc,bN⟩),(23,⟨ji,nf,jj,bI⟩),(24,⟨qA,xn,CQ,pT⟩),(25,⟨q0,xt,CY,pU⟩),(26,⟨qC,xp,CR,pV⟩),(27,⟨q8,xu,CZ,pW⟩)] [(100044,⟨fJ,gi,fK,ax⟩)]) Fw (Fv 13) (xx.loop 13) kn ⟨jZ.svs (c,d,e,()),nl.mem (g,h,i,j,l,(m,n,o,()),p,q,s,t,v,w,(y,()),z,(C,D,E,()),(),(G,()),H,(I,()),J,(L,M,N,()),())⟩ K=dv dk jE eD fL jF fM eE jG jH jI uP da bN bI ax c d e g h i j l m n o p q s t v w y z C D E G H I J L M N (fun a b=>kn ⟨jZ.svs a,nl.mem b⟩) (fun r=>aR oM r K):=by kernel_rfl
def Ra:cc:=⟨jZ,nl,oM,dS⟩
theorem abo:al tP xx [(4,Q5),(5,XF),(6,Q6),(7,XG),(8,XH),(9,XI),(10,Q7),(11,XJ),(12,Q8),(13,Nh),(14,XK),(15,Ni),(16,Q9),(17,XL),(18,XM),(19,XN),(20,amT),(21,K7),(22,I4),(23,GT),(24,XO),(25,XP),(26,XQ),(27,XR)] [(100044,xy)]:=bC aB ⟨Nj,Tg,Nk,Th,Ti,Tj,Nl,Tk,Nm,Nn,Tl,No,Np,Tm,Tn,To,aeW,I5,Fx,B4,Tp,Tq,Tr,Ts,trivial⟩ ⟨zg,trivial⟩
theorem Tt:bK tP (xx.loop 13) Ra:=ce abo (byRef:=Fw) (lan:=Fv 13) (id:=13) jZ nl oM (fun a b=>(abn ..).trans (KT ..))
theorem aCA (gj oI eF nm lM nn dk jE eD fL jF fM eE jG jH jI uP da bN bI pT pU pV pW) (ax:i5->gw->Option fl) (dS:iq->gx->Option lV) c d e {α:Type} (K:SV->ar->Option α):ai (ao [(4,⟨qx,xl,qy,gj⟩),(5,⟨vw,Am,vz,oI⟩),(6,⟨qH,xq,qI,eF⟩),(7,⟨vr,Al,vt,nm⟩),(8,⟨vF,Ar,vG,lM⟩),(9,⟨vZ,Au,v6,nn⟩),(10,⟨qr,xj,qt,dk⟩),(11,⟨vR,At,vS,jE⟩),(12,⟨qv,xk,qw,eD⟩),(13,⟨pw,vX,px,fL⟩),(14,⟨ve,Ah,vf,jF⟩),(15,⟨pA,vY,pB,fM⟩),(16,⟨ql,xh,qm,eE⟩),(17,⟨vM,As,vN,jG⟩),(18,⟨vj,Ai,vl,jH⟩),(19,⟨v8,Av,wa,jI⟩),(20,⟨Ae,Fd,Af,uP⟩),(21,⟨nQ,tM,nR,da⟩),(22,⟨kb,oV,kc,bN⟩),(23,⟨ji,nf,jj,bI⟩),(24,⟨qA,xn,CQ,pT⟩),(25,⟨q0,xt,CY,pU⟩),(26,⟨qC,xp,CR,pV⟩),(27,⟨q8,xu,CZ,pW⟩)] [(100044,⟨fJ,gi,fK,ax⟩),(13,⟨jZ,nl,oM,dS⟩)]) Fw aeV xx (i4.svs (c,d,e,())) (Mb.mem ()) K=uQ gj oI eF nm lM nn dS c d e (fun r=>aj IM r K):=by kernel_rfl
def aCB:bu:=⟨i4,Mb,IM,VK⟩
theorem aCC:al tP xx [(4,Q5),(5,XF),(6,Q6),(7,XG),(8,XH),(9,XI),(10,Q7),(11,XJ),(12,Q8),(13,Nh),(14,XK),(15,Ni),(16,Q9),(17,XL),(18,XM),(19,XN),(20,amT),(21,K7),(22,I4),(23,GT),(24,XO),(25,XP),(26,XQ),(27,XR)] [(100044,xy),(13,Ra)]:=bC aB ⟨Nj,Tg,Nk,Th,Ti,Tj,Nl,Tk,Nm,Nn,Tl,No,Np,Tm,Tn,To,aeW,I5,Fx,B4,Tp,Tq,Tr,Ts,trivial⟩ ⟨zg,Tt,trivial⟩
theorem aeX:aF tP Fv 3 Tryz.f3 xx:=cf
theorem avD:aq tP 3 aCB:=ay aCC (byRef:=Fw) aeX aeV i4 Mb IM (fun a b=>(aCA ..).trans (az6 ..))
end
end Go.Proofs.YtljfdfghagiblaaGreat.S2