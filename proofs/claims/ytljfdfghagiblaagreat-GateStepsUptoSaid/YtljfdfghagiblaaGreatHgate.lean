/- The program's functions come to their plain forms,by program. -/
import Derived.Test.YtljfdfghagiblaaGreatGgate
import Derived.Test.YtljfdfghagiblaaGreatHrslot
import Derived.Test.YtljfdfghagiblaaGreatHmerkle
import Derived.Test.YtljfdfghagiblaaGreatHstore
set_option maxRecDepth 100000
set_option maxHeartbeats 0
namespace Go.Proofs.YtljfdfghagiblaaGreat.S2
open Go
noncomputable section
def afp:=aN []
def Tv:FD:=aJ tP afp Tryz.f31
def afq:=bR [] []
def afr:RC:=⟨false,[],[]⟩
theorem aDa c d e g h i j l m n o p q s t v {α:Type} (K:SV->ar->Option α):ai (ao [] []) afq afr Tv (CF.svs (c,d,e,())) (HM.mem ((g,h,i,()),(),j,l,m,n,o,p,q,(s,()),t,v,())) K=j9 c d e g h i j l m n o p q s t v (fun r=>aj CG r K):=by kernel_rfl
def asM:bu:=⟨CF,HM,CG,tt⟩
theorem aDb:al tP Tv [] []:=bC aB trivial trivial
theorem avV:aF tP afp 31 Tryz.f31 Tv:=cf
theorem avW:aq tP 31 asM:=ay aDb (byRef:=afq) avV afr CF HM CG (fun a b=>(aDa ..).trans (aAE ..))
def afs:=aN []
def Tw:FD:=aJ tP afs Tryz.f38
def aft:=bR [73] []
def afu:RC:=⟨true,Tx,[]⟩
theorem aDc (bz) c d e g h i j l m n o p q s t v w {α:Type} (K:SV->ar->Option α):ai (ao [(73,⟨jO,oe,wL,bz⟩)] []) aft afu Tw (nt.svs (c,())) (tu.mem ((d,e,g,()),(h,i,j,()),(),l,m,n,o,p,q,s,(t,()),v,w,())) K=nu bz c d e g h i j l m n o p q s t v w (fun r=>aj Fe r K):=by kernel_rfl
def Rb:bu:=⟨nt,tu,yv,cz⟩
theorem aDd:al tP Tw [(73,I8)] []:=bC aB ⟨Il,trivial⟩ trivial
theorem avX:aF tP afs 38 Tryz.f38 Tw:=cf
def avY:bu:=⟨nt,tu,Fe,V4⟩
theorem amW:aq tP 38 avY:=ay aDd (byRef:=aft) avX afu nt tu Fe (fun a b=>(aDc ..).trans (aAF ..))
theorem Nx:aq tP 38 Rb:=bE amW (by rfl) aa8
def afv:=aN []
def Ty:FD:=aJ tP afv Tryz.f55
def afw:=bR [73] []
def afx:RC:=⟨true,Tx,[]⟩
theorem aDe (bz) c d e g h i j l m n o p q s t v {α:Type} (K:SV->ar->Option α):ai (ao [(73,⟨jO,oe,wL,bz⟩)] []) afw afx Ty (uU.svs ()) (Ag.mem ((c,d,e,()),(g,h,i,()),(),j,l,m,n,o,p,q,(s,()),t,v,())) K=nv bz c d e g h i j l m n o p q s t v (fun r=>aj Ff r K):=by kernel_rfl
def afy:bu:=⟨uU,Ag,IX,i6⟩
theorem aDf:al tP Ty [(73,I8)] []:=bC aB ⟨Il,trivial⟩ trivial
theorem avZ:aF tP afv 55 Tryz.f55 Ty:=cf
def av0:bu:=⟨uU,Ag,Ff,V7⟩
theorem amX:aq tP 55 av0:=ay aDf (byRef:=afw) avZ afx uU Ag Ff (fun a b=>(aDe ..).trans (aAG ..))
theorem afz:aq tP 55 afy:=bE amX (by rfl) aa9
def afA:=aN []
def Tz:FD:=aJ tP afA Tryz.f56
def afB:=bR [91] []
def afC:RC:=⟨false,amY,[(11,2,12)]⟩
theorem aDg (oy) c d e g h i j l m n o p q s t v w {α:Type} (K:SV->ar->Option α):ai (ao [(91,⟨A4,D9,A5,oy⟩)] []) afB afC Tz (yw.svs (c,())) (CH.mem ((d,e,g,()),(h,i,j,()),(),l,m,n,o,p,q,s,(t,()),v,w,())) K=uV oy c d e g h i j l m n o p q s t v w (fun r=>aj yx r K):=by kernel_rfl
def afD:bu:=⟨yw,CH,yx,gR⟩
theorem aDh:al tP Tz [(91,afE)] []:=bC aB ⟨amZ,trivial⟩ trivial
theorem av1:aF tP afA 56 Tryz.f56 Tz:=cf
theorem afF:aq tP 56 afD:=ay aDh (byRef:=afB) av1 afC yw CH yx (fun a b=>(aDg ..).trans (aAH ..))
def afG:=aN []
def TA:FD:=aJ tP afG Tryz.f16
def afH:=bR [55,56] []
def afI:RC:=⟨false,amY,[(11,2,12)]⟩
theorem aDi (i6 gR) c d e g h i j l m n o p q s t v {α:Type} (K:SV->ar->Option α):ai (ao [(55,⟨uU,Ag,IX,i6⟩),(56,⟨yw,CH,yx,gR⟩)] []) afH afI TA (ql.svs ()) (xh.mem ((c,d,e,()),(g,h,i,()),(),j,l,m,n,o,p,q,(s,()),t,v,())) K=uW i6 gR c d e g h i j l m n o p q s t v (fun r=>aj qm r K):=by kernel_rfl
def Q9:bu:=⟨ql,xh,qm,eE⟩
theorem aDj:al tP TA [(55,afy),(56,afD)] []:=bC aB ⟨afz,afF,trivial⟩ trivial
theorem av2:aF tP afG 16 Tryz.f16 TA:=cf
theorem Np:aq tP 16 Q9:=ay aDj (byRef:=afH) av2 afI ql xh qm (fun a b=>(aDi ..).trans (aAI ..))
def Ny:=aN [(2,⟨2,[0,1,5,13,14,15],[],[9,15,16,17,18,19,20,21,22,23,24,25],[0,1,5]⟩)]
def FE:FD:=aJ tP Ny Tryz.f39
def Nz:=bR [22,74] [(22,lK),(74,lK)]
def afJ:RC:=⟨false,Tx,[]⟩
theorem afK (bN dT cT) (c:Int) (d:List Int) (e:Int) (g:Int) (h:Int) (i:Int) (j:Int) (l:List Int) (m:Int) (n:Bool) (o:Y1) (p:Y1) (q:Y2) (s:Y3) (t:Y4) (v:Y5) (w:Yb) (y:Int) (z:Yb) (C:Y6) (D:ByteArray) (E:List Int) {α:Type} (kn:St->Option α) (K:iW->St->Option α):round (ao [(22,⟨kb,oV,kc,bN⟩),(40,⟨pD,wG,pE,dT⟩),(74,⟨qR,xr,qS,cT⟩)] []) Nz (Ny 2) (FE.loop 2) kn ⟨nx.svs (c,d,e,g,()),qp.mem ((h,i,j,()),(l,m,n,()),(),o,p,q,s,t,v,w,(y,()),z,C,(D,E,()),())⟩ K=eJ bN c d e g h i j l m n o p q s t v w y z C D E (fun a b=>kn ⟨nx.svs a,qp.mem b⟩) (fun r=>aR tv r K):=by kernel_rfl
def XX:cc:=⟨nx,qp,tv,ir⟩
theorem afL:al tP FE [(22,I4),(40,NA),(74,Rc)] []:=bC aB ⟨Fx,NB,NC,trivial⟩ trivial
theorem abt:bK tP (FE.loop 2) XX:=ce afL (byRef:=Nz) (lan:=Ny 2) (id:=2) nx qp tv (fun a b=>(afK ..).trans (Qf ..))
theorem aDk (bN dT cT) (ir:ka->i7->Option qq) c d e g h i j l m n o p q s t v w y z {α:Type} (K:SV->ar->Option α):ai (ao [(22,⟨kb,oV,kc,bN⟩),(40,⟨pD,wG,pE,dT⟩),(74,⟨qR,xr,qS,cT⟩)] [(2,⟨nx,qp,tv,ir⟩)]) Nz afJ FE (qn.svs (c,(d,e,()),())) (xi.mem ((g,h,i,()),(j,l,m,()),(),n,o,p,q,s,t,v,(w,()),y,z,())) K=uX bN dT cT ir c d e g h i j l m n o p q s t v w y z (fun r=>aj qo r K):=by kernel_rfl
def Rd:bu:=⟨qn,xi,qo,cA⟩
theorem aDl:al tP FE [(22,I4),(40,NA),(74,Rc)] [(2,XX)]:=bC aB ⟨Fx,NB,NC,trivial⟩ ⟨abt,trivial⟩
theorem av3:aF tP Ny 39 Tryz.f39 FE:=cf
theorem ND:aq tP 39 Rd:=ay aDl (byRef:=Nz) av3 afJ qn xi qo (fun a b=>(aDk ..).trans (aAJ ..))
def afM:=aN []
def TB:FD:=aJ tP afM Tryz.f10
def afN:=bR [38,39,41] [(41,lK)]
def afO:RC:=⟨false,Tx,[]⟩
theorem aDm (cz cA dT lW) c d e g h i j l m n o p q s t v w y z {α:Type} (K:SV->ar->Option α):ai (ao [(38,⟨nt,tu,yv,cz⟩),(39,⟨qn,xi,qo,cA⟩),(40,⟨pD,wG,pE,dT⟩),(41,⟨AD,DX,AE,lW⟩)] []) afN afO TB (qr.svs (c,(d,e,()),())) (xj.mem ((g,h,i,()),(j,l,m,()),(),n,o,p,q,s,t,v,(w,()),y,z,())) K=uY cz cA dT lW c d e g h i j l m n o p q s t v w y z (fun r=>aj qt r K):=by kernel_rfl
def Q7:bu:=⟨qr,xj,qt,dk⟩
theorem aDn:al tP TB [(38,Rb),(39,Rd),(40,NA),(41,afP)] []:=bC aB ⟨Nx,ND,NB,am0,trivial⟩ trivial
theorem av4:aF tP afM 10 Tryz.f10 TB:=cf
theorem Nl:aq tP 10 Q7:=ay aDn (byRef:=afN) av4 afO qr xj qt (fun a b=>(aDm ..).trans (aAK ..))
def afQ:=aN []
def TC:FD:=aJ tP afQ Tryz.f47
def afR:=bR [49] [(49,lK)]
def afS:RC:=⟨false,[(6,9,9,.cons .str .nil)],[(6,9,13)]⟩
theorem aDo (lX oz) c d e g h i j l m n o p q s t v w y z C {α:Type} (K:SV->ar->Option α):ai (ao [(49,⟨AB,DW,AC,lX⟩),(48,⟨Az,DV,AA,oz⟩)] []) afR afS TC (CI.svs (c,())) (HN.mem ((),(d,()),(e,()),(g,()),(h,i,j,()),(l,m,n,()),(),o,p,q,s,t,v,w,(y,()),z,C,())) K=uZ lX oz c d e g h i j l m n o p q s t v w y z C (fun r=>aj CJ r K):=by kernel_rfl
def asN:bu:=⟨CI,HN,CJ,xV⟩
theorem aDp:al tP TC [(49,afT),(48,afU)] []:=bC aB ⟨am1,am2,trivial⟩ trivial
theorem av5:aF tP afQ 47 Tryz.f47 TC:=cf
theorem av6:aq tP 47 asN:=ay aDp (byRef:=afR) av5 afS CI HN CJ (fun a b=>(aDo ..).trans (aAM ..))
def afV:=aN []
def TD:FD:=aJ tP afV Tryz.f54
def afW:=bR [] []
def afX:RC:=⟨true,[],[]⟩
theorem aDq c {α:Type} (K:SV->ar->Option α):ai (ao [] []) afW afX TD (CK.svs (c,())) (HO.mem ()) K=yz c (fun r=>aj CL r K):=by kernel_rfl
def asO:bu:=⟨CK,HO,CL,yA⟩
theorem aDr:al tP TD [] []:=bC aB trivial trivial
theorem av7:aF tP afV 54 Tryz.f54 TD:=cf
theorem av8:aq tP 54 asO:=ay aDr (byRef:=afW) av7 afX CK HO CL (fun a b=>(aDq ..).trans (aAO ..))
def afY:=aN []
def TE:FD:=aJ tP afY Tryz.f46
def afZ:=bR [38,39,47,74,81] [(74,lK)]
def af0:RC:=⟨false,[(7,9,9,.cons .str .nil),(16,2,151,.cons (.int .i64) Fj)],[(7,9,13),(16,2,16)]⟩
theorem aDs (cz cA cT fq xV) c d e g h i j l m n o p q s t v w y z C D E {α:Type} (K:SV->ar->Option α):ai (ao [(38,⟨nt,tu,yv,cz⟩),(39,⟨qn,xi,qo,cA⟩),(74,⟨qR,xr,qS,cT⟩),(81,⟨wN,zf,wO,fq⟩),(47,⟨CI,HN,CJ,xV⟩)] []) afZ af0 TE (yB.svs (c,(d,e,()),(),())) (CM.mem ((g,h,i,()),(),(j,()),(l,()),(m,()),(n,o,p,()),(),q,s,t,v,w,y,z,(C,()),D,E,())) K=va cz cA cT fq xV c d e g h i j l m n o p q s t v w y z C D E (fun r=>aj yC r K):=by kernel_rfl
def af1:bu:=⟨yB,CM,yC,qu⟩
theorem aDt:al tP TE [(38,Rb),(39,Rd),(74,Rc),(81,TF),(47,asN)] []:=bC aB ⟨Nx,ND,NC,XY,av6,trivial⟩ trivial
theorem av9:aF tP afY 46 Tryz.f46 TE:=cf
theorem af2:aq tP 46 af1:=ay aDt (byRef:=afZ) av9 af0 yB CM yC (fun a b=>(aDs ..).trans (aAQ ..))
def af3:=aN []
def TG:FD:=aJ tP af3 Tryz.f46
def af4:=bR [38,39,74,81] [(74,lK)]
def af5:RC:=⟨false,Tx,[(3,9,9),(12,2,12)]⟩
theorem aDu (cz cA cT fq yA) c d e g h i j l m n o p q s t v w y z {α:Type} (K:SV->ar->Option α):ai (ao [(38,⟨nt,tu,yv,cz⟩),(39,⟨qn,xi,qo,cA⟩),(74,⟨qR,xr,qS,cT⟩),(81,⟨wN,zf,wO,fq⟩),(54,⟨CK,HO,CL,yA⟩)] []) af4 af5 TG (yD.svs (c,(d,e,()),())) (CN.mem ((g,h,i,()),(j,l,m,()),(),n,o,p,q,s,t,v,(w,()),y,z,())) K=vb cz cA cT fq yA c d e g h i j l m n o p q s t v w y z (fun r=>aj yE r K):=by kernel_rfl
def af6:bu:=⟨yD,CN,yE,tw⟩
theorem aDv:al tP TG [(38,Rb),(39,Rd),(74,Rc),(81,TF),(54,asO)] []:=bC aB ⟨Nx,ND,NC,XY,av8,trivial⟩ trivial
theorem awa:aF tP af3 46 Tryz.f46 TG:=cf
theorem af7:aq tP 46 af6:=ay aDv (byRef:=af4) awa af5 yD CN yE (fun a b=>(aDu ..).trans (aAS ..))
def af8:=aN []
def TH:FD:=aJ tP af8 Tryz.f12
def af9:=bR [38,46] []
def aga:RC:=⟨false,Tx,[(3,9,9),(12,2,12)]⟩
theorem aDw (cz qu tw) c d e g h i j l m n o p q s t v w y z C D {α:Type} (K:SV->ar->Option α):ai (ao [(38,⟨nt,tu,yv,cz⟩),(46,⟨yB,CM,yC,qu⟩),(46,⟨yD,CN,yE,tw⟩)] []) af9 aga TH (qv.svs (c,d,e,(g,h,()),())) (xk.mem ((i,j,l,()),(m,n,o,()),(),p,q,s,t,v,w,y,(z,()),C,D,())) K=vd cz qu c d e g h i j l m n o p q s t v w y z C D (fun r=>aj qw r K):=by kernel_rfl
def Q8:bu:=⟨qv,xk,qw,eD⟩
theorem aDx:al tP TH [(38,Rb),(46,af1),(46,af6)] []:=bC aB ⟨Nx,af2,af7,trivial⟩ trivial
theorem awb:aF tP af8 12 Tryz.f12 TH:=cf
theorem Nm:aq tP 12 Q8:=ay aDx (byRef:=af9) awb aga qv xk qw (fun a b=>(aDw ..).trans (aAT ..))
def agb:=aN []
def TI:FD:=aJ tP agb Tryz.f14
def agc:=bR [46] []
def agd:RC:=⟨false,amY,[(2,9,9),(11,2,12)]⟩
theorem aDy (qu tw) c d e g h i j l m n o p q s t v w y z {α:Type} (K:SV->ar->Option α):ai (ao [(46,⟨yB,CM,yC,qu⟩),(46,⟨yD,CN,yE,tw⟩)] []) agc agd TI (ve.svs (c,(d,e,()),())) (Ah.mem ((g,h,i,()),(j,l,m,()),(),n,o,p,q,s,t,v,(w,()),y,z,())) K=vg tw c d e g h i j l m n o p q s t v w y z (fun r=>aj vf r K):=by kernel_rfl
def XK:bu:=⟨ve,Ah,vf,jF⟩
theorem aDz:al tP TI [(46,af1),(46,af6)] []:=bC aB ⟨af2,af7,trivial⟩ trivial
theorem awc:aF tP agb 14 Tryz.f14 TI:=cf
theorem Tl:aq tP 14 XK:=ay aDz (byRef:=agc) awc agd ve Ah vf (fun a b=>(aDy ..).trans (aAU ..))
def age:=aN []
def TJ:FD:=aJ tP age Tryz.f32
def agf:=bR [33,65] [(33,lK)]
def agh:RC:=⟨false,amY,[(11,2,12)]⟩
theorem aDA (iT lY) c d e g h i j l m n o p q s t v {α:Type} (K:SV->ar->Option α):ai (ao [(33,⟨yH,CT,yI,iT⟩),(65,⟨AZ,D8,A3,lY⟩)] []) agf agh TJ (CO.svs ()) (HP.mem ((c,d,e,()),(g,h,i,()),(),j,l,m,n,o,p,q,(s,()),t,v,())) K=vh iT lY c d e g h i j l m n o p q s t v (fun r=>aj CP r K):=by kernel_rfl
def asP:bu:=⟨CO,HP,CP,xW⟩
theorem aDB:al tP TJ [(33,agi),(65,agj)] []:=bC aB ⟨agk,am3,trivial⟩ trivial
theorem awd:aF tP age 32 Tryz.f32 TJ:=cf
theorem awe:aq tP 32 asP:=ay aDB (byRef:=agf) awd agh CO HP CP (fun a b=>(aDA ..).trans (aAW ..))
def agl:=aN []
def TL:FD:=aJ tP agl Tryz.f18
def agm:=bR [39,55,56] []
def agn:RC:=⟨false,Tx,[(12,2,12)]⟩
theorem aDC (i6 cA gR) c d e g h i j l m n o p q s t v w y {α:Type} (K:SV->ar->Option α):ai (ao [(55,⟨uU,Ag,IX,i6⟩),(39,⟨qn,xi,qo,cA⟩),(56,⟨yw,CH,yx,gR⟩)] []) agm agn TL (vj.svs ((c,d,()),())) (Ai.mem ((e,g,h,()),(i,j,l,()),(),m,n,o,p,q,s,t,(v,()),w,y,())) K=vm i6 cA gR c d e g h i j l m n o p q s t v w y (fun r=>aj vl r K):=by kernel_rfl
def XM:bu:=⟨vj,Ai,vl,jH⟩
theorem aDD:al tP TL [(55,afy),(39,Rd),(56,afD)] []:=bC aB ⟨afz,ND,afF,trivial⟩ trivial
theorem awf:aF tP agl 18 Tryz.f18 TL:=cf
theorem Tn:aq tP 18 XM:=ay aDD (byRef:=agm) awf agn vj Ai vl (fun a b=>(aDC ..).trans (aAX ..))
end
end Go.Proofs.YtljfdfghagiblaaGreat.S2