/- The program's functions come to their plain forms,by program. -/
import Derived.Test.YtljfdfghagiblaaGreatGdisk
import Derived.Test.YtljfdfghagiblaaGreatHrwire
set_option maxRecDepth 100000
set_option maxHeartbeats 0
namespace Go.Proofs.YtljfdfghagiblaaGreat.S2
open Go
noncomputable section
def aeY:=aN []
def Tu:FD:=aJ tP aeY Tryz.f35
def aeZ:=bR [] []
def ae0:RC:=⟨true,[],[]⟩
theorem aCD c {α:Type} (K:SV->ar->Option α):ai (ao [] []) aeZ ae0 Tu (j0.svs (c,())) (oN.mem ()) K=pX c (fun r=>aj j1 r K):=by kernel_rfl
def I6:bu:=⟨j0,oN,j1,bU⟩
theorem aCE:al tP Tu [] []:=bC aB trivial trivial
theorem avE:aF tP aeY 35 Tryz.f35 Tu:=cf
theorem Fz:aq tP 35 I6:=ay aCE (byRef:=aeZ) avE ae0 j0 oN j1 (fun a b=>(aCD ..).trans (az7 ..))
def I7:bu:=⟨uR,yp,uS,bT⟩
theorem Ik:aq tP 63 I7:=by
 rintro ⟨(s:ByteArray),(n:Int),⟨⟩⟩ ⟨⟩ r hr
 have hr:cond (decide (0<=n/\n<=9223372036854775807/\s.size*n.toNat<=140737488355328)) (some (⟨(Go.Lib.repeatL s.data.toList n.toNat).toArray⟩,())) none=some r:=hr
 by_cases hc:0<=n/\n<=9223372036854775807/\s.size*n.toNat<=140737488355328
 ·rw [decide_eq_true hc] at hr
  cases hr
  refine Hw Tryz.func63 (by kernel_rfl) (by kernel_rfl) fun w A β vs hx=>?_
  obtain ⟨v1,vs1,rfl,hv1,v2,vs2,rfl,hv2,hv3⟩:=hx
  have hv1:v1=.string s:=hv1
  have hv2:v2=.int .i64 n:=hv2
  have hv3:vs2=[]:=hv3
  subst hv1 hv2 hv3
  have hn:n=(n.toNat:Int):=by omega
  have hcall:=strings_Repeat s n.toNat w (by omega) hc.2.2
  rw [← hn] at hcall
  exact hcall.mono fun e w' ⟨he,hw⟩=>⟨_,he,hw,fun A' β'=>rfl⟩
 ·rw [decide_eq_false hc] at hr
  cases hr
def ase:=aN []
def ae1:FD:=aJ tP ase Tryz.f64
def asf:=bR [] []
def asg:RC:=⟨true,abp,[]⟩
theorem aGv c d e {α:Type} (K:SV->ar->Option α):ai (ao [] []) asf asg ae1 (z7.svs ()) (E6.mem ((c,()),d,e,())) K=th c d e (fun r=>aj IN r K):=by kernel_rfl
def avF:bu:=⟨z7,E6,Mc,oO⟩
theorem aGw:al tP ae1 [] []:=bC aB trivial trivial
theorem aCF:aF tP ase 64 Tryz.f64 ae1:=cf
def aCG:bu:=⟨z7,E6,IN,atH⟩
theorem avG:aq tP 64 aCG:=ay aGw (byRef:=asf) aCF asg z7 E6 IN (fun a b=>(aGv ..).trans (aGe ..))
theorem ash:aq tP 64 avF:=bE avG (by rfl) ac2
def asi:=aN []
def ae2:FD:=aJ tP asi Tryz.f145
def asj:=bR [] []
def ask:RC:=⟨true,abp,[]⟩
theorem aGx c d e {α:Type} (K:SV->ar->Option α):ai (ao [] []) asj ask ae2 (Cw.svs ()) (IO.mem ((c,()),d,e,())) K=tj c d e (fun r=>aj IP r K):=by kernel_rfl
def aCH:bu:=⟨Cw,IO,VO,E7⟩
theorem aGy:al tP ae2 [] []:=bC aB trivial trivial
theorem aCI:aF tP asi 145 Tryz.f145 ae2:=cf
def aCJ:bu:=⟨Cw,IO,IP,atI⟩
theorem avH:aq tP 145 aCJ:=ay aGy (byRef:=asj) aCI ask Cw IO IP (fun a b=>(aGx ..).trans (aGg ..))
theorem aCK:aq tP 145 aCH:=bE avH (by rfl) ac3
def asl:=aN []
def ae3:FD:=aJ tP asl Tryz.f152
def asm:=bR [] []
def asn:RC:=⟨true,abp,[]⟩
theorem aGz c d e g {α:Type} (K:SV->ar->Option α):ai (ao [] []) asm asn ae3 (z8.svs (c,())) (E8.mem ((d,()),e,g,())) K=oP c d e g (fun r=>aj IQ r K):=by kernel_rfl
def avI:bu:=⟨z8,E8,Md,oQ⟩
theorem aGA:al tP ae3 [] []:=bC aB trivial trivial
theorem aCL:aF tP asl 152 Tryz.f152 ae3:=cf
def aCM:bu:=⟨z8,E8,IQ,atJ⟩
theorem avJ:aq tP 152 aCM:=ay aGA (byRef:=asm) aCL asn z8 E8 IQ (fun a b=>(aGz ..).trans (aGh ..))
theorem aso:aq tP 152 avI:=bE avJ (by rfl) ac4
def asp:=aN []
def ae4:FD:=aJ tP asp Tryz.f148
def asq:=bR [152] [(152,sD)]
def asr:RC:=⟨true,[Nq],[]⟩
theorem aGB (oQ) c d e g {α:Type} (K:SV->ar->Option α):ai (ao [(152,⟨z8,E8,Md,oQ⟩)] []) asq asr ae4 (Aa.svs (c,())) (E9.mem ((d,()),e,g,())) K=oR oQ c d e g (fun r=>aj IR r K):=by kernel_rfl
def avK:bu:=⟨Aa,E9,Me,BH⟩
theorem aGC:al tP ae4 [(152,avI)] []:=bC aB ⟨aso,trivial⟩ trivial
theorem aCN:aF tP asp 148 Tryz.f148 ae4:=cf
def aCO:bu:=⟨Aa,E9,IR,atK⟩
theorem avL:aq tP 148 aCO:=ay aGC (byRef:=asq) aCN asr Aa E9 IR (fun a b=>(aGB ..).trans (aGj ..))
theorem ass:aq tP 148 avK:=bE avL (by rfl) ac5
def XS:=aN [(2,⟨2,[0,1,6],[],[4,5,6,13,14,15,16,17,18,19,20,21,22,23,24,25,26,27,28,29,30,31,32,33,34],[0,1,4,5]⟩)]
def K8:FD:=aJ tP XS Tryz.f142
def XT:=bR [148] [(148,sD)]
def ast:RC:=⟨true,[Nq],[]⟩
theorem amU (BH) (c:Int) (d:Int) (e:Int) (g:Yb) (h:Y6) {α:Type} (kn:St->Option α) (K:iW->St->Option α):round (ao [(148,⟨Aa,E9,Me,BH⟩)] []) XT (XS 2) (K8.loop 2) kn ⟨pY.svs (c,d,()),uT.mem ((e,()),g,h,())⟩ K=fm c d e g h (fun a b=>kn ⟨pY.svs a,uT.mem b⟩) (fun r=>aR xc r K):=by kernel_rfl
def ae5:cc:=⟨pY,uT,xc,iZ⟩
theorem amV:al tP K8 [(148,avK)] []:=bC aB ⟨ass,trivial⟩ trivial
theorem ae6:bK tP (K8.loop 2) ae5:=ce amV (byRef:=XT) (lan:=XS 2) (id:=2) pY uT xc (fun a b=>(amU ..).trans (VT ..))
theorem aGD (BH) (iZ:na->nc->Option oS) c d e g {α:Type} (K:SV->ar->Option α):ai (ao [(148,⟨Aa,E9,Me,BH⟩)] [(2,⟨pY,uT,xc,iZ⟩)]) XT ast K8 (Cx.svs (c,())) (IS.mem ((d,()),e,g,())) K=oT BH iZ c d e g (fun r=>aj IT r K):=by kernel_rfl
def aCP:bu:=⟨Cx,IS,VS,BW⟩
theorem aGE:al tP K8 [(148,avK)] [(2,ae5)]:=bC aB ⟨ass,trivial⟩ ⟨ae6,trivial⟩
theorem aCQ:aF tP XS 142 Tryz.f142 K8:=cf
def aCR:bu:=⟨Cx,IS,IT,atL⟩
theorem avM:aq tP 142 aCR:=ay aGE (byRef:=XT) aCQ ast Cx IS IT (fun a b=>(aGD ..).trans (aGl ..))
theorem aCS:aq tP 142 aCP:=bE avM (by rfl) ac6
def asu:=aN []
def ae7:FD:=aJ tP asu Tryz.f147
def asv:=bR [] []
def asw:RC:=⟨true,[],[]⟩
theorem aGF c d e g {α:Type} (K:SV->ar->Option α):ai (ao [] []) asv asw ae7 (Ac.svs (c,())) (Fa.mem ((),(d,()),e,g,())) K=oU c d e g (fun r=>aj IU r K):=by kernel_rfl
def avN:bu:=⟨Ac,Fa,Mg,BI⟩
theorem aGG:al tP ae7 [] []:=bC aB trivial trivial
theorem aCT:aF tP asu 147 Tryz.f147 ae7:=cf
def aCU:bu:=⟨Ac,Fa,IU,atM⟩
theorem avO:aq tP 147 aCU:=ay aGG (byRef:=asv) aCT asw Ac Fa IU (fun a b=>(aGF ..).trans (aGn ..))
theorem asx:aq tP 147 avN:=bE avO (by rfl) ac7
def asy:=aN []
def ae8:FD:=aJ tP asy Tryz.f61
def asz:=bR [] []
def asA:RC:=⟨true,[],[]⟩
theorem aGH c d {α:Type} (K:SV->ar->Option α):ai (ao [] []) asz asA ae8 (Ad.svs (c,())) (Fb.mem ((d,()),())) K=nd c d (fun r=>aj IV r K):=by kernel_rfl
def avP:bu:=⟨Ad,Fb,Mh,BJ⟩
theorem aGI:al tP ae8 [] []:=bC aB trivial trivial
theorem aCV:aF tP asy 61 Tryz.f61 ae8:=cf
def aCW:bu:=⟨Ad,Fb,IV,atN⟩
theorem avQ:aq tP 61 aCW:=ay aGI (byRef:=asz) aCV asA Ad Fb IV (fun a b=>(aGH ..).trans (aGp ..))
theorem asB:aq tP 61 avP:=bE avQ (by rfl) ac8
def Nr:=aN [(1,⟨1,[0,1,10,11,12],[],[4,5,6,12,13,14,15,16,17,18,19,20,21,22,23,24,25,26,27,28,29,30,31,32,33,34,35,36,37,38,39,40,41,42,43,44,45,46,47,48],[0]⟩)]
def FA:FD:=aJ tP Nr Tryz.f60
def Ns:=bR [147] []
def ae9:RC:=⟨false,sD,[(0,2,3)]⟩
theorem afa (BI) (c:Int) (d:Int) (e:Int) (g:Yb) (h:Y6) {α:Type} (kn:St->Option α) (K:iW->St->Option α):round (ao [(147,⟨Ac,Fa,Mg,BI⟩)] []) Ns (Nr 1) (FA.loop 1) kn ⟨nq.svs ((),c,d,()),p0.mem ((e,()),(),g,h,())⟩ K=eG BI c d e g h (fun a b=>kn ⟨nq.svs a,p0.mem b⟩) (fun r=>aR tl r K):=by kernel_rfl
def XU:cc:=⟨nq,p0,tl,fX⟩
theorem afb:al tP FA [(147,avN)] []:=bC aB ⟨asx,trivial⟩ trivial
theorem abq:bK tP (FA.loop 1) XU:=ce afb (byRef:=Ns) (lan:=Nr 1) (id:=1) nq p0 tl (fun a b=>(afa ..).trans (P6 ..))
theorem aCX (BI) (fX:j3->j4->Option p5) c d e {α:Type} (K:SV->ar->Option α):ai (ao [(147,⟨Ac,Fa,Mg,BI⟩)] [(1,⟨nq,p0,tl,fX⟩)]) Ns ae9 FA (yq.svs ((),())) (Cy.mem ((c,()),(),d,e,())) K=p6 fX c d e (fun r=>aj yr r K):=by kernel_rfl
def afc:bu:=⟨yq,Cy,yr,tm⟩
theorem aCY:al tP FA [(147,avN)] [(1,XU)]:=bC aB ⟨asx,trivial⟩ ⟨abq,trivial⟩
theorem avR:aF tP Nr 60 Tryz.f60 FA:=cf
theorem afd:aq tP 60 afc:=ay aCY (byRef:=Ns) avR ae9 yq Cy yr (fun a b=>(aCX ..).trans (aAp ..))
def Nt:=aN [(1,⟨1,[0,1,10,11,12],[],[4,5,6,12,13,14,15,16,17,18,19,20,21,22,23,24,25,26,27,28,29,30,31,32,33,34,35,36,37,38,39,40,41,42,43,44,45,46,47,48],[0]⟩)]
def FB:FD:=aJ tP Nt Tryz.f60
def Nu:=bR [61] []
def afe:RC:=⟨false,sD,[(0,2,3)]⟩
theorem aff (BJ) (c:Int) (d:Int) (e:Int) (g:List Int) (h:Yb) (i:Y6) {α:Type} (kn:St->Option α) (K:iW->St->Option α):round (ao [(61,⟨Ad,Fb,Mh,BJ⟩)] []) Nu (Nt 1) (FB.loop 1) kn ⟨nr.svs ((),c,d,()),p7.mem ((e,()),(g,()),h,i,())⟩ K=eH BJ c d e g h i (fun a b=>kn ⟨nr.svs a,p7.mem b⟩) (fun r=>aR tn r K):=by kernel_rfl
def XV:cc:=⟨nr,p7,tn,fY⟩
theorem afg:al tP FB [(61,avP)] []:=bC aB ⟨asB,trivial⟩ trivial
theorem abr:bK tP (FB.loop 1) XV:=ce afg (byRef:=Nu) (lan:=Nt 1) (id:=1) nr p7 tn (fun a b=>(aff ..).trans (P8 ..))
theorem aCZ (BJ) (fY:j5->j6->Option p8) c d e g {α:Type} (K:SV->ar->Option α):ai (ao [(61,⟨Ad,Fb,Mh,BJ⟩)] [(1,⟨nr,p7,tn,fY⟩)]) Nu afe FB (yt.svs ((),())) (Cz.mem ((c,()),(d,()),e,g,())) K=p9 fY c d e g (fun r=>aj yu r K):=by kernel_rfl
def afh:bu:=⟨yt,Cz,yu,tp⟩
theorem aC0:al tP FB [(61,avP)] [(1,XV)]:=bC aB ⟨asB,trivial⟩ ⟨abr,trivial⟩
theorem avS:aF tP Nt 60 Tryz.f60 FB:=cf
theorem afi:aq tP 60 afh:=ay aC0 (byRef:=Nu) avS afe yt Cz yu (fun a b=>(aCZ ..).trans (aAr ..))
def asC:=aN []
def afj:FD:=aJ tP asC Tryz.f139
def asD:=bR [60] [(60,sD)]
def asE:RC:=⟨false,sD,[(0,2,2)]⟩
theorem aGJ (tm tp) c d e {α:Type} (K:SV->ar->Option α):ai (ao [(60,⟨yq,Cy,yr,tm⟩),(60,⟨yt,Cz,yu,tp⟩)] []) asD asE afj (HH.svs ()) (Mi.mem ((c,()),d,e,())) K=xe tm c d e (fun r=>aj HI r K):=by kernel_rfl
def aC1:bu:=⟨HH,Mi,HI,Fc⟩
theorem aGK:al tP afj [(60,afc),(60,afh)] []:=bC aB ⟨afd,afi,trivial⟩ trivial
theorem aC2:aF tP asC 139 Tryz.f139 afj:=cf
theorem aC3:aq tP 139 aC1:=ay aGK (byRef:=asD) aC2 asE HH Mi HI (fun a b=>(aGJ ..).trans (aGr ..))
def asF:=aN []
def afk:FD:=aJ tP asF Tryz.f20
def asG:=bR [60] [(60,sD)]
def asH:RC:=⟨false,sD,[(0,2,2)]⟩
theorem aGL (tm tp) c d e g {α:Type} (K:SV->ar->Option α):ai (ao [(60,⟨yq,Cy,yr,tm⟩),(60,⟨yt,Cz,yu,tp⟩)] []) asG asH afk (Ae.svs (c,())) (Fd.mem ((d,()),e,g,())) K=xf tp c d e g (fun r=>aj Af r K):=by kernel_rfl
def amT:bu:=⟨Ae,Fd,Af,uP⟩
theorem aGM:al tP afk [(60,afc),(60,afh)] []:=bC aB ⟨afd,afi,trivial⟩ trivial
theorem aC4:aF tP asF 20 Tryz.f20 afk:=cf
theorem aeW:aq tP 20 amT:=ay aGM (byRef:=asG) aC4 asH Ae Fd Af (fun a b=>(aGL ..).trans (aGs ..))
def asI:=aN []
def afl:FD:=aJ tP asI Tryz.f146
def asJ:=bR [152] [(152,sD)]
def asK:RC:=⟨false,abp,[(1,2,2)]⟩
theorem aGN (oQ bT) c d e g h {α:Type} (K:SV->ar->Option α):ai (ao [(152,⟨z8,E8,Md,oQ⟩),(63,⟨uR,yp,uS,bT⟩)] []) asJ asK afl (HJ.svs (c,d,())) (Mj.mem ((e,()),g,h,())) K=xg oQ bT c d e g h (fun r=>aj HK r K):=by kernel_rfl
def aC5:bu:=⟨HJ,Mj,HK,CA⟩
theorem aGO:al tP afl [(152,avI),(63,I7)] []:=bC aB ⟨aso,Ik,trivial⟩ trivial
theorem aC6:aF tP asI 146 Tryz.f146 afl:=cf
theorem aC7:aq tP 146 aC5:=ay aGO (byRef:=asJ) aC6 asK HJ Mj HK (fun a b=>(aGN ..).trans (aGu ..))
def Nv:=aN [(5,⟨5,[1,6,24,25],[(.cell 1736 1,501,9,.cons .str .nil)],[25,26,27,28,29,30,31,32,33,34,35,36,37,38],[6]⟩)]
def FC:FD:=aJ tP Nv Tryz.f29
def Nw:=bR [] []
def afm:RC:=⟨false,sD,[]⟩
theorem afn (bT) (c:Int) (d:Int) (e:Int) (g:Yb) (h:Int) {α:Type} (kn:St->Option α) (K:iW->St->Option α):round (ao [(63,⟨uR,yp,uS,bT⟩)] []) Nw (Nv 5) (FC.loop 5) kn ⟨ns.svs (c,d,e,()),qh.mem (g,(h,()),())⟩ K=eI bT c d e g h (fun a b=>kn ⟨ns.svs a,qh.mem b⟩) (fun r=>aR tq r K):=by kernel_rfl
def XW:cc:=⟨ns,qh,tq,gD⟩
theorem afo:al tP FC [(63,I7)] []:=bC aB ⟨Ik,trivial⟩ trivial
theorem abs:bK tP (FC.loop 5) XW:=ce afo (byRef:=Nw) (lan:=Nv 5) (id:=5) ns qh tq (fun a b=>(afn ..).trans (Qa ..))
theorem aC8 (bT) (gD:j7->j8->Option qi) c d {α:Type} (K:SV->ar->Option α):ai (ao [(63,⟨uR,yp,uS,bT⟩)] [(5,⟨ns,qh,tq,gD⟩)]) Nw afm FC (CD.svs (c,d,())) (HL.mem ()) K=qj gD c d (fun r=>aj CE r K):=by kernel_rfl
def asL:bu:=⟨CD,HL,CE,qk⟩
theorem aC9:al tP FC [(63,I7)] [(5,XW)]:=bC aB ⟨Ik,trivial⟩ ⟨abs,trivial⟩
theorem avT:aF tP Nv 29 Tryz.f29 FC:=cf
theorem avU:aq tP 29 asL:=ay aC9 (byRef:=Nw) avT afm CD HL CE (fun a b=>(aC8 ..).trans (aAC ..))
end
end Go.Proofs.YtljfdfghagiblaaGreat.S2