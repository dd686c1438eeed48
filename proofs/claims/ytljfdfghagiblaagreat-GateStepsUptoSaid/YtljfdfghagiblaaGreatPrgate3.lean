/- The document's seal and gate: what their functions compute. -/
import Derived.Test.YtljfdfghagiblaaGreatPrgate
import Derived.Test.YtljfdfghagiblaaGreatPwfZ
import Derived.Test.YtljfdfghagiblaaGreatGrgate
import Derived.Test.YtljfdfghagiblaaGreatP23f
namespace Go.Proofs.YtljfdfghagiblaaGreat.S2.Mk
open Go Go.Proofs.YtljfdfghagiblaaGreat.S2
def Rf.mm (p:Rf):(Int×Unit)×List Int×List RW×Unit×List Int×Unit:=((p.bads,()),p.draws,p.rows,(),p.met,())
theorem aoy (p:Rf) (hr:p.rows.length<=1000000000) (hm:p.met.length<=1000000000):yc () p.m=some (p.fresh.1,p.fresh.2.mo):=by
 have h:=akR p 0 0 0 0 eB eB hr hm
 unfold yc wc
 refine au h ?_
 rfl
theorem Gi (p:Rf) (h:Int) (hr:p.rows.length<=1000000000) (hm:p.met.length<=1000000000):bI (h,()) p.m=some ((),(p.meet h).mm):=by
 have hi:=RR p h hr
 unfold bI wd Rf.meet
 refine au hi ?_
 by_cases e:p.rows.any (fun y:RW=>y.2.2.2.2.2==h)=true
 ·rw [if_pos e]
  refine (eu (by rw [e]; rfl)).trans ?_
  rfl
 ·rw [if_neg e]
  refine (eC (by rw [Bool.not_eq_true] at e; rw [e]; rfl)).trans ?_
  refine (ap (by show (p.met.length+1)*8<=140737488355328; omega)).trans ?_
  rfl
theorem azm (p:Rf) (k n:Int) (a b:ByteArray) (hr:p.rows.length<=1000000000) (hm:p.met.length<=1000000000):yd (k,n,a,b,()) p.m=some ((p.seal k n a b).1,(p.seal k n a b).2.mo):=by
 have h:=aau p 3 k n 0 a b hr hm
 unfold yd we
 refine au h ?_
 rfl
theorem Lv (k n c z:Int) (a:ByteArray) (d me:List Int):∀ (suf pre:List RW),(pre++suf).length<=1000000000 ->
  iC (k,n,a,c,(pre.length:Int),()) ((z,()),d,pre++suf,me,())=some (match suf.find? (lD k n a c) with | some y=>.inl ((c,y.2.2.2.2.1,true,()),((z,()),d,pre++suf,me,())) | none=>.inr ((c,()),((z,()),d,pre++suf,me,())))
 | [],pre,hlen=>by
  rw [QV]
  unfold eY
  rw [bq (by simp)]
  rfl
 | y::suf,pre,hlen=>by
  rw [QV]
  unfold eY
  have hl:(pre.length:Int)<((pre++y::suf).length:Int):=by simp only [List.length_append,List.length_cons]; omega
  have ih:=Lv k n c z a d me suf (pre++[y]) (by simpa using hlen)
  have e:IntKind.i64.wrap ((pre.length:Int)+1)=((pre++[y]).length:Int):=by
   simp only [List.length_append,List.length_cons] at hlen
   rw [aQ (by omega) (by omega)]; simp
  rw [ap hl,ap (by omega),ap hl,Nat.zero_add,Int.toNat_natCast]
  have hg:(pre++y::suf).getD pre.length (0,0,0,eB,eB,0)=y:=g7 pre suf y _
  rw [hg,e,List.find?_cons]
  simp only [List.append_assoc,List.singleton_append] at ih
  unfold lD at ih ⊢
  cases h1:y.1==3 with
  | false=>exact ih
  | true =>
   cases h2:y.2.1==k with
   | false=>exact ih
   | true =>
    cases h3:y.2.2.1==n with
    | false=>exact ih
    | true =>
     cases h4:y.2.2.2.1.toList==a.toList with
     | false=>exact ih
     | true =>
      cases h5:y.2.2.2.2.2==c with
      | false=>exact ih
      | true=>rfl
theorem azn (p:Rf) (k n c:Int) (a:ByteArray) (hr:p.rows.length<=1000000000) (hm:p.met.length<=1000000000):ye (k,n,a,c,()) p.m=some (((p.opn k n a c).1,(p.opn k n a c).2.1,()),(p.opn k n a c).2.2.mm):=by
 have h:=Lv k n c p.bads a p.draws p.met p.rows [] (by simpa using hr)
 have hM:=Gi p c hr hm
 unfold ye wg Rf.opn
 refine au h ?_
 cases p.rows.find? (lD k n a c) with
 | some y=>rfl
 | none =>
  rw [Sum.elim_inr]
  refine au hM ?_
  rfl
theorem azo {a b c d:Int} (ha:aH a) (hb:aH b) (hc:aH c) (hd:aH d):dU (a,b,c,d,()) ()=some (ch a b c d,()):=by
 have s1:=S2.aM ha.1 ha.2
 have s2:=S2.aM hb.1 hb.2
 have s3:=S2.aM hc.1 hc.2
 have s4:=S2.aM hd.1 hd.2
 rw [auz]
 unfold rN
 rw [S2.dd ha.1 ha.2,S2.dd hb.1 hb.2,S2.dd hc.1 hc.2,S2.dd hd.1 hd.2]
 simp only [Option.bind_some]
 rw [ap (by omega),ap (by simp only [ByteArray.size_append]; omega),ap (by simp only [ByteArray.size_append]; omega)]
 rfl
theorem azp {a b c d:Int} (ha:aH a) (hb:aH b) (hc:aH c) (hd:aH d):yb ((a,b,c,d,()),()) ()=some (ch a b c d,()):=by
 rw [auA]
 unfold rO
 rw [azo ha hb hc hd]
 rfl
theorem aaz {s:ByteArray}:gY (s,()) ()=some (((bL s).1,(bL s).2,()),()):=by
 rw [auB]
 unfold rP bL
 rw [mW]
 simp only [Option.bind_some]
 rw [mW]
 simp only [Option.bind_some]
 rw [mW]
 simp only [Option.bind_some]
 rw [mW]
 simp only [Option.bind_some]
 have k1:bQ s=q1 s:=rfl
 have k2:bQ (q1 s).2.1=q2 s:=rfl
 have k3:bQ (q2 s).2.1=q3 s:=rfl
 have k4:bQ (q3 s).2.1=q4 s:=rfl
 rw [k1,k2,k3,k4]
 cases h1:(q1 s).2.2 with
 | false=>rw [if_neg (fun h=>by have:=h.1.1; rw [h1] at this; cases this)]; rfl
 | true =>
 cases h2:(q2 s).2.2 with
 | false=>rw [if_neg (fun h=>by have:=h.1.2.1; rw [h2] at this; cases this)]; rfl
 | true =>
 cases h3:(q3 s).2.2 with
 | false=>rw [if_neg (fun h=>by have:=h.1.2.2.1; rw [h3] at this; cases this)]; rfl
 | true =>
 cases h4:(q4 s).2.2 with
 | false=>rw [if_neg (fun h=>by have:=h.1.2.2.2; rw [h4] at this; cases this)]; rfl
 | true =>
 by_cases h7:(q4 s).2.1=eB
 ·rw [if_pos ⟨⟨h1,h2,h3,h4⟩,h7⟩]
  refine (eu rfl).trans ?_
  refine (eu rfl).trans ?_
  refine (eu rfl).trans ?_
  refine (eu rfl).trans ?_
  refine (eu (by rw [h7,show (eB.toList==eB.toList)=true from fw _]; rfl)).trans ?_
  rfl
 ·rw [if_neg (fun h=>h7 h.2)]
  refine (eu rfl).trans ?_
  refine (eu rfl).trans ?_
  refine (eu rfl).trans ?_
  refine (eu rfl).trans ?_
  refine (eC (by rw [ci,decide_eq_false h7]; rfl)).trans ?_
  rfl
theorem U5 (p:Rf):p.fresh.2.rows.length=p.rows.length+1/\p.fresh.2.met=p.met:=⟨by show (p.rows++[_]).length=_; simp,rfl⟩
theorem azq (p:Rf) {key volume sector version epoch:Int} {t:ByteArray} (hv:aH volume) (hs:aH sector) (hw:aH version) (he:aH epoch) (hr:p.rows.length<=900000000) (hm:p.met.length<=1000000000) :
  ya (key,volume,sector,version,epoch,t,()) p.m=some ((version,epoch,(oq p key volume sector version epoch t).1,(oq p key volume sector version epoch t).2.1,()),(oq p key volume sector version epoch t).2.2.mo):=by
 obtain ⟨l1,l2⟩:=U5 p
 have h1:=aoy p (by omega) hm
 have h2:=azo hv hs hw he
 have h3:=azm p.fresh.2 key p.fresh.1 (ch volume sector version epoch) t (by omega) (by rw [l2]; exact hm)
 unfold ya wm
 refine au h1 ?_
 refine au h2 ?_
 refine au h3 ?_
 rfl
theorem akV (p:Rf) {key volume sector version epoch nonce c:Int} (hv:aH volume) (hs:aH sector) (hw:aH version) (he:aH epoch) (hr:p.rows.length<=1000000000) (hm:p.met.length<=1000000000) :
  xZ (key,volume,sector,(version,epoch,nonce,c,()),()) p.m=some (((p.opn key nonce (ch volume sector version epoch) c).1,(p.opn key nonce (ch volume sector version epoch) c).2.1,()),(p.opn key nonce (ch volume sector version epoch) c).2.2.mm):=by
 have h1:=azo hv hs hw he
 have h2:=azn p key nonce c (ch volume sector version epoch) hr hm
 unfold xZ wn
 refine au h1 ?_
 refine au h2 ?_
 rfl
theorem akW {o:Or} {p:Rf} (w:Wf o) (r:Rel o p) (t:ByteArray) (hb:p.rows.length<=1000000):U (p.hash t).1:=by
 obtain ⟨h1,_⟩:=RN w r t hb
 obtain ⟨w1,_,_,f1⟩:=cJ w t (by have:=r.dn; omega)
 rw [← h1]
 exact (w1.val _ _ f1).1
theorem G4 (pa:List Int) (hp:pa.length<=8) (hu:∀ x,x∈pa->U x):∀ (suf pre:List Int) (h:Int) (i:Nat) (o:Or) (p:Rf),pa=pre++suf->Wf o->R2 o p->U h->i<1000000->p.rows.length+suf.length<=900000->p.met.length<=900000000 ->
  gJ ((i:Int),pa,h,(pre.length:Int),()) p.mo=some (((xE h i suf p).1,()),(xE h i suf p).2.mo)
 | [],pre,h,i,o,p,e,w,r,hh,hi,hb,hm=>by
  unfold Rf.mo
  rw [QF]
  unfold eT
  rw [bq (by rw [e]; simp)]
  rfl
 | b::suf,pre,h,i,o,p,e,w,r,hh,hi,hb,hm=>by
  simp only [List.length_cons] at hb
  have hlen:pre.length+suf.length+1=pa.length:=by rw [e]; simp; omega
  have hb':U b:=hu b (by rw [e]; simp)
  have hg:pa.getD pre.length 0=b:=by rw [e]; exact g7 ..
  obtain ⟨h1,r1,b1,m1⟩:=Es w r (cG h b i) (by omega)
  obtain ⟨w1,_⟩:=cJ w (cG h b i) (by have:=r.rel.dn; omega)
  have hU:=akW w r.rel (cG h b i) (by omega)
  have ih:=G4 pa hp hu suf (pre++[b]) (p.hash (cG h b i)).1 (i / 2) (o.hash (cG h b i)).2 (p.hash (cG h b i)).2 (by rw [e]; simp) w1 r1 hU (by omega) (by omega) (by rw [m1]; exact hm)
  have e2:IntKind.i64.wrap ((pre.length:Int)+1)=((pre++[b]).length:Int):=by rw [aQ (by omega) (by omega)]; simp
  have ed:IntKind.i64.wrap ((i:Int).tdiv 2)=((i / 2:Nat):Int):=by
   have:(i:Int).tdiv 2=((i / 2:Nat):Int):=rfl
   rw [this,aQ (by omega) (by omega)]
  have em:(i:Int).tmod 2=((i % 2:Nat):Int):=rfl
  unfold Rf.mo
  rw [QF]
  unfold eT
  rw [ap (by omega),em,ed,e2]
  by_cases hz:i % 2=0
  ·have hj:cG h b i=dR h b:=by unfold cG; rw [if_neg (by omega)]
   rw [eC (by rw [hz]; rfl),ap (by omega),ap (by omega),Int.toNat_natCast,hg]
   have hN:=U3 p hh hb' (by omega) (by omega)
   rw [← hj] at hN
   refine au hN ?_
   exact ih
  ·have hj:cG h b i=dR b h:=by unfold cG; rw [if_pos (by omega)]
   rw [eu (beq_false_of_ne (by omega)),ap (by omega),ap (by omega),Int.toNat_natCast,hg]
   have hN:=U3 p hb' hh (by omega) (by omega)
   rw [← hj] at hN
   refine au hN ?_
   exact ih
theorem aaA {o:Or} {p:Rf} {i:Int} {l:List Int} {s:ByteArray} (w:Wf o) (r:R2 o p) (hb:p.rows.length<=800000) (hm:p.met.length<=900000000) (hs:s.size<=140737488355328) (hu:∀ x,x∈l->U x) :
  gr (s,i,l,()) p.m=if fF i l then some (((dG p s i.toNat l).1,true,()),(dG p s i.toNat l).2.mo) else some ((0,false,()),p.mo):=by
 have e0:gr (s,i,l,()) p.m=rr br db gJ s i l p.bads p.draws p.rows p.met some:=rfl
 rw [e0]
 unfold rr
 by_cases h8:(l.length:Int)>8
 ·rw [ap h8,if_neg (fun h=>by have:=h.1; omega)]
  rfl
 ·rw [bq h8]
  by_cases h0:i<0
  ·rw [ap h0,if_neg (fun h=>by have:=h.2.1; omega)]
   rfl
  ·rw [bq h0]
   have hP:=Bo (n:=l.length) (by omega)
   have hcast:(2:Int) ^ l.length=((2 ^ l.length:Nat):Int):=by simp
   refine au hP ?_
   by_cases h1:i≥((2 ^ l.length:Nat):Int)
   ·refine (ap h1).trans ?_
    rw [if_neg (fun h=>by have:=h.2.2; rw [hcast] at this; omega)]
    rfl
   ·refine (bq h1).trans ?_
    have hsmall:2 ^ l.length<=2 ^ 8:=Nat.pow_le_pow_right (by decide) (by omega)
    rw [if_pos ⟨by omega,by omega,by rw [hcast]; omega⟩]
    have hL:=akN p s hs (by omega) (by omega)
    obtain ⟨h2,r1,b1,m1⟩:=Es w r (bh s) (by omega)
    obtain ⟨w1,_⟩:=cJ w (bh s) (by have:=r.rel.dn; omega)
    have hU:=akW w r.rel (bh s) (by omega)
    have hc:=G4 l (by omega) hu l [] (p.hash (bh s)).1 i.toNat (o.hash (bh s)).2 (p.hash (bh s)).2 rfl w1 r1 hU (by omega) (by omega) (by rw [m1]; exact hm)
    rw [show (([]:List Int).length:Int)=0 from rfl,show (i.toNat:Int)=i by omega] at hc
    refine au hL ?_
    refine au hc ?_
    rfl
open Go Go.Proofs.YtljfdfghagiblaaGreat.S2
abbrev om:=List aov
def gq (k v d:Int) (p:Rf) (S:List ByteArray):adG:=((k,v,d,()),(p.bads,()),(256,()),p.draws,p.rows,p.met,S,[],())
def gqL (k v d:Int) (p:Rf) (S:List ByteArray):(Int×Int×Int×Unit)×(Int×Unit)×(Int×Unit)×List Int×Unit×Unit×List ByteArray×om×List RW×List Int×Unit:=((k,v,d,()),(p.bads,()),(256,()),p.draws,(),(),S,[],p.rows,p.met,())
def gqW (k v d:Int) (p:Rf) (S:List ByteArray):(Int×Int×Int×Unit)×(Int×Unit)×(Int×Unit)×List Int×Unit×Unit×List ByteArray×Unit×List RW×List Int×om×Unit:=((k,v,d,()),(p.bads,()),(256,()),p.draws,(),(),S,(),p.rows,p.met,[],())
def gqI (k v d:Int) (p:Rf) (S:List ByteArray):(Int×Int×Int×Unit)×(Int×Unit)×(Int×Unit)×List Int×Unit×List Int×List ByteArray×Unit×List RW×om×Unit:=((k,v,d,()),(p.bads,()),(256,()),p.draws,(),p.met,S,(),p.rows,[],())
def gqD (k v d:Int) (p:Rf) (S:List ByteArray):(Int×Int×Int×Unit)×(Int×Unit)×(Int×Unit)×List Int×List RW×List Int×List ByteArray×Unit×om×Unit:=((k,v,d,()),(p.bads,()),(256,()),p.draws,p.rows,p.met,S,(),[],())
theorem Et {S:List ByteArray} (hD:ca 256 S []):a7 () ((256,()),S,([]:om),())=some (((ag S []).1,(ag S []).2,()),()):=by
 have h:=Pu (P:=[]) hD
 have e:cC ([]:List W2)=[]:=rfl
 rw [e] at h
 exact h
theorem akX {S:List ByteArray} {b:Bool} (hD:ca 256 S []):vL (b,()) ((256,()),S,([]:om),())=some ((gP 256 S [] (dE (ag S []) b)).1,((256,()),(gP 256 S [] (dE (ag S []) b)).2.1,(),([]:om),())):=by
 have h:=akY (happened:=b) hD (by simp)
 rw [B9] at h
 exact h
theorem aoz {S:List ByteArray} {root:Int} (hr:aH root) (hD:ca 256 S []):tR (root,()) ((256,()),S,([]:om),())=some ((gP 256 S [] (some (fN root))).1,((256,()),(gP 256 S [] (some (fN root))).2.1,(),([]:om),())):=by
 have h:=aoA hr hD (by simp)
 rw [B9] at h
 exact h
theorem akZ {S:List ByteArray} {sector next:Int} {leaf:ByteArray} (h1:aH sector) (h2:aH next) (h3:leaf.size<=140737488355328) (hD:ca 256 S []):vW (sector,leaf,next,()) ((256,()),S,([]:om),())=some ((gP 256 S [] (o9 (ag S []) sector leaf next)).1,((256,()),(gP 256 S [] (o9 (ag S []) sector leaf next)).2.1,(),([]:om),())):=by
 have h:=ak0 h1 h2 h3 hD (by simp)
 rw [B9] at h
 exact h
section
variable {k v sector:Int} {d:Nat} {p:Rf} {S:List ByteArray} {leaf:ByteArray} {path:List Int}
theorem atr (h4:d<=4):IntKind.u64.wrap ((2 ^ d:Nat):Int)=2 ^ d:=by
 obtain ⟨h1,h2⟩:=Ga h4
 rw [ff (by omega) (by omega)]
 simp
theorem JE (h4:d<=4) (hD:ca 256 S []):el (sector,()) (gq k v (d:Int) p S)=some (bV (ag S []) sector (d:Int),()):=by
 have hT:=Et hD
 have hP:=Bo (n:=d) (by omega)
 unfold el W0 nU gq
 dsimp only
 rw [hT]
 simp only [Option.bind_some]
 generalize ag S []=r
 obtain ⟨⟨a,b,c,e,f,g,⟨⟩⟩,t⟩:=r
 unfold bV
 cases t with
 | false=>rfl
 | true =>
  dsimp only
  simp only [Bool.not_true,cond_false]
  by_cases hc:c=1
  ·rw [eC (beq_iff_eq.2 hc),if_neg (by decide),if_pos hc]; rfl
  ·rw [eu (beq_false_of_ne hc),hP,if_neg (by decide),if_neg hc]
   simp only [Option.bind_some]
   rw [atr h4,Int.toNat_natCast]
   by_cases hs:sector≥2 ^ d
   ·rw [ap hs,if_pos hs]; rfl
   ·rw [bq hs,if_neg hs]; rfl
theorem aaB (hD:ca 256 S []):fr () (gq k v (d:Int) p S)=some (lN (ag S []),()):=by
 have hT:=Et hD
 have hm:(ag S []).2=true->(ag S []).1.2.2.1=0∨(ag S []).1.2.2.1=1:=fun h=>ak1 (lC h).2.1
 unfold fr MA jN gq
 dsimp only
 rw [hT]
 simp only [Option.bind_some]
 generalize ag S []=r at hm
 obtain ⟨⟨a,b,c,e,f,g,⟨⟩⟩,t⟩:=r
 unfold lN
 cases t with
 | false=>rfl
 | true =>
  dsimp only
  simp only [Bool.not_true,cond_false]
  rcases hm rfl with hc | hc
  ·have hc:c=0:=hc
   rw [eC (bne_iff_ne.2 (by omega)),if_neg (by decide),if_pos hc]; rfl
  ·have hc:c=1:=hc
   rw [eu (by rw [hc]; rfl),if_neg (by decide),if_neg (by omega)]; rfl
theorem RX {b:Bool} (hD:ca 256 S []):dA (b,()) (gq k v (d:Int) p S)=some (bF S b,gqD k v (d:Int) p (gP 256 S [] (dE (ag S []) b)).2.1):=by
 have h:=akX (b:=b) hD
 unfold dA pp bF
 refine au h ?_
 cases (gP 256 S [] (dE (ag S []) b)).1<;>rfl
theorem akw (hD:ca 256 S []):jG () (gq k v (d:Int) p S)=some (zk S,gqD k v (d:Int) p (sF S)):=by
 have hp:=aaB (k:=k) (v:=v) (d:=d) (p:=p) hD
 have hs:=RX (k:=k) (v:=v) (d:=d) (p:=p) (b:=true) hD
 unfold jG vO zk sF
 refine au hp ?_
 by_cases h:lN (ag S [])=0
 ·rw [if_neg (fun q=>q h),if_neg (fun q=>q h)]
  refine (eu (by rw [h]; rfl)).trans ?_
  refine au hs ?_
  rfl
 ·rw [if_pos h,if_pos h]
  exact eC (bne_iff_ne.2 h)
def glq (k v d:Int) (p:Rf) (S:List ByteArray) (leaf:ByteArray) (path:List Int):jg:=((k,v,d,()),(p.bads,()),(256,()),p.draws,p.rows,(),S,[],p.met,(leaf,path,()),())
theorem Br (p:Rf) (h:Int):(p.meet h).rows=p.rows/\(p.meet h).met.length<=p.met.length+1:=by
 unfold Rf.meet
 split
 ·exact ⟨rfl,by omega⟩
 ·exact ⟨rfl,by show (p.met++[h]).length<=_; simp⟩
theorem JF:∀ (l:List Int) (p:Rf),(hH p l).rows=p.rows/\(hH p l).met.length<=p.met.length+l.length
 | [],p=>⟨rfl,Nat.le_refl _⟩
 | h::l,p=>by
  obtain ⟨a,b⟩:=Br p h
  obtain ⟨a',b'⟩:=JF l (p.meet h)
  exact ⟨a'.trans a,by simp only [hH,List.length_cons]; omega⟩
theorem G5 (k v d sector:Int) (S:List ByteArray) (leaf:ByteArray) (path:List Int) (hpl:path.length<=100000000):∀ (suf pre:List Int) (p:Rf),path=pre++suf->p.rows.length<=1000000->p.met.length+suf.length<=900000000 ->
  iB (sector,(pre.length:Int),()) (glq k v d p S leaf path)=some ((sector,()),glq k v d (hH p suf) S leaf path)
 | [],pre,p,e,hr,hm=>by
  unfold glq
  rw [QS]
  unfold eX
  rw [bq (by rw [e]; simp)]
  rfl
 | h::suf,pre,p,e,hr,hm=>by
  simp only [List.length_cons] at hm
  have hM:=Gi p h (by omega) (by omega)
  obtain ⟨a,b⟩:=Br p h
  have ih:=G5 k v d sector S leaf path hpl suf (pre++[h]) (p.meet h) (by rw [e]; simp) (by rw [a]; exact hr) (by omega)
  have hlen:pre.length+suf.length+1=path.length:=by rw [e]; simp; omega
  have e1:IntKind.i64.wrap ((pre.length:Int)+1)=((pre++[h]).length:Int):=by rw [aQ (by omega) (by omega)]; simp
  have hx:path.getD pre.length 0=h:=by rw [e]; exact g7 pre suf h 0
  unfold glq
  rw [QS]
  unfold eX
  rw [ap (by omega),ap (by omega),ap (by omega),Int.toNat_natCast,hx,e1]
  refine au hM ?_
  exact ih
structure Pm (leaf:ByteArray) (path:List Int):Prop where
 w:P0 leaf path
 l:path.length<=16000000
theorem aaC {o:Or} (g:G o) (r:R2 o p) (h4:d<=4) (hb:p.rows.length<=700000) (hm:p.met.length<=660000000) (hw:Pm leaf path) (hs:aH sector) :
    jh (sector,(leaf,path,()),()) (gq k v (d:Int) p S)=some (((bg (d:Int) p sector leaf path).1.1,(bg (d:Int) p sector leaf path).1.2,()),gqL k v (d:Int) (bg (d:Int) p sector leaf path).2 S):=by
  have hwl:=hw.l
  have hL:=G5 k v (d:Int) sector S leaf path (by omega) path [] p rfl (by omega) (by omega)
  obtain ⟨a0,b0⟩:=JF path p
  obtain ⟨r0,_,_⟩:=JD path g r
  have g0:=(Bi path g).1
  have hP:=aaz (s:=leaf)
  have hPw:=Bo (n:=d) (by omega)
  obtain ⟨p1,p2⟩:=Ga h4
  have hc:(2:Int) ^ d=((2 ^ d:Nat):Int):=by simp
  have hfin:∀ (o':Or) (p':Rf),G o'->R2 o' p'->p'.rows.length<=700000->p'.met.length<=700000000->p'=oE p leaf path ->
      (cond ((path.length:Int) != (d:Int)) (some ((0,false,()),gqL k v (d:Int) p' S)) ((br ((d:Int),()) ()).bind fun r5=>cond (decide (sector≥IntKind.u64.wrap r5.1)) (some ((0,false,()),gqL k v (d:Int) p' S)) ((gr (leaf,IntKind.i64.wrap sector,path,()) p'.m).bind fun r6=>some ((r6.1.1,r6.1.2.1,()),((k,v,(d:Int),()),(r6.2.1.1,()),(256,()),r6.2.2.1,(),(),S,[],r6.2.2.2.2.2.1,r6.2.2.2.2.1,()))))) =
        some (((bg (d:Int) p sector leaf path).1.1,(bg (d:Int) p sector leaf path).1.2,()),gqL k v (d:Int) (bg (d:Int) p sector leaf path).2 S):=by
    intro o' p' g' r' hb' hm' e
    unfold bg
    by_cases hp:(path.length:Int)=(d:Int)
    · refine (eu (by rw [hp]; exact bne_self_eq_false _)).trans ?_
      refine au hPw ?_
      rw [atr h4]
      have hpn:path.length=d:=by omega
      by_cases hse:sector≥2 ^ d
      · rw [ap hse]
        rw [if_neg (fun h=>by
          have h2:=h.2.2
          rw [hpn] at h2
          have h21:=h2.2
          have h20:=h2.1
          have hs0:=hs.1
          have hs1:=hs.2
          rw [aot] at h20 h21
          split at h20<;>split at h21<;>omega),← e]
      · rw [bq hse]
        have hsw:IntKind.i64.wrap sector=sector:=aQ (by have:=hs.1; omega) (by omega)
        have hok:fF (IntKind.i64.wrap sector) path:=⟨by omega,by rw [hsw]; exact hs.1,by rw [hsw,hpn]; omega⟩
        have hC:=aaA (i:=IntKind.i64.wrap sector) (l:=path) (s:=leaf) g'.wf r' (by omega) (by omega) hw.w.sz hw.w.u
        rw [if_pos hok] at hC
        rw [if_pos ⟨hp,hok⟩,← e,hC]
        rfl
    · refine (eC (bne_iff_ne.2 hp)).trans ?_
      rw [if_neg (fun h=>hp h.1),← e]
  unfold jh vP
  refine au hL ?_
  refine au hP ?_
  rcases (Bool.eq_false_or_eq_true ((bL leaf).2)).symm with hq | hq
  · refine (eu hq).trans ?_
    exact hfin (sG o path) (hH p path) g0 r0 (by rw [a0]; exact hb) (by omega) (by unfold oE; rw [hq]; rfl)
  · refine (eC hq).trans ?_
    have h1:=Gi (hH p path) (bL leaf).1.2.2.1 (by rw [a0]; omega) (by omega)
    obtain ⟨a1,b1⟩:=Br (hH p path) (bL leaf).1.2.2.1
    have h2:=Gi ((hH p path).meet (bL leaf).1.2.2.1) (bL leaf).1.2.2.2.1 (by rw [a1,a0]; omega) (by omega)
    obtain ⟨a2,b2⟩:=Br ((hH p path).meet (bL leaf).1.2.2.1) (bL leaf).1.2.2.2.1
    have g1:=(jA g0 (bL leaf).1.2.2.1).1
    have r1:=(uf g0.wf r0 (bL leaf).1.2.2.1).1
    have g2:=(jA g1 (bL leaf).1.2.2.2.1).1
    have r2:=(uf g1.wf r1 (bL leaf).1.2.2.2.1).1
    refine au h1 ?_
    refine au h2 ?_
    exact hfin _ (((hH p path).meet (bL leaf).1.2.2.1).meet (bL leaf).1.2.2.2.1) g2 r2 (by rw [a2,a1,a0]; exact hb) (by omega) (by unfold oE; rw [hq]; rfl)
end
end Go.Proofs.YtljfdfghagiblaaGreat.S2.Mk
