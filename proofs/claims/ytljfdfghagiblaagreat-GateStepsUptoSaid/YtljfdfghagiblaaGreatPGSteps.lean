/- What a gateway answers is as the document says,act by act: in plain words. -/
import Derived.Test.YtljfdfghagiblaaGreatPrgate5
import Derived.Test.YtljfdfghagiblaaGreatP23f
import Derived.Test.YtljfdfghagiblaaGreatGLGateSteps
set_option maxRecDepth 4000
namespace Go.Proofs.YtljfdfghagiblaaGreat.S2.Mk
open Go Go.Proofs.YtljfdfghagiblaaGreat.S2
structure SS (j:Nat) (o:Or) (p:Rf) (S:List ByteArray) (last:ByteArray):Prop where
 g:G o
 r:R2 o p
 rows:p.rows.length<=100*j+1000
 met:p.met.length<=16000003*j
 st:∃ n t,yi 256 S n t/\n<=(j:Int)+1
 ls:last.size<=140737488355328
variable (d:Nat)
def stM (o:Or) (p:Rf) (S:List ByteArray):gx:=(o.plains,[],p.met,p.rows,[],(o.draws,o.drawn,o.bad,()),o.issued,o.met,o.hashes,o.tags,o.seals,o.opens,(p.bads,()),p.draws,(3,5,(d:Int),()),(),(256,()),S,(256,()),S,(3,5,(d:Int),()),())
def jnM (x:KK) (sh:ByteArray×List Int×Unit) (o:Or) (p:Rf) (S:List ByteArray):gw:=(o.plains,[],p.met,p.rows,[],aGP x,sh,(o.draws,o.drawn,o.bad,()),o.issued,o.met,o.hashes,o.tags,o.seals,o.opens,(p.bads,()),p.draws,(3,5,(d:Int),()),(),(256,()),S,(256,()),S,(3,5,(d:Int),()),())
theorem U1 {j:Nat} {l:List KK} {x:KK} {sh:ByteArray×List Int×Unit} {o:Or} {p:Rf} {S:List ByteArray} {last:ByteArray} (r:R2 o p):ax (l,last,(j:Int),true,()) (jnM d x sh o p S)=some (.inr ((l,last,(j:Int),()),stM d o p S)):=by
 have h1:=aok o
 have h2:=aol p
 have h3:=aFT o
 have h4:=aFU p
 unfold ax dO
 refine (eu rfl).trans ?_
 refine au h1 ?_
 refine au h2 ?_
 refine (eu (by rw [r.rel.dn]; exact bne_self_eq_false _)).trans ?_
 refine au h3 ?_
 refine au h4 ?_
 refine (eu (by rw [r.rel.bd]; exact bne_self_eq_false _)).trans ?_
 rfl
theorem Jo {o:Or} {p:Rf} {k v sector epoch:Int} {d:Nat} {S:List ByteArray} {t leaf:ByteArray} {path:List Int} (g:G o) (r:R2 o p) (h4:d<=4) (hb:p.rows.length<=600000) (he:aH epoch) (hd:o.drawn<=800000000):(cR k v (d:Int) o S sector epoch t leaf path).1.1.size<=40:=by
 obtain ⟨g1,_,d1⟩:=eg g (d:Int) sector leaf path (by omega)
 have h:=(Iv g1 k v sector epoch t (IntKind.u64.wrap ((ag S []).1.2.1+1)) (by omega) (ol _) he).2.2.2
 unfold cR
 split
 ·exact Nat.zero_le _
 ·unfold bA
  split
  ·exact Nat.zero_le _
  ·split
   ·exact Nat.zero_le _
   ·dsimp only
    split
    ·exact h
    ·exact Nat.zero_le _
abbrev aGQ:KK:=z9
theorem U2 (h4:d<=4) {l:List KK} (hll:l.length<=140737488355328) (hok:∀ x∈l,Pd x/\x.2.2.2.2.2.2.2.1.length<=16000000):∀ (k j:Nat) (o:Or) (p:Rf) (S:List ByteArray) (last:ByteArray),j+k=40->SS j o p S last ->
    dS (l,last,(j:Int),()) (stM d o p S)=some (.inr ((),())):=by
  intro k
  induction k with
  | zero =>
    intro j o p S last hk hS
    unfold stM
    rw [KU]
    unfold dv
    by_cases h1:(j:Int)<(l.length:Int)
    · rw [ap h1,bq (by omega)]
    · rw [bq h1]
  | succ k ih =>
    intro j o p S last hk hS
    obtain ⟨g,r,hrw,hmt,⟨n,t,st,hn⟩,hls⟩:=hS
    have ej:IntKind.i64.wrap ((j:Int)+1)=((j+1:Nat):Int):=by rw [aQ (by omega) (by omega)]; simp
    unfold stM
    rw [KU]
    unfold dv
    by_cases h1:(j:Int)<(l.length:Int)
    · rw [ap h1,ap (by omega),ap (by omega),ap h1,Int.toNat_natCast]
      generalize hx:l.getD j aGQ=x
      have hxm:x∈l:=by
        rw [← hx,List.getD_eq_getElem?_getD,List.getElem?_eq_getElem (by omega)]
        exact List.getElem_mem (by omega)
      obtain ⟨hxo,hxp⟩:=hok x hxm
      have hD:=Rr st
      have hu5:aH 5:=⟨by decide,by decide⟩
      have hdn:=r.rel.dn
      -- what goes on
      have next:∀ (sh:ByteArray×List Int×Unit) (o':Or) (p':Rf) (S':List ByteArray) (last':ByteArray),G o'->R2 o' p'->p'.rows.length<=p.rows.length+100->p'.met.length<=p.met.length+16000003->(∃ n t,yi 256 S' n t/\n<=(j:Int)+2)->last'.size<=140737488355328 ->
          ax (l,last',(j:Int),true,()) (jnM d x sh o' p' S')=some (.inr ((l,last',(j:Int),()),stM d o' p' S'))/\dS (l,last',IntKind.i64.wrap ((j:Int)+1),()) (stM d o' p' S')=some (.inr ((),())):=by
        intro sh o' p' S' last' g' r' hr' hm' hs' hl'
        obtain ⟨n',t',st',hn'⟩:=hs'
        refine ⟨U1 d r',?_⟩
        rw [ej]
        exact ih (j+1) o' p' S' last' (by omega) ⟨g',r',by omega,by omega,⟨n',t',st',by omega⟩,hl'⟩
      by_cases hh:x.2.1=1
      · refine (eC (beq_iff_eq.2 hh)).trans ?_
        have hw:Pm last x.2.2.2.2.2.2.2.1:=⟨⟨hls,hxo.shw.u,hxo.shw.len⟩,hxp⟩
        by_cases a0:x.1=0
        · have e1:=uA (k:=3) (v:=5) (d:=(d:Int)) (sector:=x.2.2.2.1) (S:=S) g (by omega) hw.w (by omega) (by omega) hD hu5 hxo.s
          have e2:=akt (k:=3) (v:=5) (S:=S) g r h4 (by omega) (by omega) hw hxo.s hu5 hD
          obtain ⟨k1,k2,k3⟩:=aal g r (by omega) 3 5 (d:Int) S x.2.2.2.1 last x.2.2.2.2.2.2.2.1
          have kr:=k3.rows
          have km:=k3.met
          obtain ⟨g2,_⟩:=Pe g (by omega) 3 5 (d:Int) S x.2.2.2.1 last x.2.2.2.2.2.2.2.1
          obtain ⟨n1,n2⟩:=next (last,x.2.2.2.2.2.2.2.1,()) _ _ S last g2 k2 (by omega) (by omega) ⟨n,t,st,by omega⟩ hls
          refine (eC (beq_iff_eq.2 a0)).trans ?_
          refine au e1 ?_
          refine au e2 ?_
          refine (eC (by rw [k1]; exact fw _)).trans ?_
          have hb:((cX 3 5 (d:Int) o S x.2.2.2.1 last x.2.2.2.2.2.2.2.1).1.2==(BQ 3 5 (d:Int) p S x.2.2.2.1 last x.2.2.2.2.2.2.2.1).1.2)=true:=by rw [k1]; exact beq_self_eq_true _
          dsimp only
          rw [hb]
          refine au n1 ?_
          exact n2
        refine (eu (beq_false_of_ne a0)).trans ?_
        by_cases a1:x.1=1
        · have e1:=Bj (k:=3) (v:=5) (d:=(d:Int)) (sector:=x.2.2.2.1) (epoch:=x.2.2.2.2.1) (p:=x.2.2.2.2.2.1) (S:=S) g (by omega) hw.w (by omega) (by omega) hD hu5 hxo.s hxo.h
          have e2:=aam (k:=3) (v:=5) (epoch:=x.2.2.2.2.1) (t:=x.2.2.2.2.2.1) (S:=S) g r h4 (by omega) (by omega) hw hxo.s hu5 hxo.h hD
          obtain ⟨k1,k2,kS,k3⟩:=Ry g r (by omega) 3 5 (d:Int) S x.2.2.2.1 x.2.2.2.2.1 x.2.2.2.2.2.1 last x.2.2.2.2.2.2.2.1 hxo.h
          have kr:=k3.rows
          have km:=k3.met
          obtain ⟨g2,_,_,n',t',s2,_⟩:=Le (d:=d) (S:=S) (sector:=x.2.2.2.1) (epoch:=x.2.2.2.2.1) (p:=x.2.2.2.2.2.1) g (by omega) h4 st (by omega) hxo.s hw.w hxo.h
          have hsz:=Jo g r h4 (by omega) (k:=3) (v:=5) (S:=S) (sector:=x.2.2.2.1) (epoch:=x.2.2.2.2.1) (t:=x.2.2.2.2.2.1) (leaf:=last) (path:=x.2.2.2.2.2.2.2.1) hxo.h (by omega)
          rw [k1] at hsz
          obtain ⟨n1,n2⟩:=next (last,x.2.2.2.2.2.2.2.1,()) _ _ _ (lA 3 5 (d:Int) p S x.2.2.2.1 x.2.2.2.2.1 x.2.2.2.2.2.1 last x.2.2.2.2.2.2.2.1).1.1 g2 k2 (by omega) (by omega) ⟨n',t',s2.1,by omega⟩ (by omega)
          refine (eC (beq_iff_eq.2 a1)).trans ?_
          refine au e1 ?_
          refine au e2 ?_
          refine (eC (by rw [k1]; exact fw _)).trans ?_
          have hb:((cR 3 5 (d:Int) o S x.2.2.2.1 x.2.2.2.2.1 x.2.2.2.2.2.1 last x.2.2.2.2.2.2.2.1).1.2==(lA 3 5 (d:Int) p S x.2.2.2.1 x.2.2.2.2.1 x.2.2.2.2.2.1 last x.2.2.2.2.2.2.2.1).1.2)=true:=by rw [k1]; exact beq_self_eq_true _
          dsimp only
          rw [hb,← kS]
          refine au n1 ?_
          exact n2
        refine (eu (beq_false_of_ne a1)).trans ?_
        by_cases a2:x.1=2
        · have e1:=aku (k:=3) (v:=5) (d:=(d:Int)) (sector:=x.2.2.2.1) (S:=S) g (by omega) hw.w (by omega) (by omega) hD hxo.s
          have e2:=akv (k:=3) (v:=5) (S:=S) g r h4 (by omega) (by omega) hw hxo.s hD
          obtain ⟨k1,k2,kS,k3⟩:=Gg g r (by omega) (d:Int) S x.2.2.2.1 last x.2.2.2.2.2.2.2.1 Rz
          have kr:=k3.rows
          have km:=k3.met
          obtain ⟨g2,_,_,n',t',s2,_⟩:=Rq (d:=d) (S:=S) (sector:=x.2.2.2.1) g (by omega) h4 st (by omega) hxo.s hw.w
          have k1:(jR (d:Int) o S x.2.2.2.1 last x.2.2.2.2.2.2.2.1).1=(lO (d:Int) p S x.2.2.2.1 last x.2.2.2.2.2.2.2.1).1:=k1
          have kS:(jR (d:Int) o S x.2.2.2.1 last x.2.2.2.2.2.2.2.1).2.2=(lO (d:Int) p S x.2.2.2.1 last x.2.2.2.2.2.2.2.1).2.2:=kS
          obtain ⟨n1,n2⟩:=next (last,x.2.2.2.2.2.2.2.1,()) _ (lO (d:Int) p S x.2.2.2.1 last x.2.2.2.2.2.2.2.1).2.1 _ last g2 k2 (by show (lO (d:Int) p S x.2.2.2.1 last x.2.2.2.2.2.2.2.1).2.1.rows.length<=_; have:(lO (d:Int) p S x.2.2.2.1 last x.2.2.2.2.2.2.2.1).2.1.rows.length<=p.rows.length+20:=kr; omega) (by have:(lO (d:Int) p S x.2.2.2.1 last x.2.2.2.2.2.2.2.1).2.1.met.length<=p.met.length+(x.2.2.2.2.2.2.2.1.length+3):=km; omega) ⟨n',t',s2.1,by omega⟩ hls
          refine (eC (beq_iff_eq.2 a2)).trans ?_
          refine au e1 ?_
          refine au e2 ?_
          have hb:((jR (d:Int) o S x.2.2.2.1 last x.2.2.2.2.2.2.2.1).1.2==(lO (d:Int) p S x.2.2.2.1 last x.2.2.2.2.2.2.2.1).1.2)=true:=by rw [k1]; exact beq_self_eq_true _
          dsimp only
          rw [hb,← kS]
          refine au n1 ?_
          exact n2
        refine (eu (beq_false_of_ne a2)).trans ?_
        by_cases a3:x.1=3
        · have e1:=U0 o (k:=3) (v:=5) (d:=(d:Int)) hD
          have e2:=akw (k:=3) (v:=5) (d:=d) (p:=p) hD
          obtain ⟨n',t',s1,s2⟩:=Rp st (by omega)
          obtain ⟨n1,n2⟩:=next (last,x.2.2.2.2.2.2.2.1,()) o p (sF S) last g r (by omega) (by omega) ⟨n',t',s1,by omega⟩ hls
          refine (eC (beq_iff_eq.2 a3)).trans ?_
          refine au e1 ?_
          refine au e2 ?_
          have hb:(zk S==zk S)=true:=beq_self_eq_true _
          dsimp only
          rw [hb]
          refine au n1 ?_
          exact n2
        refine (eu (beq_false_of_ne a3)).trans ?_
        by_cases a4:x.1=4
        · have e1:=Lj (k:=3) (v:=5) (d:=(d:Int)) (S:=S) g (by omega) hw.w hD
          have e2:=Lk (k:=3) (v:=5) (S:=S) g r h4 (by omega) (by omega) hw (fun h=>(lC h).1.d) hD
          obtain ⟨k1,k2,kS,k3⟩:=akx g r (by omega) (d:Int) S last x.2.2.2.2.2.2.2.1
          have kr:=k3.rows
          have km:=k3.met
          obtain ⟨g2,_⟩:=atk g (by omega) (d:Int) S last x.2.2.2.2.2.2.2.1
          obtain ⟨n',t',s1,s2,_⟩:=aah (o:=o) st (by omega) (d:Int) last x.2.2.2.2.2.2.2.1
          obtain ⟨n1,n2⟩:=next (last,x.2.2.2.2.2.2.2.1,()) _ _ _ last g2 k2 (by omega) (by omega) ⟨n',t',s1,by omega⟩ hls
          refine (eC (beq_iff_eq.2 a4)).trans ?_
          refine au e1 ?_
          refine au e2 ?_
          refine (eC (by rw [k1]; exact beq_self_eq_true _)).trans ?_
          have hb:((uz (d:Int) o S last x.2.2.2.2.2.2.2.1).1.2==(HA (d:Int) p S last x.2.2.2.2.2.2.2.1).1.2)=true:=by rw [k1]; exact beq_self_eq_true _
          dsimp only
          rw [hb,← kS]
          refine au n1 ?_
          exact n2
        refine (eu (beq_false_of_ne a4)).trans ?_
        by_cases a5:x.1=5
        · have e1:=aan (keep:=x.2.2.2.2.2.2.2.2) hD
          have e2:da (x.2.2.2.2.2.2.2.2,()) ((256,()),S,([]:om),())=some ((),((256,()),S,(),([]:om),())):=by
            have h:=Pn (P:=[]) (keep:=x.2.2.2.2.2.2.2.2) hD
            have e:cC ([]:List W2)=[]:=rfl
            rw [e] at h
            exact h
          obtain ⟨n1,n2⟩:=next (last,x.2.2.2.2.2.2.2.1,()) o p S last g r (by omega) (by omega) ⟨n,t,st,by omega⟩ hls
          refine (eC (beq_iff_eq.2 a5)).trans ?_
          refine au e1 ?_
          refine au e2 ?_
          refine au n1 ?_
          exact n2
        refine (eu (beq_false_of_ne a5)).trans ?_
        by_cases a6:x.1=6
        · have e1:=Gh o x.2.2.2.2.1
          have e2:=Gi p x.2.2.2.2.1 (by omega) (by omega)
          obtain ⟨r1,b1,b2⟩:=uf g.wf r x.2.2.2.2.1
          obtain ⟨n1,n2⟩:=next (last,x.2.2.2.2.2.2.2.1,()) (o.meet x.2.2.2.2.1) (p.meet x.2.2.2.2.1) S last (jA g _).1 r1 (by rw [b1]; omega) (by omega) ⟨n,t,st,by omega⟩ hls
          refine (eC (beq_iff_eq.2 a6)).trans ?_
          refine au e1 ?_
          refine au e2 ?_
          refine au n1 ?_
          exact n2
        · obtain ⟨n1,n2⟩:=next (last,x.2.2.2.2.2.2.2.1,()) o p S last g r (by omega) (by omega) ⟨n,t,st,by omega⟩ hls
          refine (eu (beq_false_of_ne a6)).trans ?_
          refine au n1 ?_
          exact n2
      · refine (eu (beq_false_of_ne hh)).trans ?_
        have hw:Pm x.2.2.2.2.2.2.1 x.2.2.2.2.2.2.2.1:=⟨⟨hxo.shw.sz,hxo.shw.u,hxo.shw.len⟩,hxp⟩
        by_cases a0:x.1=0
        · have e1:=uA (k:=3) (v:=5) (d:=(d:Int)) (sector:=x.2.2.2.1) (S:=S) g (by omega) hw.w (by omega) (by omega) hD hu5 hxo.s
          have e2:=akt (k:=3) (v:=5) (S:=S) g r h4 (by omega) (by omega) hw hxo.s hu5 hD
          obtain ⟨k1,k2,k3⟩:=aal g r (by omega) 3 5 (d:Int) S x.2.2.2.1 x.2.2.2.2.2.2.1 x.2.2.2.2.2.2.2.1
          have kr:=k3.rows
          have km:=k3.met
          obtain ⟨g2,_⟩:=Pe g (by omega) 3 5 (d:Int) S x.2.2.2.1 x.2.2.2.2.2.2.1 x.2.2.2.2.2.2.2.1
          obtain ⟨n1,n2⟩:=next (x.2.2.2.2.2.2.1,x.2.2.2.2.2.2.2.1,()) _ _ S last g2 k2 (by omega) (by omega) ⟨n,t,st,by omega⟩ hls
          refine (eC (beq_iff_eq.2 a0)).trans ?_
          refine au e1 ?_
          refine au e2 ?_
          refine (eC (by rw [k1]; exact fw _)).trans ?_
          have hb:((cX 3 5 (d:Int) o S x.2.2.2.1 x.2.2.2.2.2.2.1 x.2.2.2.2.2.2.2.1).1.2==(BQ 3 5 (d:Int) p S x.2.2.2.1 x.2.2.2.2.2.2.1 x.2.2.2.2.2.2.2.1).1.2)=true:=by rw [k1]; exact beq_self_eq_true _
          dsimp only
          rw [hb]
          refine au n1 ?_
          exact n2
        refine (eu (beq_false_of_ne a0)).trans ?_
        by_cases a1:x.1=1
        · have e1:=Bj (k:=3) (v:=5) (d:=(d:Int)) (sector:=x.2.2.2.1) (epoch:=x.2.2.2.2.1) (p:=x.2.2.2.2.2.1) (S:=S) g (by omega) hw.w (by omega) (by omega) hD hu5 hxo.s hxo.h
          have e2:=aam (k:=3) (v:=5) (epoch:=x.2.2.2.2.1) (t:=x.2.2.2.2.2.1) (S:=S) g r h4 (by omega) (by omega) hw hxo.s hu5 hxo.h hD
          obtain ⟨k1,k2,kS,k3⟩:=Ry g r (by omega) 3 5 (d:Int) S x.2.2.2.1 x.2.2.2.2.1 x.2.2.2.2.2.1 x.2.2.2.2.2.2.1 x.2.2.2.2.2.2.2.1 hxo.h
          have kr:=k3.rows
          have km:=k3.met
          obtain ⟨g2,_,_,n',t',s2,_⟩:=Le (d:=d) (S:=S) (sector:=x.2.2.2.1) (epoch:=x.2.2.2.2.1) (p:=x.2.2.2.2.2.1) g (by omega) h4 st (by omega) hxo.s hw.w hxo.h
          have hsz:=Jo g r h4 (by omega) (k:=3) (v:=5) (S:=S) (sector:=x.2.2.2.1) (epoch:=x.2.2.2.2.1) (t:=x.2.2.2.2.2.1) (leaf:=x.2.2.2.2.2.2.1) (path:=x.2.2.2.2.2.2.2.1) hxo.h (by omega)
          rw [k1] at hsz
          obtain ⟨n1,n2⟩:=next (x.2.2.2.2.2.2.1,x.2.2.2.2.2.2.2.1,()) _ _ _ (lA 3 5 (d:Int) p S x.2.2.2.1 x.2.2.2.2.1 x.2.2.2.2.2.1 x.2.2.2.2.2.2.1 x.2.2.2.2.2.2.2.1).1.1 g2 k2 (by omega) (by omega) ⟨n',t',s2.1,by omega⟩ (by omega)
          refine (eC (beq_iff_eq.2 a1)).trans ?_
          refine au e1 ?_
          refine au e2 ?_
          refine (eC (by rw [k1]; exact fw _)).trans ?_
          have hb:((cR 3 5 (d:Int) o S x.2.2.2.1 x.2.2.2.2.1 x.2.2.2.2.2.1 x.2.2.2.2.2.2.1 x.2.2.2.2.2.2.2.1).1.2==(lA 3 5 (d:Int) p S x.2.2.2.1 x.2.2.2.2.1 x.2.2.2.2.2.1 x.2.2.2.2.2.2.1 x.2.2.2.2.2.2.2.1).1.2)=true:=by rw [k1]; exact beq_self_eq_true _
          dsimp only
          rw [hb,← kS]
          refine au n1 ?_
          exact n2
        refine (eu (beq_false_of_ne a1)).trans ?_
        by_cases a2:x.1=2
        · have e1:=aku (k:=3) (v:=5) (d:=(d:Int)) (sector:=x.2.2.2.1) (S:=S) g (by omega) hw.w (by omega) (by omega) hD hxo.s
          have e2:=akv (k:=3) (v:=5) (S:=S) g r h4 (by omega) (by omega) hw hxo.s hD
          obtain ⟨k1,k2,kS,k3⟩:=Gg g r (by omega) (d:Int) S x.2.2.2.1 x.2.2.2.2.2.2.1 x.2.2.2.2.2.2.2.1 Rz
          have kr:=k3.rows
          have km:=k3.met
          obtain ⟨g2,_,_,n',t',s2,_⟩:=Rq (d:=d) (S:=S) (sector:=x.2.2.2.1) g (by omega) h4 st (by omega) hxo.s hw.w
          have k1:(jR (d:Int) o S x.2.2.2.1 x.2.2.2.2.2.2.1 x.2.2.2.2.2.2.2.1).1=(lO (d:Int) p S x.2.2.2.1 x.2.2.2.2.2.2.1 x.2.2.2.2.2.2.2.1).1:=k1
          have kS:(jR (d:Int) o S x.2.2.2.1 x.2.2.2.2.2.2.1 x.2.2.2.2.2.2.2.1).2.2=(lO (d:Int) p S x.2.2.2.1 x.2.2.2.2.2.2.1 x.2.2.2.2.2.2.2.1).2.2:=kS
          obtain ⟨n1,n2⟩:=next (x.2.2.2.2.2.2.1,x.2.2.2.2.2.2.2.1,()) _ (lO (d:Int) p S x.2.2.2.1 x.2.2.2.2.2.2.1 x.2.2.2.2.2.2.2.1).2.1 _ last g2 k2 (by show (lO (d:Int) p S x.2.2.2.1 x.2.2.2.2.2.2.1 x.2.2.2.2.2.2.2.1).2.1.rows.length<=_; have:(lO (d:Int) p S x.2.2.2.1 x.2.2.2.2.2.2.1 x.2.2.2.2.2.2.2.1).2.1.rows.length<=p.rows.length+20:=kr; omega) (by have:(lO (d:Int) p S x.2.2.2.1 x.2.2.2.2.2.2.1 x.2.2.2.2.2.2.2.1).2.1.met.length<=p.met.length+(x.2.2.2.2.2.2.2.1.length+3):=km; omega) ⟨n',t',s2.1,by omega⟩ hls
          refine (eC (beq_iff_eq.2 a2)).trans ?_
          refine au e1 ?_
          refine au e2 ?_
          have hb:((jR (d:Int) o S x.2.2.2.1 x.2.2.2.2.2.2.1 x.2.2.2.2.2.2.2.1).1.2==(lO (d:Int) p S x.2.2.2.1 x.2.2.2.2.2.2.1 x.2.2.2.2.2.2.2.1).1.2)=true:=by rw [k1]; exact beq_self_eq_true _
          dsimp only
          rw [hb,← kS]
          refine au n1 ?_
          exact n2
        refine (eu (beq_false_of_ne a2)).trans ?_
        by_cases a3:x.1=3
        · have e1:=U0 o (k:=3) (v:=5) (d:=(d:Int)) hD
          have e2:=akw (k:=3) (v:=5) (d:=d) (p:=p) hD
          obtain ⟨n',t',s1,s2⟩:=Rp st (by omega)
          obtain ⟨n1,n2⟩:=next (x.2.2.2.2.2.2.1,x.2.2.2.2.2.2.2.1,()) o p (sF S) last g r (by omega) (by omega) ⟨n',t',s1,by omega⟩ hls
          refine (eC (beq_iff_eq.2 a3)).trans ?_
          refine au e1 ?_
          refine au e2 ?_
          have hb:(zk S==zk S)=true:=beq_self_eq_true _
          dsimp only
          rw [hb]
          refine au n1 ?_
          exact n2
        refine (eu (beq_false_of_ne a3)).trans ?_
        by_cases a4:x.1=4
        · have e1:=Lj (k:=3) (v:=5) (d:=(d:Int)) (S:=S) g (by omega) hw.w hD
          have e2:=Lk (k:=3) (v:=5) (S:=S) g r h4 (by omega) (by omega) hw (fun h=>(lC h).1.d) hD
          obtain ⟨k1,k2,kS,k3⟩:=akx g r (by omega) (d:Int) S x.2.2.2.2.2.2.1 x.2.2.2.2.2.2.2.1
          have kr:=k3.rows
          have km:=k3.met
          obtain ⟨g2,_⟩:=atk g (by omega) (d:Int) S x.2.2.2.2.2.2.1 x.2.2.2.2.2.2.2.1
          obtain ⟨n',t',s1,s2,_⟩:=aah (o:=o) st (by omega) (d:Int) x.2.2.2.2.2.2.1 x.2.2.2.2.2.2.2.1
          obtain ⟨n1,n2⟩:=next (x.2.2.2.2.2.2.1,x.2.2.2.2.2.2.2.1,()) _ _ _ last g2 k2 (by omega) (by omega) ⟨n',t',s1,by omega⟩ hls
          refine (eC (beq_iff_eq.2 a4)).trans ?_
          refine au e1 ?_
          refine au e2 ?_
          refine (eC (by rw [k1]; exact beq_self_eq_true _)).trans ?_
          have hb:((uz (d:Int) o S x.2.2.2.2.2.2.1 x.2.2.2.2.2.2.2.1).1.2==(HA (d:Int) p S x.2.2.2.2.2.2.1 x.2.2.2.2.2.2.2.1).1.2)=true:=by rw [k1]; exact beq_self_eq_true _
          dsimp only
          rw [hb,← kS]
          refine au n1 ?_
          exact n2
        refine (eu (beq_false_of_ne a4)).trans ?_
        by_cases a5:x.1=5
        · have e1:=aan (keep:=x.2.2.2.2.2.2.2.2) hD
          have e2:da (x.2.2.2.2.2.2.2.2,()) ((256,()),S,([]:om),())=some ((),((256,()),S,(),([]:om),())):=by
            have h:=Pn (P:=[]) (keep:=x.2.2.2.2.2.2.2.2) hD
            have e:cC ([]:List W2)=[]:=rfl
            rw [e] at h
            exact h
          obtain ⟨n1,n2⟩:=next (x.2.2.2.2.2.2.1,x.2.2.2.2.2.2.2.1,()) o p S last g r (by omega) (by omega) ⟨n,t,st,by omega⟩ hls
          refine (eC (beq_iff_eq.2 a5)).trans ?_
          refine au e1 ?_
          refine au e2 ?_
          refine au n1 ?_
          exact n2
        refine (eu (beq_false_of_ne a5)).trans ?_
        by_cases a6:x.1=6
        · have e1:=Gh o x.2.2.2.2.1
          have e2:=Gi p x.2.2.2.2.1 (by omega) (by omega)
          obtain ⟨r1,b1,b2⟩:=uf g.wf r x.2.2.2.2.1
          obtain ⟨n1,n2⟩:=next (x.2.2.2.2.2.2.1,x.2.2.2.2.2.2.2.1,()) (o.meet x.2.2.2.2.1) (p.meet x.2.2.2.2.1) S last (jA g _).1 r1 (by rw [b1]; omega) (by omega) ⟨n,t,st,by omega⟩ hls
          refine (eC (beq_iff_eq.2 a6)).trans ?_
          refine au e1 ?_
          refine au e2 ?_
          refine au n1 ?_
          exact n2
        · obtain ⟨n1,n2⟩:=next (x.2.2.2.2.2.2.1,x.2.2.2.2.2.2.2.1,()) o p S last g r (by omega) (by omega) ⟨n,t,st,by omega⟩ hls
          refine (eu (beq_false_of_ne a6)).trans ?_
          refine au n1 ?_
          exact n2
    · rw [bq h1]
theorem aom {o:Or} {d:Nat} (g:G o) (hd:o.drawn<=900000000) (h4:d<=4) :
  ∃ root,eF ((d:Int),()) o.m=some (.inl ((true,()),mdM (d:Int) (bi d [] o).2 (B7 d o S0).2.2))/\yi 256 (B7 d o S0).2.2 1 (fN root)/\(B7 d o S0).1=true:=by
 have hN:=S2.Lf (n:=2) (size:=256) ⟨by decide,by decide,by decide,by decide⟩
 have hS:uc 256 S0 0 eB:=Gd (by decide) (by decide)
 have hl2:S0.length=2:=by rw [List.length_replicate]; rfl
 obtain ⟨S1,hS1⟩:∃ S1,S1=S0:=⟨_,rfl⟩
 change qk (2,256,()) ()=some (.inr ((),((256,()),S0,[],()))) at hN
 rw [← hS1] at hN hS hl2
 have hD:ca 256 S1 []:=Pc hS
 have hF:=Rs (k:=3) (v:=5) (S:=S1) g hd h4 hD
 have hHT:=Jk (ls:=[]) (d:=d) g.wf (by omega) (by omega)
 obtain ⟨v1,v2⟩:=Iu hS (by decide) (El (root:=fe (bi d [] o).1) (Ge hHT.allU)) (Lc _) (Nat.zero_le _)
 rw [← hS1]
 refine ⟨fe (bi d [] o).1,?_,v2,v1⟩
 unfold eF ny
 refine au hN ?_
 rw [Sum.elim_inr]
 have hO:=S2.Jl (size:=256) (S:=S1) (P:=[])
 rw [if_neg (by omega)] at hO
 refine au hO ?_
 rw [Sum.elim_inr]
 have hG:tt (3,5,(d:Int),()) ((o.draws,o.drawn,o.bad,()),(),o.issued,o.met,o.hashes,o.tags,o.seals,o.opens,o.plains,(256,()),S1,[],())=some (.inr ((),((o.draws,o.drawn,o.bad,()),(),o.issued,o.met,o.hashes,o.tags,o.seals,o.opens,o.plains,(256,()),S1,[],(3,5,(d:Int),()),()))):=by
  rw [SY]
  unfold j9
  rw [bq (by omega),bq (by omega)]
 refine au hG ?_
 rw [Sum.elim_inr]
 refine au hF ?_
 have:(B7 d o S1).1=true:=v1
 rw [this]
 rfl
theorem Hx {draws:List Int} {dp:Int} {l:List KK} (hd:∀ x,x∈draws->U x) (hdl:draws.length<=17592186044416) (hl:l.length<=140737488355328) (hok:∀ x∈l,Pd x/\x.2.2.2.2.2.2.2.1.length<=16000000):VK (draws,dp,l,()) ()=some (true,()):=by
 have g0:=atl hd
 have r0:=aze draws
 have hN:=Lf hdl
 have hRN:=aky (draws:=draws) hdl
 have hF:=ab5
 unfold VK uQ
 refine au hN ?_
 refine au hRN ?_
 by_cases hdp:0<=dp/\dp<=4
 ·obtain ⟨d,rfl⟩:∃ d:Nat,dp=(d:Int):=⟨dp.toNat,by omega⟩
  have h4:d<=4:=by omega
  have d0:(Or.new draws).drawn=0:=rfl
  obtain ⟨root,hM,st,hok1⟩:=aom (o:=Or.new draws) (d:=d) g0 (by rw [d0]; decide) h4
  obtain ⟨g1,x1⟩:=Pl (d:=d) (ls:=[]) g0 (by omega) (by rw [d0]; decide)
  have hS:uc 256 S0 0 eB:=Gd (by decide) (by decide)
  have hQ:=akz (k:=3) (v:=5) (d:=d) (S:=S0) g0 r0 h4 (Nat.zero_le _) (Nat.zero_le _) (Pc hS)
  have hDN:=S2.aky (n:=2) (size:=256) ⟨by decide,by decide,by decide,by decide⟩
  obtain ⟨S1,hS1⟩:∃ S1,S1=S0:=⟨_,rfl⟩
  change lM (2,256,()) ()=some (.inr ((),((256,()),S0,[],()))) at hDN
  rw [← hS1] at hDN hQ hM st hok1
  obtain ⟨hQ1,hQ2,hQ3,hQ4⟩:=hQ
  have hL:=U2 d h4 hl hok 40 0 (bi d [] (Or.new draws)).2 (g5 d [] (Rf.new draws)).2 (B7 d (Or.new draws) S1).2.2 eB rfl ⟨g1,hQ2,by have:(Rf.new draws).rows.length=0:=rfl; omega,by rw [hQ4]; exact Nat.zero_le _,⟨1,_,st,by omega⟩,Nat.zero_le _⟩
  refine au hM ?_
  rw [Sum.elim_inl]
  refine au hF ?_
  refine (eu rfl).trans ?_
  refine (ap (by show (d:Int)≥0; omega)).trans ?_
  refine (eu (by show (true != decide ((d:Int)<=4))=false; rw [decide_eq_true (by omega:(d:Int)<=4)]; rfl)).trans ?_
  refine (eu rfl).trans ?_
  refine au hDN ?_
  rw [Sum.elim_inr]
  refine au hQ1 ?_
  refine (eu (by rw [hok1]; rfl)).trans ?_
  refine au hL ?_
  rfl
 ·have hM:=ab2 (o:=Or.new draws) hdp
  refine au hM ?_
  rw [Sum.elim_inr]
  refine au hF ?_
  refine (eu rfl).trans ?_
  by_cases h0:dp≥0
  ·refine (ap h0).trans ?_
   refine (eu (by show (false != decide (dp<=4))=false; rw [decide_eq_false (by omega:¬ dp<=4)]; rfl)).trans ?_
   rfl
  ·refine (bq h0).trans ?_
   rfl
end Go.Proofs.YtljfdfghagiblaaGreat.S2.Mk
