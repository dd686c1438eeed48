/- The program's oracle and the document's: draws,meets,hashes,seals. -/
import Derived.Test.YtljfdfghagiblaaGreatPmk6
import Derived.Test.YtljfdfghagiblaaGreatPtree
namespace Go.Proofs.YtljfdfghagiblaaGreat.S2.Mk
open Go Go.Proofs.YtljfdfghagiblaaGreat.S2
def lD (k n:Int) (a:ByteArray) (c:Int) (y:RW):Bool:=y.1==3&&(y.2.1==k&&(y.2.2.1==n&&(y.2.2.2.1.toList==a.toList&&y.2.2.2.2.2==c)))
structure R2 (o:Or) (p:Rf):Prop where
 rel:Rel o p
 se:∀ k n a b,aG GY (k,n,a,b) o.seals=(p.rows.find? (cu 3 k n a b)).map fun y=>y.2.2.2.2.2
 op:∀ k n c a,(aG oJ (k,n,c,a) o.opens).map (fun i=>o.plains.getD (i-1).toNat eB)=(p.rows.find? (lD k n a c)).map fun y=>y.2.2.2.2.1
theorem aze (draws:List Int):R2 (Or.new draws) (Rf.new draws):=⟨aos draws,fun _ _ _ _=>rfl,fun _ _ _ _=>rfl⟩
theorem Er (t k n k' n':Int) (a b a' b':ByteArray) (h:Int) (ht:t≠0) (t':Int):cu t k' n' a' b' (t',k,n,a,b,h)=decide (t'=t/\(k',n',a',b')=(k,n,a,b)):=by
 rw [Bool.eq_iff_iff,decide_eq_true_iff]
 unfold cu
 simp only [ci,Bool.and_eq_true,beq_iff_eq,decide_eq_true_eq,bne_iff_ne,Prod.mk.injEq]
 constructor
 ·rintro ⟨_,h1,h2,h3,h4,h5⟩; exact ⟨h1,h2.symm,h3.symm,h4.symm,h5.symm⟩
 ·rintro ⟨h1,h2,h3,h4,h5⟩; exact ⟨ht,h1,h2.symm,h3.symm,h4.symm,h5.symm⟩
theorem Pt (k n k' n':Int) (a b a':ByteArray) (c c' t':Int):lD k' n' a' c' (t',k,n,a,b,c)=decide (t'=3/\(k',n',c',a')=(k,n,c,a)):=by
 rw [Bool.eq_iff_iff,decide_eq_true_iff]
 unfold lD
 simp only [ci,Bool.and_eq_true,beq_iff_eq,decide_eq_true_eq,Prod.mk.injEq]
 constructor
 ·rintro ⟨h1,h2,h3,h4,h5⟩; exact ⟨h1,h2.symm,h3.symm,h5.symm,h4.symm⟩
 ·rintro ⟨h1,h2,h3,h5,h4⟩; exact ⟨h1,h2.symm,h3.symm,h4.symm,h5.symm⟩
theorem RS {o:Or} {p:Rf} (w:Wf o) (r:Rel o p) (t k n:Int) (a b:ByteArray) (hb:p.rows.length<=1000000) (H:List (ByteArray×Int)) (O:Or) (hO:O.draws=o.fresh.2.draws/\O.drawn=o.fresh.2.drawn/\O.bad=o.fresh.2.bad/\O.issued=o.fresh.2.issued/\O.met=o.fresh.2.met)
  (hh:∀ t',aG xa t' O.hashes=(((p.draw t k n a b).2.rows.find? (cu 1 0 0 t' eB)).map fun y:RW=>y.2.2.2.2.2)):o.fresh.1=(p.draw t k n a b).1/\Rel O (p.draw t k n a b).2:=by
 obtain ⟨ho1,ho2,ho3,ho4,ho5⟩:=hO
 have hn:aL o.draws o.drawn=aL p.draws p.rows.length:=by rw [r.dr,r.dn]
 have hcl:=Lr r (aL o.draws o.drawn)
 have hdw:IntKind.i64.wrap (o.drawn+1)=o.drawn+1:=by have:=r.dn; exact aQ (by omega) (by omega)
 have hcnt:=w.cnt (aL o.draws o.drawn)
 have hw:IntKind.i64.wrap (aV iM 0 (aL o.draws o.drawn) o.issued+1)=aV iM 0 (aL o.draws o.drawn) o.issued+1:=by have:=r.dn; exact aQ (by omega) (by omega)
 refine ⟨hn,⟨?_,?_,?_,?_,?_,?_,?_,hh⟩⟩
 ·rw [ho1]; exact r.dr
 ·rw [ho2]
  show IntKind.i64.wrap (o.drawn+1)=((p.rows++[_]).length:Int)
  rw [hdw,r.dn]
  simp
 ·rw [ho3]
  show (o.bad||o.clash (aL o.draws o.drawn))=decide ((if p.clash (aL p.draws p.rows.length) then IntKind.i64.wrap (p.bads+1) else p.bads)>0)
  rw [hcl,hn,r.bd]
  have h0:=r.b0
  have h1:=r.b1
  cases p.clash (aL p.draws p.rows.length) with
  | true =>
   rw [if_pos rfl,aQ (by omega) (by omega),decide_eq_true (show p.bads+1>0 by omega),Bool.or_true]
  | false=>rw [if_neg (by decide),Bool.or_false]
 ·show 0<=(if p.clash (aL p.draws p.rows.length) then IntKind.i64.wrap (p.bads+1) else p.bads)
  have h0:=r.b0
  have h1:=r.b1
  split
  ·rw [aQ (by omega) (by omega)]; omega
  ·exact h0
 ·show (if p.clash (aL p.draws p.rows.length) then IntKind.i64.wrap (p.bads+1) else p.bads)<=((p.rows++[_]).length:Int)
  have h0:=r.b0
  have h1:=r.b1
  rw [List.length_append,List.length_singleton]
  split
  ·rw [aQ (by omega) (by omega)]; omega
  ·omega
 ·intro h
  rw [ho4]
  show aV iM 0 h (cx iM (aL o.draws o.drawn) (IntKind.i64.wrap (aV iM 0 (aL o.draws o.drawn) o.issued+1)) o.issued)>0↔(p.rows++[(t,k,n,a,b,aL p.draws p.rows.length)]).any (fun y:RW=>y.2.2.2.2.2==h)=true
  have hg:aV iM 0 h (cx iM (aL o.draws o.drawn) (IntKind.i64.wrap (aV iM 0 (aL o.draws o.drawn) o.issued+1)) o.issued)=if h=aL o.draws o.drawn then IntKind.i64.wrap (aV iM 0 (aL o.draws o.drawn) o.issued+1) else aV iM 0 h o.issued:=pL Lh (κ:=Int) 0 h (aL o.draws o.drawn) _ o.issued
  rw [hg,hw,List.any_append,List.any_cons,List.any_nil,Bool.or_false,Bool.or_eq_true,← r.is h]
  dsimp only
  rw [← hn,beq_iff_eq]
  split
  ·rename_i e
   exact ⟨fun _=>.inr e.symm,fun _=>by omega⟩
  ·rename_i e
   exact ⟨fun q=>.inl q,fun q=>q.elim id fun q=>(e q.symm).elim⟩
 ·intro h
  rw [ho5]
  exact r.me h
theorem Gm (l:List RW) (x:RW) (f:RW->Bool):(l++[x]).find? f=match l.find? f with | some y=>some y | none=>if f x then some x else none:=by
 rw [List.find?_append,List.find?_cons,List.find?_nil]
 cases l.find? f with
 | some y=>rfl
 | none=>cases f x<;>rfl
theorem Bq (l:List RW) (x:RW) (f:RW->Bool) (h:f x=false):(l++[x]).find? f=l.find? f:=by
 rw [Gm,h]
 cases l.find? f<;>rfl
def Rf.fresh (p:Rf):Int×Rf:=p.draw 0 0 0 eB eB
theorem RT {o:Or} {p:Rf} (w:Wf o) (r:R2 o p) (hb:p.rows.length<=1000000):o.fresh.1=p.fresh.1/\R2 o.fresh.2 p.fresh.2/\p.fresh.2.rows.length=p.rows.length+1/\p.fresh.2.met=p.met:=by
 have hs:∀ (f:RW->Bool),f (0,0,0,eB,eB,aL p.draws p.rows.length)=false->p.fresh.2.rows.find? f=p.rows.find? f:=fun f h=>Bq _ _ f h
 obtain ⟨h1,h2⟩:=RS w r.rel 0 0 0 eB eB hb [] o.fresh.2 ⟨rfl,rfl,rfl,rfl,rfl⟩ (fun t'=>by
  have h3:=hs (cu 1 0 0 t' eB) (by rw [Er _ _ _ _ _ _ _ _ _ _ (by decide)]; exact decide_eq_false (fun q=>by have:=q.1; omega))
  have h3':(p.draw 0 0 0 eB eB).2.rows.find? (cu 1 0 0 t' eB)=p.rows.find? (cu 1 0 0 t' eB):=h3
  rw [h3']
  exact r.rel.ha t')
 refine ⟨h1,⟨h2,fun k n a b=>?_,fun k n c a=>?_⟩,by show (p.rows++[_]).length=_; simp,rfl⟩
 ·rw [hs _ (by rw [Er _ _ _ _ _ _ _ _ _ _ (by decide)]; exact decide_eq_false (fun q=>by have:=q.1; omega))]
  exact r.se k n a b
 ·rw [hs _ (by rw [Pt]; exact decide_eq_false (fun q=>by have:=q.1; omega))]
  exact r.op k n c a
theorem Es {o:Or} {p:Rf} (w:Wf o) (r:R2 o p) (t:ByteArray) (hb:p.rows.length<=1000000):(o.hash t).1=(p.hash t).1/\R2 (o.hash t).2 (p.hash t).2/\(p.hash t).2.rows.length<=p.rows.length+1/\(p.hash t).2.met=p.met:=by
 obtain ⟨h1,h2,h3,h4⟩:=RN w r.rel t hb
 refine ⟨h1,⟨h2,?_,?_⟩,h3,h4⟩
 ·intro k n a b
  unfold Or.hash Rf.hash Rf.value
  rw [r.rel.ha t]
  cases hf:p.rows.find? (cu 1 0 0 t eB) with
  | some y=>exact r.se k n a b
  | none =>
   show aG GY (k,n,a,b) o.seals=((p.rows++[(1,0,0,t,eB,aL p.draws p.rows.length)]).find? (cu 3 k n a b)).map _
   rw [Bq _ _ _ (by rw [Er _ _ _ _ _ _ _ _ _ _ (by decide)]; exact decide_eq_false (fun q=>by have:=q.1; omega))]
   exact r.se k n a b
 ·intro k n c a
  unfold Or.hash Rf.hash Rf.value
  rw [r.rel.ha t]
  cases hf:p.rows.find? (cu 1 0 0 t eB) with
  | some y=>exact r.op k n c a
  | none =>
   show (aG oJ (k,n,c,a) o.opens).map (fun i=>o.plains.getD (i-1).toNat eB)=((p.rows++[(1,0,0,t,eB,aL p.draws p.rows.length)]).find? (lD k n a c)).map _
   rw [Bq _ _ _ (by rw [Pt]; exact decide_eq_false (fun q=>by have:=q.1; omega))]
   exact r.op k n c a
def Rf.meet (p:Rf) (h:Int):Rf:=if p.rows.any (fun y=>y.2.2.2.2.2==h)=true then p else { p with met:=p.met++[h] }
theorem uf {o:Or} {p:Rf} (w:Wf o) (r:R2 o p) (h:Int):R2 (o.meet h) (p.meet h)/\(p.meet h).rows=p.rows/\(p.meet h).met.length<=p.met.length+1:=by
 unfold Or.meet Rf.meet
 have hi:=r.rel.is h
 have hc:=w.cnt h
 by_cases e:aV iM 0 h o.issued=0
 ·have hn:¬ p.rows.any (fun y:RW=>y.2.2.2.2.2==h)=true:=fun q=>by have:=hi.2 q; omega
  rw [if_pos e,if_neg hn]
  refine ⟨⟨⟨r.rel.dr,r.rel.dn,r.rel.bd,r.rel.b0,r.rel.b1,r.rel.is,fun x=>?_,r.rel.ha⟩,r.se,r.op⟩,rfl,by show (p.met++[h]).length<=_; simp⟩
  show aV iM 0 x (cx iM h 1 o.met)>0↔(p.met++[h]).any (fun y=>y==x)=true
  rw [pL Lh (κ:=Int),List.any_append,List.any_cons,List.any_nil,Bool.or_false,Bool.or_eq_true,← r.rel.me x,beq_iff_eq]
  split
  ·rename_i q
   exact ⟨fun _=>.inr q.symm,fun _=>by decide⟩
  ·rename_i q
   exact ⟨fun z=>.inl z,fun z=>z.elim id fun z=>(q z.symm).elim⟩
 ·have hp:p.rows.any (fun y:RW=>y.2.2.2.2.2==h)=true:=hi.1 (by omega)
  rw [if_neg e,if_pos hp]
  exact ⟨r,rfl,by omega⟩
def Rf.seal (p:Rf) (k n:Int) (a b:ByteArray):Int×Rf:=p.value 3 k n a b
theorem aaw {o:Or} {p:Rf} (g:G o) (r:R2 o p) (k n:Int) (a b:ByteArray) (hb:p.rows.length<=1000000):(o.seal k n a b).1=(p.seal k n a b).1/\R2 (o.seal k n a b).2 (p.seal k n a b).2/\(p.seal k n a b).2.rows.length<=p.rows.length+1/\(p.seal k n a b).2.met=p.met:=by
 have w:=g.wf
 unfold Or.seal Rf.seal Rf.value
 have hse:=r.se k n a b
 cases hf:p.rows.find? (cu 3 k n a b) with
 | some y =>
  rw [hf] at hse
  rw [hse]
  exact ⟨rfl,r,by show p.rows.length<=_; omega,rfl⟩
 | none =>
  rw [hf] at hse
  rw [hse]
  dsimp only [Option.map_none]
  obtain ⟨c,hc⟩:∃ c,c=aL p.draws p.rows.length:=⟨_,rfl⟩
  have hfr:o.fresh.1=c:=by
   rw [hc]
   show aL o.draws o.drawn=_
   rw [r.rel.dr,r.rel.dn]
  have hrows:(p.draw 3 k n a b).2.rows=p.rows++[(3,k,n,a,b,c)]:=by rw [hc]; rfl
  obtain ⟨h1,h2⟩:=RS w r.rel 3 k n a b hb [] { o.fresh.2 with seals:=cx GY (k,n,a,b) o.fresh.1 o.fresh.2.seals,plains:=o.fresh.2.plains++[b],opens:=if aV oJ 0 (k,n,o.fresh.1,a) o.fresh.2.opens=0 then cx oJ (k,n,o.fresh.1,a) ((o.fresh.2.plains++[b]).length:Int) o.fresh.2.opens else o.fresh.2.opens } ⟨rfl,rfl,rfl,rfl,rfl⟩ (fun t'=>by
   rw [hrows,Bq _ _ _ (by rw [Er _ _ _ _ _ _ _ _ _ _ (by decide)]; exact decide_eq_false (fun q=>by have:=q.1; omega))]
   exact r.rel.ha t')
  refine ⟨h1,⟨h2,fun k' n' a' b'=>?_,fun k' n' c' a'=>?_⟩,by rw [hrows]; simp,rfl⟩
  ·show aG GY (k',n',a',b') (cx GY (k,n,a,b) o.fresh.1 o.seals)=_
   rw [hrows,Gm,Er _ _ _ _ _ _ _ _ _ _ (by decide),gc atm (κ:=Ek),r.se k' n' a' b',hfr]
   by_cases e:(k',n',a',b')=(k,n,a,b)
   ·simp only [Prod.mk.injEq] at e
    obtain ⟨rfl,rfl,rfl,rfl⟩:=e
    rw [if_pos rfl,hf,decide_eq_true ⟨rfl,rfl⟩]
    rfl
   ·rw [if_neg e,decide_eq_false (fun q=>e q.2)]
    cases p.rows.find? (cu 3 k' n' a' b')<;>rfl
  ·rw [hrows,Gm,Pt]
   have hop:=r.op k' n' c' a'
   have hpl:o.fresh.2.plains=o.plains:=rfl
   have hoo:o.fresh.2.opens=o.opens:=rfl
   show (aG oJ (k',n',c',a') (if aV oJ 0 (k,n,o.fresh.1,a) o.fresh.2.opens=0 then cx oJ (k,n,o.fresh.1,a) ((o.fresh.2.plains++[b]).length:Int) o.fresh.2.opens else o.fresh.2.opens)).map (fun i=>(o.fresh.2.plains++[b]).getD (i-1).toNat eB)=_
   rw [hfr,hpl,hoo]
   have hold:∀ i,aG oJ (k',n',c',a') o.opens=some i->(o.plains++[b]).getD (i-1).toNat eB=o.plains.getD (i-1).toNat eB:=by
    intro i hi
    obtain ⟨y,hy,hyi⟩:=mV hi
    have:=g.told y hy
    exact JC (by omega)
   have hkeep:(aG oJ (k',n',c',a') o.opens).map (fun i=>(o.plains++[b]).getD (i-1).toNat eB)=(aG oJ (k',n',c',a') o.opens).map (fun i=>o.plains.getD (i-1).toNat eB):=by
    cases hm:aG oJ (k',n',c',a') o.opens with
    | none=>rfl
    | some i=>simp only [Option.map_some]; rw [hold i hm]
   by_cases e:(k',n',c',a')=(k,n,c,a)
   ·simp only [Prod.mk.injEq] at e
    obtain ⟨rfl,rfl,rfl,rfl⟩:=e
    rw [decide_eq_true ⟨rfl,rfl⟩]
    cases hm:aG oJ (k',n',c',a') o.opens with
    | none =>
     rw [hm] at hop
     rw [if_pos (zp hm),gc akE (κ:=BP),if_pos rfl]
     have hfn:p.rows.find? (lD k' n' a' c')=none:=by
      cases hq:p.rows.find? (lD k' n' a' c') with
      | none=>rfl
      | some y=>rw [hq] at hop; cases hop
     rw [hfn]
     simp only [Option.map_some,if_true]
     rw [show (((o.plains++[b]).length:Int)-1).toNat=o.plains.length by simp]
     exact congrArg some uB
    | some i =>
     obtain ⟨y,hy,hyi⟩:=mV hm
     have:=g.told y hy
     have hne:¬ aV oJ 0 (k',n',c',a') o.opens=0:=by unfold aV; rw [hm]; show ¬ i=0; omega
     rw [if_neg hne,hkeep,hop]
     cases hq:p.rows.find? (lD k' n' a' c') with
     | none=>rw [hq,hm] at hop; cases hop
     | some y=>rfl
   ·rw [decide_eq_false (fun q=>e q.2)]
    have hsame:aG oJ (k',n',c',a') (if aV oJ 0 (k,n,c,a) o.opens=0 then cx oJ (k,n,c,a) ((o.plains++[b]).length:Int) o.opens else o.opens)=aG oJ (k',n',c',a') o.opens:=by
     split
     ·rw [gc akE (κ:=BP),if_neg e]
     ·rfl
    rw [hsame,hkeep,hop]
    cases p.rows.find? (lD k' n' a' c')<;>rfl
def Rf.opn (p:Rf) (k n:Int) (a:ByteArray) (c:Int):ByteArray×Bool×Rf:=match p.rows.find? (lD k n a c) with
 | some y=>(y.2.2.2.2.1,true,p)
 | none=>(eB,false,p.meet c)
theorem azl {o:Or} {p:Rf} (w:Wf o) (r:R2 o p) (k n:Int) (a:ByteArray) (c:Int):(o.opn k n a c).1=(p.opn k n a c).1/\(o.opn k n a c).2.1=(p.opn k n a c).2.1/\R2 (o.opn k n a c).2.2 (p.opn k n a c).2.2/\(p.opn k n a c).2.2.rows=p.rows/\(p.opn k n a c).2.2.met.length<=p.met.length+1:=by
 have hop:=r.op k n c a
 unfold Or.opn Rf.opn
 cases hm:aG oJ (k,n,c,a) o.opens with
 | none =>
  rw [hm] at hop
  cases hq:p.rows.find? (lD k n a c) with
  | none =>
   obtain ⟨h1,h2,h3⟩:=uf w r c
   exact ⟨rfl,rfl,h1,h2,h3⟩
  | some y=>rw [hq] at hop; cases hop
 | some i =>
  rw [hm] at hop
  cases hq:p.rows.find? (lD k n a c) with
  | none=>rw [hq] at hop; cases hop
  | some y =>
   rw [hq] at hop
   exact ⟨Option.some.inj hop,rfl,r,rfl,by show p.met.length<=_; omega⟩
end Go.Proofs.YtljfdfghagiblaaGreat.S2.Mk
