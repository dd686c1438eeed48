/- The document's gate over the document's oracle,as functions; that they answer as the program's. -/
import Derived.Test.YtljfdfghagiblaaGreatPrel2
import Derived.Test.YtljfdfghagiblaaGreatPgate2
namespace Go.Proofs.YtljfdfghagiblaaGreat.S2.Mk
open Go Go.Proofs.YtljfdfghagiblaaGreat.S2
def xE:Int->Nat->List Int->Rf->Int×Rf
 | h,_,[],p=>(h,p)
 | h,i,b::l,p=>xE (p.hash (cG h b i)).1 (i / 2) l (p.hash (cG h b i)).2
theorem RU:∀ (l:List Int) (h:Int) (i:Nat) {o:Or} {p:Rf},Wf o->R2 o p->p.rows.length+l.length<=1000000->(dh h i l o).1=(xE h i l p).1/\R2 (dh h i l o).2 (xE h i l p).2/\(xE h i l p).2.rows.length<=p.rows.length+l.length/\(xE h i l p).2.met=p.met
 | [],h,i,o,p,w,r,hb=>⟨rfl,r,Nat.le_refl _,rfl⟩
 | b::l,h,i,o,p,w,r,hb=>by
  simp only [List.length_cons] at hb
  obtain ⟨h1,r1,b1,m1⟩:=Es w r (cG h b i) (by omega)
  obtain ⟨w1,_⟩:=cJ w (cG h b i) (by have:=r.rel.dn; omega)
  obtain ⟨h2,r2,b2,m2⟩:=RU l (o.hash (cG h b i)).1 (i / 2) w1 r1 (by omega)
  simp only [dh,xE,List.length_cons]
  rw [← h1]
  exact ⟨h2,r2,by omega,m2.trans m1⟩
def dG (p:Rf) (s:ByteArray) (i:Nat) (l:List Int):Int×Rf:=xE (p.hash (bh s)).1 i l (p.hash (bh s)).2
theorem Gn {o:Or} {p:Rf} (w:Wf o) (r:R2 o p) (s:ByteArray) (i:Nat) (l:List Int) (hl:l.length<=8) (hb:p.rows.length<=900000) :
  (fu o s i l).1=(dG p s i l).1/\R2 (fu o s i l).2 (dG p s i l).2/\(dG p s i l).2.rows.length<=p.rows.length+9/\(dG p s i l).2.met=p.met:=by
 obtain ⟨h1,r1,b1,m1⟩:=Es w r (bh s) (by omega)
 obtain ⟨w1,_⟩:=cJ w (bh s) (by have:=r.rel.dn; omega)
 obtain ⟨h2,r2,b2,m2⟩:=RU l (o.hash (bh s)).1 i w1 r1 (by omega)
 unfold fu dG
 rw [h1] at h2 r2 b2 m2 ⊢
 exact ⟨h2,r2,by omega,m2.trans m1⟩
def hH (p:Rf):List Int->Rf
 | []=>p
 | h::l=>hH (p.meet h) l
theorem JD:∀ (l:List Int) {o:Or} {p:Rf},G o->R2 o p->R2 (sG o l) (hH p l)/\(hH p l).rows=p.rows/\(hH p l).met.length<=p.met.length+l.length
 | [],o,p,g,r=>⟨r,rfl,Nat.le_refl _⟩
 | h::l,o,p,g,r=>by
  obtain ⟨r1,h1,b1⟩:=uf g.wf r h
  obtain ⟨r2,h2,b2⟩:=JD l (jA g h).1 r1
  exact ⟨r2,h2.trans h1,by simp only [hH,List.length_cons]; omega⟩
def oE (p:Rf) (leaf:ByteArray) (path:List Int):Rf:=if (bL leaf).2=true then ((hH p path).meet (bL leaf).1.2.2.1).meet (bL leaf).1.2.2.2.1 else hH p path
theorem akT {o:Or} {p:Rf} (g:G o) (r:R2 o p) (leaf:ByteArray) (path:List Int):R2 (looks o leaf path) (oE p leaf path)/\(oE p leaf path).rows=p.rows/\(oE p leaf path).met.length<=p.met.length+path.length+2:=by
 obtain ⟨r1,h1,b1⟩:=JD path g r
 have g1:=(Bi path g).1
 unfold looks oE
 split
 ·obtain ⟨r2,h2,b2⟩:=uf g1.wf r1 (bL leaf).1.2.2.1
  obtain ⟨r3,h3,b3⟩:=uf (jA g1 (bL leaf).1.2.2.1).1.wf r2 (bL leaf).1.2.2.2.1
  exact ⟨r3,h3.trans (h2.trans h1),by omega⟩
 ·exact ⟨r1,h1,by omega⟩
def bg (d:Int) (p:Rf) (sector:Int) (leaf:ByteArray) (path:List Int):(Int×Bool)×Rf :=
 if (path.length:Int)=d/\fF (IntKind.i64.wrap sector) path then (((dG (oE p leaf path) leaf (IntKind.i64.wrap sector).toNat path).1,true),(dG (oE p leaf path) leaf (IntKind.i64.wrap sector).toNat path).2) else ((0,false),oE p leaf path)
structure Sm (p p':Rf) (a b:Nat):Prop where
 rows:p'.rows.length<=p.rows.length+a
 met:p'.met.length<=p.met.length+b
theorem wT {o:Or} {p:Rf} (g:G o) (r:R2 o p) (d sector:Int) (leaf:ByteArray) (path:List Int) (hb:p.rows.length<=900000) :
  (aD d o sector leaf path).1=(bg d p sector leaf path).1/\R2 (aD d o sector leaf path).2 (bg d p sector leaf path).2/\Sm p (bg d p sector leaf path).2 9 (path.length+2):=by
 obtain ⟨r1,h1,b1⟩:=akT g r leaf path
 obtain ⟨g1,_,_⟩:=Ef g leaf path
 unfold aD bg
 by_cases hc:(path.length:Int)=d/\fF (IntKind.i64.wrap sector) path
 ·rw [if_pos hc,if_pos hc]
  obtain ⟨h2,r2,b2,m2⟩:=Gn g1.wf r1 leaf (IntKind.i64.wrap sector).toNat path hc.2.1 (by rw [h1]; exact hb)
  exact ⟨by rw [h2],r2,by rw [h1] at b2; exact b2,by rw [m2]; omega⟩
 ·rw [if_neg hc,if_neg hc]
  exact ⟨rfl,r1,by show (oE p leaf path).rows.length<=_; rw [h1]; omega,by show (oE p leaf path).met.length<=_; omega⟩
def KN (k v:Int) (p:Rf) (sector:Int) (leaf:ByteArray):ByteArray×Bool×Rf:=p.opn k (bL leaf).1.2.2.1 (ch v sector (bL leaf).1.1 (bL leaf).1.2.1) (bL leaf).1.2.2.2.1
def BQ (k v d:Int) (p:Rf) (S:List ByteArray) (sector:Int) (leaf:ByteArray) (path:List Int):(ByteArray×Int)×Rf :=
 if bV (ag S []) sector d≠0 then ((eB,bV (ag S []) sector d),p)
 else if (bg d p sector leaf path).1.2=false∨(bg d p sector leaf path).1.1≠(ag S []).1.1 then ((eB,232),(bg d p sector leaf path).2)
 else if leaf=eB then ((eB,0),(bg d p sector leaf path).2)
 else if (bL leaf).2=false then ((eB,233),(bg d p sector leaf path).2)
 else if (KN k v (bg d p sector leaf path).2 sector leaf).2.1=false then ((eB,233),(KN k v (bg d p sector leaf path).2 sector leaf).2.2)
 else (((KN k v (bg d p sector leaf path).2 sector leaf).1,0),(KN k v (bg d p sector leaf path).2 sector leaf).2.2)
theorem aal {o:Or} {p:Rf} (g:G o) (r:R2 o p) (hb:p.rows.length<=800000) (k v d:Int) (S:List ByteArray) (sector:Int) (leaf:ByteArray) (path:List Int) :
  (cX k v d o S sector leaf path).1=(BQ k v d p S sector leaf path).1/\R2 (cX k v d o S sector leaf path).2 (BQ k v d p S sector leaf path).2/\Sm p (BQ k v d p S sector leaf path).2 9 (path.length+3):=by
 obtain ⟨h1,r1,s1⟩:=wT g r d sector leaf path (by omega)
 obtain ⟨g1,x1,d1⟩:=eg g d sector leaf path (by have:=r.rel.dn; omega)
 obtain ⟨u1,u2,u3,u4,u5⟩:=azl g1.wf r1 k (bL leaf).1.2.2.1 (ch v sector (bL leaf).1.1 (bL leaf).1.2.1) (bL leaf).1.2.2.2.1
 have s1r:=s1.rows
 have s1m:=s1.met
 have hu1:(B6 k v (aD d o sector leaf path).2 sector leaf).1=(KN k v (bg d p sector leaf path).2 sector leaf).1:=u1
 have hu2:(B6 k v (aD d o sector leaf path).2 sector leaf).2.1=(KN k v (bg d p sector leaf path).2 sector leaf).2.1:=u2
 have hu3:R2 (B6 k v (aD d o sector leaf path).2 sector leaf).2.2 (KN k v (bg d p sector leaf path).2 sector leaf).2.2:=u3
 have hu4:Sm p (KN k v (bg d p sector leaf path).2 sector leaf).2.2 9 (path.length+3):=⟨by show ((bg d p sector leaf path).2.opn k _ _ _).2.2.rows.length<=_; rw [u4]; omega,by show ((bg d p sector leaf path).2.opn k _ _ _).2.2.met.length<=_; omega⟩
 unfold cX BQ
 rw [hu1,hu2,h1]
 split
 ·exact ⟨rfl,r,by show p.rows.length<=_; omega,by show p.met.length<=_; omega⟩
 ·split
  ·exact ⟨rfl,r1,s1r,by show (bg d p sector leaf path).2.met.length<=_; omega⟩
  ·split
   ·exact ⟨rfl,r1,s1r,by show (bg d p sector leaf path).2.met.length<=_; omega⟩
   ·split
    ·exact ⟨rfl,r1,s1r,by show (bg d p sector leaf path).2.met.length<=_; omega⟩
    ·split
     ·exact ⟨rfl,hu3,hu4⟩
     ·exact ⟨rfl,hu3,hu4⟩
def pc (d:Int) (p:Rf) (S:List ByteArray) (sector:Int) (leaf:ByteArray) (path:List Int) (mk:Rf->Int->ByteArray×Rf):(ByteArray×Int)×Rf×List ByteArray :=
 if bV (ag S []) sector d≠0 then ((eB,bV (ag S []) sector d),p,S)
 else if (bg d p sector leaf path).1.2=false∨(bg d p sector leaf path).1.1≠(ag S []).1.1 then ((eB,232),(bg d p sector leaf path).2,S)
 else
  let m:=mk (bg d p sector leaf path).2 (IntKind.u64.wrap ((ag S []).1.2.1+1))
  let c:=dG m.2 m.1 (IntKind.i64.wrap sector).toNat path
  let D:=gP 256 S [] (o9 (ag S []) sector m.1 c.1)
  if D.1=true then ((m.1,0),c.2,D.2.1) else ((eB,235),c.2,D.2.1)
def oq (p:Rf) (key volume sector version epoch:Int) (t:ByteArray):Int×Int×Rf:=(p.fresh.1,p.fresh.2.seal key p.fresh.1 (ch volume sector version epoch) t)
def aay (k v sector epoch:Int) (t:ByteArray) (p:Rf) (version:Int):ByteArray×Rf:=(ch version epoch (oq p k v sector version epoch t).1 (oq p k v sector version epoch t).2.1,(oq p k v sector version epoch t).2.2)
def lA (k v d:Int) (p:Rf) (S:List ByteArray) (sector epoch:Int) (t:ByteArray) (leaf:ByteArray) (path:List Int):(ByteArray×Int)×Rf×List ByteArray :=
 if bV (ag S []) sector d=0/\(t.size:Int)>4096 then ((eB,231),p,S) else pc d p S sector leaf path (aay k v sector epoch t)
def lO (d:Int) (p:Rf) (S:List ByteArray) (sector:Int) (leaf:ByteArray) (path:List Int):(ByteArray×Int)×Rf×List ByteArray:=pc d p S sector leaf path (fun p _=>(eB,p))
def MkR (mk:Or->Int->ByteArray×Or) (mk':Rf->Int->ByteArray×Rf):Prop:=∀ o p V,G o->R2 o p->p.rows.length<=900000->aH V->(mk o V).1=(mk' p V).1/\R2 (mk o V).2 (mk' p V).2/\G (mk o V).2/\Sm p (mk' p V).2 2 0
theorem Rz:MkR (fun o _=>(eB,o)) (fun p _=>(eB,p)):=fun o p V g r hb _=>⟨rfl,r,g,by show p.rows.length<=_; omega,by show p.met.length<=_; omega⟩
theorem akU (k v sector epoch:Int) (t:ByteArray) (he:aH epoch):MkR (cY k v sector epoch t) (aay k v sector epoch t):=by
 intro o p V g r hb hV
 have hdn:=r.rel.dn
 obtain ⟨h1,r1,b1,m1⟩:=RT g.wf r (by omega)
 obtain ⟨g1,_⟩:=Bh g (by omega)
 obtain ⟨h2,r2,b2,m2⟩:=aaw g1 r1 k o.fresh.1 (ch v sector V epoch) t (by omega)
 have g2:=(Iv g k v sector epoch t V (by omega) hV he).1
 unfold cY aay Or.lock oq
 dsimp only
 rw [h1] at h2 r2 b2 m2
 rw [h1,h2]
 refine ⟨rfl,r2,?_,by show (p.fresh.2.seal k p.fresh.1 _ t).2.rows.length<=_; omega,by show (p.fresh.2.seal k p.fresh.1 _ t).2.met.length<=_; rw [m2,m1]; exact Nat.le_refl _⟩
 have:(cY k v sector epoch t o V).2=(o.fresh.2.seal k p.fresh.1 (ch v sector V epoch) t).2:=by
  unfold cY Or.lock
  rw [h1]
 rw [← this]
 exact g2
theorem Gg {o:Or} {p:Rf} {mk:Or->Int->ByteArray×Or} {mk':Rf->Int->ByteArray×Rf} (g:G o) (r:R2 o p) (hb:p.rows.length<=800000) (d:Int) (S:List ByteArray) (sector:Int) (leaf:ByteArray) (path:List Int) (hm:MkR mk mk') :
  (bA d o S sector leaf path mk).1=(pc d p S sector leaf path mk').1/\R2 (bA d o S sector leaf path mk).2.1 (pc d p S sector leaf path mk').2.1/\(bA d o S sector leaf path mk).2.2=(pc d p S sector leaf path mk').2.2/\Sm p (pc d p S sector leaf path mk').2.1 20 (path.length+3):=by
 obtain ⟨h1,r1,s1⟩:=wT g r d sector leaf path (by omega)
 have hdn:=r.rel.dn
 obtain ⟨g1,x1,d1⟩:=eg g d sector leaf path (by omega)
 have s1r:=s1.rows
 have s1m:=s1.met
 unfold bA pc
 by_cases hbe:bV (ag S []) sector d≠0
 ·rw [if_pos hbe,if_pos hbe]
  exact ⟨rfl,r,rfl,by show p.rows.length<=_; omega,by show p.met.length<=_; omega⟩
 ·rw [if_neg hbe,if_neg hbe,h1]
  by_cases hc:(bg d p sector leaf path).1.2=false∨(bg d p sector leaf path).1.1≠(ag S []).1.1
  ·rw [if_pos hc,if_pos hc]
   exact ⟨rfl,r1,rfl,by show (bg d p sector leaf path).2.rows.length<=_; omega,by show (bg d p sector leaf path).2.met.length<=_; omega⟩
  ·rw [if_neg hc,if_neg hc]
   have hok:path.length<=8:=by
    have hc1:(bg d p sector leaf path).1.2=true:=by
     cases hq:(bg d p sector leaf path).1.2 with
     | true=>rfl
     | false=>exact (hc (.inl hq)).elim
    unfold bg at hc1
    split at hc1
    ·rename_i h; exact h.2.1
    ·cases hc1
   obtain ⟨m1,m2,m3,m4⟩:=hm _ _ (IntKind.u64.wrap ((ag S []).1.2.1+1)) g1 r1 (by omega) (ol _)
   have m4r:=m4.rows
   have m4m:=m4.met
   obtain ⟨c1,c2,c3,c4⟩:=Gn m3.wf m2 (mk (aD d o sector leaf path).2 (IntKind.u64.wrap ((ag S []).1.2.1+1))).1 (IntKind.i64.wrap sector).toNat path hok (by omega)
   dsimp only
   rw [m1] at c1 c2 c3 c4 ⊢
   rw [c1]
   split
   ·exact ⟨rfl,c2,rfl,by show (dG _ _ _ _).2.rows.length<=_; omega,by show (dG _ _ _ _).2.met.length<=_; rw [c4]; omega⟩
   ·exact ⟨rfl,c2,rfl,by show (dG _ _ _ _).2.rows.length<=_; omega,by show (dG _ _ _ _).2.met.length<=_; rw [c4]; omega⟩
theorem Ry {o:Or} {p:Rf} (g:G o) (r:R2 o p) (hb:p.rows.length<=800000) (k v d:Int) (S:List ByteArray) (sector epoch:Int) (t leaf:ByteArray) (path:List Int) (he:aH epoch) :
  (cR k v d o S sector epoch t leaf path).1=(lA k v d p S sector epoch t leaf path).1/\R2 (cR k v d o S sector epoch t leaf path).2.1 (lA k v d p S sector epoch t leaf path).2.1/\(cR k v d o S sector epoch t leaf path).2.2=(lA k v d p S sector epoch t leaf path).2.2/\Sm p (lA k v d p S sector epoch t leaf path).2.1 20 (path.length+3):=by
 unfold cR lA
 split
 ·exact ⟨rfl,r,rfl,by show p.rows.length<=_; omega,by show p.met.length<=_; omega⟩
 ·exact Gg g r hb d S sector leaf path (akU k v sector epoch t he)
def HA (d:Int) (p:Rf) (S:List ByteArray) (leaf:ByteArray) (path:List Int):(Bool×Int)×Rf×List ByteArray :=
 if lN (ag S [])≠0 then ((false,lN (ag S [])),p,S)
 else
  let L:=bg d p (ag S []).1.2.2.2.1 leaf path
  let t:=(ag S []).1
  if L.1.2=false∨(L.1.1≠t.2.2.2.2.1/\L.1.1≠t.1) then ((false,232),L.2,S)
  else if bF S (L.1.1==t.2.2.2.2.1)≠0 then ((false,bF S (L.1.1==t.2.2.2.2.1)),L.2,(gP 256 S [] (dE (ag S []) (L.1.1==t.2.2.2.2.1))).2.1)
  else ((L.1.1==t.2.2.2.2.1,0),L.2,(gP 256 S [] (dE (ag S []) (L.1.1==t.2.2.2.2.1))).2.1)
theorem akx {o:Or} {p:Rf} (g:G o) (r:R2 o p) (hb:p.rows.length<=800000) (d:Int) (S:List ByteArray) (leaf:ByteArray) (path:List Int) :
  (uz d o S leaf path).1=(HA d p S leaf path).1/\R2 (uz d o S leaf path).2.1 (HA d p S leaf path).2.1/\(uz d o S leaf path).2.2=(HA d p S leaf path).2.2/\Sm p (HA d p S leaf path).2.1 20 (path.length+3):=by
 obtain ⟨h1,r1,s1⟩:=wT g r d (ag S []).1.2.2.2.1 leaf path (by omega)
 have s1r:=s1.rows
 have s1m:=s1.met
 have s2:Sm p (bg d p (ag S []).1.2.2.2.1 leaf path).2 20 (path.length+3):=⟨by omega,by omega⟩
 unfold uz HA
 dsimp only
 rw [h1]
 split
 ·exact ⟨rfl,r,rfl,by show p.rows.length<=_; omega,by show p.met.length<=_; omega⟩
 ·split
  ·exact ⟨rfl,r1,rfl,s2⟩
  ·split
   ·exact ⟨rfl,r1,rfl,s2⟩
   ·exact ⟨rfl,r1,rfl,s2⟩
end Go.Proofs.YtljfdfghagiblaaGreat.S2.Mk
