/- The document's gate: reads,writes,what settles. -/
import Derived.Test.YtljfdfghagiblaaGreatPrgate3
import Derived.Test.YtljfdfghagiblaaGreatP23f
namespace Go.Proofs.YtljfdfghagiblaaGreat.S2.Mk
open Go Go.Proofs.YtljfdfghagiblaaGreat.S2
section
variable {k v sector:Int} {d:Nat} {p:Rf} {S:List ByteArray} {leaf:ByteArray} {path:List Int}
def uC (L:Int×Bool) (root:Int):Bool:=cond L.2 (L.1==root) false
theorem wU {L:Int×Bool} {root:Int}:(L.2=false∨L.1≠root)↔uC L root=false:=by
 obtain ⟨a,b⟩:=L
 unfold uC
 cases b with
 | false=>exact ⟨fun _=>rfl,fun _=>.inl rfl⟩
 | true =>
  show (true=false∨a≠root)↔(a==root)=false
  rw [beq_eq_false_iff_ne]
  exact ⟨fun h=>h.elim (fun h=>by cases h) id,.inr⟩
theorem Pv {o:Or} (g:G o) (r:R2 o p) (h4:d<=4) (hb:p.rows.length<=700000) (hm:p.met.length<=660000000) (hw:Pm leaf path) (hs:aH sector) (hD:ca 256 S []) :
  ct (sector,(leaf,path,()),()) (gq k v (d:Int) p S)=some (uC (bg (d:Int) p sector leaf path).1 (ag S []).1.1,gqL k v (d:Int) (bg (d:Int) p sector leaf path).2 S):=by
 have hT:=Et hD
 have hL:=aaC (k:=k) (v:=v) (S:=S) g r h4 hb hm hw hs
 unfold ct pu uC
 refine au hT ?_
 refine au hL ?_
 rcases (Bool.eq_false_or_eq_true ((bg (d:Int) p sector leaf path).1.2)).symm with hq | hq
 ·refine (eu hq).trans ?_
  rw [hq]
  rfl
 ·refine (eC hq).trans ?_
  rw [hq]
  rfl
theorem akt {o:Or} (g:G o) (r:R2 o p) (h4:d<=4) (hb:p.rows.length<=600000) (hm:p.met.length<=640000200) (hw:Pm leaf path) (hs:aH sector) (hv:aH v) (hD:ca 256 S []) :
  jE (sector,(leaf,path,()),()) (gq k v (d:Int) p S)=some (((BQ k v (d:Int) p S sector leaf path).1.1,(BQ k v (d:Int) p S sector leaf path).1.2,()),gqL k v (d:Int) (BQ k v (d:Int) p S sector leaf path).2 S):=by
 have hB:=JE (sector:=sector) (k:=k) (v:=v) (p:=p) h4 hD
 have hT:=Pv (k:=k) (v:=v) g r h4 (by omega) (by omega) hw hs hD
 obtain ⟨_,r1,s1⟩:=wT g r (d:Int) sector leaf path (by omega)
 have s1r:=s1.rows
 have s1m:=s1.met
 have hwl:=hw.l
 unfold jE vT BQ
 refine au hB ?_
 by_cases hbe:bV (ag S []) sector (d:Int)=0
 ·rw [if_neg (fun h=>h hbe)]
  refine (eu (by rw [hbe]; rfl)).trans ?_
  refine au hT ?_
  generalize bg (d:Int) p sector leaf path=L at *
  by_cases hc:L.1.2=false∨L.1.1≠(ag S []).1.1
  ·rw [if_pos hc]
   refine (eC (by rw [wU.1 hc]; rfl)).trans ?_
   rfl
  ·rw [if_neg hc]
   have ht:uC L.1 (ag S []).1.1=true:=by
    cases hq:uC L.1 (ag S []).1.1 with
    | true=>rfl
    | false=>exact (hc (wU.2 hq)).elim
   refine (eu (by rw [ht]; rfl)).trans ?_
   by_cases hle:leaf=eB
   ·rw [if_pos hle]
    exact eC (by rw [hle]; exact fw _)
   ·rw [if_neg hle]
    refine (eu (by rw [ci,decide_eq_false hle])).trans ?_
    refine au (aaz (s:=leaf)) ?_
    rcases (Bool.eq_false_or_eq_true ((bL leaf).2)).symm with hq | hq
    ·rw [if_pos hq]
     exact eC (by rw [hq]; rfl)
    ·rw [if_neg (by rw [hq]; decide)]
     refine (eu (by rw [hq]; rfl)).trans ?_
     obtain ⟨p1,p2,p3,p4⟩:=akB hq
     have hU:=akV L.2 (key:=k) (volume:=v) (sector:=sector) (version:=(bL leaf).1.1) (epoch:=(bL leaf).1.2.1) (nonce:=(bL leaf).1.2.2.1) (c:=(bL leaf).1.2.2.2.1) hv hs p1 p2 (by omega) (by omega)
     refine au hU ?_
     show cond (!(KN k v L.2 sector leaf).2.1) _ _=_
     rcases (Bool.eq_false_or_eq_true ((KN k v L.2 sector leaf).2.1)).symm with hu | hu
     ·rw [if_pos hu]
      exact eC (by rw [hu]; rfl)
     ·rw [if_neg (by rw [hu]; decide)]
      exact eu (by rw [hu]; rfl)
 ·rw [if_pos hbe]
  exact eC (bne_iff_ne.2 hbe)
theorem ab9 {o:Or} (w:Wf o) (r:R2 o p) (s:ByteArray) (i:Nat) (l:List Int) (hl:l.length<=8) (hb:p.rows.length<=800000):U (dG p s i l).1:=by
 obtain ⟨h1,_⟩:=Gn w r s i l hl (by omega)
 rw [← h1]
 obtain ⟨w1,x1,d1,f1⟩:=cJ w (bh s) (by have:=r.rel.dn; omega)
 exact (zm l (o.hash (bh s)).1 i w1 (by unfold P1; have:=r.rel.dn; omega) (w1.val _ _ f1).1).2.2.2.1
theorem RY {o:Or} {txt:ByteArray} (w:Wf o) (r:R2 o p) (hb:p.rows.length<=700000) (hm:p.met.length<=700000000) (hw:Pm leaf path) (hs:aH sector) (hz:txt.size<=40) (hok:fF (IntKind.i64.wrap sector) path) (hD:ca 256 S []) :
  ft (sector,(leaf,path,()),txt,()) (gq k v (d:Int) p S) =
   some (if (gP 256 S [] (o9 (ag S []) sector txt (dG p txt (IntKind.i64.wrap sector).toNat path).1)).1=true then (txt,0,()) else (eB,235,()),gqI k v (d:Int) (dG p txt (IntKind.i64.wrap sector).toNat path).2 (gP 256 S [] (o9 (ag S []) sector txt (dG p txt (IntKind.i64.wrap sector).toNat path).1)).2.1):=by
 have hC:=aaA (i:=IntKind.i64.wrap sector) (l:=path) (s:=txt) w r (by omega) (by omega) (by omega) hw.w.u
 rw [if_pos hok] at hC
 have hU:=ab9 w r txt (IntKind.i64.wrap sector).toNat path hok.1 (by omega)
 have hI:=akZ (leaf:=txt) hs hU (by omega) hD
 unfold ft pv
 refine au hC ?_
 refine au hI ?_
 cases (gP 256 S [] (o9 (ag S []) sector txt (dG p txt (IntKind.i64.wrap sector).toNat path).1)).1<;>rfl
theorem aoB {o:Or} (g:G o) (r:R2 o p) (k v sector epoch:Int) (t:ByteArray) (V:Int) (he:aH epoch) (hV:aH V) (hb:p.rows.length<=800000):(oq p k v sector V epoch t).1=(o.lock k v sector V epoch t).1/\(oq p k v sector V epoch t).2.1=(o.lock k v sector V epoch t).2.1/\U (oq p k v sector V epoch t).1/\U (oq p k v sector V epoch t).2.1/\R2 (o.lock k v sector V epoch t).2.2 (oq p k v sector V epoch t).2.2/\(oq p k v sector V epoch t).2.2.rows.length<=p.rows.length+2/\(oq p k v sector V epoch t).2.2.met=p.met:=by
 have hdn:=r.rel.dn
 obtain ⟨h1,r1,b1,m1⟩:=RT g.wf r (by omega)
 obtain ⟨g1,_⟩:=Bh g (by omega)
 obtain ⟨h2,r2,b2,m2⟩:=aaw g1 r1 k o.fresh.1 (ch v sector V epoch) t (by omega)
 obtain ⟨_,_,u1,u2,_⟩:=Jn g k v sector V epoch t (by omega)
 unfold Or.lock at u1 u2 ⊢
 unfold oq
 dsimp only at u1 u2 ⊢
 rw [h1] at h2 r2 b2 m2 u1 u2 ⊢
 rw [h2] at u2
 exact ⟨rfl,h2.symm,u1,u2,r2,by omega,m2.trans m1⟩
theorem Lw {L:(Int×Bool)×Rf} (hL:bg (d:Int) p sector leaf path=L) (h:L.1.2=true):fF (IntKind.i64.wrap sector) path:=by
 rw [← hL] at h
 unfold bg at h
 split at h
 ·rename_i hc; exact hc.2
 ·cases h
theorem aam {o:Or} {epoch:Int} {t:ByteArray} (g:G o) (r:R2 o p) (h4:d<=4) (hb:p.rows.length<=600000) (hm:p.met.length<=640000200) (hw:Pm leaf path) (hs:aH sector) (hv:aH v) (he:aH epoch) (hD:ca 256 S []) :
  fL (sector,epoch,t,(leaf,path,()),()) (gq k v (d:Int) p S)=some (((lA k v (d:Int) p S sector epoch t leaf path).1.1,(lA k v (d:Int) p S sector epoch t leaf path).1.2,()),gqW k v (d:Int) (lA k v (d:Int) p S sector epoch t leaf path).2.1 (lA k v (d:Int) p S sector epoch t leaf path).2.2):=by
 have hB:=JE (sector:=sector) (k:=k) (v:=v) (p:=p) h4 hD
 have hT:=Pv (k:=k) (v:=v) g r h4 (by omega) (by omega) hw hs hD
 have hTr:=Et hD
 obtain ⟨_,r1,s1⟩:=wT g r (d:Int) sector leaf path (by omega)
 obtain ⟨g1,_,_⟩:=eg g (d:Int) sector leaf path (by have:=r.rel.dn; omega)
 have s1r:=s1.rows
 have s1m:=s1.met
 have hwl:=hw.l
 unfold fL py lA pc
 refine au hB ?_
 by_cases hbe:bV (ag S []) sector (d:Int)=0
 ·refine (eu (by rw [hbe]; rfl)).trans ?_
  by_cases hl:(t.size:Int)>4096
  ·rw [if_pos ⟨hbe,hl⟩]
   refine (ap hl).trans ?_
   rfl
  ·rw [if_neg (fun h=>hl h.2),if_neg (fun h=>h hbe)]
   refine (bq hl).trans ?_
   refine au hT ?_
   generalize hLe:bg (d:Int) p sector leaf path=L at *
   by_cases hc:L.1.2=false∨L.1.1≠(ag S []).1.1
   ·rw [if_pos hc]
    refine (eC (by rw [wU.1 hc]; rfl)).trans ?_
    rfl
   ·rw [if_neg hc]
    have ht:uC L.1 (ag S []).1.1=true:=by
     cases hq:uC L.1 (ag S []).1.1 with
     | true=>rfl
     | false=>exact (hc (wU.2 hq)).elim
    have hL1:L.1.2=true:=by
     cases hq:L.1.2 with
     | true=>rfl
     | false=>exact (hc (.inl hq)).elim
    refine (eu (by rw [ht]; rfl)).trans ?_
    refine au hTr ?_
    have hV:=ol ((ag S []).1.2.1+1)
    dsimp only
    generalize hVV:IntKind.u64.wrap ((ag S []).1.2.1+1)=V at hV
    have hLk:=azq L.2 (key:=k) (volume:=v) (sector:=sector) (version:=V) (epoch:=epoch) (t:=t) hv hs hV he (by omega) (by omega)
    obtain ⟨l1,l2,u1,u2,r2,b2,m2⟩:=aoB g1 r1 k v sector epoch t V he hV (by omega)
    have hTx:=azp hV he u1 u2
    obtain ⟨gk,_⟩:=Jn g1 k v sector V epoch t (by have:=r1.rel.dn; omega)
    have hI:=RY (k:=k) (v:=v) (d:=d) (leaf:=leaf) (txt:=ch V epoch (oq L.2 k v sector V epoch t).1 (oq L.2 k v sector V epoch t).2.1) (S:=S) gk.wf r2 (by omega) (by rw [m2]; omega) hw hs (Jq hV he u1 u2) (Lw hLe hL1) hD
    refine au hLk ?_
    refine au hTx ?_
    refine au hI ?_
    unfold aay
    dsimp only
    split<;>rfl
 ·rw [if_neg (fun h=>hbe h.1),if_pos hbe]
  refine (eC (bne_iff_ne.2 hbe)).trans ?_
  rfl
theorem akv {o:Or} (g:G o) (r:R2 o p) (h4:d<=4) (hb:p.rows.length<=600000) (hm:p.met.length<=640000200) (hw:Pm leaf path) (hs:aH sector) (hD:ca 256 S []) :
  fM (sector,(leaf,path,()),()) (gq k v (d:Int) p S)=some ((lO (d:Int) p S sector leaf path).1.2,gqW k v (d:Int) (lO (d:Int) p S sector leaf path).2.1 (lO (d:Int) p S sector leaf path).2.2):=by
 have hB:=JE (sector:=sector) (k:=k) (v:=v) (p:=p) h4 hD
 have hT:=Pv (k:=k) (v:=v) g r h4 (by omega) (by omega) hw hs hD
 obtain ⟨_,r1,s1⟩:=wT g r (d:Int) sector leaf path (by omega)
 obtain ⟨g1,_,_⟩:=eg g (d:Int) sector leaf path (by have:=r.rel.dn; omega)
 have s1r:=s1.rows
 have s1m:=s1.met
 have hwl:=hw.l
 unfold fM pC lO pc
 refine au hB ?_
 by_cases hbe:bV (ag S []) sector (d:Int)=0
 ·refine (eu (by rw [hbe]; rfl)).trans ?_
  rw [if_neg (fun h=>h hbe)]
  refine au hT ?_
  generalize hLe:bg (d:Int) p sector leaf path=L at *
  by_cases hc:L.1.2=false∨L.1.1≠(ag S []).1.1
  ·rw [if_pos hc]
   refine (eC (by rw [wU.1 hc]; rfl)).trans ?_
   rfl
  ·rw [if_neg hc]
   have ht:uC L.1 (ag S []).1.1=true:=by
    cases hq:uC L.1 (ag S []).1.1 with
    | true=>rfl
    | false=>exact (hc (wU.2 hq)).elim
   have hL1:L.1.2=true:=by
    cases hq:L.1.2 with
    | true=>rfl
    | false=>exact (hc (.inl hq)).elim
   refine (eu (by rw [ht]; rfl)).trans ?_
   have hI:=RY (k:=k) (v:=v) (d:=d) (leaf:=leaf) (txt:=eB) (S:=S) g1.wf r1 (by omega) (by omega) hw hs (Nat.zero_le _) (Lw hLe hL1) hD
   refine au hI ?_
   dsimp only
   split<;>rfl
 ·rw [if_pos hbe]
  refine (eC (bne_iff_ne.2 hbe)).trans ?_
  rfl
theorem Lk {o:Or} (g:G o) (r:R2 o p) (h4:d<=4) (hb:p.rows.length<=600000) (hm:p.met.length<=640000200) (hw:Pm leaf path) (hsec:(ag S []).2=true->aH (ag S []).1.2.2.2.1) (hD:ca 256 S []) :
  jI ((leaf,path,()),()) (gq k v (d:Int) p S)=some (((HA (d:Int) p S leaf path).1.1,(HA (d:Int) p S leaf path).1.2,()),gqW k v (d:Int) (HA (d:Int) p S leaf path).2.1 (HA (d:Int) p S leaf path).2.2):=by
 have hp:=aaB (k:=k) (v:=v) (d:=d) (p:=p) hD
 have hTr:=Et hD
 unfold jI wb HA
 refine au hp ?_
 by_cases h:lN (ag S [])=0
 ·rw [if_neg (fun q=>q h)]
  refine (eu (by rw [h]; rfl)).trans ?_
  refine au hTr ?_
  have htt:(ag S []).2=true:=by
   unfold lN at h
   cases hq:(ag S []).2 with
   | true=>rfl
   | false=>rw [if_pos hq] at h; cases h
  have hL:=aaC (k:=k) (v:=v) (S:=S) g r h4 (by omega) (by omega) hw (hsec htt)
  refine au hL ?_
  dsimp only
  generalize bg (d:Int) p (ag S []).1.2.2.2.1 leaf path=L
  have hs:∀ b,dA (b,()) (gq k v (d:Int) L.2 S)=_:=fun b=>RX (k:=k) (v:=v) (d:=d) (p:=L.2) (b:=b) hD
  have fin232:∀ (X:Option QT),L.1.2=false∨(L.1.1≠(ag S []).1.2.2.2.2.1/\L.1.1≠(ag S []).1.1)->X=some ((false,232,()),gqW k v (d:Int) L.2 S)->X=some (((if L.1.2=false∨(L.1.1≠(ag S []).1.2.2.2.2.1/\L.1.1≠(ag S []).1.1) then ((false,(232:Int)),L.2,S) else if bF S (L.1.1==(ag S []).1.2.2.2.2.1)≠0 then ((false,bF S (L.1.1==(ag S []).1.2.2.2.2.1)),L.2,(gP 256 S [] (dE (ag S []) (L.1.1==(ag S []).1.2.2.2.2.1))).2.1) else ((L.1.1==(ag S []).1.2.2.2.2.1,0),L.2,(gP 256 S [] (dE (ag S []) (L.1.1==(ag S []).1.2.2.2.2.1))).2.1)).1.1,(if L.1.2=false∨(L.1.1≠(ag S []).1.2.2.2.2.1/\L.1.1≠(ag S []).1.1) then ((false,(232:Int)),L.2,S) else if bF S (L.1.1==(ag S []).1.2.2.2.2.1)≠0 then ((false,bF S (L.1.1==(ag S []).1.2.2.2.2.1)),L.2,(gP 256 S [] (dE (ag S []) (L.1.1==(ag S []).1.2.2.2.2.1))).2.1) else ((L.1.1==(ag S []).1.2.2.2.2.1,0),L.2,(gP 256 S [] (dE (ag S []) (L.1.1==(ag S []).1.2.2.2.2.1))).2.1)).1.2,()),gqW k v (d:Int) (if L.1.2=false∨(L.1.1≠(ag S []).1.2.2.2.2.1/\L.1.1≠(ag S []).1.1) then ((false,(232:Int)),L.2,S) else if bF S (L.1.1==(ag S []).1.2.2.2.2.1)≠0 then ((false,bF S (L.1.1==(ag S []).1.2.2.2.2.1)),L.2,(gP 256 S [] (dE (ag S []) (L.1.1==(ag S []).1.2.2.2.2.1))).2.1) else ((L.1.1==(ag S []).1.2.2.2.2.1,0),L.2,(gP 256 S [] (dE (ag S []) (L.1.1==(ag S []).1.2.2.2.2.1))).2.1)).2.1 (if L.1.2=false∨(L.1.1≠(ag S []).1.2.2.2.2.1/\L.1.1≠(ag S []).1.1) then ((false,(232:Int)),L.2,S) else if bF S (L.1.1==(ag S []).1.2.2.2.2.1)≠0 then ((false,bF S (L.1.1==(ag S []).1.2.2.2.2.1)),L.2,(gP 256 S [] (dE (ag S []) (L.1.1==(ag S []).1.2.2.2.2.1))).2.1) else ((L.1.1==(ag S []).1.2.2.2.2.1,0),L.2,(gP 256 S [] (dE (ag S []) (L.1.1==(ag S []).1.2.2.2.2.1))).2.1)).2.2):=by
   intro X hc hX
   rw [if_pos hc]
   exact hX
  rcases (Bool.eq_false_or_eq_true (L.1.2)).symm with hL1 | hL1
  ·refine fin232 _ (.inl hL1) ?_
   refine (eu hL1).trans ?_
   refine (eu hL1).trans ?_
   rfl
  ·refine Eq.trans (eC hL1) ?_
   by_cases h1:L.1.1=(ag S []).1.2.2.2.2.1
   ·have hb1:(L.1.1==(ag S []).1.2.2.2.2.1)=true:=beq_iff_eq.2 h1
    rw [if_neg (fun h=>h.elim (fun h=>by rw [hL1] at h; cases h) (fun h=>h.1 h1)),hb1]
    refine (eC rfl).trans ?_
    refine au (hs true) ?_
    by_cases hz:bF S true=0
    ·rw [if_neg (fun q=>q hz)]
     show some ((bF S true==0,bF S true,()),_)=_
     rw [hz]
     rfl
    ·rw [if_pos hz]
     show some ((bF S true==0,bF S true,()),_)=_
     rw [show (bF S true==0)=false from beq_false_of_ne hz]
     rfl
   ·have hb1:(L.1.1==(ag S []).1.2.2.2.2.1)=false:=beq_false_of_ne h1
    refine Eq.trans (eu hb1) ?_
    refine Eq.trans (eC hL1) ?_
    by_cases h2:L.1.1=(ag S []).1.1
    ·rw [if_neg (fun h=>h.elim (fun h=>by rw [hL1] at h; cases h) (fun h=>h.2 h2)),hb1]
     refine (eC (beq_iff_eq.2 h2)).trans ?_
     refine au (hs false) ?_
     by_cases hz:bF S false=0
     ·rw [if_neg (fun q=>q hz)]
      show some ((false,bF S false,()),_)=_
      rw [hz]
      rfl
     ·rw [if_pos hz]
      rfl
    ·refine fin232 _ (.inr ⟨h1,h2⟩) ?_
     refine (eu (beq_false_of_ne h2)).trans ?_
     rfl
 ·rw [if_pos h]
  refine (eC (bne_iff_ne.2 h)).trans ?_
  rfl
end
open Go Go.Proofs.YtljfdfghagiblaaGreat.S2
theorem Pw:∀ (l:List ByteArray) {o:Or} {p:Rf},Wf o->R2 o p->p.rows.length+l.length<=1000000->(az l o).1=(aK l p).1/\R2 (az l o).2 (aK l p).2/\(aK l p).2.rows.length<=p.rows.length+l.length/\(aK l p).2.met=p.met
 | [],o,p,w,r,hb=>⟨rfl,r,Nat.le_refl _,rfl⟩
 | t::l,o,p,w,r,hb=>by
  simp only [List.length_cons] at hb
  obtain ⟨h1,r1,b1,m1⟩:=Es w r t (by omega)
  obtain ⟨w1,_,_,_⟩:=cJ w t (by have:=r.rel.dn; omega)
  obtain ⟨h2,r2,b2,m2⟩:=Pw l w1 r1 (by omega)
  refine ⟨?_,r2,?_,m2.trans m1⟩
  ·simp only [az,aK]
   rw [h1,h2]
  ·simp only [aK,List.length_cons]
   omega
theorem aaD:∀ (d:Nat) (l:List Int) {o:Or} {p:Rf},Wf o->R2 o p->l.length=2 ^ d->p.rows.length+2 ^ d<=1000000->(cV d l o).1=(jS d l p).1/\R2 (cV d l o).2 (jS d l p).2/\(jS d l p).2.rows.length<=p.rows.length+2 ^ d/\(jS d l p).2.met=p.met
 | 0,l,o,p,w,r,hl,hb=>⟨rfl,r,by show p.rows.length<=_; omega,rfl⟩
 | d+1,l,o,p,w,r,hl,hb=>by
  have hpn:(2:Nat) ^ (d+1)=2 ^ d+2 ^ d:=by rw [Nat.pow_succ]; omega
  have htx:(bt l).length=2 ^ d:=by rw [iN,hl]; omega
  obtain ⟨h1,r1,b1,m1⟩:=Pw (bt l) w r (by omega)
  obtain ⟨w1,_,_,_⟩:=dg (bt l) w (by have:=r.rel.dn; rw [htx]; omega)
  have l1:(az (bt l) o).1.length=2 ^ d:=by rw [cn,htx]
  obtain ⟨h2,r2,b2,m2⟩:=aaD d (az (bt l) o).1 w1 r1 l1 (by omega)
  simp only [cV,jS]
  rw [← h1]
  exact ⟨by rw [h2],r2,by omega,m2.trans m1⟩
def g5 (n:Nat) (ls:List ByteArray) (p:Rf):List (List Int)×Rf:=jS n (aK (aT ls 0 (2 ^ n)) p).1 (aK (aT ls 0 (2 ^ n)) p).2
theorem RZ {o:Or} {p:Rf} (w:Wf o) (r:R2 o p) {n:Nat} (h8:n<=8) (hb:p.rows.length<=900000):(bi n [] o).1=(g5 n [] p).1/\R2 (bi n [] o).2 (g5 n [] p).2/\(g5 n [] p).2.rows.length<=p.rows.length+512/\(g5 n [] p).2.met=p.met:=by
 have hsmall:2 ^ n<=2 ^ 8:=Nat.pow_le_pow_right (by decide) h8
 obtain ⟨h1,r1,b1,m1⟩:=Pw (aT [] 0 (2 ^ n)) w r (by rw [a8]; omega)
 rw [a8] at b1
 obtain ⟨w1,_,_,_⟩:=dg (aT [] 0 (2 ^ n)) w (by have:=r.rel.dn; rw [a8]; omega)
 obtain ⟨h2,r2,b2,m2⟩:=aaD n (az (aT [] 0 (2 ^ n)) o).1 w1 r1 (by rw [cn,a8]) (by omega)
 unfold bi g5
 rw [← h1]
 exact ⟨h2,r2,by omega,m2.trans m1⟩
theorem aoC {o:Or} {p:Rf} {n:Nat} (w:Wf o) (r:R2 o p) (h8:n<=8) (hb:p.rows.length<=900000) (hm:p.met.length<=1000) (hd:o.drawn<=3000000000000000000):xY ((n:Int),[],()) p.m=some (((g5 n [] p).1,true,()),(g5 n [] p).2.mo):=by
 have hsmall:2 ^ n<=2 ^ 8:=Nat.pow_le_pow_right (by decide) h8
 have hls:∀ s,s∈([]:List ByteArray)->s.size<=140737488355328:=fun s hs=>by cases hs
 have hR:xY ((n:Int),[],()) p.m=ro br eb eS (n:Int) [] p.bads p.draws p.rows p.met some:=rfl
 obtain ⟨h1,r1,b1,m1⟩:=Pw (aT [] 0 (2 ^ n)) w r (by rw [a8]; omega)
 rw [a8] at b1
 obtain ⟨w3,x3,d3,t3,u3,len3,hl3,lf3⟩:=wR (ls:=[]) (d:=n) w (by omega) hd
 obtain ⟨hT,_⟩:=RZ w r h8 hb
 have hT:(bi n [] o).1=(jS n (aK (aT [] 0 (2 ^ n)) p).1 (aK (aT [] 0 (2 ^ n)) p).2).1:=hT
 have h5:=aas n (by omega) [] hls (2 ^ n) 0 p [] (by omega) rfl (by omega) (by omega) (fun t=>(Jw p t).1)
 rw [show ((0:Nat):Int)=0 from rfl,List.nil_append] at h5
 have h11:=RP n (aK (aT [] 0 (2 ^ n)) p).2 (aK (aT [] 0 (2 ^ n)) p).1 [(aK (aT [] 0 (2 ^ n)) p).1] (by omega) (by rw [(Jy _ _).1,a8]) (by simp; omega) (fun x hx y hy=>u3 x (by rw [hT]; exact List.dropLast_subset _ hx) y hy) (by omega) (by rw [m1]; omega)
 rw [hR]
 unfold ro g5
 rw [bq (by omega),bq (by omega),Bo (by omega)]
 simp only [Option.bind_some]
 rw [bq (by show ¬ (([]:List ByteArray).length:Int)>((2 ^ n:Nat):Int); have:(([]:List ByteArray).length:Int)=0:=rfl; omega),h5]
 simp only [Option.bind_some,List.nil_append]
 rw [h11]
 simp only [Option.bind_some]
 obtain ⟨r',hr'⟩:=Jz n (aK (aT [] 0 (2 ^ n)) p).1 (aK (aT [] 0 (2 ^ n)) p).2
 simp only [hr',List.tail_cons,List.singleton_append]
 rfl
theorem akz {o:Or} {p:Rf} {k v:Int} {d:Nat} {S:List ByteArray} (g:G o) (r:R2 o p) (h4:d<=4) (hb:p.rows.length<=900000) (hm:p.met.length<=1000) (hD:ca 256 S []) :
  nn () (gq k v (d:Int) p S)=some ((B7 d o S).1,gqI k v (d:Int) (g5 d [] p).2 (B7 d o S).2.2)/\R2 (B7 d o S).2.1 (g5 d [] p).2/\(g5 d [] p).2.rows.length<=p.rows.length+512/\(g5 d [] p).2.met=p.met:=by
 have hdn:=r.rel.dn
 have hB:=aoC (n:=d) g.wf r (by omega) hb hm (by omega)
 obtain ⟨hT,r2,b2,m2⟩:=RZ (n:=d) g.wf r (by omega) hb
 obtain ⟨w3,x3,d3,t3,u3,len3,hl3,lf3⟩:=wR (ls:=[]) (d:=d) g.wf (by omega) (by omega)
 obtain ⟨e1,e2⟩:=Jr (ue t3)
 rw [show (bi d [] o).1.length-1=d by omega,hT] at e1
 rw [show (bi d [] o).1.length-1=d by omega] at e2
 have hR:=aoz (root:=fe (bi d [] o).1) (Ge u3) hD
 refine ⟨?_,r2,b2,m2⟩
 unfold nn v7 B7
 refine au hB ?_
 refine (eC rfl).trans ?_
 refine (ap (by show (0:Int)<=(d:Int); omega)).trans ?_
 refine (ap (by show (d:Int)<((g5 d [] p).1.length:Int); rw [← hT]; omega)).trans ?_
 refine (ap (by show (0:Int)<(((g5 d [] p).1.getD ((d:Int)).toNat []).length:Int); rw [Int.toNat_natCast,e1]; decide)).trans ?_
 have er:(((g5 d [] p).1.getD ((d:Int)).toNat []).getD 0 0)=fe (bi d [] o).1:=by rw [Int.toNat_natCast,← hT,← e2]
 refine au (show tR ((((g5 d [] p).1.getD ((d:Int)).toNat []).getD 0 0),()) ((256,()),S,([]:om),())=some ((gP 256 S [] (some (fN (fe (bi d [] o).1)))).1,((256,()),(gP 256 S [] (some (fN (fe (bi d [] o).1)))).2.1,(),([]:om),())) by rw [er]; exact hR) ?_
 rfl
end Go.Proofs.YtljfdfghagiblaaGreat.S2.Mk
