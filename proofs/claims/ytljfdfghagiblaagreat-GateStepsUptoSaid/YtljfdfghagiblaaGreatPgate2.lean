/- The gate's reads and writes,in plain words. -/
import Derived.Test.YtljfdfghagiblaaGreatPgate
import Derived.Test.YtljfdfghagiblaaGreatPtree
namespace Go.Proofs.YtljfdfghagiblaaGreat.S2.Mk
open Go Go.Proofs.YtljfdfghagiblaaGreat.S2
theorem au {α β:Type} {x:Option α} {a:α} {f:α->Option β} {r:Option β} (h:x=some a) (k:f a=r):x.bind f=r:=by rw [h]; exact k
instance (i:Int) (p:List Int):Decidable (fF i p):=by unfold fF; exact inferInstance
theorem akB {s:ByteArray} (h:(bL s).2=true):aH (bL s).1.1/\aH (bL s).1.2.1/\aH (bL s).1.2.2.1/\aH (bL s).1.2.2.2.1:=by
 unfold bL at h ⊢
 split at h
 ·rename_i ho
  rw [if_pos ho]
  obtain ⟨⟨h1,h2,h3,h4⟩,h5⟩:=ho
  obtain ⟨n1,a1,b1,c1⟩:=gt (s:=s) h1
  obtain ⟨n2,a2,b2,c2⟩:=gt (s:=(q1 s).2.1) h2
  obtain ⟨n3,a3,b3,c3⟩:=gt (s:=(q2 s).2.1) h3
  obtain ⟨n4,a4,b4,c4⟩:=gt (s:=(q3 s).2.1) h4
  have e1:(q1 s).1=(n1:Int):=a1
  have e2:(q2 s).1=(n2:Int):=a2
  have e3:(q3 s).1=(n3:Int):=a3
  have e4:(q4 s).1=(n4:Int):=a4
  unfold azg aH
  dsimp only
  omega
 ·cases h
def looks (o:Or) (leaf:ByteArray) (path:List Int):Or:=if (bL leaf).2=true then ((sG o path).meet (bL leaf).1.2.2.1).meet (bL leaf).1.2.2.2.1 else sG o path
def aD (d:Int) (o:Or) (sector:Int) (leaf:ByteArray) (path:List Int):(Int×Bool)×Or :=
 if (path.length:Int)=d/\fF (IntKind.i64.wrap sector) path then (((fu (looks o leaf path) leaf (IntKind.i64.wrap sector).toNat path).1,true),(fu (looks o leaf path) leaf (IntKind.i64.wrap sector).toNat path).2) else ((0,false),looks o leaf path)
theorem Bi:∀ (p:List Int) {o:Or},G o->G (sG o p)/\X o (sG o p)/\(sG o p).drawn=o.drawn
 | [],o,g=>⟨g,X.refl o,rfl⟩
 | h::p,o,g=>by
  obtain ⟨g1,x1⟩:=jA g h
  obtain ⟨g2,x2,d2⟩:=Bi p g1
  exact ⟨g2,x1.trans x2,d2.trans (xB g.wf h).2⟩
theorem Ef {o:Or} (g:G o) (leaf:ByteArray) (path:List Int):G (looks o leaf path)/\X o (looks o leaf path)/\(looks o leaf path).drawn=o.drawn:=by
 obtain ⟨g1,x1,d1⟩:=Bi path g
 unfold looks
 split
 ·obtain ⟨g2,x2⟩:=jA g1 (bL leaf).1.2.2.1
  obtain ⟨g3,x3⟩:=jA g2 (bL leaf).1.2.2.2.1
  exact ⟨g3,x1.trans (x2.trans x3),((xB g2.wf _).2).trans (((xB g1.wf _).2).trans d1)⟩
 ·exact ⟨g1,x1,d1⟩
theorem eg {o:Or} (g:G o) (d:Int) (sector:Int) (leaf:ByteArray) (path:List Int) (hd:o.drawn<=3000000000000000000):G (aD d o sector leaf path).2/\X o (aD d o sector leaf path).2/\(aD d o sector leaf path).2.drawn<=o.drawn+9:=by
 obtain ⟨g1,x1,d1⟩:=Ef g leaf path
 unfold aD
 split
 ·rename_i h
  obtain ⟨g2,x2,d2,_⟩:=Ej g1 (s:=leaf) (i:=(IntKind.i64.wrap sector).toNat) (p:=path) h.2.1 (by omega)
  exact ⟨g2,x1.trans x2,by show (fu _ _ _ _).2.drawn<=_; omega⟩
 ·exact ⟨g1,x1,by show (looks o leaf path).drawn<=_; omega⟩
theorem Iy {o:Or} {k v d sector:Int} {S:List ByteArray} {leaf:ByteArray} {path:List Int} (g:G o) (hd:o.drawn<=3000000000000000000) (hs:leaf.size<=140737488355328) (hu:∀ x,x∈path->U x) (hl:path.length<=1000000000000000) (hl2:path.length<=140737488355328) :
    cA (sector,(leaf,path,()),()) (gm k v d o S)=some (((aD d o sector leaf path).1.1,(aD d o sector leaf path).1.2,()),gm k v d (aD d o sector leaf path).2 S):=by
  have hL:=Jp k v d sector S leaf path path [] o (by simpa using hl2)
  have hP:=RB (s:=leaf)
  obtain ⟨g0,x0,d0⟩:=Bi path g
  have hfin:∀ o':Or,G o'->o'.drawn=o.drawn->o'=looks o leaf path ->
      (cond ((path.length:Int) != d) (some ((0,false,()),gm k v d o' S)) ((cT (leaf,IntKind.i64.wrap sector,path,()) o'.m).bind fun r=>some ((r.1.1,r.1.2.1,()),((k,v,d,()),(r.2.1.1,r.2.1.2.1,r.2.1.2.2.1,()),(),r.2.2.1,r.2.2.2.1,r.2.2.2.2.1,r.2.2.2.2.2.1,r.2.2.2.2.2.2.1,r.2.2.2.2.2.2.2.1,r.2.2.2.2.2.2.2.2.1,(256,()),S,[],())))) =
        some (((aD d o sector leaf path).1.1,(aD d o sector leaf path).1.2,()),gm k v d (aD d o sector leaf path).2 S):=by
    intro o' g' d' e
    obtain ⟨c1,c2⟩:=Po (o:=o') (i:=IntKind.i64.wrap sector) (p:=path) (s:=leaf) g'.wf (by omega) hs hu
    unfold aD
    by_cases hp:(path.length:Int)=d
    · refine (eu (by rw [hp]; exact bne_self_eq_false _)).trans ?_
      by_cases ok:fF (IntKind.i64.wrap sector) path
      · rw [if_pos ⟨hp,ok⟩,c1 ok,← e]
        rfl
      · rw [if_neg (fun h=>ok h.2),c2 ok,← e]
        rfl
    · refine (eC (bne_iff_ne.2 hp)).trans ?_
      rw [if_neg (fun h=>hp h.1),← e]
  unfold cA uX
  refine au hL ?_
  refine au hP ?_
  rcases (Bool.eq_false_or_eq_true ((bL leaf).2)).symm with hq | hq
  · refine (eu hq).trans ?_
    exact hfin (sG o path) g0 d0 (by unfold looks; rw [hq]; rfl)
  · refine (eC hq).trans ?_
    have h1:=Gh (sG o path) (bL leaf).1.2.2.1
    have h2:=Gh ((sG o path).meet (bL leaf).1.2.2.1) (bL leaf).1.2.2.2.1
    obtain ⟨g1,_⟩:=jA g0 (bL leaf).1.2.2.1
    obtain ⟨g2,_⟩:=jA g1 (bL leaf).1.2.2.2.1
    refine au h1 ?_
    refine au h2 ?_
    exact hfin (((sG o path).meet (bL leaf).1.2.2.1).meet (bL leaf).1.2.2.2.1) g2 (((xB g1.wf _).2).trans (((xB g0.wf _).2).trans d0)) (by unfold looks; rw [hq]; rfl)
def B6 (k v:Int) (o:Or) (sector:Int) (leaf:ByteArray):ByteArray×Bool×Or:=o.opn k (bL leaf).1.2.2.1 (ch v sector (bL leaf).1.1 (bL leaf).1.2.1) (bL leaf).1.2.2.2.1
def cX (k v d:Int) (o:Or) (S:List ByteArray) (sector:Int) (leaf:ByteArray) (path:List Int):(ByteArray×Int)×Or :=
 if bV (ag S []) sector d≠0 then ((eB,bV (ag S []) sector d),o)
 else if (aD d o sector leaf path).1.2=false∨(aD d o sector leaf path).1.1≠(ag S []).1.1 then ((eB,232),(aD d o sector leaf path).2)
 else if leaf=eB then ((eB,0),(aD d o sector leaf path).2)
 else if (bL leaf).2=false then ((eB,233),(aD d o sector leaf path).2)
 else if (B6 k v (aD d o sector leaf path).2 sector leaf).2.1=false then ((eB,233),(B6 k v (aD d o sector leaf path).2 sector leaf).2.2)
 else (((B6 k v (aD d o sector leaf path).2 sector leaf).1,0),(B6 k v (aD d o sector leaf path).2 sector leaf).2.2)
structure P0 (leaf:ByteArray) (path:List Int):Prop where
 sz:leaf.size<=140737488355328
 u:∀ x,x∈path->U x
 len:path.length<=140737488355328
theorem uA {o:Or} {k v d sector:Int} {S:List ByteArray} {leaf:ByteArray} {path:List Int} (g:G o) (hd:o.drawn<=900000000) (hw:P0 leaf path) (h0:0<=d) (h4:d<=4) (hD:ca 256 S []) (hv:aH v) (hs:aH sector) :
  dk (sector,(leaf,path,()),()) (gm k v d o S)=some (((cX k v d o S sector leaf path).1.1,(cX k v d o S sector leaf path).1.2,()),gm k v d (cX k v d o S sector leaf path).2 S):=by
 have hb:=Em o (k:=k) (v:=v) (sector:=sector) h0 h4 hD
 have hL:=Iy (k:=k) (v:=v) (d:=d) (sector:=sector) (S:=S) g (by omega) hw.sz hw.u (by have:=hw.len; omega) hw.len
 obtain ⟨g1,x1,d1⟩:=eg g d sector leaf path (by omega)
 unfold dk uY cX
 refine au hb ?_
 by_cases hbe:bV (ag S []) sector d=0
 ·rw [if_neg (fun h=>h hbe)]
  refine (eu (by rw [hbe]; rfl)).trans ?_
  refine au hL ?_
  generalize hL':aD d o sector leaf path=L at g1 d1 ⊢
  rcases (Bool.eq_false_or_eq_true (L.1.2)).symm with hL1 | hL1
  ·rw [if_pos (Or.inl hL1)]
   exact eC (by rw [hL1]; rfl)
  ·refine (eu (by rw [hL1]; rfl)).trans ?_
   by_cases hr:L.1.1=(ag S []).1.1
   ·rw [if_neg (fun h=>h.elim (fun h=>by rw [hL1] at h; cases h) (fun h=>h hr))]
    refine (eu (by rw [hr]; exact bne_self_eq_false _)).trans ?_
    by_cases hle:leaf=eB
    ·rw [if_pos hle]
     exact eC (by rw [hle]; exact fw _)
    ·rw [if_neg hle]
     refine (eu (by rw [ci,decide_eq_false hle])).trans ?_
     refine au (RB (s:=leaf)) ?_
     rcases (Bool.eq_false_or_eq_true ((bL leaf).2)).symm with hq | hq
     ·rw [if_pos hq]
      exact eC (by rw [hq]; rfl)
     ·rw [if_neg (by rw [hq]; decide)]
      refine (eu (by rw [hq]; rfl)).trans ?_
      obtain ⟨p1,p2,p3,p4⟩:=akB hq
      have hU:=akC L.2 (key:=k) (volume:=v) (sector:=sector) (version:=(bL leaf).1.1) (epoch:=(bL leaf).1.2.1) (nonce:=(bL leaf).1.2.2.1) (c:=(bL leaf).1.2.2.2.1) hv hs p1 p2 g1.told (by have:=g1.pl; omega)
      refine au hU ?_
      show cond (!(B6 k v L.2 sector leaf).2.1) _ _=_
      rcases (Bool.eq_false_or_eq_true ((B6 k v L.2 sector leaf).2.1)).symm with hu | hu
      ·rw [if_pos hu]
       exact eC (by rw [hu]; rfl)
      ·rw [if_neg (by rw [hu]; decide)]
       exact eu (by rw [hu]; rfl)
   ·rw [if_pos (Or.inr hr)]
    exact eC (bne_iff_ne.2 hr)
 ·rw [if_pos hbe]
  exact eC (bne_iff_ne.2 hbe)
def bA (d:Int) (o:Or) (S:List ByteArray) (sector:Int) (leaf:ByteArray) (path:List Int) (mk:Or->Int->ByteArray×Or):(ByteArray×Int)×Or×List ByteArray :=
 if bV (ag S []) sector d≠0 then ((eB,bV (ag S []) sector d),o,S)
 else if (aD d o sector leaf path).1.2=false∨(aD d o sector leaf path).1.1≠(ag S []).1.1 then ((eB,232),(aD d o sector leaf path).2,S)
 else
  let m:=mk (aD d o sector leaf path).2 (IntKind.u64.wrap ((ag S []).1.2.1+1))
  let c:=fu m.2 m.1 (IntKind.i64.wrap sector).toNat path
  let D:=gP 256 S [] (o9 (ag S []) sector m.1 c.1)
  if D.1=true then ((m.1,0),c.2,D.2.1) else ((eB,235),c.2,D.2.1)
def cY (k v sector epoch:Int) (p:ByteArray) (o:Or) (version:Int):ByteArray×Or :=
 (ch version epoch (o.lock k v sector version epoch p).1 (o.lock k v sector version epoch p).2.1,(o.lock k v sector version epoch p).2.2)
def cR (k v d:Int) (o:Or) (S:List ByteArray) (sector epoch:Int) (p:ByteArray) (leaf:ByteArray) (path:List Int):(ByteArray×Int)×Or×List ByteArray :=
 if bV (ag S []) sector d=0/\(p.size:Int)>4096 then ((eB,231),o,S) else bA d o S sector leaf path (cY k v sector epoch p)
def jR (d:Int) (o:Or) (S:List ByteArray) (sector:Int) (leaf:ByteArray) (path:List Int):(ByteArray×Int)×Or×List ByteArray:=bA d o S sector leaf path (fun o _=>(eB,o))
def gmc (k v d:Int) (o:Or) (S:List ByteArray):(Int×Int×Int×Unit)×(List Int×Int×Bool×Unit)×Unit×List (Int×Int)×List (Int×Int)×List (ByteArray×Int)×List (aog×Int)×List (Ek×Int)×List (BP×Int)×Unit×(Int×Unit)×List ByteArray×Unit×List ByteArray×List W2×Unit:=((k,v,d,()),(o.draws,o.drawn,o.bad,()),(),o.issued,o.met,o.hashes,o.tags,o.seals,o.opens,(),(256,()),S,(),o.plains,[],())
theorem Jq {a b c d:Int} (ha:aH a) (hb:aH b) (hc:aH c) (hd:aH d):(ch a b c d).size<=40:=by
 have s1:=S2.aM ha.1 ha.2
 have s2:=S2.aM hb.1 hb.2
 have s3:=S2.aM hc.1 hc.2
 have s4:=S2.aM hd.1 hd.2
 unfold ch
 simp only [ByteArray.size_append]
 omega
theorem ol (n:Int):aH (IntKind.u64.wrap n):=by
 rw [RD]
 unfold aH
 omega
theorem Iv {o:Or} (g:G o) (k v sector epoch:Int) (p:ByteArray) (version:Int) (hd:o.drawn<=900000000) (hver:aH version) (hep:aH epoch) :
  G (cY k v sector epoch p o version).2/\X o (cY k v sector epoch p o version).2/\(cY k v sector epoch p o version).2.drawn<=o.drawn+2/\(cY k v sector epoch p o version).1.size<=40:=by
 obtain ⟨g1,x1,u1,u2,d1,_⟩:=Jn g k v sector version epoch p (by omega)
 exact ⟨g1,x1,d1,Jq hver hep u1 u2⟩
theorem akD {o:Or} {k v d sector epoch version:Int} {p:ByteArray} {S:List ByteArray} (g:G o) (hd:o.drawn<=900000000) (hv:aH v) (hs:aH sector) (he:aH epoch) (hver:aH version) :
  xV (version,()) ((),(sector,()),(epoch,()),(p,()),(k,v,d,()),(o.draws,o.drawn,o.bad,()),(),o.issued,o.met,o.hashes,o.tags,o.seals,o.opens,o.plains,(256,()),S,[],()) =
   some ((cY k v sector epoch p o version).1,((),(sector,()),(epoch,()),(p,()),(k,v,d,()),((cY k v sector epoch p o version).2.draws,(cY k v sector epoch p o version).2.drawn,(cY k v sector epoch p o version).2.bad,()),(),(cY k v sector epoch p o version).2.issued,(cY k v sector epoch p o version).2.met,(cY k v sector epoch p o version).2.hashes,(cY k v sector epoch p o version).2.tags,(cY k v sector epoch p o version).2.seals,(cY k v sector epoch p o version).2.opens,(),(256,()),S,[],(cY k v sector epoch p o version).2.plains,())):=by
 have hL:=azh o (key:=k) (volume:=v) (sector:=sector) (version:=version) (epoch:=epoch) (p:=p) hv hs hver he g.wf.d0 (by omega) (by have:=g.pl; omega)
 obtain ⟨g1,x1,u1,u2,d1,_⟩:=Jn g k v sector version epoch p (by omega)
 have hT:=aon hver he u1 u2
 unfold xV uZ
 refine au hL ?_
 refine au hT ?_
 rfl
theorem ab6 {o:Or} {k v d sector epoch:Int} {p:ByteArray} {S:List ByteArray} {leaf:ByteArray} {path:List Int} (g:G o) (hd:o.drawn<=900000000-100) (hw:P0 leaf path) (h0:0<=d) (h4:d<=4) (hD:ca 256 S []) (hv:aH v) (hs:aH sector) (he:aH epoch) :
  qu (sector,(leaf,path,()),(),()) ((k,v,d,()),(),(sector,()),(epoch,()),(p,()),(o.draws,o.drawn,o.bad,()),(),o.issued,o.met,o.hashes,o.tags,o.seals,o.opens,o.plains,(256,()),S,[],()) =
   some (((bA d o S sector leaf path (cY k v sector epoch p)).1.1,(bA d o S sector leaf path (cY k v sector epoch p)).1.2,()),((k,v,d,()),(),(sector,()),(epoch,()),(p,()),(gmc k v d (bA d o S sector leaf path (cY k v sector epoch p)).2.1 (bA d o S sector leaf path (cY k v sector epoch p)).2.2).2)):=by
 have hb:=Em o (k:=k) (v:=v) (sector:=sector) h0 h4 hD
 have hL:=Iy (k:=k) (v:=v) (d:=d) (sector:=sector) (S:=S) g (by omega) hw.sz hw.u (by have:=hw.len; omega) hw.len
 obtain ⟨g1,x1,d1⟩:=eg g d sector leaf path (by omega)
 have hok:(aD d o sector leaf path).1.2=true->fF (IntKind.i64.wrap sector) path:=by
  unfold aD
  split
  ·rename_i h; exact fun _=>h.2
  ·intro h; cases h
 unfold qu va bA
 refine au hb ?_
 by_cases hbe:bV (ag S []) sector d=0
 ·rw [if_neg (fun h=>h hbe)]
  refine (eu (by rw [hbe]; rfl)).trans ?_
  refine au hL ?_
  generalize hL':aD d o sector leaf path=L at g1 d1 hok ⊢
  rcases (Bool.eq_false_or_eq_true (L.1.2)).symm with hL1 | hL1
  ·rw [if_pos (Or.inl hL1)]
   exact eC (by rw [hL1]; rfl)
  ·refine (eu (by rw [hL1]; rfl)).trans ?_
   by_cases hr:L.1.1=(ag S []).1.1
   ·rw [if_neg (fun h=>h.elim (fun h=>by rw [hL1] at h; cases h) (fun h=>h hr))]
    refine (eu (by rw [hr]; exact bne_self_eq_false _)).trans ?_
    have hver:=ol ((ag S []).1.2.1+1)
    generalize hV:IntKind.u64.wrap ((ag S []).1.2.1+1)=V at hver
    have hW:=akD (d:=d) (p:=p) (k:=k) (S:=S) g1 (by omega) hv hs he hver
    obtain ⟨g2,x2,d2,z2⟩:=Iv g1 k v sector epoch p V (by omega) hver he
    dsimp only
    refine au hW ?_
    generalize cY k v sector epoch p L.2 V=m at g2 d2 z2 ⊢
    obtain ⟨c1,_⟩:=Po (o:=m.2) (i:=IntKind.i64.wrap sector) (p:=path) (s:=m.1) g2.wf (by omega) (by omega) hw.u
    have hC:=c1 (hok hL1)
    refine au hC ?_
    have hp8:path.length<=8:=(hok hL1).1
    obtain ⟨g3,x3,d3,u3⟩:=Ej g2 (s:=m.1) (i:=(IntKind.i64.wrap sector).toNat) (p:=path) hp8 (by omega)
    have hI:=RE (sector:=sector) (next:=(fu m.2 m.1 (IntKind.i64.wrap sector).toNat path).1) (leaf:=m.1) hs u3 (by omega) hD (by simp)
    rw [B9] at hI
    refine au hI ?_
    rcases Bool.eq_false_or_eq_true ((gP 256 S [] (o9 (ag S []) sector m.1 (fu m.2 m.1 (IntKind.i64.wrap sector).toNat path).1)).1) with hdo | hdo
    ·rw [if_pos hdo]
     exact eu (by rw [hdo]; rfl)
    ·rw [if_neg (by rw [hdo]; decide)]
     exact eC (by rw [hdo]; rfl)
   ·rw [if_pos (Or.inr hr)]
    exact eC (bne_iff_ne.2 hr)
 ·rw [if_pos hbe]
  exact eC (bne_iff_ne.2 hbe)
theorem ab7 {o:Or} {k v d sector:Int} {S:List ByteArray} {leaf:ByteArray} {path:List Int} (g:G o) (hd:o.drawn<=900000000-100) (hw:P0 leaf path) (h0:0<=d) (h4:d<=4) (hD:ca 256 S []) (hs:aH sector) :
  tw (sector,(leaf,path,()),()) (gm k v d o S) =
   some (((jR d o S sector leaf path).1.1,(jR d o S sector leaf path).1.2,()),gmc k v d (jR d o S sector leaf path).2.1 (jR d o S sector leaf path).2.2):=by
 have hb:=Em o (k:=k) (v:=v) (sector:=sector) h0 h4 hD
 have hL:=Iy (k:=k) (v:=v) (d:=d) (sector:=sector) (S:=S) g (by omega) hw.sz hw.u (by have:=hw.len; omega) hw.len
 obtain ⟨g1,x1,d1⟩:=eg g d sector leaf path (by omega)
 have hok:(aD d o sector leaf path).1.2=true->fF (IntKind.i64.wrap sector) path:=by
  unfold aD
  split
  ·rename_i h; exact fun _=>h.2
  ·intro h; cases h
 unfold tw vb jR bA
 refine au hb ?_
 by_cases hbe:bV (ag S []) sector d=0
 ·rw [if_neg (fun h=>h hbe)]
  refine (eu (by rw [hbe]; rfl)).trans ?_
  refine au hL ?_
  generalize hL':aD d o sector leaf path=L at g1 d1 hok ⊢
  rcases (Bool.eq_false_or_eq_true (L.1.2)).symm with hL1 | hL1
  ·rw [if_pos (Or.inl hL1)]
   exact eC (by rw [hL1]; rfl)
  ·refine (eu (by rw [hL1]; rfl)).trans ?_
   by_cases hr:L.1.1=(ag S []).1.1
   ·rw [if_neg (fun h=>h.elim (fun h=>by rw [hL1] at h; cases h) (fun h=>h hr))]
    refine (eu (by rw [hr]; exact bne_self_eq_false _)).trans ?_
    have hT:yA (IntKind.u64.wrap ((ag S []).1.2.1+1),()) ()=some (eB,()):=rfl
    refine au hT ?_
    dsimp only
    obtain ⟨m,hm⟩:∃ m:ByteArray×Or,m=(eB,L.2):=⟨_,rfl⟩
    have hm1:eB=m.1:=by rw [hm]
    have hm2:L.2=m.2:=by rw [hm]
    have z2:m.1.size<=40:=by rw [hm]; exact Nat.zero_le _
    have g2:G m.2:=by rw [hm]; exact g1
    have d2:m.2.drawn<=o.drawn+9:=by rw [hm]; exact d1
    show ((cT (eB,IntKind.i64.wrap sector,path,()) L.2.m).bind _)=_
    rw [hm1,hm2]
    obtain ⟨c1,_⟩:=Po (o:=m.2) (i:=IntKind.i64.wrap sector) (p:=path) (s:=m.1) g2.wf (by omega) (by omega) hw.u
    have hC:=c1 (hok hL1)
    refine au hC ?_
    have hp8:path.length<=8:=(hok hL1).1
    obtain ⟨g3,x3,d3,u3⟩:=Ej g2 (s:=m.1) (i:=(IntKind.i64.wrap sector).toNat) (p:=path) hp8 (by omega)
    have hI:=RE (sector:=sector) (next:=(fu m.2 m.1 (IntKind.i64.wrap sector).toNat path).1) (leaf:=m.1) hs u3 (by omega) hD (by simp)
    rw [B9] at hI
    refine au hI ?_
    rcases Bool.eq_false_or_eq_true ((gP 256 S [] (o9 (ag S []) sector m.1 (fu m.2 m.1 (IntKind.i64.wrap sector).toNat path).1)).1) with hdo | hdo
    ·rw [if_pos hdo]
     exact eu (by rw [hdo]; rfl)
    ·rw [if_neg (by rw [hdo]; decide)]
     exact eC (by rw [hdo]; rfl)
   ·rw [if_pos (Or.inr hr)]
    exact eC (bne_iff_ne.2 hr)
 ·rw [if_pos hbe]
  exact eC (bne_iff_ne.2 hbe)
theorem Bj {o:Or} {k v d sector epoch:Int} {p:ByteArray} {S:List ByteArray} {leaf:ByteArray} {path:List Int} (g:G o) (hd:o.drawn<=900000000-100) (hw:P0 leaf path) (h0:0<=d) (h4:d<=4) (hD:ca 256 S []) (hv:aH v) (hs:aH sector) (he:aH epoch) :
  eD (sector,epoch,p,(leaf,path,()),()) (gm k v d o S) =
   some (((cR k v d o S sector epoch p leaf path).1.1,(cR k v d o S sector epoch p leaf path).1.2,()),gmc k v d (cR k v d o S sector epoch p leaf path).2.1 (cR k v d o S sector epoch p leaf path).2.2):=by
 have hb:=Em o (k:=k) (v:=v) (sector:=sector) h0 h4 hD
 have hC:=ab6 (p:=p) (k:=k) g hd hw h0 h4 hD hv hs he
 unfold eD vd cR
 refine au hb ?_
 by_cases hbe:bV (ag S []) sector d=0
 ·refine (eC (beq_iff_eq.2 hbe)).trans ?_
  by_cases hl:(p.size:Int)>4096
  ·rw [if_pos ⟨hbe,hl⟩]
   exact ap hl
  ·rw [if_neg (fun h=>hl h.2)]
   refine (bq hl).trans ?_
   refine au hC ?_
   rfl
 ·rw [if_neg (fun h=>hbe h.1)]
  refine (eu (beq_false_of_ne hbe)).trans ?_
  refine au hC ?_
  rfl
theorem aku {o:Or} {k v d sector:Int} {S:List ByteArray} {leaf:ByteArray} {path:List Int} (g:G o) (hd:o.drawn<=900000000-100) (hw:P0 leaf path) (h0:0<=d) (h4:d<=4) (hD:ca 256 S []) (hs:aH sector) :
  jF (sector,(leaf,path,()),()) (gm k v d o S) =
   some ((jR d o S sector leaf path).1.2,gmc k v d (jR d o S sector leaf path).2.1 (jR d o S sector leaf path).2.2):=by
 have hC:=ab7 (k:=k) (v:=v) g hd hw h0 h4 hD hs
 unfold jF vg
 refine au hC ?_
 rfl
def uz (d:Int) (o:Or) (S:List ByteArray) (leaf:ByteArray) (path:List Int):(Bool×Int)×Or×List ByteArray :=
 if lN (ag S [])≠0 then ((false,lN (ag S [])),o,S)
 else
  let L:=aD d o (ag S []).1.2.2.2.1 leaf path
  let t:=(ag S []).1
  if L.1.2=false∨(L.1.1≠t.2.2.2.2.1/\L.1.1≠t.1) then ((false,232),L.2,S)
  else if bF S (L.1.1==t.2.2.2.2.1)≠0 then ((false,bF S (L.1.1==t.2.2.2.2.1)),L.2,(gP 256 S [] (dE (ag S []) (L.1.1==t.2.2.2.2.1))).2.1)
  else ((L.1.1==t.2.2.2.2.1,0),L.2,(gP 256 S [] (dE (ag S []) (L.1.1==t.2.2.2.2.1))).2.1)
theorem Lj {o:Or} {k v d:Int} {S:List ByteArray} {leaf:ByteArray} {path:List Int} (g:G o) (hd:o.drawn<=900000000) (hw:P0 leaf path) (hD:ca 256 S []) :
  jH ((leaf,path,()),()) (gm k v d o S)=some (((uz d o S leaf path).1.1,(uz d o S leaf path).1.2,()),gmw k v d (uz d o S leaf path).2.1 (uz d o S leaf path).2.2):=by
 have hp:=Ll o (k:=k) (v:=v) (d:=d) hD
 have hL:=Iy (k:=k) (v:=v) (d:=d) (sector:=(ag S []).1.2.2.2.1) (S:=S) g (by omega) hw.sz hw.u (by have:=hw.len; omega) hw.len
 unfold jH vm uz
 refine au hp ?_
 by_cases h:lN (ag S [])=0
 ·rw [if_neg (fun q=>q h)]
  refine (eu (by rw [h]; rfl)).trans ?_
  refine au hL ?_
  dsimp only
  generalize aD d o (ag S []).1.2.2.2.1 leaf path=L
  have hs:=RA L.2 (k:=k) (v:=v) (d:=d) (b:=L.1.1==(ag S []).1.2.2.2.2.1) hD
  have fin:∀ e,e=(gR (L.1.1==(ag S []).1.2.2.2.2.1,()) (gm k v d L.2 S)).bind (fun r3 =>
    cond (r3.1 != 0) (some ((false,r3.1,()),((r3.2.1.1,r3.2.1.2.1,r3.2.1.2.2.1,()),(r3.2.2.1.1,r3.2.2.1.2.1,r3.2.2.1.2.2.1,()),(),r3.2.2.2.2.1,r3.2.2.2.2.2.1,r3.2.2.2.2.2.2.1,r3.2.2.2.2.2.2.2.1,r3.2.2.2.2.2.2.2.2.1,r3.2.2.2.2.2.2.2.2.2.1,r3.2.2.2.2.2.2.2.2.2.2.1,(r3.2.2.2.2.2.2.2.2.2.2.2.1.1,()),r3.2.2.2.2.2.2.2.2.2.2.2.2.1,(),r3.2.2.2.2.2.2.2.2.2.2.2.2.2.2.1,())))
     (some ((L.1.1==(ag S []).1.2.2.2.2.1,0,()),((r3.2.1.1,r3.2.1.2.1,r3.2.1.2.2.1,()),(r3.2.2.1.1,r3.2.2.1.2.1,r3.2.2.1.2.2.1,()),(),r3.2.2.2.2.1,r3.2.2.2.2.2.1,r3.2.2.2.2.2.2.1,r3.2.2.2.2.2.2.2.1,r3.2.2.2.2.2.2.2.2.1,r3.2.2.2.2.2.2.2.2.2.1,r3.2.2.2.2.2.2.2.2.2.2.1,(r3.2.2.2.2.2.2.2.2.2.2.2.1.1,()),r3.2.2.2.2.2.2.2.2.2.2.2.2.1,(),r3.2.2.2.2.2.2.2.2.2.2.2.2.2.2.1,())))) ->
    e=(if bF S (L.1.1==(ag S []).1.2.2.2.2.1)≠0 then some ((false,bF S (L.1.1==(ag S []).1.2.2.2.2.1),()),gmw k v d L.2 (gP 256 S [] (dE (ag S []) (L.1.1==(ag S []).1.2.2.2.2.1))).2.1) else some ((L.1.1==(ag S []).1.2.2.2.2.1,0,()),gmw k v d L.2 (gP 256 S [] (dE (ag S []) (L.1.1==(ag S []).1.2.2.2.2.1))).2.1)):=by
   intro e he
   rw [he,hs]
   simp only [Option.bind_some]
   by_cases q:bF S (L.1.1==(ag S []).1.2.2.2.2.1)=0
   ·rw [if_neg (fun z=>z q)]
    exact eu (by rw [q]; rfl)
   ·rw [if_pos q]
    exact eC (bne_iff_ne.2 q)
  rcases (Bool.eq_false_or_eq_true (L.1.2)).symm with hL1 | hL1
  ·rw [if_pos (Or.inl hL1)]
   exact eC (by rw [hL1]; rfl)
  ·refine (eu (by rw [hL1]; rfl)).trans ?_
   by_cases h1:L.1.1=(ag S []).1.2.2.2.2.1
   ·rw [if_neg (fun h=>h.elim (fun h=>by rw [hL1] at h; cases h) (fun h=>h.1 h1))]
    refine (eu (by rw [h1]; exact bne_self_eq_false _)).trans ?_
    refine (fin _ rfl).trans ?_
    split<;>rfl
   ·refine (eC (bne_iff_ne.2 h1)).trans ?_
    by_cases h2:L.1.1=(ag S []).1.1
    ·rw [if_neg (fun h=>h.elim (fun h=>by rw [hL1] at h; cases h) (fun h=>h.2 h2))]
     refine (eu (by rw [h2]; exact bne_self_eq_false _)).trans ?_
     refine (fin _ rfl).trans ?_
     split<;>rfl
    ·rw [if_pos (Or.inr ⟨h1,h2⟩)]
     exact eC (bne_iff_ne.2 h2)
 ·rw [if_pos h]
  exact eC (bne_iff_ne.2 h)
def B7 (d:Nat) (o:Or) (S:List ByteArray):Bool×Or×List ByteArray :=
 ((gP 256 S [] (some (fN (fe (bi d [] o).1)))).1,(bi d [] o).2,(gP 256 S [] (some (fN (fe (bi d [] o).1)))).2.1)
theorem Rs {o:Or} {k v:Int} {d:Nat} {S:List ByteArray} (g:G o) (hd:o.drawn<=900000000) (h4:d<=4) (hD:ca 256 S []) :
  xW () (gm k v (d:Int) o S)=some ((B7 d o S).1,gmw k v (d:Int) (B7 d o S).2.1 (B7 d o S).2.2):=by
 obtain ⟨b1,_⟩:=aak (o:=o) (d:=(d:Int)) (ls:=[]) g.wf (by omega) (by intro s hs; cases hs)
 have hB:=b1 ⟨by omega,by omega,Nat.zero_le _⟩
 obtain ⟨w3,x3,d3,t3,u3,len3,hl3,lf3⟩:=wR (ls:=[]) (d:=d) g.wf (by omega) (by omega)
 obtain ⟨r1,r2⟩:=Jr (ue t3)
 rw [show (bi d [] o).1.length-1=d by omega] at r1 r2
 have hR:=aoo (root:=fe (bi d [] o).1) (Ge u3) hD (by simp)
 rw [B9] at hR
 simp only [Int.toNat_natCast] at hB
 unfold xW vh B7
 refine au hB ?_
 show cond true _ _=_
 rw [cond_true]
 refine (ap (by show (0:Int)<=(d:Int); omega)).trans ?_
 refine (ap (by show (d:Int)<((bi d [] o).1.length:Int); omega)).trans ?_
 refine (ap (by show (0:Int)<(((bi d [] o).1.getD ((d:Int)).toNat []).length:Int); rw [Int.toNat_natCast,r1]; decide)).trans ?_
 refine au (show lY ((((bi d [] o).1.getD ((d:Int)).toNat []).getD 0 0),()) _=_ from (by rw [Int.toNat_natCast,← r2]; exact hR)) ?_
 rfl
end Go.Proofs.YtljfdfghagiblaaGreat.S2.Mk
