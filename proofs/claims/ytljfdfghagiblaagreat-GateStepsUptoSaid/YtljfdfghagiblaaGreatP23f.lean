/- What a gate's answers mean. -/
import Derived.Test.YtljfdfghagiblaaGreatPwfZ
namespace Go.Proofs.YtljfdfghagiblaaGreat.S2.Mk
open Go Go.Proofs.YtljfdfghagiblaaGreat.S2
theorem aod {t:jk} (h:tf t):(en t).size<=60+t.2.2.2.2.2.1.size:=by
 have s1:=S2.aM h.a.1 h.a.2
 have s2:=S2.aM h.b.1 h.b.2
 have s3:=S2.aM h.c.1 h.c.2
 have s4:=S2.aM h.d.1 h.d.2
 have s5:=S2.aM h.e.1 h.e.2
 have s6:=S2.aM (n:=(t.2.2.2.2.2.1.size:Int)) (by omega) (by have:=h.f; omega)
 unfold en
 simp only [ByteArray.size_append]
 omega
theorem Iu {S:List ByteArray} {n:Int} {last:ByteArray} {u:jk} (h:uc 256 S n last) (hn:n<1000000) (ho:tf u) (hm:zj u) (hl:u.2.2.2.2.2.1.size<=40) :
  (gP 256 S [] (some u)).1=true/\yi 256 (gP 256 S [] (some u)).2.1 (n+1) u:=by
 obtain ⟨S',h1,h2,_⟩:=aae h hn ho hm
 have hz:=aod ho
 have hz':((en u).size:Int)<=256-18:=by omega
 rw [h1]
 exact ⟨decide_eq_true hz',h2 hz'⟩
theorem Jh {d:Nat} {s:Int} (h4:d<=4) (h0:0<=s) (h1:s<2 ^ d):IntKind.i64.wrap s=s/\s.toNat<2 ^ d:=by
 have hp:=Ga h4
 have hc:(2:Int) ^ d=((2 ^ d:Nat):Int):=by simp
 rw [hc] at h1
 exact ⟨aQ (by omega) (by omega),by omega⟩
theorem Ld {o:Or} {d:Nat} {cur:List ByteArray} {root sector:Int} {tr:List (List Int)} {leaf:ByteArray} {path:List Int} (g:G o) (hd:o.drawn<=900000000) (h4:d<=4) (h:HT o d cur root tr) (h0:0<=sector) (h1:sector<2 ^ d) (hw:P0 leaf path)
  (hl:(aD (d:Int) o sector leaf path).1.2=true) (hr:(aD (d:Int) o sector leaf path).1.1=root) (hb:(aD (d:Int) o sector leaf path).2.bad=false):leaf=cur.getD sector.toNat eB/\path=bB tr sector.toNat:=by
 obtain ⟨ws,wl⟩:=Jh h4 h0 h1
 obtain ⟨g1,x1,d1⟩:=Ef g leaf path
 unfold aD at hl hr hb
 split at hl
 ·rename_i hc
  rw [if_pos hc] at hr hb
  rw [ws] at hr hb
  have hk:=GV g1 (h.ext x1) (s:=leaf) (p:=path) (i:=sector.toNat) (by have:=hc.1; omega) (by omega) hw.u wl (by omega) hb
  exact hk.1 hr
 ·cases hl
theorem Eg {o:Or} {d:Nat} {cur:List ByteArray} {root sector:Int} {tr:List (List Int)} {leaf:ByteArray} {path:List Int} (g:G o) (hd:o.drawn<=900000000) (h4:d<=4) (h:HT o d cur root tr) (h0:0<=sector) (h1:sector<2 ^ d)
  (hl:leaf=cur.getD sector.toNat eB) (hp:path=bB tr sector.toNat) (hb:(aD (d:Int) o sector leaf path).2.bad=false):(aD (d:Int) o sector leaf path).1=(root,true):=by
 obtain ⟨ws,wl⟩:=Jh h4 h0 h1
 obtain ⟨g1,x1,d1⟩:=Ef g leaf path
 have hpl:path.length=d:=by rw [hp,Eh,h.len]; rfl
 have hc:(path.length:Int)=(d:Int)/\fF (IntKind.i64.wrap sector) path:=by
  refine ⟨by omega,by omega,by rw [ws]; exact h0,?_⟩
  rw [ws,hpl]
  exact h1
 unfold aD at hb ⊢
 rw [if_pos hc] at hb ⊢
 rw [ws] at hb ⊢
 have hk:=GV g1 (h.ext x1) (s:=leaf) (p:=path) (i:=sector.toNat) hpl (by omega) (by rw [hp]; exact UU h.allU _) wl (by omega) hb
 rw [hk.2 ⟨hl,hp⟩]
def Hz (o:Or) (s:Int) (leaf text:ByteArray):Prop:=(leaf=eB/\text=eB) ∨
 ∃ ver ep n c i,aH ver/\aH ep/\aH n/\aH c/\leaf=ch ver ep n c/\GW o 3 n c (ch 5 s ver ep) i/\o.plains.getD (i-1).toNat eB=text/\0<isd o n/\0<isd o c
theorem Hz.ext {o o':Or} (g:G o) (x:X o o') {s:Int} {leaf text:ByteArray} (h:Hz o s leaf text):Hz o' s leaf text:=by
 rcases h with h | ⟨ver,ep,n,c,i,h1,h2,h3,h4,h5,h6,h7,h8,h9⟩
 ·exact .inl h
 ·refine .inr ⟨ver,ep,n,c,i,h1,h2,h3,h4,h5,x.opn _ _ _ _ _ h6,?_,Int.lt_of_lt_of_le h8 (x.iss _),Int.lt_of_lt_of_le h9 (x.iss _)⟩
  obtain ⟨y,hy,hyi⟩:=mV h6
  have:=g.told y hy
  rw [x.pls _ (by omega)]
  exact h7
theorem aag {a b c d:Int}:ch a b c d≠eB:=by
 intro e
 have h:=congrArg ByteArray.size e
 unfold ch at h
 simp only [ByteArray.size_append] at h
 have:∀ n:Int,0<(S2.oD n).size:=by
  intro n
  rw [← S2.cB,S2.sE]
  generalize n.toNat=m
  unfold S2.bJ
  split<;>simp
 have:=this a
 have h0:eB.size=0:=rfl
 omega
theorem Hz.read {o:Or} (g:G o) {s:Int} {leaf text:ByteArray} (h:Hz o s leaf text) (hne:leaf≠eB):(bL leaf).2=true/\B6 3 5 o s leaf=(text,true,o):=by
 rcases h with h | ⟨ver,ep,n,c,i,h1,h2,h3,h4,h5,h6,h7,_⟩
 ·exact (hne h.1).elim
 ·have hp:=Ei h1 h2 h3 h4
  rw [← h5] at hp
  refine ⟨by rw [hp],?_⟩
  unfold B6 Or.opn
  rw [hp]
  dsimp only
  have h6':aG oJ (3,n,c,ch 5 s ver ep) o.opens=some i:=h6
  rw [h6']
  dsimp only
  rw [h7]
theorem Gb {S:List ByteArray} {n:Int} {t:jk} (st:yi 256 S n t) (sector d:Int):bV (ag S []) sector d=if t.2.2.1=1 then 234 else if sector≥2 ^ d.toNat then 230 else 0:=by
 rw [st.trust]
 unfold bV
 rw [if_neg (fun q=>by cases q)]
theorem Bf {S:List ByteArray} {n:Int} {t:jk} (st:yi 256 S n t) {sector:Int} {d:Nat}:bV (ag S []) sector (d:Int)=0↔t.2.2.1≠1/\sector<2 ^ d:=by
 rw [Gb st]
 rw [Int.toNat_natCast]
 by_cases h1:t.2.2.1=1
 ·rw [if_pos h1]
  constructor
  ·intro h; cases h
  ·intro h; exact (h.1 h1).elim
 ·rw [if_neg h1]
  by_cases h2:sector≥2 ^ d
  ·rw [if_pos h2]
   constructor
   ·intro h; cases h
   ·intro h; omega
  ·rw [if_neg h2]
   exact ⟨fun _=>⟨h1,by omega⟩,fun _=>rfl⟩
theorem Rn {o:Or} (g:G o) (k v sector:Int) (leaf:ByteArray):G (B6 k v o sector leaf).2.2/\X o (B6 k v o sector leaf).2.2/\(B6 k v o sector leaf).2.2.drawn=o.drawn:=aFS g _ _ _ _
theorem Pe {o:Or} (g:G o) (hd:o.drawn<=900000000) (k v d:Int) (S:List ByteArray) (sector:Int) (leaf:ByteArray) (path:List Int):G (cX k v d o S sector leaf path).2/\X o (cX k v d o S sector leaf path).2/\(cX k v d o S sector leaf path).2.drawn<=o.drawn+9/\((cX k v d o S sector leaf path).1.2≠0->(cX k v d o S sector leaf path).1.1=eB):=by
 obtain ⟨g1,x1,d1⟩:=eg g d sector leaf path (by omega)
 obtain ⟨g2,x2,d2⟩:=Rn g1 k v sector leaf
 unfold cX
 split
 ·exact ⟨g,X.refl o,by show o.drawn<=o.drawn+9; omega,fun _=>rfl⟩
 ·split
  ·exact ⟨g1,x1,d1,fun _=>rfl⟩
  ·split
   ·exact ⟨g1,x1,d1,fun _=>rfl⟩
   ·split
    ·exact ⟨g1,x1,d1,fun _=>rfl⟩
    ·split
     ·exact ⟨g2,x1.trans x2,by dsimp only; omega,fun _=>rfl⟩
     ·exact ⟨g2,x1.trans x2,by dsimp only; omega,fun h=>(h rfl).elim⟩
theorem GX {o:Or} {d:Nat} {S:List ByteArray} {n:Int} {t:jk} {cur:List ByteArray} {sector:Int} {leaf text:ByteArray} {path:List Int} {tr:List (List Int)} (g:G o) (hd:o.drawn<=900000000) (h4:d<=4) (st:yi 256 S n t) (h:HT o d cur t.1 tr) (h0:0<=sector) (h1:sector<2 ^ d) (hp:t.2.2.1≠1)
  (hle:leaf=cur.getD sector.toNat eB) (hpa:path=bB tr sector.toNat) (hl:Hz o sector leaf text) (hb:(cX 3 5 (d:Int) o S sector leaf path).2.bad=false) :
  (cX 3 5 (d:Int) o S sector leaf path).1=(text,0):=by
 obtain ⟨g1,x1,d1⟩:=eg g (d:Int) sector leaf path (by omega)
 have hbe:bV (ag S []) sector (d:Int)=0:=(Bf st).2 ⟨hp,h1⟩
 have hbL:(aD (d:Int) o sector leaf path).2.bad=false:=by
  unfold cX at hb
  rw [if_neg (fun q=>q hbe)] at hb
  split at hb
  ·exact hb
  ·split at hb
   ·exact hb
   ·split at hb
    ·exact hb
    ·split at hb
     ·exact (Rn g1 3 5 sector leaf).2.1.ext.bad hb
     ·exact (Rn g1 3 5 sector leaf).2.1.ext.bad hb
 have hL:=Eg g hd h4 h h0 h1 hle hpa hbL
 have hlf:=hl.ext g x1
 unfold cX
 rw [if_neg (fun q=>q hbe),if_neg (by rw [hL,st.trust]; rintro (q | q); cases q; exact q rfl)]
 by_cases hne:leaf=eB
 ·rw [if_pos hne]
  rcases hlf with hlf | ⟨ver,ep,n,c,i,_,_,_,_,h5,_⟩
  ·rw [hlf.2]
  ·rw [hne] at h5
   exact (aag h5.symm).elim
 ·rw [if_neg hne]
  obtain ⟨r1,r2⟩:=hlf.read g1 hne
  rw [if_neg (by rw [r1]; decide),if_neg (by rw [r2]; exact fun q=>by cases q),r2]
theorem Ro {o:Or} {d:Nat} {S:List ByteArray} {n:Int} {t:jk} {cur:List ByteArray} {sector:Int} {leaf:ByteArray} {path:List Int} {tr:List (List Int)} (g:G o) (hd:o.drawn<=900000000) (h4:d<=4) (st:yi 256 S n t) (h:HT o d cur t.1 tr) (h0:0<=sector) (h1:sector<2 ^ d) (hp:t.2.2.1≠1) (hw:P0 leaf path)
  (hne:¬ (leaf=cur.getD sector.toNat eB/\path=bB tr sector.toNat)) (k v:Int) (hb:(cX k v (d:Int) o S sector leaf path).2.bad=false) :
  (cX k v (d:Int) o S sector leaf path).1=(eB,232):=by
 obtain ⟨g1,x1,d1⟩:=eg g (d:Int) sector leaf path (by omega)
 have hbe:bV (ag S []) sector (d:Int)=0:=(Bf st).2 ⟨hp,h1⟩
 have hbL:(aD (d:Int) o sector leaf path).2.bad=false:=by
  unfold cX at hb
  rw [if_neg (fun q=>q hbe)] at hb
  split at hb
  ·exact hb
  ·split at hb
   ·exact hb
   ·split at hb
    ·exact hb
    ·split at hb
     ·exact (Rn g1 k v sector leaf).2.1.ext.bad hb
     ·exact (Rn g1 k v sector leaf).2.1.ext.bad hb
 unfold cX
 rw [if_neg (fun q=>q hbe)]
 by_cases hc:(aD (d:Int) o sector leaf path).1.2=false∨(aD (d:Int) o sector leaf path).1.1≠(ag S []).1.1
 ·rw [if_pos hc]
 ·have hc1 : (aD (d : Int) o sector leaf path).1.2 = true := by
   cases hq:(aD (d:Int) o sector leaf path).1.2 with
   | true=>rfl
   | false=>exact (hc (.inl hq)).elim
  have hc2:(aD (d:Int) o sector leaf path).1.1=t.1:=by
   by_cases hq:(aD (d:Int) o sector leaf path).1.1=t.1
   ·exact hq
   ·exact (hc (.inr (by rw [st.trust]; exact hq))).elim
  exact (hne (Ld g hd h4 h h0 h1 hw hc1 hc2 hbL)).elim
open Go Go.Proofs.YtljfdfghagiblaaGreat.S2
structure ab1 (o:Or) (mk:Or->Int->ByteArray×Or) (V:Int):Prop where
 g:G (mk o V).2
 x:X o (mk o V).2
 d:(mk o V).2.drawn<=o.drawn+2
 z:(mk o V).1.size<=40
theorem Pf {o:Or} (g:G o) (hd:o.drawn<=900000000) (k v sector epoch:Int) (p:ByteArray) (V:Int) (hV:aH V) (he:aH epoch):ab1 o (cY k v sector epoch p) V:=by
 obtain ⟨g1,x1,d1,z1⟩:=Iv g k v sector epoch p V hd hV he
 exact ⟨g1,x1,d1,z1⟩
theorem aoe {o:Or} (g:G o) (V:Int):ab1 o (fun o _=>(eB,o)) V:=⟨g,X.refl o,by show o.drawn<=_; omega,Nat.zero_le _⟩
abbrev UV (t:jk):Int:=IntKind.u64.wrap (t.2.1+1)
structure Chg (o:Or) (d:Nat) (S:List ByteArray) (n:Int) (t:jk) (sector:Int) (leaf:ByteArray) (path:List Int) (mk:Or->Int->ByteArray×Or) (r:(ByteArray×Int)×Or×List ByteArray):Prop where
 np:t.2.2.1≠1
 sl:sector<2 ^ d
 lv:(aD (d:Int) o sector leaf path).1=(t.1,true)
 tx:r.1.1=(mk (aD (d:Int) o sector leaf path).2 (UV t)).1
 xm:X (mk (aD (d:Int) o sector leaf path).2 (UV t)).2 r.2.1
 st:∃ next,yi 256 r.2.2 (n+1) (t.1,t.2.1,1,sector,next,r.1.1,())/\(r.2.1.bad=false->∀ cur tr,HT o d cur t.1 tr->cur.length=2 ^ d->leaf=cur.getD sector.toNat eB/\path=bB tr sector.toNat/\∃ tr',HT r.2.1 d (cur.set sector.toNat r.1.1) next tr'/\bB tr' sector.toNat=path)
theorem Ji {o:Or} {d:Nat} {S:List ByteArray} {n:Int} {t:jk} {sector:Int} {leaf:ByteArray} {path:List Int} {mk:Or->Int->ByteArray×Or} (g:G o) (hd:o.drawn<=800000000) (h4:d<=4) (st:yi 256 S n t) (hn:n<1000000) (hs:aH sector) (hw:P0 leaf path)
  (hm:ab1 (aD (d:Int) o sector leaf path).2 mk (UV t)) :
  G (bA (d:Int) o S sector leaf path mk).2.1/\X o (bA (d:Int) o S sector leaf path mk).2.1/\(bA (d:Int) o S sector leaf path mk).2.1.drawn<=o.drawn+20 /\
   (((bA (d:Int) o S sector leaf path mk).1.2≠0/\(bA (d:Int) o S sector leaf path mk).1.1=eB/\(bA (d:Int) o S sector leaf path mk).2.2=S/\(t.2.2.1≠1->sector<2 ^ d->(bA (d:Int) o S sector leaf path mk).2.1=(aD (d:Int) o sector leaf path).2/\((aD (d:Int) o sector leaf path).1=(t.1,true)->False))) ∨
    ((bA (d:Int) o S sector leaf path mk).1.2=0/\Chg o d S n t sector leaf path mk (bA (d:Int) o S sector leaf path mk))):=by
 obtain ⟨g1,x1,d1⟩:=eg g (d:Int) sector leaf path (by omega)
 have htr:=st.trust
 unfold bA
 by_cases hbe:bV (ag S []) sector (d:Int)=0
 ·obtain ⟨k1,k2⟩:=(Bf st).1 hbe
  rw [if_neg (fun q=>q hbe)]
  split
  ·rename_i hc
   refine ⟨g1,x1,by show (aD (d:Int) o sector leaf path).2.drawn<=_; omega,.inl ⟨by show (232:Int)≠0; decide,rfl,rfl,fun _ _=>⟨rfl,fun hh=>?_⟩⟩⟩
   rw [hh,htr] at hc
   rcases hc with hc | hc
   ·cases hc
   ·exact hc rfl
  ·rename_i hc
   have hc1:(aD (d:Int) o sector leaf path).1.2=true:=by
    cases hq:(aD (d:Int) o sector leaf path).1.2 with
    | true=>rfl
    | false=>exact (hc (.inl hq)).elim
   have hc2:(aD (d:Int) o sector leaf path).1.1=t.1:=by
    by_cases hq:(aD (d:Int) o sector leaf path).1.1=t.1
    ·exact hq
    ·exact (hc (.inr (by rw [htr]; exact hq))).elim
   have hok:fF (IntKind.i64.wrap sector) path/\(path.length:Int)=(d:Int):=by
    unfold aD at hc1
    split at hc1
    ·rename_i h; exact ⟨h.2,h.1⟩
    ·cases hc1
   obtain ⟨ws,wl⟩:=Jh h4 hs.1 k2
   rw [htr]
   dsimp only
   generalize hL:aD (d:Int) o sector leaf path=L at *
   have hmg:=hm.g
   have hmx:=hm.x
   have hmd:=hm.d
   have hmz:=hm.z
   have hmeq:∀ m,m=mk L.2 (UV t)->mk L.2 (IntKind.u64.wrap (t.2.1+1))=m:=fun m h=>h.symm
   rw [hmeq _ rfl]
   generalize hmm:mk L.2 (UV t)=m at hmg hmx hmd hmz
   rw [ws]
   obtain ⟨g2,x2,d2,u2⟩:=Ej hmg (s:=m.1) (i:=sector.toNat) (p:=path) hok.1.1 (by omega)
   generalize hcc:fu m.2 m.1 sector.toNat path=c at *
   have hint:o9 (t,true) sector m.1 c.1=some (t.1,t.2.1,1,sector,c.1,m.1,()):=if_pos ⟨rfl,k1⟩
   have htk:tf (t.1,t.2.1,1,sector,c.1,m.1,()):=UW (fun _=>st.ok) hs u2 (by omega) hint
   obtain ⟨v1,v2⟩:=Iu st.slot hn htk (.inl rfl) hmz
   rw [hint,if_pos v1]
   refine ⟨g2,x1.trans (hmx.trans x2),by show c.2.drawn<=_; omega,.inr ⟨rfl,?_⟩⟩
   refine ⟨k1,k2,by rw [hL]; exact Prod.ext hc2 hc1,by rw [hL,hmm],by rw [hL,hmm]; exact x2,c.1,v2,fun hb cur tr hT hcl=>?_⟩
   have hbL:L.2.bad=false:=hmx.ext.bad (x2.ext.bad hb)
   obtain ⟨e1,e2⟩:=Ld g (by omega) h4 hT hs.1 k2 hw (by rw [hL]; exact hc1) (by rw [hL]; exact hc2) (by rw [hL]; exact hbL)
   refine ⟨e1,e2,?_⟩
   have hset:=UX hmg ((hT.ext x1).ext hmx) (by omega:d<=8) hcl wl (by omega) (s:=m.1)
   rw [← e2,hcc] at hset
   exact hset
 ·rw [if_pos hbe]
  refine ⟨g,X.refl o,by show o.drawn<=_; omega,.inl ⟨hbe,rfl,rfl,fun q1 q2=>(hbe ((Bf st).2 ⟨q1,q2⟩)).elim⟩⟩
def akp (t:jk):jk:=(t.2.2.2.2.1,t.2.1+1,0,0,0,eB,())
def atj (t:jk):jk:=(t.1,t.2.1,0,0,0,eB,())
theorem UY {S:List ByteArray} {n:Int} {t:jk} (st:yi 256 S n t) (hn:n<1000000) (hp:t.2.2.1=1) (hv:t.2.1<18446744073709551615) (b:Bool) :
  bF S b=0/\yi 256 (gP 256 S [] (dE (ag S []) b)).2.1 (n+1) (if b=true then akp t else atj t):=by
 have htr:=st.trust
 have hset:dE (t,true) b=some (if b=true then akp t else atj t):=by
  unfold dE
  rw [if_pos ⟨rfl,by show t.2.2.1≠0; omega,fun h=>by have:=h.2; dsimp only at this; omega⟩]
  cases b<;>rfl
 have htk:=Gc (r:=(t,true)) (fun _=>st.ok) hset
 obtain ⟨v1,v2⟩:=Iu st.slot hn htk (aaf hset) (by cases b<;>exact Nat.zero_le _)
 unfold bF
 rw [htr,hset,if_pos v1]
 exact ⟨rfl,v2⟩
theorem Jj {S:List ByteArray} {n:Int} {t:jk} (st:yi 256 S n t) (hn:n<1000000) (b:Bool) :
  ∃ n' t',yi 256 (gP 256 S [] (dE (ag S []) b)).2.1 n' t'/\n'<=n+1/\(bF S b≠0->(gP 256 S [] (dE (ag S []) b)).2.1=S):=by
 have htr:=st.trust
 obtain ⟨S',n',h1,h2,h3,h4⟩:=aoc st hn (o:=dE (ag S []) b) (fun u hu=>⟨Gc (r:=ag S []) (fun _=>by rw [htr]; exact st.ok) hu,aaf hu⟩)
 unfold bF
 rw [h1]
 refine ⟨n',_,h2,h3,fun hq=>?_⟩
 dsimp only at hq ⊢
 exact (h4 (by
  cases hs:(Lb 256 t (dE (ag S []) b)).1 with
  | false=>rfl
  | true=>rw [hs] at hq; exact (hq (if_pos rfl)).elim)).1
theorem aof {S:List ByteArray} {n:Int} {t:jk} (st:yi 256 S n t):lN (ag S [])=if t.2.2.1=0 then 237 else 0:=by
 rw [st.trust]
 unfold lN
 rw [if_neg (fun q=>by cases q)]
theorem ay8 {S:List ByteArray} {n:Int} {t:jk} (st:yi 256 S n t):t.2.2.1=1∨t.2.2.1=0:=by
 rcases st.may with h | h
 ·exact .inl h
 ·exact .inr h.1
theorem akq {S:List ByteArray} {n:Int} {t:jk} (st:yi 256 S n t) (hn:n<1000000) (hv:t.2.1<18446744073709551615) :
  (t.2.2.1=0/\zk S≠0/\sF S=S)∨(t.2.2.1=1/\zk S=0/\yi 256 (sF S) (n+1) (akp t)):=by
 unfold zk sF
 rw [aof st]
 rcases ay8 st with h | h
 ·rw [if_neg (by omega:¬ t.2.2.1=0),if_neg (fun q=>q rfl),if_neg (fun q=>q rfl)]
  obtain ⟨h1,h2⟩:=UY st hn h hv true
  exact .inr ⟨h,h1,h2⟩
 ·rw [if_pos h,if_pos (by decide),if_pos (by decide)]
  exact .inl ⟨h,by decide,rfl⟩
theorem Rp {S:List ByteArray} {n:Int} {t:jk} (st:yi 256 S n t) (hn:n<1000000):∃ n' t',yi 256 (sF S) n' t'/\n'<=n+1:=by
 unfold sF
 split
 ·exact ⟨n,t,st,by omega⟩
 ·obtain ⟨n',t',h1,h2,_⟩:=Jj st hn true
  exact ⟨n',t',h1,h2⟩
theorem atk {o:Or} (g:G o) (hd:o.drawn<=900000000) (d:Int) (S:List ByteArray) (leaf:ByteArray) (path:List Int):G (uz d o S leaf path).2.1/\X o (uz d o S leaf path).2.1/\(uz d o S leaf path).2.1.drawn<=o.drawn+9/\((uz d o S leaf path).1.2≠0->(uz d o S leaf path).1.1=false):=by
 unfold uz
 split
 ·exact ⟨g,X.refl o,by show o.drawn<=_; omega,fun _=>rfl⟩
 ·obtain ⟨g1,x1,d1⟩:=eg g d (ag S []).1.2.2.2.1 leaf path (by omega)
  dsimp only
  split
  ·exact ⟨g1,x1,d1,fun _=>rfl⟩
  ·split
   ·exact ⟨g1,x1,d1,fun _=>rfl⟩
   ·exact ⟨g1,x1,d1,fun h=>(h rfl).elim⟩
theorem aah {o:Or} {S:List ByteArray} {n:Int} {t:jk} (st:yi 256 S n t) (hn:n<1000000) (d:Int) (leaf:ByteArray) (path:List Int) :
  ∃ n' t',yi 256 (uz d o S leaf path).2.2 n' t'/\n'<=n+1/\((uz d o S leaf path).1.2≠0->(uz d o S leaf path).2.2=S):=by
 unfold uz
 split
 ·exact ⟨n,t,st,by omega,fun _=>rfl⟩
 ·dsimp only
  split
  ·exact ⟨n,t,st,by omega,fun _=>rfl⟩
  ·obtain ⟨n',t',h1,h2,h3⟩:=Jj st hn ((aD d o (ag S []).1.2.2.2.1 leaf path).1.1==(ag S []).1.2.2.2.2.1)
   split
   ·rename_i hq
    exact ⟨n',t',h1,h2,fun _=>h3 hq⟩
   ·exact ⟨n',t',h1,h2,fun h=>(h rfl).elim⟩
theorem aai {o:Or} {d:Nat} {S:List ByteArray} {n:Int} {t:jk} {sector:Int} {leaf:ByteArray} {path:List Int} {mk:Or->Int->ByteArray×Or} (g:G o) (hd:o.drawn<=800000000) (h4:d<=4) (st:yi 256 S n t) (hn:n<1000000) (hs:aH sector) (hw:P0 leaf path)
  (hm:ab1 (aD (d:Int) o sector leaf path).2 mk (UV t)) :
  G (bA (d:Int) o S sector leaf path mk).2.1/\X o (bA (d:Int) o S sector leaf path mk).2.1/\(bA (d:Int) o S sector leaf path mk).2.1.drawn<=o.drawn+20 /\
   ∃ n' t',(yi 256 (bA (d:Int) o S sector leaf path mk).2.2 n' t'/\n'<=n+1)/\((bA (d:Int) o S sector leaf path mk).1.2≠0->(bA (d:Int) o S sector leaf path mk).2.2=S):=by
 obtain ⟨c1,c2,c3,c4⟩:=Ji g hd h4 st hn hs hw hm
 refine ⟨c1,c2,c3,?_⟩
 rcases c4 with c4 | ⟨c4,c5⟩
 ·exact ⟨n,t,by rw [c4.2.2.1]; exact ⟨st,by omega⟩,fun _=>c4.2.2.1⟩
 ·obtain ⟨next,s1,_⟩:=c5.st
  exact ⟨n+1,_,⟨s1,Int.le_refl _⟩,fun h=>(h c4).elim⟩
theorem Le {o:Or} {d:Nat} {S:List ByteArray} {n:Int} {t:jk} {sector epoch:Int} {p:ByteArray} {leaf:ByteArray} {path:List Int} (g:G o) (hd:o.drawn<=800000000) (h4:d<=4) (st:yi 256 S n t) (hn:n<1000000) (hs:aH sector) (hw:P0 leaf path) (he:aH epoch) :
  G (cR 3 5 (d:Int) o S sector epoch p leaf path).2.1/\X o (cR 3 5 (d:Int) o S sector epoch p leaf path).2.1/\(cR 3 5 (d:Int) o S sector epoch p leaf path).2.1.drawn<=o.drawn+20 /\
   ∃ n' t',(yi 256 (cR 3 5 (d:Int) o S sector epoch p leaf path).2.2 n' t'/\n'<=n+1)/\((cR 3 5 (d:Int) o S sector epoch p leaf path).1.2≠0->(cR 3 5 (d:Int) o S sector epoch p leaf path).2.2=S):=by
 unfold cR
 split
 ·exact ⟨g,X.refl o,by show o.drawn<=o.drawn+20; omega,n,t,⟨st,by omega⟩,fun _=>rfl⟩
 ·obtain ⟨g1,x1,d1⟩:=eg g (d:Int) sector leaf path (by omega)
  exact aai g hd h4 st hn hs hw (Pf g1 (by omega) 3 5 sector epoch p _ (ol _) he)
theorem Rq {o:Or} {d:Nat} {S:List ByteArray} {n:Int} {t:jk} {sector:Int} {leaf:ByteArray} {path:List Int} (g:G o) (hd:o.drawn<=800000000) (h4:d<=4) (st:yi 256 S n t) (hn:n<1000000) (hs:aH sector) (hw:P0 leaf path) :
  G (jR (d:Int) o S sector leaf path).2.1/\X o (jR (d:Int) o S sector leaf path).2.1/\(jR (d:Int) o S sector leaf path).2.1.drawn<=o.drawn+20 /\
   ∃ n' t',(yi 256 (jR (d:Int) o S sector leaf path).2.2 n' t'/\n'<=n+1)/\((jR (d:Int) o S sector leaf path).1.2≠0->(jR (d:Int) o S sector leaf path).2.2=S):=by
 obtain ⟨g1,x1,d1⟩:=eg g (d:Int) sector leaf path (by omega)
 exact aai g hd h4 st hn hs hw (aoe g1 _)
open Go Go.Proofs.YtljfdfghagiblaaGreat.S2
theorem Rr {S:List ByteArray} {n:Int} {t:jk} (st:yi 256 S n t):ca 256 S []:=Pc st.slot
abbrev S0:List ByteArray:=List.replicate (2:Int).toNat (dZ (256:Int).toNat)
def mdM (d:Int) (o:Or) (S:List ByteArray):(List Int×Int×Bool×Unit)×List (Int×Int)×List (Int×Int)×List (ByteArray×Int)×List (aog×Int)×List (Ek×Int)×List (BP×Int)×List ByteArray×(Int×Int×Int×Unit)×Unit×(Int×Unit)×List ByteArray×List W2×Unit :=
 ((o.draws,o.drawn,o.bad,()),o.issued,o.met,o.hashes,o.tags,o.seals,o.opens,o.plains,(3,5,d,()),(),(256,()),S,[],())
theorem ay9 {o:Or} {d:Nat} (g:G o) (hd:o.drawn<=900000000) (h4:d<=4) :
  ∃ S root,eF ((d:Int),()) o.m=some (.inl ((true,()),mdM (d:Int) (bi d [] o).2 S))/\yi 256 S 1 (fN root)/\Bg (bi d [] o).2 d [] root:=by
 have hN:=S2.Lf (n:=2) (size:=256) ⟨by decide,by decide,by decide,by decide⟩
 have hS:uc 256 S0 0 eB:=Gd (by decide) (by decide)
 have hl2:S0.length=2:=by rw [List.length_replicate]; rfl
 obtain ⟨S1,hS1⟩:∃ S1,S1=S0:=⟨_,rfl⟩
 change qk (2,256,()) ()=some (.inr ((),((256,()),S0,[],()))) at hN
 rw [← hS1] at hN hS hl2
 have hD:ca 256 S1 []:=Pc hS
 have hF:=Rs (k:=3) (v:=5) (S:=S1) g hd h4 hD
 have hHT:=Jk (ls:=[]) (d:=d) g.wf (by omega) (by omega)
 obtain ⟨v1,v2⟩:=Iu hS (by decide) (El (root:=fe (bi d [] o).1) (Ge hHT.allU)) (Lc _) (Nat.zero_le _)
 refine ⟨(B7 d o S1).2.2,fe (bi d [] o).1,?_,v2,⟨_,hHT⟩⟩
 unfold eF ny
 refine au hN ?_
 rw [Sum.elim_inr]
 have hO:=S2.Jl (size:=256) (S:=S1) (P:=[])
 rw [if_neg (by omega)] at hO
 refine au hO ?_
 rw [Sum.elim_inr]
 have hG:tt (3,5,(d:Int),()) ((o.draws,o.drawn,o.bad,()),(),o.issued,o.met,o.hashes,o.tags,o.seals,o.opens,o.plains,(256,()),S1,[],())=some (.inr ((),((o.draws,o.drawn,o.bad,()),(),o.issued,o.met,o.hashes,o.tags,o.seals,o.opens,o.plains,(256,()),S1,[],(3,5,(d:Int),()),()))):=by
  rw [SY]
  unfold j9
  rw [bq (by omega),bq (by omega)]
 refine au hG ?_
 rw [Sum.elim_inr]
 refine au hF ?_
 have:(B7 d o S1).1=true:=v1
 rw [this]
 rfl
theorem ab2 {o:Or} {d:Int} (hd:¬ (0<=d/\d<=4)):eF (d,()) o.m=some (.inr ((),o.m)):=by
 have hN:=S2.Lf (n:=2) (size:=256) ⟨by decide,by decide,by decide,by decide⟩
 have hl2:S0.length=2:=by rw [List.length_replicate]; rfl
 obtain ⟨S1,hS1⟩:∃ S1,S1=S0:=⟨_,rfl⟩
 change qk (2,256,()) ()=some (.inr ((),((256,()),S0,[],()))) at hN
 rw [← hS1] at hN hl2
 unfold eF ny
 refine au hN ?_
 rw [Sum.elim_inr]
 have hO:=S2.Jl (size:=256) (S:=S1) (P:=[])
 rw [if_neg (by omega)] at hO
 refine au hO ?_
 rw [Sum.elim_inr]
 have hG:tt (3,5,d,()) ((o.draws,o.drawn,o.bad,()),(),o.issued,o.met,o.hashes,o.tags,o.seals,o.opens,o.plains,(256,()),S1,[],())=some (.inl ((),((o.draws,o.drawn,o.bad,()),(),o.issued,o.met,o.hashes,o.tags,o.seals,o.opens,o.plains,(256,()),S1,[],()))):=by
  rw [SY]
  unfold j9
  by_cases h0:d<0
  ·rw [ap h0]
  ·rw [bq h0,ap (by omega)]
 refine au hG ?_
 rfl
open Go Go.Proofs.YtljfdfghagiblaaGreat.S2
structure Fr (o:Or):Prop where
 dr:o.draws=[]
 nb:o.bad=false
 is:∀ h,0<isd o h->9223372036854775808<=h/\h<9223372036854775808+o.drawn
 mt:∀ h,0<aV iM 0 h o.met->h<9223372036854775808
theorem aza:Fr (Or.new []):=by
 refine ⟨rfl,rfl,?_,?_⟩
 ·intro h hh
  have hh:(0:Int)<0:=hh
  omega
 ·intro h hh
  have hh:(0:Int)<0:=hh
  omega
theorem Jm {o:Or} (g:G o) (f:Fr o) (hd:o.drawn<4611686018427387905):Fr o.fresh.2:=by
 have h0:=g.wf.d0
 have hn:aL o.draws o.drawn=9223372036854775808+o.drawn:=by
  unfold aL
  rw [f.dr,if_neg (by simp; omega),ff (n:=o.drawn) (by omega) (by omega),ff (by omega) (by omega)]
 have hget:=Lg g.wf hd
 have hdr:=zl g.wf hd
 refine ⟨f.dr,?_,?_,f.mt⟩
 ·show (o.bad||o.clash (aL o.draws o.drawn))=false
  rw [f.nb,Bool.false_or,hn]
  unfold Or.clash
  rw [Bool.or_eq_false_iff,Bool.or_eq_false_iff]
  refine ⟨beq_false_of_ne (by omega),decide_eq_false fun q=>?_,decide_eq_false fun q=>?_⟩
  ·have:=f.is _ q; omega
  ·have:=f.mt _ q; omega
 ·intro h hh
  rw [hget,hn] at hh
  rw [hdr]
  split at hh
  ·rename_i e; omega
  ·have:=f.is h hh; omega
theorem Pg {o:Or} (g:G o) (f:Fr o) (t:ByteArray) (hd:o.drawn<4611686018427387905):Fr (o.hash t).2:=by
 unfold Or.hash
 split
 ·exact f
 ·have f1:=Jm g f hd
  exact ⟨f1.dr,f1.nb,f1.is,f1.mt⟩
theorem Iw {o:Or} (f:Fr o) {h:Int} (hh:0<isd o h∨h<9223372036854775808):Fr (o.meet h):=by
 unfold Or.meet
 split
 ·rename_i e
  refine ⟨f.dr,f.nb,f.is,fun x hx=>?_⟩
  have hx:0<aV iM 0 x (cx iM h 1 o.met):=hx
  rw [pL Lh (κ:=Int)] at hx
  split at hx
  ·rename_i e2
   rcases hh with hh | hh
   ·unfold isd at hh; omega
   ·omega
  ·exact f.mt x hx
 ·exact f
theorem aoh {o:Or} (g:G o) (f:Fr o) (k n:Int) (a p:ByteArray) (hd:o.drawn<4611686018427387905):Fr (o.seal k n a p).2:=by
 unfold Or.seal
 split
 ·exact f
 ·have f1:=Jm g f hd
  exact ⟨f1.dr,f1.nb,f1.is,f1.mt⟩
theorem aoi {o:Or} (g:G o) (f:Fr o) (key volume sector version epoch:Int) (p:ByteArray) (hd:o.drawn<4611686018427387000):Fr (o.lock key volume sector version epoch p).2.2 :=
 aoh (Bh g (by omega)).1 (Jm g f (by omega)) _ _ _ _ (by rw [zl g.wf (by omega)]; omega)
theorem B8:∀ (l:List ByteArray) {o:Or},G o->Fr o->o.drawn+l.length<=4611686018427387000->Fr (az l o).2
 | [],o,g,f,_=>f
 | t::l,o,g,f,hb=>by
  simp only [List.length_cons] at hb
  have d1:=(cJ g.wf t (by omega)).2.2.1
  exact B8 l (Gf g t (by omega)).1 (Pg g f t (by omega)) (by omega)
theorem aaj:∀ (d:Nat) (l:List Int) {o:Or},G o->Fr o->l.length=2 ^ d->o.drawn+2 ^ d<=4611686018427387000->Fr (cV d l o).2
 | 0,l,o,g,f,_,_=>f
 | d+1,l,o,g,f,hl,hb=>by
  have hp:(2:Int) ^ (d+1)=2 ^ d+2 ^ d:=by rw [Int.pow_succ]; omega
  have hpn:(2:Nat) ^ (d+1)=2 ^ d+2 ^ d:=by rw [Nat.pow_succ]; omega
  have hcast:((2 ^ d:Nat):Int)=2 ^ d:=by simp
  have ht:(bt l).length=2 ^ d:=by rw [iN,hl]; omega
  have d1:=(dg (bt l) g.wf (by rw [ht]; omega)).2.2.1
  rw [ht] at d1
  exact aaj d (az (bt l) o).1 (wQ (bt l) g (by rw [ht]; omega)).1 (B8 (bt l) g f (by rw [ht]; omega)) (by rw [cn,ht]) (by omega)
theorem Rt {d:Nat} {ls:List ByteArray} {o:Or} (g:G o) (f:Fr o) (h8:d<=8) (hd:o.drawn<=3000000000000000000):Fr (bi d ls o).2:=by
 have hsmall:2 ^ d<=2 ^ 8:=Nat.pow_le_pow_right (by decide) h8
 have hcast:(2:Int) ^ d=((2 ^ d:Nat):Int):=by simp
 have d1:=(dg (aT ls 0 (2 ^ d)) g.wf (by rw [a8]; omega)).2.2.1
 rw [a8] at d1
 exact aaj d (az (aT ls 0 (2 ^ d)) o).1 (wQ _ g (by rw [a8]; omega)).1 (B8 _ g f (by rw [a8]; omega)) (by rw [cn,a8]) (by omega)
theorem Ru:∀ (p:List Int) (h:Int) (i:Nat) {o:Or},G o->Fr o->o.drawn+p.length<=4611686018427387000->Fr (dh h i p o).2
 | [],h,i,o,g,f,_=>f
 | b::p,h,i,o,g,f,hb=>by
  simp only [List.length_cons] at hb
  have d1:=(cJ g.wf (cG h b i) (by omega)).2.2.1
  exact Ru p (o.hash (cG h b i)).1 (i / 2) (Gf g _ (by omega)).1 (Pg g f _ (by omega)) (by omega)
theorem Li {o:Or} (g:G o) (f:Fr o) {s:ByteArray} {i:Nat} {p:List Int} (hp:p.length<=8) (hd:o.drawn<=4000000000000000000):Fr (fu o s i p).2:=by
 have d4:=(cJ g.wf (bh s) (by omega)).2.2.1
 exact Ru p _ i (Gf g (bh s) (by omega)).1 (Pg g f (bh s) (by omega)) (by omega)
theorem Rv:∀ (p:List Int) {o:Or},G o->Fr o->(∀ x∈p,0<isd o x∨x<9223372036854775808)->Fr (sG o p)
 | [],o,g,f,_=>f
 | h::p,o,g,f,hp=>by
  obtain ⟨g1,x1⟩:=jA g h
  exact Rv p g1 (Iw f (hp h List.mem_cons_self)) fun x hx=>(hp x (List.mem_cons_of_mem _ hx)).imp (fun q=>Int.lt_of_lt_of_le q (x1.iss x)) id
theorem UZ:(bL eB).2=false:=by
 unfold bL
 rw [if_neg]
 intro h
 have h1:=h.1.1
 have:(bQ eB).2.2=false:=by
  unfold bQ
  rfl
 have e:(q1 eB)=bQ eB:=rfl
 rw [e,this] at h1
 cases h1
def al (o:Or) (leaf:ByteArray):Prop:=(bL leaf).2=true->0<isd o (bL leaf).1.2.2.1/\0<isd o (bL leaf).1.2.2.2.1
theorem ud (o:Or):al o eB:=fun h=>by rw [UZ] at h; cases h
theorem akr {o:Or} {s:Int} {leaf text:ByteArray} (h:Hz o s leaf text):al o leaf:=by
 rcases h with h | ⟨ver,ep,n,c,i,h1,h2,h3,h4,h5,h6,h7,h8,h9⟩
 ·rw [h.1]; exact ud o
 ·intro _
  rw [h5,Ei h1 h2 h3 h4]
  exact ⟨h8,h9⟩
theorem al.ext {o o':Or} {leaf:ByteArray} (h:al o leaf) (x:X o o'):al o' leaf:=fun q=>⟨Int.lt_of_lt_of_le (h q).1 (x.iss _),Int.lt_of_lt_of_le (h q).2 (x.iss _)⟩
theorem aks {o:Or} (g:G o) (f:Fr o) {leaf:ByteArray} {path:List Int} (hk:al o leaf) (hp:∀ x∈path,0<isd o x∨x<9223372036854775808):Fr (looks o leaf path):=by
 obtain ⟨g1,x1,d1⟩:=Bi path g
 have f1:=Rv path g f hp
 unfold looks
 split
 ·rename_i hq
  obtain ⟨k1,k2⟩:=(hk.ext x1) hq
  obtain ⟨g2,x2⟩:=jA g1 (bL leaf).1.2.2.1
  exact Iw (Iw f1 (.inl k1)) (.inl (Int.lt_of_lt_of_le k2 (x2.iss _)))
 ·exact f1
theorem Rw {o:Or} (g:G o) (f:Fr o) (hd:o.drawn<=3000000000000000000) {d sector:Int} {leaf:ByteArray} {path:List Int} (hk:al o leaf) (hp:∀ x∈path,0<isd o x∨x<9223372036854775808):Fr (aD d o sector leaf path).2:=by
 obtain ⟨g1,x1,d1⟩:=Ef g leaf path
 have f1:=aks g f hk hp
 unfold aD
 split
 ·rename_i h
  exact Li g1 f1 h.2.1 (by omega)
 ·exact f1
theorem azb {o:Or} (f:Fr o) {k n c:Int} {a:ByteArray} (hc:0<isd o c):Fr (o.opn k n a c).2.2:=by
 unfold Or.opn
 split
 ·exact f
 ·exact Iw f (.inl hc)
theorem Ph {o:Or} (g:G o) (f:Fr o) (hd:o.drawn<=900000000) {k v d:Int} {S:List ByteArray} {sector:Int} {leaf:ByteArray} {path:List Int} (hk:al o leaf) (hp:∀ x∈path,0<isd o x∨x<9223372036854775808):Fr (cX k v d o S sector leaf path).2:=by
 have f1:=Rw (d:=d) (sector:=sector) g f (by omega) hk hp
 have x1:=(eg g d sector leaf path (by omega)).2.1
 unfold cX
 split
 ·exact f
 ·split
  ·exact f1
  ·split
   ·exact f1
   ·split
    ·exact f1
    ·rename_i hq
     have hq:(bL leaf).2=true:=by
      cases h:(bL leaf).2 with
      | true=>rfl
      | false=>exact (hq h).elim
     have:Fr (B6 k v (aD d o sector leaf path).2 sector leaf).2.2:=azb f1 ((hk.ext x1) hq).2
     split
     ·exact this
     ·exact this
theorem ab3 {o:Or} (g:G o) (f:Fr o) (hd:o.drawn<=800000000) {d:Int} {S:List ByteArray} {sector:Int} {leaf:ByteArray} {path:List Int} {mk:Or->Int->ByteArray×Or} (hk:al o leaf) (hp:∀ x∈path,0<isd o x∨x<9223372036854775808)
  (hm:∀ o1 V,G o1->Fr o1->o1.drawn<=900000000->aH V->ab1 o1 mk V/\Fr (mk o1 V).2):Fr (bA d o S sector leaf path mk).2.1:=by
 have f1:=Rw (d:=d) (sector:=sector) g f (by omega) hk hp
 obtain ⟨g1,x1,d1⟩:=eg g d sector leaf path (by omega)
 unfold bA
 split
 ·exact f
 ·split
  ·exact f1
  ·rename_i hc
   have hc1:(aD d o sector leaf path).1.2=true:=by
    cases hq:(aD d o sector leaf path).1.2 with
    | true=>rfl
    | false=>exact (hc (.inl hq)).elim
   have hok:path.length<=8:=by
    unfold aD at hc1
    split at hc1
    ·rename_i h; exact h.2.1
    ·cases hc1
   dsimp only
   obtain ⟨m1,m2⟩:=hm _ (IntKind.u64.wrap ((ag S []).1.2.1+1)) g1 f1 (by omega) (ol _)
   have:=Li m1.g m2 (s:=(mk (aD d o sector leaf path).2 (IntKind.u64.wrap ((ag S []).1.2.1+1))).1) (i:=(IntKind.i64.wrap sector).toNat) (p:=path) hok (by have:=m1.d; omega)
   split
   ·exact this
   ·exact this
theorem ab4 (k v sector epoch:Int) (p:ByteArray) (he:aH epoch):∀ o1 V,G o1->Fr o1->o1.drawn<=900000000->aH V->ab1 o1 (cY k v sector epoch p) V/\Fr (cY k v sector epoch p o1 V).2 :=
 fun o1 V g f hd hV=>⟨Pf g hd k v sector epoch p V hV he,aoi g f _ _ _ _ _ _ (by omega)⟩
theorem Rx {o:Or} (w:Wf o):∀ (tr:List (List Int)) (i:Nat),oK o.tab tr->i<(tr.headD []).length->(∀ j,j<(tr.headD []).length->0<isd o ((tr.headD []).getD j 0))->∀ x∈bB tr i,0<isd o x
 | [],i,ht,_,_,x,hx=>ht.elim
 | [l],i,ht,_,_,x,hx=>by cases hx
 | l::l'::r,i,ht,hi,hh,x,hx=>by
  obtain ⟨h1,h2,h3⟩:=ht
  simp only [List.headD_cons] at hi hh
  simp only [bB,List.mem_cons] at hx
  rcases hx with rfl | hx
  ·refine hh _ ?_
   unfold Pj
   split<;>omega
  ·exact Rx w (l'::r) (i / 2) h3 (by simp only [List.headD_cons]; omega) (fun j hj=>(w.val _ _ (h2 j hj)).2) x hx
theorem HT.isd {o:Or} {d:Nat} {ls:List ByteArray} {root:Int} {tr:List (List Int)} (w:Wf o) (h:HT o d ls root tr) {i:Nat} (hi:i<2 ^ d):∀ x∈bB tr i,0<Mk.isd o x :=
 Rx w tr i h.tree (by rw [h.hl]; exact hi) fun j hj=>(w.val _ _ (h.lf j (by rw [← h.hl]; exact hj))).2
open Go Go.Proofs.YtljfdfghagiblaaGreat.S2
theorem HT.cg {o:Or} {d:Nat} {ls ms:List ByteArray} {root:Int} {tr:List (List Int)} (h:HT o d ls root tr) (e:∀ i,i<2 ^ d->ls.getD i eB=ms.getD i eB):HT o d ms root tr :=
 ⟨h.tree,h.allU,h.len,h.hl,fun i hi=>by rw [← e i hi]; exact h.lf i hi,h.rt⟩
theorem aoj {o:Or} (g:G o) (hd:o.drawn<=900000000) {sector epoch V:Int} {p:ByteArray} (hV:aH V) (he:aH epoch) (hb:(cY 3 5 sector epoch p o V).2.bad=false) :
  Hz (cY 3 5 sector epoch p o V).2 sector (cY 3 5 sector epoch p o V).1 p/\∀ s' t',¬ Hz o s' (cY 3 5 sector epoch p o V).1 t':=by
 obtain ⟨g1,x1,u1,u2,d1,i1,i2,h⟩:=Jn g 3 5 sector V epoch p (by omega)
 obtain ⟨h1,i,h2,h3⟩:=h hb
 refine ⟨.inr ⟨V,epoch,_,_,i,hV,he,u1,u2,rfl,h2,h3,i1,i2⟩,fun s' t' hl=>?_⟩
 rcases hl with hl | ⟨ver,ep,n,c,i,k1,k2,k3,k4,k5,k6,k7,k8,k9⟩
 ·exact aag hl.1
 ·have e1:=Ei (a:=V) (b:=epoch) (c:=(o.lock 3 5 sector V epoch p).1) (d:=(o.lock 3 5 sector V epoch p).2.1) hV he u1 u2
  have e2:=Ei k1 k2 k3 k4
  have k5:ch V epoch (o.lock 3 5 sector V epoch p).1 (o.lock 3 5 sector V epoch p).2.1=ch ver ep n c:=k5
  rw [k5,e2] at e1
  have e3:=congrArg (fun x=>x.1.2.2.1) e1
  dsimp only at e3
  rw [e3] at k8
  omega
structure Wrt (o:Or) (d:Nat) (n:Int) (t:jk) (cur:List ByteArray) (sector:Int) (p:ByteArray) (path:List Int) (r:(ByteArray×Int)×Or×List ByteArray):Prop where
 ok:r.1.2=0
 g:G r.2.1
 x:X o r.2.1
 dr:r.2.1.drawn<=o.drawn+20
 st:∃ next tr',yi 256 r.2.2 (n+1) (t.1,t.2.1,1,sector,next,r.1.1,())/\HT r.2.1 d (cur.set sector.toNat r.1.1) next tr'/\bB tr' sector.toNat=path
 lf:Hz r.2.1 sector r.1.1 p
 nw:∀ s' t',¬ Hz o s' r.1.1 t'
 sz:r.1.1.size<=40
theorem Pk {o:Or} {d:Nat} {S:List ByteArray} {n:Int} {t:jk} {cur:List ByteArray} {sector epoch:Int} {p leaf:ByteArray} {path:List Int} {tr:List (List Int)} (g:G o) (hd:o.drawn<=800000000) (h4:d<=4) (st:yi 256 S n t) (hn:n<1000000) (h:HT o d cur t.1 tr) (hc:cur.length=2 ^ d) (hs:aH sector) (h1:sector<2 ^ d) (hp:t.2.2.1≠1) (he:aH epoch) (hps:p.size<=4096)
  (hw:P0 leaf path) (hle:leaf=cur.getD sector.toNat eB) (hpa:path=bB tr sector.toNat) (hb:(cR 3 5 (d:Int) o S sector epoch p leaf path).2.1.bad=false):Wrt o d n t cur sector p path (cR 3 5 (d:Int) o S sector epoch p leaf path):=by
 have hwf:cR 3 5 (d:Int) o S sector epoch p leaf path=bA (d:Int) o S sector leaf path (cY 3 5 sector epoch p):=if_neg (fun q=>by have:=q.2; omega)
 rw [hwf] at hb ⊢
 obtain ⟨g1,x1,d1⟩:=eg g (d:Int) sector leaf path (by omega)
 have hm:=Pf g1 (by omega) 3 5 sector epoch p (UV t) (ol _) he
 obtain ⟨c1,c2,c3,c4⟩:=Ji g hd h4 st hn hs hw hm
 rcases c4 with c4 | ⟨c4,c5⟩
 ·obtain ⟨q1,q2⟩:=c4.2.2.2 hp h1
  rw [q1] at hb
  exact (q2 (Eg g (by omega) h4 h hs.1 h1 hle hpa hb)).elim
 ·generalize bA (d:Int) o S sector leaf path (cY 3 5 sector epoch p)=r at *
  obtain ⟨next,s1,s2⟩:=c5.st
  obtain ⟨e1,e2,tr',e3,e4⟩:=s2 hb cur tr h hc
  have hbm:=c5.xm.ext.bad hb
  obtain ⟨l1,l2⟩:=aoj g1 (by omega) (sector:=sector) (p:=p) (ol (t.2.1+1)) he hbm
  have ht:=c5.tx
  have hl1:=l1.ext hm.g c5.xm
  refine ⟨c4,c1,c2,c3,⟨next,tr',s1,e3,e4⟩,by rw [ht]; exact hl1,fun s' t' q=>?_,by rw [ht]; exact hm.z⟩
  rw [ht] at q
  exact l2 s' t' (q.ext g x1)
open Go Go.Proofs.YtljfdfghagiblaaGreat.S2
abbrev KL:ByteArray:=ByteArray.mk #[104,105]
abbrev azc:List ByteArray:=[eB,eB]
theorem ab5:nm () ()=some (true,()):=by
 have hz:∀ x:Int,x∈([]:List Int)->U x:=fun x hx=>by cases hx
 have g0:=atl hz
 have f0:=aza
 have d0:(Or.new []).drawn=0:=rfl
 have hN:=Lf (draws:=[]) (by simp)
 obtain ⟨S,root,hM,st,hT⟩:=ay9 (d:=1) g0 (by rw [d0]; decide) (by decide)
 obtain ⟨g1,x1⟩:=Pl (d:=1) (ls:=[]) g0 (by decide) (by rw [d0]; decide)
 have f1:=Rt (d:=1) (ls:=[]) g0 f0 (by decide) (by rw [d0]; decide)
 have d1:=(wR (d:=1) (ls:=[]) g0.wf (by decide) (by rw [d0]; decide)).2.2.1
 rw [d0] at d1
 generalize (bi 1 [] (Or.new [])).2=o1 at *
 have hB:=(aak (o:=o1) (d:=1) (ls:=[]) g1.wf (by omega) (by intro s hs; cases hs)).1 ⟨by decide,by decide,by decide⟩
 obtain ⟨g2,x2⟩:=Pl (d:=1) (ls:=[]) g1 (by decide) (by omega)
 have f2:=Rt (d:=1) (ls:=[]) g1 f1 (by decide) (by omega)
 have bw:=wR (d:=1) (ls:=[]) g1.wf (by decide) (by omega)
 have d2:=bw.2.2.1
 have hT2:=Jk (d:=1) (ls:=[]) g1.wf (by decide) (by omega)
 have hP:=azd (ue hT2.tree) (by rw [hT2.len]; decide) 0
 rw [if_pos ⟨by decide,by rw [hT2.hl]; decide⟩] at hP
 rw [show (1:Int).toNat=1 from rfl] at hB
 rw [show (0:Int).toNat=0 from rfl] at hP
 generalize htr:(bi 1 [] o1).1=tr at *
 generalize (bi 1 [] o1).2=o2 at *
 obtain ⟨tr0,hT0⟩:=hT
 have hroot:fe tr=root:=((hT2).same g2.wf f2.nb (hT0.ext x2)).2 fun i _=>rfl
 have hTc:HT o2 1 azc root tr:=by
  have:=hT2.cg (ms:=azc) (fun i hi=>by
   have:i=0∨i=1:=by omega
   rcases this with rfl | rfl<;>rfl)
  rw [hroot] at this
  exact this
 have hpI:∀ x∈bB tr 0,0<isd o2 x:=hTc.isd g2.wf (by decide)
 have hpU:=UU hTc.allU 0
 have hpl:(bB tr 0).length=1:=by rw [Eh,hTc.len]
 have hsz:eB.size<=140737488355328:=Nat.zero_le _
 have hw0:P0 eB (bB tr 0):=⟨hsz,hpU,by rw [hpl]; decide⟩
 have hw1:P0 eB [1]:=⟨hsz,fun x hx=>by rw [List.mem_singleton] at hx; rw [hx]; exact ⟨by decide,by decide⟩,by decide⟩
 have hu0:aH 0:=⟨by decide,by decide⟩
 have hu5:aH 5:=⟨by decide,by decide⟩
 have hlf0:Hz o2 0 eB eB:=.inl ⟨rfl,rfl⟩
 have rt:(fN root).1=root:=rfl
 -- the first read
 have hR1:=uA (k:=3) (v:=5) (d:=1) (sector:=0) (S:=S) g2 (by omega) hw0 (by decide) (by decide) (Rr st) hu5 hu0
 obtain ⟨g3,x3,d3,_⟩:=Pe g2 (by omega) 3 5 1 S 0 eB (bB tr 0)
 have f3:=Ph (k:=3) (v:=5) (d:=1) (S:=S) (sector:=0) g2 f2 (by omega) (ud o2) (fun x hx=>.inl (hpI x hx))
 have e1:(cX 3 5 1 o2 S 0 eB (bB tr 0)).1=(eB,0):=GX (d:=1) g2 (by omega) (by decide) st hTc (by decide) (by decide:(0:Int)<2 ^ 1) (show (0:Int)≠1 by decide) rfl rfl hlf0 f3.nb
 generalize hr3:cX 3 5 1 o2 S 0 eB (bB tr 0)=r3 at *
 -- the second
 have hR2:=uA (k:=3) (v:=5) (d:=1) (sector:=0) (S:=S) g3 (by omega) hw1 (by decide) (by decide) (Rr st) hu5 hu0
 obtain ⟨g4,x4,d4,_⟩:=Pe g3 (by omega) 3 5 1 S 0 eB [1]
 have f4:=Ph (k:=3) (v:=5) (d:=1) (S:=S) (sector:=0) g3 f3 (by omega) (ud r3.2) (path:=[1]) (fun x hx=>.inr (by rw [List.mem_singleton] at hx; rw [hx]; decide))
 have e2:(cX 3 5 1 r3.2 S 0 eB [1]).1=(eB,232):=Ro (d:=1) g3 (by omega) (by decide) st (hTc.ext x3) (by decide) (by decide:(0:Int)<2 ^ 1) (show (0:Int)≠1 by decide) hw1 (fun q=>by
  have hq:=q.2
  have h1:(1:Int)∈bB tr (0:Int).toNat:=by rw [← hq]; exact List.mem_cons_self
  have:=f2.is 1 (hpI 1 h1)
  omega) 3 5 f4.nb
 generalize hr4:cX 3 5 1 r3.2 S 0 eB [1]=r4 at *
 -- the third
 have hR3:=uA (k:=3) (v:=5) (d:=1) (sector:=2) (S:=S) g4 (by omega) hw0 (by decide) (by decide) (Rr st) hu5 ⟨by decide,by decide⟩
 have hbb:bV (ag S []) 2 1=230:=by rw [Gb st]; rfl
 have e3:cX 3 5 1 r4.2 S 2 eB (bB tr 0)=((eB,230),r4.2):=by
  unfold cX
  rw [hbb,if_pos (by decide)]
 rw [e3] at hR3
 -- the write
 have hW:=Bj (k:=3) (v:=5) (d:=1) (sector:=0) (epoch:=0) (p:=KL) (S:=S) g4 (by omega) hw0 (by decide) (by decide) (Rr st) hu5 hu0 hu0
 have fW:Fr (cR 3 5 1 r4.2 S 0 0 KL eB (bB tr 0)).2.1:=by
  have:cR 3 5 1 r4.2 S 0 0 KL eB (bB tr 0)=bA 1 r4.2 S 0 eB (bB tr 0) (cY 3 5 0 0 KL):=if_neg (fun q=>absurd q.2 (by decide))
  rw [this]
  exact ab3 g4 f4 (by omega) (ud _) (fun x hx=>.inl (Int.lt_of_lt_of_le (hpI x hx) (Int.le_trans (x3.iss x) (x4.iss x)))) (ab4 3 5 0 0 KL hu0)
 have w:Wrt r4.2 1 1 (fN root) azc 0 KL (bB tr 0) (cR 3 5 1 r4.2 S 0 0 KL eB (bB tr 0)):=Pk (d:=1) (epoch:=0) (p:=KL) g4 (by omega) (by decide) st (by decide) ((hTc.ext x3).ext x4) rfl hu0 (by decide:(0:Int)<2 ^ 1) (show (0:Int)≠1 by decide) hu0 (by decide) hw0 rfl rfl fW.nb
 generalize hr6:cR 3 5 1 r4.2 S 0 0 KL eB (bB tr 0)=r6 at *
 obtain ⟨next,tr6,st6,hT6,hp6⟩:=w.st
 have g6:=w.g
 have d6:=w.dr
 -- a read while it is pending
 have hR4:=uA (k:=3) (v:=5) (d:=1) (sector:=0) (S:=r6.2.2) g6 (by omega) hw0 (by decide) (by decide) (Rr st6) hu5 hu0
 have e4:cX 3 5 1 r6.2.1 r6.2.2 0 eB (bB tr 0)=((eB,234),r6.2.1):=by
  unfold cX
  rw [Gb st6,if_pos rfl,if_pos (show (234:Int)≠0 by decide)]
 rw [e4] at hR4
 -- done
 have hD:=U0 r6.2.1 (k:=3) (v:=5) (d:=1) (Rr st6)
 rcases akq st6 (by decide) (show (0:Int)<18446744073709551615 by decide) with q | ⟨q1,q2,st8⟩
 ·exact absurd (show (1:Int)=0 from q.1) (by decide)
 -- the last read
 have hwl:P0 r6.1.1 (bB tr 0):=⟨by have:=w.sz; omega,hpU,by rw [hpl]; decide⟩
 have hR5:=uA (k:=3) (v:=5) (d:=1) (sector:=0) (S:=sF r6.2.2) g6 (by omega) hwl (by decide) (by decide) (Rr st8) hu5 hu0
 have f9:=Ph (k:=3) (v:=5) (d:=1) (S:=sF r6.2.2) (sector:=0) g6 fW (by omega) (akr w.lf) (path:=bB tr 0) (fun x hx=>.inl (Int.lt_of_lt_of_le (hpI x hx) (Int.le_trans (x3.iss x) (Int.le_trans (x4.iss x) (w.x.iss x)))))
 have e5:(cX 3 5 1 r6.2.1 (sF r6.2.2) 0 r6.1.1 (bB tr 0)).1=(KL,0):=GX (d:=1) g6 (by omega) (by decide) st8 hT6 (by decide) (by decide:(0:Int)<2 ^ 1) (show (0:Int)≠1 by decide) (by rfl) hp6.symm w.lf f9.nb
 generalize hr9:cX 3 5 1 r6.2.1 (sF r6.2.2) 0 r6.1.1 (bB tr 0)=r9 at *
 unfold nm vu
 refine au hN ?_
 refine au hM ?_
 rw [Sum.elim_inl]
 refine (eu rfl).trans ?_
 refine au hB ?_
 refine au hP ?_
 refine au hR1 ?_
 refine au hR2 ?_
 refine au hR3 ?_
 refine au hW ?_
 refine au hR4 ?_
 refine au hD ?_
 refine au hR5 ?_
 refine (eC rfl).trans ?_
 refine (eC (by rw [e1]; exact fw _)).trans ?_
 refine (eC (by rw [e1]; rfl)).trans ?_
 refine (eC (by rw [e2]; rfl)).trans ?_
 refine (eC rfl).trans ?_
 refine (eC (by rw [w.ok]; rfl)).trans ?_
 refine (eC rfl).trans ?_
 refine (eC (by rw [q2]; rfl)).trans ?_
 refine (eC (by rw [e5]; exact fw _)).trans ?_
 rw [e5]
 rfl
end Go.Proofs.YtljfdfghagiblaaGreat.S2.Mk
