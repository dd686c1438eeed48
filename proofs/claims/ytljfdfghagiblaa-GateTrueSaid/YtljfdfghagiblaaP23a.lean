/- The parts of the gate's laws,in plain words: what storage shows,a leaf that is put,a model,a gateway that is made. -/
import Derived.Test.YtljfdfghagiblaaPgate2
import Derived.Test.YtljfdfghagiblaaGlaw23
set_option linter.unusedVariables false
set_option linter.unusedSimpArgs false
namespace Go.Proofs.Ytljfdfghagiblaa.S2.Mk
open Go Go.Proofs.Ytljfdfghagiblaa.S2
abbrev ActG:=Int×Int×Int×Int×Int×ByteArray×ByteArray×List Int×List Int
def shM (d:Int) (now:List ByteArray) (old:List (List ByteArray)) (o:Or):(Int×List ByteArray×Unit)×(List Int×Int×Bool×Unit)×List (List ByteArray)×List (Int×Int)×List (Int×Int)×List (ByteArray×Int)×List (TagK×Int)×List (SealK×Int)×List (ToldK×Int)×Unit×List ByteArray×Unit :=
  ((d,now,()),(o.draws,o.drawn,o.bad,()),old,o.issued,o.met,o.hashes,o.tags,o.seals,o.opens,(),o.plains,())
structure Lvs (d:Nat) (l:List ByteArray):Prop where
  len:l.length = 2 ^ d
  sz:∀ s,s∈l→s.size≤140737488355328
theorem show_core {o:Or} {d:Nat} {L now:List ByteArray} {old:List (List ByteArray)} {z:Option O_k42} (g:G o) (hd:o.drawn≤900000000) (h4:d≤4) (hL:Lvs d L) {a:Int} (h0:0≤a) (h1:a < L.length) (Z:O_k43→Option O_k42) :
    ((F_k43 ((d:Int),L,()) o.m).bind fun r1=>cond (!r1.1.2.1) (Z r1) ((F_k47 (r1.1.1,a,()) ()).bind fun r2=>cond (decide (0≤a)) (cond (decide (a < (L.length:Int))) (some ((L.getD a.toNat ByteArray.empty,r2.1.1,()),(((d:Int),now,()),(r1.2.1.1,r1.2.1.2.1,r1.2.1.2.2.1,()),old,r1.2.2.1,r1.2.2.2.1,r1.2.2.2.2.1,r1.2.2.2.2.2.1,r1.2.2.2.2.2.2.1,r1.2.2.2.2.2.2.2.1,(),r1.2.2.2.2.2.2.2.2.1,()))) none) none)) =
      some ((L.getD a.toNat ByteArray.empty,pathT (buildS d L o).1 a.toNat,()),shM (d:Int) now old (buildS d L o).2):=by
  obtain ⟨b1,_⟩:=e_Build (o:=o) (d:=(d:Int)) (ls:=L) g.wf (by omega) hL.sz
  have hB:=b1 ⟨by omega,by omega,by rw [hL.len]; simp⟩
  obtain ⟨w3,x3,d3,t3,u3,len3,hl3,lf3⟩:=build_wf (ls:=L) (d:=d) g.wf (by omega) (by omega)
  have hP:=e_Path (shp_of_tree t3) (by rw [len3]; omega) a
  rw [hl3,if_pos ⟨h0,by have:=hL.len; omega⟩] at hP
  simp only [Int.toNat_natCast] at hB
  refine bindS hB ?_
  show cond (!true) _ _ = _
  rw [Bool.not_true,cond_false]
  refine bindS hP ?_
  rw [cd_t h0,cd_t h1]
  rfl
theorem tmod_mod {x:Int} {n:Nat} (h:0≤x) (hn:0 < n):x.tmod (n:Int) = ((x.toNat % n:Nat):Int):=by
  obtain ⟨k,rfl⟩:∃ k:Nat,x = (k:Int):=⟨x.toNat,by omega⟩
  rw [Int.toNat_natCast]
  rfl
theorem pow_small {d:Nat} (h4:d≤4):0 < 2 ^ d∧2 ^ d≤16:=⟨Nat.pow_pos (by decide),Nat.pow_le_pow_right (by decide) h4 (n:=2)⟩
structure ActOkG (x:ActG):Prop where
  s:U x.2.2.2.1
  h:U x.2.2.2.2.1
  shw:Shw x.2.2.2.2.2.2.1 x.2.2.2.2.2.2.2.1
  pz:x.2.2.2.2.2.1.size≤140737488355328
def actT (x:ActG):=(x.1,x.2.1,x.2.2.1,x.2.2.2.1,x.2.2.2.2.1,x.2.2.2.2.2.1,x.2.2.2.2.2.2.1,x.2.2.2.2.2.2.2.1,x.2.2.2.2.2.2.2.2,())
def shI (d:Int) (now:List ByteArray) (old:List (List ByteArray)) (o:Or):M_k42:=((d,now,()),(o.draws,o.drawn,o.bad,()),old,o.issued,o.met,o.hashes,o.tags,o.seals,o.opens,o.plains,())
theorem shw_of {o:Or} {d:Nat} {L:List ByteArray} (g:G o) (hd:o.drawn≤900000000) (h4:d≤4) (hL:Lvs d L) (a:Nat):Shw (L.getD a ByteArray.empty) (pathT (buildS d L o).1 a):=by
  obtain ⟨w3,x3,d3,t3,u3,len3,hl3,lf3⟩:=build_wf (ls:=L) (d:=d) g.wf (by omega) (by omega)
  refine ⟨?_,path_U u3 a,by rw [path_len,len3]; omega⟩
  by_cases ha:a < L.length
  · rw [List.getD_eq_getElem?_getD,List.getElem?_eq_getElem ha]
    exact hL.sz _ (List.getElem_mem ha)
  · rw [List.getD_eq_getElem?_getD,List.getElem?_eq_none (by omega)]
    exact Nat.zero_le _
theorem e_show {o:Or} {d:Nat} {now:List ByteArray} {old:List (List ByteArray)} {x:ActG} (g:G o) (hd:o.drawn≤900000000) (h4:d≤4) (hn:Lvs d now) (ho:∀ l∈old,Lvs d l) (hol:old.length≤1000000) (hx:ActOkG x) :
    ∃ leaf path o',F_k42 (actT x,()) (shI (d:Int) now old o) = some ((leaf,path,()),shM (d:Int) now old o')∧Shw leaf path∧G o'∧X o o'∧o'.drawn≤o.drawn + 512 ∧
      (x.2.1 = 0→leaf = now.getD (x.2.2.2.1.toNat % 2 ^ d) ByteArray.empty∧path = pathT (buildS d now o).1 (x.2.2.2.1.toNat % 2 ^ d)∧o' = (buildS d now o).2):=by
  obtain ⟨x1,x2,x3,x4,x5,x6,x7,x8,x9⟩:=x
  obtain ⟨hp1,hp2⟩:=pow_small h4
  have fin:∀ (L:List ByteArray) (a:Nat),Lvs d L→a < 2 ^ d→Shw (L.getD a ByteArray.empty) (pathT (buildS d L o).1 a)∧G (buildS d L o).2∧X o (buildS d L o).2∧(buildS d L o).2.drawn≤o.drawn + 512:=by
    intro L a hL ha
    obtain ⟨g1,xx⟩:=build_G (ls:=L) g (by omega:d≤8) (by omega)
    obtain ⟨w3,_,d3,_⟩:=build_wf (ls:=L) (d:=d) g.wf (by omega) (by omega)
    exact ⟨shw_of g hd h4 hL a,g1,xx,d3⟩
  have hs0:0≤x4:=hx.s.1
  have hwn:∀ L,Lvs d L→IntKind.u64.wrap (L.length:Int) = (L.length:Int):=fun L hL=>u64id (by omega) (by have:=hL.len; omega)
  have hat:∀ L,Lvs d L→IntKind.i64.wrap (x4.tmod (IntKind.u64.wrap (L.length:Int))) = ((x4.toNat % 2 ^ d:Nat):Int):=by
    intro L hL
    have:x4.toNat % 2 ^ d < 2 ^ d:=Nat.mod_lt _ hp1
    rw [hwn L hL,hL.len,tmod_mod hs0 hp1,i64id (by omega) (by omega)]
  have hat2:∀ L,Lvs d L→(IntKind.i64.wrap (((x4.toNat % 2 ^ d:Nat):Int) + 1)).tmod (L.length:Int) = (((x4.toNat % 2 ^ d + 1) % 2 ^ d:Nat):Int):=by
    intro L hL
    have:x4.toNat % 2 ^ d < 2 ^ d:=Nat.mod_lt _ hp1
    rw [i64id (by omega) (by omega),hL.len,show ((x4.toNat % 2 ^ d:Nat):Int) + 1 = ((x4.toNat % 2 ^ d + 1:Nat):Int) by omega,tmod_mod (by omega) hp1,Int.toNat_natCast]
  have hnz:∀ L,Lvs d L→¬ (IntKind.u64.wrap (L.length:Int) = 0):=by
    intro L hL
    rw [hwn L hL,hL.len]
    omega
  have hnz':∀ L,Lvs d L→¬ ((L.length:Int) = 0):=by
    intro L hL
    rw [hL.len]
    omega
  have core1:∀ (L:List ByteArray) (Z:O_k43→Option O_k42),Lvs d L→_:=fun L Z hL=>show_core (now:=now) (old:=old) (z:=none) g hd h4 hL (a:=((x4.toNat % 2 ^ d:Nat):Int)) (by omega) (by rw [hL.len]; have:x4.toNat % 2 ^ d < 2 ^ d:=Nat.mod_lt _ hp1; omega) Z
  have core2:∀ (L:List ByteArray) (Z:O_k43→Option O_k42),Lvs d L→_:=fun L Z hL=>show_core (now:=now) (old:=old) (z:=none) g hd h4 hL (a:=(((x4.toNat % 2 ^ d + 1) % 2 ^ d:Nat):Int)) (by omega) (by rw [hL.len]; have:(x4.toNat % 2 ^ d + 1) % 2 ^ d < 2 ^ d:=Nat.mod_lt _ hp1; omega) Z
  have mlt:x4.toNat % 2 ^ d < 2 ^ d:=Nat.mod_lt _ hp1
  have mlt2:(x4.toNat % 2 ^ d + 1) % 2 ^ d < 2 ^ d:=Nat.mod_lt _ hp1
  have e0:F_k42 (actT (x1,x2,x3,x4,x5,x6,x7,x8,x9),()) (shI (d:Int) now old o) = tree_k42 F_k43 F_k47 x1 x2 x3 x4 x5 x6 x7 x8 x9 (d:Int) now o.draws o.drawn o.bad old o.issued o.met o.hashes o.tags o.seals o.opens o.plains some:=rfl
  rw [e0]
  unfold tree_k42
  by_cases c1:x2 < 0
  · rw [cd_t c1]
    exact ⟨x7,x8,o,rfl,hx.shw,g,X.refl o,by omega,fun h=>by dsimp only at h; omega⟩
  rw [cd_f c1]
  by_cases c2:x2 > 2
  · rw [cd_t c2]
    exact ⟨x7,x8,o,rfl,hx.shw,g,X.refl o,by omega,fun h=>by dsimp only at h; omega⟩
  rw [cd_f c2]
  by_cases c3:x2 = 1
  · rw [c_t (beq_iff_eq.2 c3)]
    by_cases c4:(old.length:Int) > 0
    · have hne:¬ ((old.length:Int) = 0):=by omega
      rw [cd_t c4,c_t (by rw [decide_eq_false hne]; rfl),c_t (by rw [decide_eq_false hne]; rfl)]
      have hb1:=Int.tmod_lt_of_pos x3 (b:=(old.length:Int)) (by omega)
      have hb2 : -(old.length:Int) < x3.tmod (old.length:Int):=by
        by_cases hx3:0≤x3
        · have:=Int.tmod_nonneg (old.length:Int) hx3
          omega
        · have h5:=Int.tmod_lt_of_pos (-x3) (b:=(old.length:Int)) (by omega)
          rw [Int.neg_tmod] at h5
          omega
      rw [i64id (n:=x3.tmod (old.length:Int) + (old.length:Int)) (by omega) (by omega)]
      generalize hq:x3.tmod (old.length:Int) + (old.length:Int) = q
      have hq0:0≤q:=by omega
      have k1:=Int.tmod_nonneg (old.length:Int) hq0
      have k2:=Int.tmod_lt_of_pos q (b:=(old.length:Int)) (by omega)
      generalize q.tmod (old.length:Int) = j at k1 k2
      rw [cd_t k1,cd_t k2,Nat.zero_add]
      have hL:Lvs d (old.getD j.toNat []):=by
        rw [List.getD_eq_getElem?_getD,List.getElem?_eq_getElem (by omega)]
        exact ho _ (List.getElem_mem (by omega))
      generalize old.getD j.toNat [] = L at hL
      rw [c_t (by rw [decide_eq_false (hnz L hL)]; rfl),c_f (by rw [c3]; rfl),hat L hL]
      refine ⟨_,_,_,core1 L _ hL,?_⟩
      rw [Int.toNat_natCast]
      obtain ⟨f1,f2,f3,f4⟩:=fin L _ hL mlt
      exact ⟨f1,f2,f3,f4,fun h=>by dsimp only at h; omega⟩
    · rw [cd_f c4,c_t (by rw [decide_eq_false (hnz now hn)]; rfl),c_f (by rw [c3]; rfl),hat now hn]
      refine ⟨_,_,_,core1 now _ hn,?_⟩
      rw [Int.toNat_natCast]
      obtain ⟨f1,f2,f3,f4⟩:=fin now _ hn mlt
      exact ⟨f1,f2,f3,f4,fun h=>by dsimp only at h; omega⟩
  · rw [c_f (beq_false_of_ne c3),c_t (by rw [decide_eq_false (hnz now hn)]; rfl)]
    by_cases c5:x2 = 2
    · rw [c_t (beq_iff_eq.2 c5),c_t (by rw [decide_eq_false (hnz' now hn)]; rfl),hat now hn,hat2 now hn]
      refine ⟨_,_,_,core2 now _ hn,?_⟩
      rw [Int.toNat_natCast]
      obtain ⟨f1,f2,f3,f4⟩:=fin now _ hn mlt2
      exact ⟨f1,f2,f3,f4,fun h=>by dsimp only at h; omega⟩
    · rw [c_f (beq_false_of_ne c5),hat now hn]
      refine ⟨_,_,_,core1 now _ hn,?_⟩
      rw [Int.toNat_natCast]
      obtain ⟨f1,f2,f3,f4⟩:=fin now _ hn mlt
      exact ⟨f1,f2,f3,f4,fun _=>⟨rfl,rfl,rfl⟩⟩
theorem e_put {d:Int} {now:List ByteArray} {old:List (List ByteArray)} {s:Int} {leaf:ByteArray} (h0:0≤s) (h1:s < now.length) (hn:now.length≤1000) (ho:old.length≤1000000) :
    F_k41 (s,leaf,()) ((d,now,()),old,()) = some ((),((d,now.set s.toNat leaf,()),(),old ++ [now],())):=by
  rw [Fe_k41]
  unfold tree_k41
  rw [i64id (by omega) (by omega),cd_t (by omega),cd_t (by omega),cd_t h0,cd_t (by simpa using h1)]
  simp only [List.nil_append,Nat.zero_add]
def mdl (p:Bool) (s:Int) (t l:ByteArray):Bool×Int×ByteArray×ByteArray×Unit:=(p,s,t,l,())
theorem e_intends {p:Bool} {s s0:Int} {t l t0 l0:ByteArray} {texts:List ByteArray} (hn:texts.length≤1000) :
    F_k39 (s,t,l,()) (mdl p s0 t0 l0,texts,()) = if p = false∧s < texts.length then some (true,(mdl true s t l,texts,())) else some (false,(mdl p s0 t0 l0,texts,())):=by
  show tree_k39 s t l p s0 t0 l0 texts some = _
  unfold tree_k39 mdl
  cases p with
  | true=>rw [cond_true,if_neg (by simp)]
  | false =>
    rw [cond_false,u64id (by omega) (by omega)]
    by_cases h:s < texts.length
    · rw [cd_f (by omega),if_pos ⟨rfl,h⟩]
    · rw [cd_t (by omega),if_neg (fun q=>h q.2)]
theorem e_settles {p b:Bool} {s d:Int} {t l:ByteArray} {now texts:List ByteArray} {old:List (List ByteArray)} (hs:p = true→0≤s∧s < now.length∧s < texts.length) (hn:now.length≤1000) (ho:old.length≤1000000) (ht:texts.length≤1000) :
    F_k40 (b,()) (mdl p s t l,(d,now,()),texts,old,()) = if p = false then some (false,(mdl p s t l,(d,now,()),texts,(),old,())) else if b = true then some (true,(mdl false s t l,(d,now.set s.toNat l,()),texts.set s.toNat t,(),old ++ [now],())) else some (true,(mdl false s t l,(d,now,()),texts,(),old,())):=by
  show tree_k40 F_k41 b p s t l d now texts old some = _
  unfold tree_k40 mdl
  cases p with
  | false=>rfl
  | true =>
    obtain ⟨h0,h1,h2⟩:=hs rfl
    rw [Bool.not_true,cond_false,if_neg (by decide)]
    cases b with
    | false=>rfl
    | true =>
      rw [cond_true,if_pos rfl,i64id (by omega) (by omega),cd_t h0,cd_t h2,e_put h0 h1 hn ho,Nat.zero_add]
      rfl
end Go.Proofs.Ytljfdfghagiblaa.S2.Mk
