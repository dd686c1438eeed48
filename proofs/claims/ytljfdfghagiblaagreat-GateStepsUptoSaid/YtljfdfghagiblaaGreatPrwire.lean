/- The document's numbers as bytes,in plain words. -/
import Derived.Test.YtljfdfghagiblaaGreatGrwire
import Derived.Test.YtljfdfghagiblaaGreatPwire
namespace Go.Proofs.YtljfdfghagiblaaGreat.S2
open Go
theorem wS:∀ (k:Nat) (n:Int) (l:List Int),0<=n->n<((128 ^ (k+1):Nat):Int)->n<18446744073709551616->l.length+k<=1000 ->
  ∃ (m:Int) (l':List Int),ga (n,()) (l,())=some ((m,()),(l',()))/\0<=m/\m<128/\l'.length<=l.length+k/\fy (l'++[m])=fy l++bJ n.toNat
 | 0,n,l,h0,h1,h64,hl=>by
  refine ⟨n,l,?_,h0,by simpa using h1,by omega,?_⟩
  ·rw [wz]
   unfold cm
   rw [bq (by simp at h1; omega)]
  ·rw [ba (by simp at h1; omega)]
   simp [fy]
 | k+1,n,l,h0,h1,h64,hl=>by
  by_cases hn:n>127
  ·have h2 : n / 128 < ((128 ^ (k + 1) : Nat) : Int) := by
    rw [Nat.pow_succ] at h1
    omega
   obtain ⟨m,l',e,g0,g1,g2,g3⟩:=wS k (n / 128) (l++[n % 128+128]) (by omega) h2 (by omega) (by simp; omega)
   refine ⟨m,l',?_,g0,g1,by simp at g2; omega,?_⟩
   ·rw [wz]
    unfold cm
    rw [ap hn,ap (by omega),List.nil_append,Int.tdiv_eq_ediv_of_nonneg h0,Int.tmod_eq_emod_of_nonneg h0,ff (n:=n / 128) (by omega) (by omega),ff (n:=n % 128+128) (by omega) (by omega),P2,show (n % 128+128) % 256=n % 128+128 by omega]
    exact e
   ·rw [g3,d7 (n:=n.toNat) (by omega)]
    simp only [fy,List.map_append,List.map_cons,List.map_nil,List.append_assoc,List.singleton_append]
    rw [show (n % 128+128).toNat=n.toNat % 128+128 by omega,show (n / 128).toNat=n.toNat / 128 by omega]
  ·refine ⟨n,l,?_,h0,by omega,by omega,?_⟩
   ·rw [wz]
    unfold cm
    rw [bq (by omega)]
   ·rw [ba (by omega)]
    simp [fy]
theorem dd {n:Int} (h0:0<=n) (h1:n<18446744073709551616):bj (n,()) ()=some (oD n,()):=by
 rw [adW]
 unfold n9
 obtain ⟨m,l',e,g0,g1,g2,g3⟩:=wS 9 n [] h0 (by have:((128 ^ (9+1):Nat):Int)=1180591620717411303424:=(by decide); omega) h1 (by simp)
 rw [e]
 simp only [Option.bind_some]
 rw [ap (by simp at g2; omega)]
 simp only [Option.bind_some,Option.some.injEq,Prod.mk.injEq,and_true]
 apply dF
 rw [pb,sE,List.nil_append,P2,show m % 256=m by omega]
 exact g3
theorem acb {t:ByteArray} (h:t.size<=281474976710656):wt (t,()) ()=some (oD t.size++t,()):=by
 rw [auP]
 unfold sk
 rw [ff (by omega) (by omega),dd (by omega) (by omega)]
 simp only [Option.bind_some]
 have:=aM (n:=t.size) (by omega) (by omega)
 rw [ap (by omega)]
def yj:List UInt8->Nat
 | []=>0
 | c::l=>c.toNat % 128+128*yj l
theorem LA:∀ (l:List UInt8) (c:UInt8),yj (l++[c])=yj l+c.toNat % 128*128 ^ l.length
 | [],c=>by simp [yj]
 | d::l,c=>by
  simp only [List.cons_append,yj,LA l c,List.length_cons]
  rw [Nat.pow_succ,Nat.mul_add,← Nat.add_assoc]
  congr 1
  rw [Nat.mul_comm (128 ^ l.length) 128,← Nat.mul_assoc,← Nat.mul_assoc,Nat.mul_comm 128]
theorem R5:∀ (f n:Nat),n<128 ^ f->yj (bJ n)=n
 | 0,n,h=>by
  have:n=0:=by simpa using h
  subst this
  rw [ba (by decide)]
  rfl
 | f+1,n,h=>by
  by_cases hn:n<128
  ·rw [ba hn]
   have hb:(UInt8.ofNat n).toNat=n:=by rw [UInt8.toNat_ofNat']; omega
   simp only [yj,hb]
   omega
  ·rw [d7 hn]
   have hb:(UInt8.ofNat (n % 128+128)).toNat=n % 128+128:=by rw [UInt8.toNat_ofNat']; omega
   simp only [yj,hb]
   rw [R5 f (n / 128) (by rw [Nat.pow_succ] at h; omega)]
   omega
theorem JI:∀ (f n:Nat),n<128 ^ f->∃ (p:List UInt8) (c:UInt8),bJ n=p++[c]/\(∀ b∈p,128<=b.toNat)/\c.toNat<128
 | 0,n,h=>by
  have:n=0:=by simpa using h
  subst this
  exact ⟨[],0,by rw [ba (by decide)]; rfl,by simp,by decide⟩
 | f+1,n,h=>by
  by_cases hn:n<128
  ·refine ⟨[],UInt8.ofNat n,by rw [ba hn]; rfl,by simp,?_⟩
   rw [UInt8.toNat_ofNat']; omega
  ·obtain ⟨p,c,e,h1,h2⟩:=JI f (n / 128) (by rw [Nat.pow_succ] at h; omega)
   refine ⟨UInt8.ofNat (n % 128+128)::p,c,by rw [d7 hn,e]; rfl,?_,h2⟩
   intro b hb
   rcases List.mem_cons.1 hb with rfl | hb
   ·rw [UInt8.toNat_ofNat']; omega
   ·exact h1 b hb
theorem G6:∀ (p p':List UInt8) (c c':UInt8) (l l':List UInt8),(∀ b∈p,128<=b.toNat)->(∀ b∈p',128<=b.toNat)->c.toNat<128->c'.toNat<128->p++c::l=p'++c'::l'->p=p'/\c=c'/\l=l'
 | [],[],c,c',l,l',_,_,_,_,e=>by simp at e; exact ⟨rfl,e.1,e.2⟩
 | [],d::p',c,c',l,l',_,h',hc,_,e=>by
  simp at e
  have:=h' d List.mem_cons_self
  rw [← e.1] at this
  omega
 | d::p,[],c,c',l,l',h,_,_,hc',e=>by
  simp at e
  have:=h d List.mem_cons_self
  rw [e.1] at this
  omega
 | d::p,d'::p',c,c',l,l',h,h',hc,hc',e=>by
  simp at e
  obtain ⟨h1,h2,h3⟩:=G6 p p' c c' l l' (fun b hb=>h b (List.mem_cons_of_mem _ hb)) (fun b hb=>h' b (List.mem_cons_of_mem _ hb)) hc hc' e.2
  exact ⟨by rw [e.1,h1],h2,h3⟩
theorem azt {n:Nat} (h:n<18446744073709551616):n<128 ^ 10:=by
 have:(128:Nat) ^ 10=1180591620717411303424:=by decide
 omega
theorem LB {s:ByteArray} {n:Nat} {l:List UInt8} (h:xF 0 0 (bs s)=some (n,l)):∃ (p:List UInt8) (c:UInt8),bs s=p++c::l/\(∀ b∈p,128<=b.toNat)/\c.toNat<128/\p++[c]=bJ n/\n<18446744073709551616/\p.length<=9:=by
 obtain ⟨m,e1,e2,e3,e4⟩:=Gq (bs s) 0 0 n l (by decide) h
 simp at e2 e4
 subst e2
 obtain ⟨p,c,e,h1,h2⟩:=JI 10 n (azt (by omega))
 refine ⟨p,c,by rw [e1,e]; simp,h1,h2,e.symm,e4,?_⟩
 have:=xC e4
 rw [e] at this
 simp at this
 omega
theorem JJ (s:ByteArray):∀ (l pre:List UInt8) (i:Nat),bs s=pre++l->pre.length=i->i<=10->(∀ b∈pre,128<=b.toNat) ->
  gO (s,((yj pre % 18446744073709551616:Nat):Int),((128 ^ i % 18446744073709551616:Nat):Int),(i:Int),()) ()=match xF 0 0 (bs s) with | some (r,l')=>some (.inr (((r:Int),⟨l'.toArray⟩,true,()),())) | none=>some (.inl ((),()))
 | l,pre,i,hs,hi,h10,hpre=>by
  have hnone:(l=[]∨i=10)->xF 0 0 (bs s)=none:=by
   intro h
   cases ht:xF 0 0 (bs s) with
   | none=>rfl
   | some q =>
    obtain ⟨n,l'⟩:=q
    obtain ⟨p,c,e1,e2,e3,e4,e5,e6⟩:=LB ht
    exfalso
    have hmem:c∈pre:=by
     have hlt:p.length<pre.length:=by
      rcases h with h | h
      ·subst h
       have:=congrArg List.length (hs.symm.trans e1)
       simp at this
       omega
      ·omega
     have hg:(bs s)[p.length]? = some c:=by rw [e1]; simp
     rw [hs,List.getElem?_append_left hlt] at hg
     exact List.mem_of_getElem? hg
    have:=hpre c hmem
    omega
  rw [adX]
  unfold fU
  cases l with
  | nil =>
   have hsz:s.size=i:=by rw [← cB,hs]; simpa using hi
   rw [bq (by omega),hnone (.inl rfl)]
  | cons c l =>
   have hsz:s.size=i+(l.length+1):=by rw [← cB,hs,List.length_append,hi,List.length_cons]
   have hc:=c.toNat_lt
   have hat:dM s (i:Int)=(c.toNat:Int):=by
    rw [Eu,hs,List.getD_eq_getElem?_getD,List.getElem?_append_right (by omega),hi,Nat.sub_self]
    rfl
   rw [ap (by omega),aW]
   by_cases h10':i=10
   ·rw [if_neg (by omega),hnone (.inr h10')]
   ·rw [if_pos (by omega),ap (by omega),ap (by omega),hat,ff (n:=(c.toNat:Int)) (by omega) (by omega),Int.tmod_eq_emod_of_nonneg (by omega),aQ (n:=(i:Int)+1) (by omega) (by omega)]
    have hval:IntKind.u64.wrap (((yj pre % 18446744073709551616:Nat):Int)+IntKind.u64.wrap (((128 ^ i % 18446744073709551616:Nat):Int)*((c.toNat:Int) % 128)))=((yj (pre++[c]) % 18446744073709551616:Nat):Int):=by
     rw [RD,RD,LA,hi]
     have e:((128 ^ i % 18446744073709551616:Nat):Int)*((c.toNat:Int) % 128)=((128 ^ i % 18446744073709551616*(c.toNat % 128):Nat):Int):=by simp
     rw [e]
     have e2:(128 ^ i % 18446744073709551616*(c.toNat % 128)) % 18446744073709551616=(c.toNat % 128*128 ^ i) % 18446744073709551616:=by
      rw [Nat.mul_comm,Nat.mul_mod,Nat.mod_mod,← Nat.mul_mod]
     omega
    rw [hval,aW]
    by_cases h128:c.toNat<128
    ·rw [if_pos (by omega),dd (by omega) (by have:=Nat.mod_lt (yj (pre++[c])) (show 18446744073709551616>0 by decide); omega)]
     simp only [Option.bind_some]
     rw [ap (by omega),ap (by omega),ci]
     have htake:bs (s.extract 0 ((i:Int)+1).toNat)=pre++[c]:=by
      rw [di,hs,List.drop_zero,show ((i:Int)+1).toNat-0=pre.length+1 by omega]
      rw [List.take_append,List.take_of_length_le (by omega),show pre.length+1-pre.length=1 by omega]
      rfl
     have hext:s.extract ((i:Int)+1).toNat s.size=⟨l.toArray⟩:=by
      apply dF
      rw [di,hs,show ((i:Int)+1).toNat=i+1 by omega,List.drop_append,List.drop_of_length_le (by omega),List.nil_append,hi,show i+1-i=1 by omega,List.drop_one,List.tail_cons,List.take_of_length_le (by omega),ug]
     have hbs:bs s=(pre++[c])++l:=by rw [hs]; simp
     have hm:=Nat.mod_lt (yj (pre++[c])) (show 18446744073709551616>0 by decide)
     by_cases hq:oD ((yj (pre++[c]) % 18446744073709551616:Nat):Int)=s.extract 0 ((i:Int)+1).toNat
     ·rw [decide_eq_true hq]
      simp only [Bool.not_true,cond_false]
      rw [ap (by omega),ap (by omega),hext]
      have hp:bJ (yj (pre++[c]) % 18446744073709551616)=pre++[c]:=by
       have h:=congrArg bs hq
       rw [sE,Int.toNat_natCast,htake] at h
       exact h
      have hbs':bs s=bJ (yj (pre++[c]) % 18446744073709551616)++l:=by rw [hbs,hp]
      rw [hbs',JK l 10 _ 0 0 (azt (by omega)) (by decide) (by simpa using hm) (.inl rfl)]
      simp only [Nat.zero_add,Nat.pow_zero,Nat.mul_one]
     ·rw [decide_eq_false hq]
      simp only [Bool.not_false,cond_true]
      cases ht:xF 0 0 (bs s) with
      | none=>rfl
      | some q =>
       obtain ⟨n,l'⟩:=q
       exfalso
       obtain ⟨p,c',e1,e2,e3,e4,e5,e6⟩:=LB ht
       obtain ⟨g1,g2,g3⟩:=G6 pre p c c' l l' hpre e2 h128 e3 (by rw [← hs,e1])
       apply hq
       apply dF
       have hv:yj (pre++[c])=n:=by
        rw [g1,g2,e4,R5 10 n (azt (by omega))]
       rw [htake,sE,Int.toNat_natCast,hv,Nat.mod_eq_of_lt e5,← e4,g1,g2]
    ·rw [if_neg (by omega)]
     have hk:IntKind.u64.wrap (((128 ^ i % 18446744073709551616:Nat):Int)*128)=((128 ^ (i+1) % 18446744073709551616:Nat):Int):=by
      rw [RD,Nat.pow_succ]
      omega
     rw [hk,show ((i:Int)+1)=((i+1:Nat):Int) by omega]
     exact JJ s l (pre++[c]) (i+1) (by rw [hs]; simp) (by simp [hi]) (by omega) (by
      intro b hb
      rcases List.mem_append.1 hb with h | h
      ·exact hpre b h
      ·simp at h
       subst h
       omega)
termination_by l=>l.length
theorem mW {s:ByteArray}:cv (s,()) ()=some (((bQ s).1,(bQ s).2.1,(bQ s).2.2,()),()):=by
 rw [auQ]
 unfold ss bQ
 have:=JJ s (bs s) [] 0 rfl rfl (by decide) (by simp)
 rw [show ((yj [] % 18446744073709551616:Nat):Int)=0 from rfl,show ((128 ^ 0 % 18446744073709551616:Nat):Int)=1 from rfl,show ((0:Nat):Int)=0 from rfl] at this
 rw [this]
 cases xF 0 0 (bs s) with
 | none=>rfl
 | some p=>rfl
theorem U7 {s:ByteArray} {most:Int} (hm:most<9223372036854775808) (hs:s.size<=281474976710656):ww (s,most,()) ()=some (((Ex s most).1,(Ex s most).2.1,(Ex s most).2.2,()),()):=by
 rw [auR]
 unfold su Ex
 rw [mW]
 simp only [Option.bind_some]
 have hz:=ot (s:=s)
 have hl:=Px s
 cases h:(bQ s).2.2 with
 | false=>simp
 | true =>
  simp only [Bool.not_true,cond_false,aW]
  by_cases h1:most<0
  ·rw [if_pos h1,if_neg (fun h=>by omega)]
  ·rw [if_neg h1,ff (n:=most) (by omega) (by omega),ff (n:=((bQ s).2.1.size:Int)) (by omega) (by omega)]
   by_cases h2:(bQ s).1>most
   ·rw [if_pos h2,if_neg (fun h=>by omega)]
   ·rw [if_neg h2]
    by_cases h3:(bQ s).1>((bQ s).2.1.size:Int)
    ·rw [if_pos h3,if_neg (fun h=>by omega)]
    ·rw [if_neg h3,aQ (n:=(bQ s).1) (by omega) (by omega),if_pos hl.1,if_pos (by omega),if_pos hl.1,if_pos (by omega),if_pos ⟨trivial,by omega,by omega,by omega⟩]
end Go.Proofs.YtljfdfghagiblaaGreat.S2
