/- Numbers as bytes,in plain words. -/
import Derived.Test.YtljfdfghagiblaaGreatGwire
import Derived.Test.YtljfdfghagiblaaGreatPslot
namespace Go.Proofs.YtljfdfghagiblaaGreat.S2
open Go
def bJ (n:Nat):List UInt8:=if n<128 then [UInt8.ofNat n] else UInt8.ofNat (n % 128+128)::bJ (n / 128)
termination_by n
decreasing_by omega
theorem ba {n:Nat} (h:n<128):bJ n=[UInt8.ofNat n]:=by rw [bJ,if_pos h]
theorem d7 {n:Nat} (h:¬ n<128):bJ n=UInt8.ofNat (n % 128+128)::bJ (n / 128):=by rw [bJ,if_neg h]
def fy (l:List Int):List UInt8:=l.map fun n=>UInt8.ofNat n.toNat
theorem akP:∀ b:Fin 256,(BitVec.ofNat 8 b.val ||| BitVec.ofNat 8 128).toNat=b.val % 128+128:=by decide +kernel
theorem akQ:∀ b:Fin 256,(BitVec.ofNat 8 b.val &&& BitVec.ofNat 8 127).toNat=b.val % 128:=by decide +kernel
theorem Gk {n:Int} (h:0<=n):IntKind.u8.wrap (((BitVec.ofInt 8 (IntKind.u8.wrap n) ||| BitVec.ofInt 8 128).toNat:Nat):Int)=n % 128+128:=by
 have e:IntKind.u8.wrap n=((n.toNat % 256:Nat):Int):=by rw [P2]; omega
 have e2:(128:Int)=((128:Nat):Int):=rfl
 rw [e,show BitVec.ofInt 8 (128:Int)=BitVec.ofNat 8 128 from rfl,BitVec.ofInt_natCast]
 have:=akP ⟨n.toNat % 256,Nat.mod_lt _ (by decide)⟩
 dsimp only at this
 rw [this,P2]
 omega
theorem zn:∀ (k:Nat) (n:Int) (l:List Int),0<=n->n<((128 ^ (k+1):Nat):Int)->l.length+k<=1000 ->
  ∃ (m:Int) (l':List Int),dY (n,()) (l,())=some ((m,()),(l',()))/\0<=m/\m<128/\l'.length<=l.length+k/\fy (l'++[m])=fy l++bJ n.toNat
 | 0,n,l,h0,h1,hl=>by
  refine ⟨n,l,?_,h0,by simpa using h1,by omega,?_⟩
  ·rw [pI]
   unfold bZ
   rw [bq (by simp at h1; omega)]
  ·rw [ba (by simp at h1; omega)]
   simp [fy]
 | k+1,n,l,h0,h1,hl=>by
  by_cases hn:n≥128
  ·have h2 : n / 128 < ((128 ^ (k + 1) : Nat) : Int) := by
    rw [Nat.pow_succ] at h1
    omega
   obtain ⟨m,l',e,g0,g1,g2,g3⟩:=zn k (n / 128) (l++[n % 128+128]) (by omega) h2 (by simp; omega)
   refine ⟨m,l',?_,g0,g1,by simp at g2; omega,?_⟩
   ·rw [pI]
    unfold bZ
    rw [ap hn,ap (by simp; omega),Gk h0,List.nil_append,Int.fdiv_eq_ediv_of_nonneg _ (by decide)]
    exact e
   ·rw [g3,d7 (n:=n.toNat) (by omega)]
    simp only [fy,List.map_append,List.map_cons,List.map_nil,List.append_assoc,List.singleton_append]
    rw [show (n % 128+128).toNat=n.toNat % 128+128 by omega,show (n / 128).toNat=n.toNat / 128 by omega]
  ·refine ⟨n,l,?_,h0,by omega,by omega,?_⟩
   ·rw [pI]
    unfold bZ
    rw [bq (by omega)]
   ·rw [ba (by omega)]
    simp [fy]
def oD (n:Int):ByteArray:=⟨(bJ n.toNat).toArray⟩
theorem sE (n:Int):bs (oD n)=bJ n.toNat:=rfl
theorem dQ {n:Int} (h0:0<=n) (h1:n<18446744073709551616):be (n,()) ()=some (oD n,()):=by
 rw [XE]
 unfold jQ
 rw [XD]
 unfold jP
 obtain ⟨m,l',e,g0,g1,g2,g3⟩:=zn 9 n [] h0 (by have:((128 ^ (9+1):Nat):Int)=1180591620717411303424:=(by decide); omega) (by simp)
 rw [e]
 simp only [Option.bind_some]
 rw [ap (by simp at g2; omega)]
 simp only [Option.bind_some,Option.some.injEq,Prod.mk.injEq,and_true]
 apply dF
 rw [pb,sE,List.nil_append,P2,show m % 256=m by omega]
 exact g3
theorem zo:∀ (k n:Nat),n<128 ^ (k+1)->(bJ n).length<=k+1
 | 0,n,h=>by rw [ba (by simpa using h)]; simp
 | k+1,n,h=>by
  by_cases hn:n<128
  ·rw [ba hn]; simp
  ·rw [d7 hn]
   have:=zo k (n / 128) (by rw [Nat.pow_succ] at h; omega)
   simp; omega
theorem xC {n:Nat} (h:n<18446744073709551616):(bJ n).length<=10:=zo 9 n (by have:(128:Nat) ^ (9+1)=1180591620717411303424:=(by decide); omega)
theorem aM {n:Int} (h0:0<=n) (h1:n<18446744073709551616):(oD n).size<=10:=xC (n:=n.toNat) (by omega)
theorem acg {t:ByteArray} (h:t.size<=281474976710656):mE (t,()) ()=some (oD t.size++t,()):=by
 rw [amP]
 unfold mR
 rw [ff (by omega) (by omega),dQ (by omega) (by omega)]
 simp only [Option.bind_some]
 have:=aM (n:=t.size) (by omega) (by omega)
 rw [ap (by omega)]
def xF:Nat->Nat->List UInt8->Option (Nat×List UInt8)
 | _,_,[]=>none
 | i,n,c::l =>
  if i=9/\c.toNat>1 then none
  else if c.toNat<128 then (if c.toNat=0/\i>0 then none else some (n+c.toNat % 128*128 ^ i,l))
  else xF (i+1) (n+c.toNat % 128*128 ^ i) l
theorem JK:∀ (l:List UInt8) (f n i m:Nat),n<128 ^ f->i<=9->n*128 ^ i<18446744073709551616->(i=0∨n≠0)->xF i m (bJ n++l)=some (m+n*128 ^ i,l)
 | l,0,n,i,m,hf,hi,hn,h0=>by
  have:n=0:=by simpa using hf
  subst this
  have:i=0:=by omega
  subst this
  rw [ba (by decide)]
  simp [xF]
 | l,f+1,n,i,m,hf,hi,hn,h0=>by
  by_cases hs:n<128
  ·rw [ba hs]
   have hb:(UInt8.ofNat n).toNat=n:=by rw [UInt8.toNat_ofNat']; omega
   simp only [List.singleton_append,xF,hb]
   have h9:¬ (i=9/\n>1):=by
    rintro ⟨rfl,h⟩
    have:(128:Nat) ^ 9=9223372036854775808:=by decide
    rw [this] at hn
    omega
   rw [if_neg h9,if_pos hs,if_neg (by omega),Nat.mod_eq_of_lt hs]
  ·rw [d7 hs]
   have hb:(UInt8.ofNat (n % 128+128)).toNat=n % 128+128:=by rw [UInt8.toNat_ofNat']; omega
   simp only [List.cons_append,xF,hb]
   have hi8:i<=8:=by
    rcases Nat.lt_or_ge 8 i with h | h
    ·have:i=9:=by omega
     subst this
     have:(128:Nat) ^ 9=9223372036854775808:=by decide
     rw [this] at hn
     omega
    ·exact h
   have hdiv:n / 128*128 ^ (i+1)<=n*128 ^ i:=by
    rw [Nat.pow_succ,Nat.mul_comm (128 ^ i) 128,← Nat.mul_assoc]
    exact Nat.mul_le_mul_right _ (by omega)
   rw [if_neg (by omega),if_neg (by omega),JK l f (n / 128) (i+1) _ (by rw [Nat.pow_succ] at hf; omega) (by omega) (by omega) (.inr (by omega))]
   congr 2
   have e1:(n % 128+128) % 128=n % 128:=by omega
   rw [e1,Nat.add_assoc,Nat.pow_succ,Nat.mul_comm (128 ^ i) 128,← Nat.mul_assoc,← Nat.add_mul]
   congr 2
   omega
theorem Gq:∀ (s:List UInt8) (i m r:Nat) (l:List UInt8),i<=9->xF i m s=some (r,l)->∃ n,s=bJ n++l/\r=m+n*128 ^ i/\(i=0∨n≠0)/\n*128 ^ i<18446744073709551616
 | [],i,m,r,l,hi,h=>by cases h
 | c::s,i,m,r,l,hi,h=>by
  have hc:=c.toNat_lt
  have hce:UInt8.ofNat c.toNat=c:=UInt8.toNat_inj.1 (by rw [UInt8.toNat_ofNat']; omega)
  have hp:128 ^ i<=128 ^ 9:=Nat.pow_le_pow_right (by decide) hi
  have h9:(128:Nat) ^ 9=9223372036854775808:=by decide
  simp only [xF] at h
  split at h
  ·cases h
  ·rename_i h1
   split at h
   ·rename_i h2
    split at h
    ·cases h
    ·rename_i h3
     cases h
     refine ⟨c.toNat,by rw [ba h2,hce]; rfl,by rw [Nat.mod_eq_of_lt h2],by omega,?_⟩
     by_cases hi9:i=9
     ·subst hi9
      rw [h9]
      omega
     ·have:128 ^ i<=128 ^ 8:=Nat.pow_le_pow_right (by decide) (by omega)
      have h8:(128:Nat) ^ 8=72057594037927936:=by decide
      calc c.toNat*128 ^ i<=127*128 ^ 8:=Nat.mul_le_mul (by omega) this
       _<_:=by rw [h8]; decide
   ·rename_i h2
    have hi9:i≠9:=fun e=>h1 ⟨e,by omega⟩
    obtain ⟨n,e1,e2,e3,e4⟩:=Gq s (i+1) _ r l (by omega) h
    refine ⟨c.toNat % 128+128*n,?_,?_,by omega,?_⟩
    ·rw [d7 (n:=c.toNat % 128+128*n) (by omega),show (c.toNat % 128+128*n) % 128+128=c.toNat by omega,show (c.toNat % 128+128*n) / 128=n by omega,hce,List.cons_append,← e1]
    ·rw [e2,Nat.add_mul,Nat.add_assoc,Nat.pow_succ,Nat.mul_comm (128 ^ i) 128,← Nat.mul_assoc,Nat.mul_comm n 128]
    ·have : (c.toNat % 128 + 128 * n) * 128 ^ i = c.toNat % 128 * 128 ^ i + n * 128 ^ (i + 1) := by
      rw [Nat.add_mul,Nat.pow_succ,Nat.mul_comm (128 ^ i) 128,← Nat.mul_assoc,Nat.mul_comm n 128]
     rw [this]
     -- the sum of the low part and a multiple
     have h64:(18446744073709551616:Nat)=128 ^ (i+1)*(18446744073709551616 / 128 ^ (i+1))∨i=9∨i=8∨True:=.inr (.inr (.inr trivial))
     have hlow:c.toNat % 128*128 ^ i<=127*128 ^ i:=Nat.mul_le_mul_right _ (by omega)
     have hdvd:∃ q,18446744073709551616=q*128 ^ (i+1)∨(i=9):=⟨18446744073709551616 / 128 ^ (i+1),by
      have:i=0∨i=1∨i=2∨i=3∨i=4∨i=5∨i=6∨i=7∨i=8:=by omega
      rcases this with h | h | h | h | h | h | h | h | h<;>subst h<;>left<;>decide⟩
     obtain ⟨q,hq⟩:=hdvd
     rcases hq with hq | hq
     ·have hlt : n < q := by
       rcases Nat.lt_or_ge n q with h | h
       ·exact h
       ·have:=Nat.mul_le_mul_right (128 ^ (i+1)) h
        omega
      have hle:=Nat.mul_le_mul_right (128 ^ (i+1)) (show n+1<=q from hlt)
      rw [Nat.add_mul,Nat.one_mul] at hle
      have:(128:Nat) ^ (i+1)=128*128 ^ i:=by rw [Nat.pow_succ,Nat.mul_comm]
      have hpos:0<128 ^ i:=Nat.pos_of_ne_zero (by simp)
      omega
     ·exact absurd hq hi9
def bQ (s:ByteArray):Int×ByteArray×Bool :=
 match xF 0 0 (bs s) with
 | some (n,l)=>((n:Int),⟨l.toArray⟩,true)
 | none=>(0,eB,false)
theorem alb {n c i:Nat} (hc:c<256) (hi:i<=9) (h9:¬ (i=9/\c>1)) (hn:n<128 ^ i) :
  IntKind.u64.wrap (((BitVec.ofInt 64 (n:Int) ||| BitVec.ofInt 64 (IntKind.u64.wrap (IntKind.u64.wrap (IntKind.u8.wrap (((BitVec.ofInt 8 (c:Int) &&& BitVec.ofInt 8 127).toNat:Nat):Int))*2 ^ Min.min (IntKind.i64.wrap (7*(i:Int))).toNat 64))).toNat:Nat):Int)=((n+c % 128*128 ^ i:Nat):Int):=by
 have ha:=akQ ⟨c,hc⟩
 dsimp only at ha
 rw [show BitVec.ofInt 8 (127:Int)=BitVec.ofNat 8 127 from rfl,show BitVec.ofInt 8 ((c:Nat):Int)=BitVec.ofNat 8 c from BitVec.ofInt_natCast ..,ha,aQ (by omega) (by omega),P2,show ((c % 128:Nat):Int) % 256=((c % 128:Nat):Int) by omega,ff (n:=((c % 128:Nat):Int)) (by omega) (by omega),
  show Min.min (7*(i:Int)).toNat 64=7*i by rw [Nat.min_def]; split<;>omega]
 have hp:(2:Int) ^ (7*i)=((128 ^ i:Nat):Int):=by rw [Int.pow_mul]; simp
 have h9':(128:Nat) ^ 9=9223372036854775808:=by decide
 have hlow:c % 128*128 ^ i<18446744073709551616:=by
  by_cases hi9:i=9
  ·subst hi9
   rw [h9']
   omega
  ·have:128 ^ i<=128 ^ 8:=Nat.pow_le_pow_right (by decide) (by omega)
   have h8:(128:Nat) ^ 8=72057594037927936:=by decide
   calc c % 128*128 ^ i<=127*128 ^ 8:=Nat.mul_le_mul (by omega) this
    _<_:=by rw [h8]; decide
 have hpi:128 ^ i<=128 ^ 9:=Nat.pow_le_pow_right (by decide) hi
 rw [hp,show ((c % 128:Nat):Int)*((128 ^ i:Nat):Int)=((c % 128*128 ^ i:Nat):Int) by simp,ff (n:=((c % 128*128 ^ i:Nat):Int)) (by omega) (by omega),BitVec.ofInt_natCast,BitVec.ofInt_natCast,BitVec.toNat_or,BitVec.toNat_ofNat,BitVec.toNat_ofNat,Nat.mod_eq_of_lt (by omega),Nat.mod_eq_of_lt (by omega)]
 have hor:n ||| c % 128*128 ^ i=n+c % 128*128 ^ i:=by
  have h2:(128:Nat) ^ i=2 ^ (7*i):=by rw [Nat.pow_mul]
  have:=Nat.two_pow_add_eq_or_of_lt (show n<2 ^ (7*i) by rw [← h2]; exact hn) (c % 128)
  rw [Nat.or_comm,h2,Nat.mul_comm,← this]
  omega
 rw [hor,ff]
 ·omega
 ·by_cases hi9:i=9
  ·subst hi9
   rw [h9'] at hn ⊢
   omega
  ·have hp8:128 ^ i<=128 ^ 8:=Nat.pow_le_pow_right (by decide) (by omega)
   have h8:(128:Nat) ^ 8=72057594037927936:=by decide
   have:c % 128*128 ^ i<=127*128 ^ 8:=Nat.mul_le_mul (by omega) hp8
   rw [h8] at this hp8
   omega
theorem uE (s:ByteArray):∀ (l pre:List UInt8) (i n:Nat),bs s=pre++l->pre.length=i->i<=9->n<128 ^ i ->
  fc (s,(n:Int),(s.size:Int),(i:Int),()) ()=match xF i n l with | some (r,l')=>some (.inr (((r:Int),⟨l'.toArray⟩,true,()),())) | none=>some (.inl ((),()))
 | [],pre,i,n,hs,hi,h9,hn=>by
  have hsz:s.size=i:=by rw [← cB,hs]; simpa using hi
  rw [K6]
  unfold dD
  rw [bq (by omega)]
  rfl
 | c::l,pre,i,n,hs,hi,h9,hn=>by
  have hsz:s.size=i+(l.length+1):=by rw [← cB,hs,List.length_append,hi,List.length_cons]
  have hc:=c.toNat_lt
  have hat:dM s (i:Int)=(c.toNat:Int):=by
   rw [Eu,hs,List.getD_eq_getElem?_getD,List.getElem?_append_right (by omega),hi,Nat.sub_self]
   rfl
  have hext:s.extract ((i:Int)+1).toNat s.size=⟨l.toArray⟩:=by
   apply dF
   rw [di,hs,show ((i:Int)+1).toNat=i+1 by omega,List.drop_append,List.drop_of_length_le (by omega),List.nil_append,hi,show i+1-i=1 by omega,List.drop_one,List.tail_cons,List.take_of_length_le (by omega),ug]
  rw [K6]
  unfold dD
  rw [ap (by omega),ap (by omega),ap (by omega),cN]
  rw [hat]
  simp only [xF]
  rw [aQ (n:=(i:Int)+1) (by omega) (by omega)]
  by_cases hi9:i=9
  ·rw [if_pos (show (i:Int)=9 by omega),aW]
   by_cases hc1:c.toNat>1
   ·rw [if_pos (show (c.toNat:Int)>1 by omega),if_pos ⟨hi9,hc1⟩]
   ·rw [if_neg (show ¬ (c.toNat:Int)>1 by omega),if_neg (fun h=>hc1 h.2)]
    have hsh:=alb hc h9 (fun h=>hc1 h.2) hn
    rw [aQ (n:=7*(i:Int)) (by omega) (by omega)] at hsh ⊢
    rw [ap (by omega)]
    by_cases h128:c.toNat<128
    ·rw [ap (show (c.toNat:Int)<128 by omega),if_pos h128,cN]
     by_cases hz:c.toNat=0
     ·rw [if_pos (show (c.toNat:Int)=0 by omega),aW]
      by_cases hi0:i>0
      ·rw [if_pos (show (i:Int)>0 by omega),if_pos ⟨hz,hi0⟩]
      ·rw [if_neg (show ¬ (i:Int)>0 by omega),if_neg (fun h=>hi0 h.2),ap (by omega),ap (by omega),hsh,hext]
     ·rw [if_neg (show ¬ (c.toNat:Int)=0 by omega),if_neg (fun h=>hz h.1),ap (by omega),ap (by omega),hsh,hext]
    ·rw [bq (show ¬ (c.toNat:Int)<128 by omega),if_neg h128,hsh,show ((i:Int)+1)=((i+1:Nat):Int) by omega]
     exact uE s l (pre++[c]) (i+1) _ (by rw [hs]; simp) (by simp [hi]) (by omega) (by
      have:c.toNat % 128<=127:=by omega
      have:=Nat.mul_le_mul_right (128 ^ i) this
      rw [Nat.pow_succ]
      omega)
  ·rw [if_neg (show ¬ (i:Int)=9 by omega),if_neg (fun h=>hi9 h.1)]
   have hsh:=alb hc h9 (fun h=>hi9 h.1) hn
   rw [aQ (n:=7*(i:Int)) (by omega) (by omega)] at hsh ⊢
   rw [ap (by omega)]
   by_cases h128:c.toNat<128
   ·rw [ap (show (c.toNat:Int)<128 by omega),if_pos h128,cN]
    by_cases hz:c.toNat=0
    ·rw [if_pos (show (c.toNat:Int)=0 by omega),aW]
     by_cases hi0:i>0
     ·rw [if_pos (show (i:Int)>0 by omega),if_pos ⟨hz,hi0⟩]
     ·rw [if_neg (show ¬ (i:Int)>0 by omega),if_neg (fun h=>hi0 h.2),ap (by omega),ap (by omega),hsh,hext]
    ·rw [if_neg (show ¬ (c.toNat:Int)=0 by omega),if_neg (fun h=>hz h.1),ap (by omega),ap (by omega),hsh,hext]
   ·rw [bq (show ¬ (c.toNat:Int)<128 by omega),if_neg h128,hsh,show ((i:Int)+1)=((i+1:Nat):Int) by omega]
    exact uE s l (pre++[c]) (i+1) _ (by rw [hs]; simp) (by simp [hi]) (by omega) (by
     have:c.toNat % 128<=127:=by omega
     have:=Nat.mul_le_mul_right (128 ^ i) this
     rw [Nat.pow_succ]
     omega)
theorem fx {s:ByteArray}:bH (s,()) ()=some (((bQ s).1,(bQ s).2.1,(bQ s).2.2,()),()):=by
 rw [amQ]
 unfold mT bQ
 have:=uE s (bs s) [] 0 0 rfl rfl (by decide) (by decide)
 rw [show ((0:Nat):Int)=0 from rfl] at this
 rw [this]
 cases xF 0 0 (bs s) with
 | none=>rfl
 | some p=>rfl
theorem gt {s:ByteArray} (h:(bQ s).2.2=true):∃ n:Nat,(bQ s).1=(n:Int)/\n<18446744073709551616/\bs s=bJ n++bs (bQ s).2.1:=by
 unfold bQ at h ⊢
 cases he:xF 0 0 (bs s) with
 | none=>rw [he] at h; cases h
 | some p =>
  obtain ⟨r,l⟩:=p
  obtain ⟨n,e1,e2,e3,e4⟩:=Gq (bs s) 0 0 r l (by decide) he
  simp at e2 e4
  subst e2
  exact ⟨_,rfl,e4,e1⟩
theorem ng {s:ByteArray} {n:Nat} {l:List UInt8} (hn:n<18446744073709551616) (h:bs s=bJ n++l):bQ s=((n:Int),⟨l.toArray⟩,true):=by
 unfold bQ
 rw [h,JK l 10 n 0 0 (by have:(128:Nat) ^ 10=1180591620717411303424:=(by decide); omega) (by decide) (by simpa using hn) (.inl rfl)]
 simp
theorem Se {s:ByteArray} (h:(bQ s).2.2=false):bQ s=(0,eB,false):=by
 unfold bQ at h ⊢
 cases he:xF 0 0 (bs s) with
 | none=>rfl
 | some p=>rw [he] at h; cases h
theorem Px (s:ByteArray):0<=(bQ s).1/\(bQ s).1<18446744073709551616:=by
 cases h:(bQ s).2.2 with
 | false=>rw [Se h]; exact ⟨Int.le_refl 0,show (0:Int)<18446744073709551616 by decide⟩
 | true =>
  obtain ⟨n,e,hn,_⟩:=gt h
  omega
theorem ot {s:ByteArray}:(bQ s).2.1.size<=s.size:=by
 cases h:(bQ s).2.2 with
 | false=>rw [Se h]; exact Nat.zero_le _
 | true =>
  obtain ⟨n,e,hn,hb⟩:=gt h
  rw [← cB,← cB,hb,List.length_append]
  omega
def Ex (s:ByteArray) (most:Int):ByteArray×ByteArray×Bool :=
 if (bQ s).2.2=true/\0<=most/\(bQ s).1<=most/\(bQ s).1<=(bQ s).2.1.size then
  ((bQ s).2.1.extract 0 (bQ s).1.toNat,(bQ s).2.1.extract (bQ s).1.toNat (bQ s).2.1.size,true)
 else (eB,eB,false)
theorem Vb {s:ByteArray} {most:Int} (hm:most<9223372036854775808) (hs:s.size<=281474976710656):mI (s,most,()) ()=some (((Ex s most).1,(Ex s most).2.1,(Ex s most).2.2,()),()):=by
 rw [amR]
 unfold mU Ex
 rw [fx]
 simp only [Option.bind_some]
 have hz:=ot (s:=s)
 have hl:=Px s
 cases h:(bQ s).2.2 with
 | false=>simp
 | true =>
  simp only [Bool.not_true,cond_false,aW]
  by_cases h1:most<0
  ·rw [if_pos h1,if_neg (fun h=>by omega)]
  ·rw [if_neg h1,ff (n:=most) (by omega) (by omega),ff (n:=((bQ s).2.1.size:Int)) (by omega) (by omega)]
   by_cases h2:(bQ s).1>most
   ·rw [if_pos h2,if_neg (fun h=>by omega)]
   ·rw [if_neg h2]
    by_cases h3:(bQ s).1>((bQ s).2.1.size:Int)
    ·rw [if_pos h3,if_neg (fun h=>by omega)]
    ·rw [if_neg h3,if_pos hl.1,if_pos (by omega),if_pos hl.1,if_pos (by omega),if_pos ⟨trivial,by omega,by omega,by omega⟩]
end Go.Proofs.YtljfdfghagiblaaGreat.S2
