/- The document's slots,in plain words. -/
import Derived.Test.YtljfdfghagiblaaGreatGrslot
import Derived.Test.YtljfdfghagiblaaGreatPrdisk
import Derived.Test.YtljfdfghagiblaaGreatPslot
namespace Go.Proofs.YtljfdfghagiblaaGreat.S2
open Go
theorem ib {n i:Int} {l:List Int} (h:0<=n) (h1:n<18446744073709551616) (hi:0<=i) (hi8:i<8) (hl:l.length=8) :
  fZ (n,i,()) (l,())=fZ (n / 256,i-1,()) (l.set i.toNat (n % 256),()):=by
 rw [QX]
 unfold eZ
 rw [ap (by omega),ap hi,ap (by omega),Int.tdiv_eq_ediv_of_nonneg h,Int.tmod_eq_emod_of_nonneg h,ff (by omega) (by omega),aQ (by omega) (by omega),P2,Int.emod_emod_of_dvd n (by decide:(256:Int)∣256),Nat.zero_add]
theorem aoD {n:Int} (h0:0<=n) (h1:n<18446744073709551616):tU (n,()) ()=some (Gp n.toNat,()):=by
 rw [auC]
 unfold rS
 rw [ib h0 h1 (by decide) (by decide) rfl]
 rw [ib (by omega) (by omega) (by decide) (by decide) rfl]
 rw [ib (by omega) (by omega) (by decide) (by decide) rfl]
 rw [ib (by omega) (by omega) (by decide) (by decide) rfl]
 rw [ib (by omega) (by omega) (by decide) (by decide) rfl]
 rw [ib (by omega) (by omega) (by decide) (by decide) rfl]
 rw [ib (by omega) (by omega) (by decide) (by decide) rfl]
 rw [ib (by omega) (by omega) (by decide) (by decide) rfl]
 rw [QX]
 unfold eZ
 rw [bq (by decide)]
 simp only [Option.bind_some,Option.map_some,Option.some.injEq,Prod.mk.injEq,and_true]
 apply dF
 rw [pb]
 have hb:∀ (a:Int) (b:Nat),a.toNat % 256=b % 256->UInt8.ofNat a.toNat=UInt8.ofNat b:=by
  intro a b hab
  apply UInt8.toNat_inj.1
  rw [UInt8.toNat_ofNat',UInt8.toNat_ofNat']
  exact hab
 show [_,_,_,_,_,_,_,_]=[_,_,_,_,_,_,_,_]
 congr 1
 ·exact hb _ _ (by omega)
 congr 1
 ·exact hb _ _ (by omega)
 congr 1
 ·exact hb _ _ (by omega)
 congr 1
 ·exact hb _ _ (by omega)
 congr 1
 ·exact hb _ _ (by omega)
 congr 1
 ·exact hb _ _ (by omega)
 congr 1
 ·exact hb _ _ (by omega)
 congr 1
 ·exact hb _ _ (by omega)
theorem aca {k:Nat} (h:k<=494):Go.strOfNums ([]++[IntKind.u8.wrap (IntKind.i64.wrap ((k:Int).tdiv 256))]++[IntKind.u8.wrap ((k:Int).tmod 256)])=aoE k:=by
 apply dF
 rw [pb]
 have hb:∀ (a:Int) (b:Nat),a.toNat % 256=b % 256->UInt8.ofNat a.toNat=UInt8.ofNat b:=by
  intro a b hab
  apply UInt8.toNat_inj.1
  rw [UInt8.toNat_ofNat',UInt8.toNat_ofNat']
  exact hab
 show [_,_]=[_,_]
 rw [P2,P2,Int.tdiv_eq_ediv_of_nonneg (by omega),Int.tmod_eq_emod_of_nonneg (by omega),aQ (by omega) (by omega)]
 congr 1
 ·exact hb _ _ (by omega)
 congr 1
 ·exact hb _ _ (by omega)
theorem R0 {n:Int} {t:ByteArray} {size:Int} (h0:0<=n) (h1:n<18446744073709551616):wo (n,t,size,()) ()=some (((uD n t size).1,(uD n t size).2,()),()):=by
 rw [auD]
 unfold rT uD
 simp only [aW,cN]
 by_cases hs1:size<32
 ·rw [if_pos hs1,if_neg (fun h=>by have:=h.1; omega)]
 ·by_cases hs2:size>512
  ·rw [if_neg hs1,if_pos hs2,if_neg (fun h=>by have:=h.2.1; omega)]
  ·rw [if_neg hs1,if_neg hs2]
   by_cases hn:n=0
   ·rw [if_pos hn,if_neg (fun h=>h.2.2.1 hn)]
   ·rw [if_neg hn,aQ (n:=size-18) (by omega) (by omega)]
    by_cases ht:(t.size:Int)>size-18
    ·rw [if_pos ht,if_neg (fun h=>by have:=h.2.2.2; omega)]
    ·have hk:t.size<=494:=by omega
     have hz:(dZ (size-18-t.size).toNat).size<=512:=by rw [hE]; omega
     rw [if_neg ht,aoD h0 h1,aca hk,aQ (n:=size-18-(t.size:Int)) (by omega) (by omega),Iz (by omega) (by omega)]
     simp only [Option.bind_some]
     rw [if_pos (by rw [fg,iP]; omega),if_pos (by rw [ByteArray.size_append,fg,iP]; omega),if_pos (by simp only [ByteArray.size_append,fg,iP]; omega),if_pos (by simp only [ByteArray.size_append,fg,iP]; omega),if_pos ⟨by omega,by omega,hn,by omega⟩]
     rfl
theorem aoF {n b:Nat} (hn:n<18446744073709551616 / 256) (hb:b<256):IntKind.u64.wrap (IntKind.u64.wrap (256*(n:Int))+IntKind.u64.wrap (b:Int))=((n*256+b:Nat):Int):=by
 rw [ff (n:=256*(n:Int)) (by omega) (by omega),ff (n:=(b:Int)) (by omega) (by omega),ff (by omega) (by omega)]
 omega
theorem BR (s:ByteArray) (hs:8<=s.size):∀ (d i:Nat),i+d=8 ->
  gM (s,(nb ((bs s).take i):Int),(i:Int),()) ()=some ((s,(nb ((bs s).take 8):Int),()),())
 | 0,i,h=>by
  rw [QZ]
  unfold e7
  rw [bq (by omega),show i=8 by omega]
 | d+1,i,h=>by
  rw [QZ]
  unfold e7
  have hi:i<(bs s).length:=by rw [cB]; omega
  have hlt:=R1 i ((bs s).take i) (by rw [List.length_take]; omega)
  have hp:256 ^ i<=256 ^ 7:=Nat.pow_le_pow_right (by decide) (by omega)
  have h7:(256:Nat) ^ 7=72057594037927936:=by decide
  have hb:((bs s).getD i 0).toNat<256:=UInt8.toNat_lt _
  rw [ap (by omega),ap (by omega),ap (by omega),Eu,aoF (by omega) hb,aQ (by omega) (by omega),show ((i:Int)+1)=((i+1:Nat):Int) by omega]
  have e:nb ((bs s).take i)*256+((bs s).getD i 0).toNat=nb ((bs s).take (i+1)):=by
   rw [List.take_succ_eq_append_getElem hi,Bt,List.getD_eq_getElem?_getD,List.getElem?_eq_getElem hi,Option.getD_some]
  rw [e]
  exact BR s hs d (i+1) (by omega)
theorem JG {s:ByteArray}:tW (s,()) ()=some (((cI s).1,(cI s).2.1,(cI s).2.2,()),()):=by
 rw [auE]
 unfold rX cI
 rw [aW]
 by_cases h1:(s.size:Int)<32
 ·rw [if_pos h1,if_neg (fun h=>by have:=h.1; omega)]
 ·rw [if_neg h1,aW]
  by_cases h2:(s.size:Int)>512
  ·rw [if_pos h2,if_neg (fun h=>by have:=h.2.1; omega)]
  ·have b8:bs (s.extract 0 8)=(bs s).take 8:=by rw [di,List.drop_zero]
   have bl:bs (s.extract (s.size-8) s.size)=(bs s).drop (s.size-8):=by
    rw [di,List.take_of_length_le]
    rw [List.length_drop,cB]; omega
   have e8:((s.size:Int)-8).toNat=s.size-8:=by omega
   rw [if_neg h2,ap (by omega),aQ (n:=(s.size:Int)-8) (by omega) (by omega),ap (by omega),ap (by omega),e8,ci]
   by_cases he:s.extract 0 8=s.extract (s.size-8) s.size
   ·have he':(bs s).take 8=(bs s).drop (s.size-8):=by rw [← b8,← bl,he]
    rw [decide_eq_true he]
    simp only [Bool.not_true,cond_false]
    rw [ap (by omega),Iz (by decide) (by decide)]
    simp only [Option.bind_some]
    rw [ci,aW]
    have hz:s.extract 0 8=dZ (8:Int).toNat↔nb ((bs s).take 8)=0:=by
     rw [aoG 8 _ (by rw [List.length_take,cB]; omega),← b8]
     exact ⟨fun h=>by rw [h]; rfl,fun h=>dF (by rw [h]; rfl)⟩
    by_cases hn:nb ((bs s).take 8)=0
    ·rw [if_pos (hz.2 hn),if_neg (fun h=>h.2.2.2.1 hn)]
    ·rw [if_neg (fun h=>hn (hz.1 h))]
     have hlp:=BR s (by omega) 8 0 (by omega)
     rw [List.take_zero,show nb []=0 from rfl,show ((0:Nat):Int)=0 from rfl] at hlp
     rw [hlp]
     simp only [Option.bind_some]
     have hg:=ak2 (bs s) (by rw [cB]; omega)
     have g8:((bs s).getD 8 0).toNat<256:=UInt8.toNat_lt _
     have g9:((bs s).getD 9 0).toNat<256:=UInt8.toNat_lt _
     have s8:dM s 8=((bs s).getD 8 0).toNat:=rfl
     have s9:dM s 9=((bs s).getD 9 0).toNat:=rfl
     rw [ap (by omega),ap (by omega),s8,s9,aQ (n:=(((bs s).getD 8 0).toNat:Int)) (by omega) (by omega),aQ (n:=(((bs s).getD 9 0).toNat:Int)) (by omega) (by omega),aQ (n:=256*(((bs s).getD 8 0).toNat:Int)) (by omega) (by omega),aQ (n:=256*(((bs s).getD 8 0).toNat:Int)+(((bs s).getD 9 0).toNat:Int)) (by omega) (by omega),
      aQ (n:=(s.size:Int)-18) (by omega) (by omega),show 256*(((bs s).getD 8 0).toNat:Int)+(((bs s).getD 9 0).toNat:Int)=(nb (((bs s).drop 8).take 2):Int) by omega,aW]
     by_cases hl:(nb (((bs s).drop 8).take 2):Int)>(s.size:Int)-18
     ·rw [if_pos hl,if_neg (fun h=>by have:=h.2.2.2.2; omega)]
     ·rw [if_neg hl,aQ (n:=10+(nb (((bs s).drop 8).take 2):Int)) (by omega) (by omega),ap (by omega),ap (by omega),if_pos ⟨by omega,by omega,he',hn,by omega⟩,show (10+(nb (((bs s).drop 8).take 2):Int)).toNat=10+nb (((bs s).drop 8).take 2) by omega]
   ·rw [decide_eq_false he,if_neg (fun h=>he (dF (by rw [b8,bl]; exact h.2.2.1)))]
    rfl
def BS (s t:ByteArray):Int×Int×ByteArray :=
 if (cI s).2.2=true/\((cI t).2.2=false∨(cI s).1≥(cI t).1) then (1,(cI s).1,(cI s).2.1)
 else if (cI t).2.2=true then (2,(cI t).1,(cI t).2.1) else (0,0,eB)
theorem aaE {a b:Int} (h:a≠b) (s t:ByteArray):(BS s t).2=(gC a b s t).2/\((BS s t).1=1↔(gC a b s t).1=a):=by
 unfold BS gC
 cases h1:(cI t).2.2<;>cases h2:(cI s).2.2<;>simp [Ne.symm h]
 by_cases hlt:(cI s).1<(cI t).1
 ·rw [if_neg (by omega),if_pos hlt]
  simp [Ne.symm h]
 ·rw [if_pos (by omega),if_neg hlt]
  simp
theorem Lx {s t:ByteArray}:gN (s,t,()) ()=some (((BS s t).1,(BS s t).2.1,(BS s t).2.2,()),()):=by
 rw [auF]
 unfold rY BS
 rw [JG,JG]
 simp only [Option.bind_some]
 cases h1:(cI s).2.2<;>cases h2:(cI t).2.2<;>simp [aW]
 split<;>simp_all
section
variable {size:Int} {S:List ByteArray} {P:List W2}
theorem Ly {a:Int} (hd:ca size S P) (h:¬ (0<=a/\a<S.length)):fz S P a=(eB,false):=by
 unfold fz
 rw [Gl (size:=size) P hd.pd h]
 unfold G1
 rw [if_neg h]
theorem Lz {a:Int} (h:0<=a/\a<S.length):(fz S P a).2=true:=by
 unfold fz
 cases sH P a with
 | some t=>rfl
 | none=>dsimp only; unfold G1; rw [if_pos h]
theorem ak3 {a:Int} (s:ByteArray):(gC a a s s).2=(BS s s).2:=by
 unfold gC BS
 cases h1:(cI s).2.2<;>simp
theorem azr {a b:Int} (hd:ca size S P):tX (a,b,()) ((size,()),S,cC P,())=some (((dm S P a b).2.1,(dm S P a b).2.2,()),()):=by
 rw [auG]
 unfold kX
 rw [Ps hd,Ps hd]
 simp only [Option.bind_some]
 rw [Lx]
 simp only [Option.bind_some,Option.map_some]
 unfold dm
 by_cases hab:a=b
 ·subst hab
  rw [← ak3 (a:=a)]
 ·rw [(aaE hab _ _).1]
theorem aoH {a b:Int} {t:ByteArray} (hd:ca size S P):wq (a,b,t,()) ((size,()),S,cC P,()) =
  some ((sJ size S P a b t).isSome,((size,()),S,(),cC (P++(sJ size S P a b t).toList),())):=by
 rw [auH]
 unfold rZ sJ
 rw [Ps hd,Ps hd]
 simp only [Option.bind_some]
 by_cases ha:0<=a/\a<S.length
 ·rw [Lz ha]
  simp only [Bool.not_true,cond_false]
  by_cases hb:0<=b/\b<S.length
  ·rw [Lz hb]
   simp only [Bool.not_true,cond_false,cN]
   by_cases hab:a=b
   ·rw [if_pos hab,if_neg (fun h=>h.1.1 hab)]; simp
   ·rw [if_neg hab,Lx]
    simp only [Option.bind_some]
    have he:=aaE hab (fz S P a).1 (fz S P b).1
    have hlt:=Ev a b (fz S P a).1 (fz S P b).1
    have e1:(BS (fz S P a).1 (fz S P b).1).2.1=(dm S P a b).2.1:=by rw [he.1]; rfl
    rw [e1]
    have hw:=he.2
    have e2:gC a b (fz S P a).1 (fz S P b).1=dm S P a b:=rfl
    rw [e2] at hlt hw
    by_cases hm:(dm S P a b).2.1=18446744073709551615
    ·have hall:¬ ((a≠b/\0<=a/\0<=b/\a<S.length/\b<S.length)/\(dm S P a b).2.1≠18446744073709551615/\R3 ((dm S P a b).2.1+1) t size):=fun h=>h.2.1 hm
     rw [if_neg hall,hm]
     have ew:IntKind.u64.wrap ((18446744073709551615:Int)+1)=0:=by decide
     rw [ew,R0 (by decide) (by decide)]
     have hf:uD 0 t size=(eB,false):=if_neg (fun h=>h.2.2.1 rfl)
     rw [hf]
     simp
    ·rw [ff (n:=(dm S P a b).2.1+1) (by omega) (by omega),R0 (by omega) (by omega)]
     simp only [Option.bind_some]
     by_cases hok:R3 ((dm S P a b).2.1+1) t size
     ·have hall:(a≠b/\0<=a/\0<=b/\a<S.length/\b<S.length)/\(dm S P a b).2.1≠18446744073709551615/\R3 ((dm S P a b).2.1+1) t size:=⟨⟨hab,by omega,by omega,by omega,by omega⟩,hm,hok⟩
      have hsz:=ic hok
      have hf:uD ((dm S P a b).2.1+1) t size=(d8 ((dm S P a b).2.1+1) t size,true):=if_pos hok
      rw [if_pos hall,hf]
      simp only [Bool.not_true,cond_false]
      by_cases h8:(dm S P a b).1=a
      ·rw [if_pos (hw.2 h8)]
       simp only [if_pos h8]
       rw [aav hd]
       have hm:Eo size S b (d8 ((dm S P a b).2.1+1) t size)=true:=by unfold Eo; rw [decide_eq_true]; exact ⟨⟨by omega,by omega⟩,by omega⟩
       rw [hm,Ew hsz]
       rfl
      ·rw [if_neg (fun h=>h8 (hw.1 h))]
       simp only [if_neg h8]
       rw [aav hd]
       have hm:Eo size S a (d8 ((dm S P a b).2.1+1) t size)=true:=by unfold Eo; rw [decide_eq_true]; exact ⟨⟨by omega,by omega⟩,by omega⟩
       rw [hm,Ew hsz]
       rfl
     ·have hall:¬ ((a≠b/\0<=a/\0<=b/\a<S.length/\b<S.length)/\(dm S P a b).2.1≠18446744073709551615/\R3 ((dm S P a b).2.1+1) t size):=fun h=>hok h.2.2
      have hf:uD ((dm S P a b).2.1+1) t size=(eB,false):=if_neg hok
      rw [if_neg hall,hf]
      simp
  ·rw [Ly hd hb,if_neg (fun h=>hb ⟨by omega,by omega⟩)]; simp
 ·rw [Ly hd ha,if_neg (fun h=>ha ⟨by omega,by omega⟩)]; simp
end
end Go.Proofs.YtljfdfghagiblaaGreat.S2
