/- The oracle of the program and that of the document,in plain words: maps,draws,hashes. -/
import Derived.Test.YtljfdfghagiblaaGreatPmwire
import Derived.Test.YtljfdfghagiblaaGreatGwire
import Derived.Test.YtljfdfghagiblaaGreatGr03
namespace Go.Proofs.YtljfdfghagiblaaGreat.S2.Mk
open Go Go.Proofs.YtljfdfghagiblaaGreat.S2
section
variable {κ ν:Type} [DecidableEq κ] {eq:κ->κ->Bool} (hl:∀ a b,eq a b=true↔a=b)
include hl
theorem gc (k k':κ) (v:ν):∀ es:List (κ×ν),aG eq k (cx eq k' v es)=if k=k' then some v else aG eq k es
 | []=>by
  simp only [cx,aG]
  by_cases h:k=k'
  ·rw [if_pos h,(hl _ _).2 h]
  ·rw [if_neg h]
   cases h2:eq k k' with
   | true=>exact (h ((hl _ _).1 h2)).elim
   | false=>rfl
 | e::es=>by
  have ih:=gc k k' v es
  simp only [cx]
  cases h2:eq k' e.1 with
  | true =>
   have hk:=(hl _ _).1 h2
   simp only [aG]
   by_cases h:k=k'
   ·rw [if_pos h,(hl _ _).2 (h.trans hk)]
   ·rw [if_neg h]
    cases h3:eq k e.1 with
    | true=>exact (h (((hl _ _).1 h3).trans hk.symm)).elim
    | false=>rfl
  | false =>
   simp only [aG]
   cases h3:eq k e.1 with
   | true =>
    by_cases h:k=k'
    ·subst h
     rw [h3] at h2
     cases h2
    ·rw [if_neg h]
   | false=>exact ih
theorem pL (z:ν) (k k':κ) (v:ν) (es:List (κ×ν)):aV eq z k (cx eq k' v es)=if k=k' then v else aV eq z k es:=by
 unfold aV
 rw [gc hl]
 split<;>rfl
end
abbrev iM:Int->Int->Bool:=(aw.cons (ak.int IntKind.u64) aw.nil).eqb
abbrev xa:ByteArray->ByteArray->Bool:=(aw.cons ak.str aw.nil).eqb
theorem Lh:∀ a b:Int,iM a b=true↔a=b:=fun a b=>by
 show (a==b)=true↔_
 exact beq_iff_eq
theorem atn:∀ a b:ByteArray,xa a b=true↔a=b:=fun a b=>by
 show (a.toList==b.toList)=true↔_
 rw [ci]
 exact decide_eq_true_iff
abbrev aog:=Int×ByteArray
abbrev Ek:=Int×Int×ByteArray×ByteArray
abbrev BP:=Int×Int×Int×ByteArray
structure Or where
 draws:List Int
 drawn:Int
 bad:Bool
 issued:List (Int×Int)
 met:List (Int×Int)
 hashes:List (ByteArray×Int)
 tags:List (aog×Int)
 seals:List (Ek×Int)
 opens:List (BP×Int)
 plains:List ByteArray
abbrev MI:=adk
def Or.m (o:Or):MI:=((o.draws,o.drawn,o.bad,()),o.issued,o.met,o.hashes,o.tags,o.seals,o.opens,o.plains,())
def aL (draws:List Int) (k:Int):Int:=if k<draws.length then draws.getD k.toNat 0 else IntKind.u64.wrap (9223372036854775808+IntKind.u64.wrap k)
def Or.clash (o:Or) (h:Int):Bool:=h==0||(decide (aV iM 0 h o.issued>0)||decide (aV iM 0 h o.met>0))
def Or.fresh (o:Or):Int×Or:=(aL o.draws o.drawn,{ o with drawn:=IntKind.i64.wrap (o.drawn+1),bad:=o.bad||o.clash (aL o.draws o.drawn),issued:=cx iM (aL o.draws o.drawn) (IntKind.i64.wrap (aV iM 0 (aL o.draws o.drawn) o.issued+1)) o.issued })
def Or.hash (o:Or) (t:ByteArray):Int×Or:=match aG xa t o.hashes with
 | some h=>(h,o)
 | none=>(o.fresh.1,{ o.fresh.2 with hashes:=cx xa t o.fresh.1 o.fresh.2.hashes })
def Or.meet (o:Or) (h:Int):Or:=if aV iM 0 h o.issued=0 then { o with met:=cx iM h 1 o.met } else o
theorem Pp (o:Or) (h:0<=o.drawn):dl () o.m=some (o.fresh.1,o.fresh.2.m):=by
 obtain ⟨draws,drawn,bad,issued,met,hashes,tags,seals,opens,plains⟩:=o
 simp only [Or.m,Or.fresh,Or.clash] at *
 rw [at2]
 unfold qE aL
 have fin:∀ (n:Int) (K:Bool->Option Qh),
   cond (n==0) (K true) (cond (decide (aV iM 0 n issued>0)) (K true) (cond (decide (aV iM 0 n met>0)) (K true) (K bad)))=K (bad||(n==0||(decide (aV iM 0 n issued>0)||decide (aV iM 0 n met>0)))):=by
  intro n K
  cases n==0<;>cases decide (aV iM 0 n issued>0)<;>cases decide (aV iM 0 n met>0)<;>cases bad<;>rfl
 by_cases hd:drawn<(draws.length:Int)
 ·rw [ap hd,ap h,ap hd,if_pos hd]
  exact fin (draws.getD drawn.toNat 0) (fun b=>some (draws.getD drawn.toNat 0,(draws,IntKind.i64.wrap (drawn+1),b,()),cx iM (draws.getD drawn.toNat 0) (IntKind.i64.wrap (aV iM 0 (draws.getD drawn.toNat 0) issued+1)) issued,met,hashes,tags,seals,opens,plains,()))
 ·rw [bq hd,if_neg hd]
  exact fin (IntKind.u64.wrap (9223372036854775808+IntKind.u64.wrap drawn)) (fun b=>some (IntKind.u64.wrap (9223372036854775808+IntKind.u64.wrap drawn),(draws,IntKind.i64.wrap (drawn+1),b,()),cx iM (IntKind.u64.wrap (9223372036854775808+IntKind.u64.wrap drawn)) (IntKind.i64.wrap (aV iM 0 (IntKind.u64.wrap (9223372036854775808+IntKind.u64.wrap drawn)) issued+1)) issued,met,hashes,tags,seals,opens,plains,()))
theorem akH (o:Or) (t:ByteArray) (h:0<=o.drawn):gS (t,()) o.m=some ((o.hash t).1,(o.hash t).2.m):=by
 have hf:=Pp o h
 obtain ⟨draws,drawn,bad,issued,met,hashes,tags,seals,opens,plains⟩:=o
 simp only [Or.m,Or.hash] at *
 rw [at3]
 unfold qF
 cases hm:aG xa t hashes with
 | some v =>
  have e1:(!BY xa t hashes)=false:=by unfold BY; rw [hm]; rfl
  have e2:aV xa 0 t hashes=v:=by unfold aV; rw [hm]; rfl
  refine (eu e1).trans ?_
  show some (aV xa 0 t hashes,_)=_
  rw [e2]
 | none =>
  have e1:(!BY xa t hashes)=true:=by unfold BY; rw [hm]; rfl
  refine (eC e1).trans ?_
  rw [hf]
  rfl
theorem Gh (o:Or) (h:Int):bN (h,()) o.m=some ((),(o.meet h).m):=by
 obtain ⟨draws,drawn,bad,issued,met,hashes,tags,seals,opens,plains⟩:=o
 simp only [Or.m,Or.meet] at *
 rw [at4]
 unfold qG
 by_cases hq:aV iM 0 h issued=0
 ·rw [if_pos hq]
  exact eC (beq_iff_eq.2 hq)
 ·rw [if_neg hq]
  exact eu (beq_false_of_ne hq)
theorem aok (o:Or):pT () o.m=some (o.drawn,()):=rfl
theorem aFT (o:Or):pV () o.m=some (o.bad,()):=rfl
def Or.new (draws:List Int):Or:=⟨draws,0,false,[],[],[],[],[],[],[]⟩
theorem Lf {draws:List Int} (h:draws.length<=17592186044416):gj (draws,()) ()=some ((),(Or.new draws).m):=by
 rw [at1]
 unfold qz ju
 rw [ap (by show draws.length*8<=_; omega)]
 rfl
abbrev RW:=Int×Int×Int×ByteArray×ByteArray×Int
abbrev rw0:RW:=(0,0,0,eB,eB,0)
structure Rf where
 draws:List Int
 rows:List RW
 met:List Int
 bads:Int
def Rf.m (p:Rf):adu:=((p.bads,()),p.draws,p.rows,p.met,())
def Rf.mo (p:Rf):(Int×Unit)×List Int×Unit×List Int×List RW×Unit:=((p.bads,()),p.draws,(),p.met,p.rows,())
def Rf.clash (p:Rf) (h:Int):Bool:=h==0||(p.rows.any (fun y=>y.2.2.2.2.2==h)||p.met.any (fun y=>y==h))
def Rf.draw (p:Rf) (t k n:Int) (a b:ByteArray):Int×Rf:=(aL p.draws p.rows.length,{ p with rows:=p.rows++[(t,k,n,a,b,aL p.draws p.rows.length)],bads:=if p.clash (aL p.draws p.rows.length) then IntKind.i64.wrap (p.bads+1) else p.bads })
def cu (t k n:Int) (a b:ByteArray) (y:RW):Bool:=t != 0&&(y.1==t&&(y.2.1==k&&(y.2.2.1==n&&(y.2.2.2.1.toList==a.toList&&y.2.2.2.2.1.toList==b.toList))))
def Rf.value (p:Rf) (t k n:Int) (a b:ByteArray):Int×Rf:=match p.rows.find? (cu t k n a b) with
 | some y=>(y.2.2.2.2.2,p)
 | none=>p.draw t k n a b
theorem g7 {α:Type} (pre suf:List α) (x z:α):(pre++x::suf).getD pre.length z=x:=by simp [List.getD]
theorem G0 (h z:Int) (d:List Int) (me:List Int):∀ (suf pre:List RW),(pre++suf).length<=1000000000 ->
  fC (h,(pre.length:Int),()) ((z,()),d,pre++suf,me,())=some (if suf.any (fun y=>y.2.2.2.2.2==h) then .inl ((true,()),((z,()),d,pre++suf,me,())) else .inr ((),((z,()),d,pre++suf,me,())))
 | [],pre,hlen=>by
  rw [Qr]
  unfold dJ
  rw [bq (by simp)]
  rfl
 | y::suf,pre,hlen=>by
  rw [Qr]
  unfold dJ
  have hl:(pre.length:Int)<((pre++y::suf).length:Int):=by simp only [List.length_append,List.length_cons]; omega
  rw [ap hl,ap (by omega),ap hl,Nat.zero_add,Int.toNat_natCast,g7,List.any_cons]
  cases hy:y.2.2.2.2.2==h with
  | true=>rfl
  | false =>
   have ih:=G0 h z d me suf (pre++[y]) (by simpa using hlen)
   have e:IntKind.i64.wrap ((pre.length:Int)+1)=((pre++[y]).length:Int):=by
    simp only [List.length_append,List.length_cons] at hlen
    rw [aQ (by omega) (by omega)]; simp
   rw [e]
   simp only [List.append_assoc,List.singleton_append] at ih
   exact ih
theorem RR (p:Rf) (h:Int) (hl:p.rows.length<=1000000000):gT (h,()) p.m=some (p.rows.any (fun y=>y.2.2.2.2.2==h),()):=by
 obtain ⟨draws,rows,met,bads⟩:=p
 simp only [Rf.m] at *
 rw [auc]
 unfold ko
 have:=G0 h bads draws met rows [] (by simpa using hl)
 simp only [List.nil_append,List.length_nil] at this
 rw [show ((0:Nat):Int)=0 from rfl] at this
 rw [this]
 cases rows.any (fun y=>y.2.2.2.2.2==h)<;>rfl
theorem JA (h z:Int) (d:List Int) (rs:List RW):∀ (suf pre:List Int),(pre++suf).length<=1000000000 ->
  fD (h,(pre.length:Int),()) ((z,()),d,rs,pre++suf,())=some (if suf.any (fun y=>y==h) then .inl ((true,()),((z,()),d,rs,pre++suf,())) else .inr ((),((z,()),d,rs,pre++suf,())))
 | [],pre,hlen=>by
  rw [Qu]
  unfold dK
  rw [bq (by simp)]
  rfl
 | y::suf,pre,hlen=>by
  rw [Qu]
  unfold dK
  have hl:(pre.length:Int)<((pre++y::suf).length:Int):=by simp only [List.length_append,List.length_cons]; omega
  rw [ap hl,ap (by omega),ap hl,Nat.zero_add,Int.toNat_natCast,g7,List.any_cons]
  cases hy:y==h with
  | true=>rfl
  | false =>
   have ih:=JA h z d rs suf (pre++[y]) (by simpa using hlen)
   have e:IntKind.i64.wrap ((pre.length:Int)+1)=((pre++[y]).length:Int):=by
    simp only [List.length_append,List.length_cons] at hlen
    rw [aQ (by omega) (by omega)]; simp
   rw [e]
   simp only [List.append_assoc,List.singleton_append] at ih
   exact ih
theorem aou (p:Rf) (h:Int) (hl:p.met.length<=1000000000):tF (h,()) p.m=some (p.met.any (fun y=>y==h),()):=by
 obtain ⟨draws,rows,met,bads⟩:=p
 simp only [Rf.m] at *
 rw [aud]
 unfold kq
 have:=JA h bads draws rows met [] (by simpa using hl)
 simp only [List.nil_append,List.length_nil] at this
 rw [show ((0:Nat):Int)=0 from rfl] at this
 rw [this]
 cases met.any (fun y=>y==h)<;>rfl
theorem akR (p:Rf) (t k n z:Int) (a b:ByteArray) (hr:p.rows.length<=1000000000) (hm:p.met.length<=1000000000) :
  iU ((t,k,n,a,b,z,()),()) p.m=some ((p.draw t k n a b).1,(p.draw t k n a b).2.mo):=by
 have hi:=fun h=>RR p h hr
 have hs:=fun h=>aou p h hm
 obtain ⟨draws,rows,met,bads⟩:=p
 simp only [Rf.m,Rf.mo,Rf.draw,Rf.clash] at *
 rw [auf]
 unfold rg
 simp only [hi,hs,Option.bind_some,List.nil_append,List.length_cons,List.length_nil,Nat.zero_add]
 have hlen:decide ((rows.length+1)*64<=140737488355328)=true:=decide_eq_true (by omega)
 simp only [hlen,cond_true]
 have fin:∀ (q:Int) (K:Int->Option Qx),
   cond (q==0) (K (IntKind.i64.wrap (bads+1))) (cond (rows.any fun y=>y.2.2.2.2.2==q) (K (IntKind.i64.wrap (bads+1))) (cond (met.any fun y=>y==q) (K (IntKind.i64.wrap (bads+1))) (K bads))) =
    K (if (q==0||((rows.any fun y=>y.2.2.2.2.2==q)||met.any fun y=>y==q))=true then IntKind.i64.wrap (bads+1) else bads):=by
  intro q K
  cases q==0<;>cases (rows.any fun y=>y.2.2.2.2.2==q)<;>cases (met.any fun y=>y==q)<;>rfl
 unfold aL
 by_cases hd:(rows.length:Int)<(draws.length:Int)
 ·rw [ap hd,ap hd,if_pos hd,Int.toNat_natCast]
  exact fin (draws.getD rows.length 0) (fun z=>some (draws.getD rows.length 0,(z,()),draws,(),met,rows++[(t,k,n,a,b,draws.getD rows.length 0)],()))
 ·rw [bq hd,if_neg hd]
  exact fin (IntKind.u64.wrap (9223372036854775808+IntKind.u64.wrap (rows.length:Int))) (fun z=>some (IntKind.u64.wrap (9223372036854775808+IntKind.u64.wrap (rows.length:Int)),(z,()),draws,(),met,rows++[(t,k,n,a,b,IntKind.u64.wrap (9223372036854775808+IntKind.u64.wrap (rows.length:Int)))],()))
def HB (f:RW->Bool):List RW->Nat->Int
 | [],_ => -1
 | y::l,k=>if f y then (k:Int) else HB f l (k+1)
theorem Ls (f:RW->Bool):∀ (suf pre:List RW),match suf.find? f with
  | some y=>0<=HB f suf pre.length/\HB f suf pre.length<(pre++suf).length/\(pre++suf).getD (HB f suf pre.length).toNat rw0=y
  | none=>HB f suf pre.length=-1
 | [],pre=>rfl
 | y::suf,pre=>by
  rw [List.find?_cons]
  unfold HB
  cases hy:f y with
  | true =>
   refine ⟨?_,?_,?_⟩
   ·simp
   ·simp only [if_true,List.length_append,List.length_cons]; omega
   ·simp only [if_true,Int.toNat_natCast]; exact g7 ..
  | false =>
   have ih:=Ls f suf (pre++[y])
   simp only [List.append_assoc,List.singleton_append,List.length_append,List.length_cons,List.length_nil] at ih
   simpa using ih
theorem aat (t k n z w:Int) (a b:ByteArray) (d me:List Int):∀ (suf pre:List RW),(pre++suf).length<=1000000000 ->
  gH ((pre.length:Int),()) ((z,()),d,pre++suf,me,(t,k,n,a,b,w,()),()) =
   some (if HB (cu t k n a b) suf pre.length=-1 then .inr ((),((z,()),d,pre++suf,me,())) else .inl ((HB (cu t k n a b) suf pre.length,()),((z,()),d,pre++suf,me,())))
 | [],pre,hlen=>by
  rw [Qw]
  unfold eP
  rw [bq (by simp)]
  rfl
 | y::suf,pre,hlen=>by
  rw [Qw]
  unfold eP
  have hl:(pre.length:Int)<((pre++y::suf).length:Int):=by simp only [List.length_append,List.length_cons]; omega
  rw [ap hl,ap (by omega),ap hl,Nat.zero_add,Int.toNat_natCast,g7]
  have ih:=aat t k n z w a b d me suf (pre++[y]) (by simpa using hlen)
  have e:IntKind.i64.wrap ((pre.length:Int)+1)=((pre++[y]).length:Int):=by
   simp only [List.length_append,List.length_cons] at hlen
   rw [aQ (by omega) (by omega)]; simp
  rw [e]
  have e2:(pre++[y])++suf=pre++y::suf:=by simp
  have e3:(pre++[y]).length=pre.length+1:=by simp
  rw [e2] at ih
  rw [ih,e3]
  have hx:HB (cu t k n a b) (y::suf) pre.length=if cu t k n a b y then (pre.length:Int) else HB (cu t k n a b) suf (pre.length+1):=rfl
  rw [hx]
  have hn:¬ ((pre.length:Int)=-1):=by omega
  unfold cu
  cases t != 0<;>cases y.1==t<;>cases y.2.1==k<;>cases y.2.2.1==n<;>cases y.2.2.2.1.toList==a.toList<;>cases y.2.2.2.2.1.toList==b.toList<;>first | rfl | (simp only [cond_true,Bool.and_true,if_true,if_neg hn])
theorem aGU (p:Rf) (t k n w:Int) (a b:ByteArray) (hr:p.rows.length<=1000000000) :
  vB ((t,k,n,a,b,w,()),()) p.m=some (HB (cu t k n a b) p.rows 0,p.m):=by
 obtain ⟨draws,rows,met,bads⟩:=p
 simp only [Rf.m] at *
 rw [aue]
 unfold rf
 have:=aat t k n bads w a b draws met rows [] (by simpa using hr)
 simp only [List.nil_append,List.length_nil] at this
 rw [show ((0:Nat):Int)=0 from rfl] at this
 rw [this]
 by_cases h:HB (cu t k n a b) rows 0=-1
 ·rw [if_pos h,h]; rfl
 ·rw [if_neg h]; rfl
theorem aau (p:Rf) (t k n z:Int) (a b:ByteArray) (hr:p.rows.length<=1000000000) (hm:p.met.length<=1000000000) :
  iV ((t,k,n,a,b,z,()),()) p.m=some ((p.value t k n a b).1,(p.value t k n a b).2.mo):=by
 have h1:=aGU p t k n z a b hr
 have h2:=akR p t k n z a b hr hm
 have h3:=Ls (cu t k n a b) p.rows []
 obtain ⟨draws,rows,met,bads⟩:=p
 simp only [Rf.m,Rf.value,List.nil_append,List.length_nil] at *
 rw [aug]
 unfold rh
 rw [h1]
 simp only [Option.bind_some]
 cases hf:rows.find? (cu t k n a b) with
 | some y =>
  rw [hf] at h3
  obtain ⟨g1,g2,g3⟩:=h3
  rw [ap g1,ap g1,ap g2,Nat.zero_add,g3]
  rfl
 | none =>
  rw [hf] at h3
  rw [h3,bq (by decide),h2]
  rfl
def Rf.hash (p:Rf) (t:ByteArray):Int×Rf:=p.value 1 0 0 t eB
theorem akO (p:Rf) (t:ByteArray) (hr:p.rows.length<=1000000000) (hm:p.met.length<=1000000000):gU (t,()) p.m=some ((p.hash t).1,(p.hash t).2.mo):=by
 have h1:=aau p 1 0 0 0 t eB hr hm
 obtain ⟨draws,rows,met,bads⟩:=p
 simp only [Rf.m,Rf.hash] at *
 rw [auh]
 unfold ri
 rw [h1]
 rfl
theorem aol (p:Rf):pU () p.m=some ((p.rows.length:Int),()):=rfl
theorem aFU (p:Rf):pW () p.m=some (decide (p.bads>0),()):=rfl
def Rf.new (draws:List Int):Rf:=⟨draws,[],[],0⟩
theorem aky {draws:List Int} (h:draws.length<=17592186044416):oI (draws,()) ()=some ((),(Rf.new draws).m):=by
 rw [aub]
 unfold qZ
 rw [ap (by omega)]
 rfl
end Go.Proofs.YtljfdfghagiblaaGreat.S2.Mk
