/- The tree's functions of the program,in plain words. -/
import Derived.Test.YtljfdfghagiblaaGreatPmk1
import Derived.Test.YtljfdfghagiblaaGreatGmerkle
namespace Go.Proofs.YtljfdfghagiblaaGreat.S2.Mk
open Go Go.Proofs.YtljfdfghagiblaaGreat.S2
abbrev P1:Int:=4611686018427387905
theorem RI (a b:ByteArray):(a++b).size=a.size+b.size:=by
 rw [← cB,gA,List.length_append,cB,cB]
theorem akG (o:Or) (t:ByteArray) (h:0<=o.drawn) (ht:t.size<=140737488355328):dI (t,()) o.m=some ((o.hash (bh t)).1,(o.hash (bh t)).2.m):=by
 have hf:=akH o (bh t) h
 obtain ⟨draws,drawn,bad,issued,met,hashes,tags,seals,opens,plains⟩:=o
 simp only [Or.m] at *
 rw [at8]
 unfold qW
 rw [ap (by omega)]
 unfold bh at *
 rw [hf]
 rfl
theorem Ma (o:Or) {a b:Int} (ha:U a) (hb:U b) (h:0<=o.drawn):gh (a,b,()) o.m=some ((o.hash (dR a b)).1,(o.hash (dR a b)).2.m):=by
 have hf:=akH o (dR a b) h
 have h1:=aM ha.1 ha.2
 have h2:=aM hb.1 hb.2
 obtain ⟨draws,drawn,bad,issued,met,hashes,tags,seals,opens,plains⟩:=o
 simp only [Or.m] at *
 rw [at9]
 unfold qX
 rw [dQ ha.1 ha.2,dQ hb.1 hb.2]
 simp only [Option.bind_some]
 have h4:(ByteArray.mk #[110,111,100,101]).size=4:=rfl
 rw [ap (by omega),ap (by rw [RI,h4]; omega)]
 unfold dR at *
 rw [hf]
 rfl
theorem aGS:∀ j:Fin 512,(BitVec.ofNat 64 j.val &&& BitVec.ofNat 64 1).toNat=j.val % 2:=by decide +kernel
theorem aGT:∀ j:Fin 512,(BitVec.ofNat 64 j.val ^^^ BitVec.ofNat 64 1).toNat=Pj j.val:=by decide +kernel
theorem akI {j:Nat} (h:j<512):IntKind.i64.wrap (((BitVec.ofInt 64 (j:Int) &&& BitVec.ofInt 64 1).toNat:Nat):Int)=((j % 2:Nat):Int):=by
 have:=aGS ⟨j,h⟩
 dsimp only at this
 rw [BitVec.ofInt_natCast,show BitVec.ofInt 64 (1:Int)=BitVec.ofNat 64 1 from rfl,this,aQ (by omega) (by omega)]
theorem azk {j:Nat}:Pj j<=j+1:=by unfold Pj; split<;>omega
theorem akJ {j:Nat} (h:j<512):IntKind.i64.wrap (((BitVec.ofInt 64 (j:Int) ^^^ BitVec.ofInt 64 1).toNat:Nat):Int)=((Pj j:Nat):Int):=by
 have:=aGT ⟨j,h⟩
 dsimp only at this
 have hs:Pj j<=j+1:=azk
 rw [BitVec.ofInt_natCast,show BitVec.ofInt 64 (1:Int)=BitVec.ofNat 64 1 from rfl,this,aQ (by omega) (by omega)]
theorem akK (o:Or) {h b:Int} {i:Nat} (hh:U h) (hb:U b) (hi:i<512) (hd:0<=o.drawn):nF (h,b,(i:Int),()) o.m=some ((o.hash (cG h b i)).1,(o.hash (cG h b i)).2.m):=by
 have h1:=Ma o hh hb hd
 have h2:=Ma o hb hh hd
 obtain ⟨draws,drawn,bad,issued,met,hashes,tags,seals,opens,plains⟩:=o
 simp only [Or.m] at *
 rw [aua]
 unfold qY cG
 rw [akI hi]
 by_cases hm:i % 2=1
 ·rw [eC (by rw [hm]; rfl),if_pos hm,h2]
  rfl
 ·rw [eu (by rw [show i % 2=0 by omega]; rfl),if_neg hm,h1]
  rfl
theorem RJ:∀ (l:List (Int×Int)) (o:Or) (acc:List Int),Wf o->o.drawn+l.length<=P1->(∀ p,p∈l->U p.1/\U p.2) ->
  uO gh l o.m acc=some (acc++(az (l.map fun p=>dR p.1 p.2) o).1,(az (l.map fun p=>dR p.1 p.2) o).2.m)
 | [],o,acc,w,hb,hu=>by simp [uO,az]
 | p::l,o,acc,w,hb,hu=>by
  simp only [List.length_cons] at hb
  obtain ⟨h1,h2⟩:=hu p List.mem_cons_self
  obtain ⟨w1,x1,d1,f1⟩:=cJ w (dR p.1 p.2) (by unfold P1 at hb; omega)
  have hd:=w.d0
  simp only [uO]
  rw [Ma o h1 h2 hd]
  simp only [Option.bind_some]
  have ih:=RJ l (o.hash (dR p.1 p.2)).2 (acc++[(o.hash (dR p.1 p.2)).1]) w1 (by omega) (fun q hq=>hu q (List.mem_cons_of_mem _ hq))
  rw [ih]
  simp [az]
theorem aoq {l:List Int} (h:∀ x,x∈l->U x):∀ p,p∈lT l->U p.1/\U p.2:=by
 intro p hp
 unfold lT at hp
 obtain ⟨k,_,rfl⟩:=List.mem_map.1 hp
 exact ⟨iY h _,iY h _⟩
theorem aor {o:Or} {l:List Int} (w:Wf o) (hu:∀ x,x∈l->U x) (he:l.length % 2=0) (hl:l.length<=1000000) (hd:o.drawn<=4000000000000000000) :
  jD (l,()) o.m=some ((az (bt l) o).1,(az (bt l) o).2.m):=by
 have hok:okA l o.drawn=true:=by
  unfold okA
  simp only [Bool.and_eq_true,decide_eq_true_eq,List.all_eq_true]
  refine ⟨⟨⟨⟨he,by omega⟩,w.d0⟩,by omega⟩,fun x hx=>?_⟩
  obtain ⟨h0,h1⟩:=hu x hx
  exact ⟨h0,by omega⟩
 unfold jD
 refine (eC (show okA l o.drawn=true from hok)).trans ?_
 show uO gh (lT l) o.m []=_
 rw [RJ _ o [] w (by unfold P1 lT; simp; omega) (aoq hu)]
 rfl
def aT (ls:List ByteArray) (k d:Nat):List ByteArray:=(List.range' k d).map fun i=>bh (ls.getD i eB)
theorem a8 (ls:List ByteArray) (k d:Nat):(aT ls k d).length=d:=by simp [aT]
theorem Lp {ls:List ByteArray} (hs:∀ s,s∈ls->s.size<=140737488355328) (k:Nat):(ls.getD k eB).size<=140737488355328:=by
 by_cases h:k<ls.length
 ·rw [List.getD_eq_getElem?_getD,List.getElem?_eq_getElem h]
  exact hs _ (List.getElem_mem h)
 ·rw [List.getD_eq_getElem?_getD,List.getElem?_eq_none (by omega)]
  decide
theorem akL (x:Int) (ls:List ByteArray) (n:Nat) (hn:n<=1000) (hs:∀ s,s∈ls->s.size<=140737488355328):∀ (d k:Nat) (o:Or) (acc:List Int),k+d=n->acc.length=k->Wf o->o.drawn+d<=P1 ->
  fB (x,ls,(n:Int),(k:Int),()) ((o.draws,o.drawn,o.bad,()),o.issued,o.met,o.hashes,o.tags,o.seals,o.opens,o.plains,acc,()) =
   some ((x,()),(((az (aT ls k d) o).2.draws,(az (aT ls k d) o).2.drawn,(az (aT ls k d) o).2.bad,()),(az (aT ls k d) o).2.issued,(az (aT ls k d) o).2.met,(az (aT ls k d) o).2.hashes,(az (aT ls k d) o).2.tags,(az (aT ls k d) o).2.seals,(az (aT ls k d) o).2.opens,(az (aT ls k d) o).2.plains,acc++(az (aT ls k d) o).1,()))
 | 0,k,o,acc,hk,ha,w,hb=>by
  rw [Qj]
  unfold eK
  rw [bq (by omega)]
  simp [aT,az]
 | d+1,k,o,acc,hk,ha,w,hb=>by
  unfold P1 at hb
  obtain ⟨w1,x1,d1,f1⟩:=cJ w (bh (ls.getD k eB)) (by omega)
  have hd0:=w.d0
  have ih:=akL x ls n hn hs d (k+1) (o.hash (bh (ls.getD k eB))).2 (acc++[(o.hash (bh (ls.getD k eB))).1]) (by omega) (by simp [ha]) w1 (by unfold P1; omega)
  have e1:IntKind.i64.wrap ((k:Int)+1)=((k+1:Nat):Int):=by rw [aQ (by omega) (by omega)]; simp
  have hrange:aT ls k (d+1)=bh (ls.getD k eB)::aT ls (k+1) d:=by simp [aT,List.range'_succ]
  rw [Qj]
  unfold eK
  rw [ap (by omega),hrange]
  simp only [az]
  rw [List.append_assoc] at ih
  have hlf:=akG o (ls.getD k eB) hd0 (Lp hs k)
  unfold Or.m at hlf
  by_cases hkl:(k:Int)<(ls.length:Int)
  ·rw [ap hkl,ap (by omega),ap hkl,Int.toNat_natCast,hlf]
   simp only [Option.bind_some]
   rw [ap (by first | omega | (simp; omega)),e1,List.nil_append]
   exact ih
  ·have hg : ls.getD k eB = eB := by
    rw [List.getD_eq_getElem?_getD,List.getElem?_eq_none (by omega)]; rfl
   rw [bq hkl]
   rw [hg] at hlf ih ⊢
   rw [hlf]
   simp only [Option.bind_some]
   rw [ap (by first | omega | (simp; omega)),e1,List.nil_append]
   exact ih
theorem aaq (n:Nat) (hn:n<=8):∀ (d k:Nat) (o:Or) (l:List Int) (tr:List (List Int)),k+d=n->tr.length=k+1->Wf o->l.length=2 ^ d->(∀ x,x∈l->U x)->o.drawn+2 ^ d<=4000000000000000000 ->
  eL (l,(n:Int),(k:Int),()) ((o.draws,o.drawn,o.bad,()),o.issued,o.met,o.hashes,o.tags,o.seals,o.opens,o.plains,tr,()) =
   some ((),(((cV d l o).2.draws,(cV d l o).2.drawn,(cV d l o).2.bad,()),(cV d l o).2.issued,(cV d l o).2.met,(cV d l o).2.hashes,(cV d l o).2.tags,(cV d l o).2.seals,(cV d l o).2.opens,(cV d l o).2.plains,tr++(cV d l o).1.tail,()))
 | 0,k,o,l,tr,hk,ht,w,hl,hu,hb=>by
  rw [KW]
  unfold dw
  rw [bq (by omega)]
  simp [cV]
 | d+1,k,o,l,tr,hk,ht,w,hl,hu,hb=>by
  have hpn:(2:Nat) ^ (d+1)=2 ^ d+2 ^ d:=by rw [Nat.pow_succ]; omega
  have hp:(2:Int) ^ (d+1)=2 ^ d+2 ^ d:=by rw [Int.pow_succ]; omega
  have hcast:((2 ^ d:Nat):Int)=2 ^ d:=by simp
  have hsmall:2 ^ d<=2 ^ 8:=Nat.pow_le_pow_right (by decide) (by omega)
  have hpos:0<2 ^ d:=Nat.pow_pos (by decide)
  have htx:(bt l).length=2 ^ d:=by rw [iN,hl]; omega
  obtain ⟨w1,x1,d1,f1⟩:=dg (bt l) w (by rw [htx]; omega)
  have u1:=Bk (l:=bt l) w (by rw [htx]; omega)
  have l1:(az (bt l) o).1.length=2 ^ d:=by rw [cn,htx]
  have ih:=aaq n hn d (k+1) (az (bt l) o).2 (az (bt l) o).1 (tr++[(az (bt l) o).1]) (by omega) (by simp [ht]) w1 l1 u1 (by rw [htx] at d1; omega)
  have e1:IntKind.i64.wrap ((k:Int)+1)=((k+1:Nat):Int):=by rw [aQ (by omega) (by omega)]; simp
  have hab:=aor (o:=o) w hu (by omega) (by omega) (by omega)
  unfold Or.m at hab
  rw [KW]
  unfold dw
  rw [ap (by omega),hab]
  simp only [Option.bind_some]
  rw [ap (by first | omega | (simp; omega)),e1,List.nil_append]
  refine Eq.trans ih ?_
  obtain ⟨r,hr⟩:=Bm d (az (bt l) o).1 (az (bt l) o).2
  simp only [cV,List.tail_cons,hr,List.append_assoc,List.singleton_append]
def bi (d:Nat) (ls:List ByteArray) (o:Or):List (List Int)×Or:=cV d (az (aT ls 0 (2 ^ d)) o).1 (az (aT ls 0 (2 ^ d)) o).2
def aar (d:Int) (ls:List ByteArray):Prop:=0<=d/\d<=8/\ls.length<=2 ^ d.toNat
theorem aak {o:Or} {d:Int} {ls:List ByteArray} (w:Wf o) (hd:o.drawn<=3000000000000000000) (hs:∀ s,s∈ls->s.size<=140737488355328) :
  (aar d ls->iT (d,ls,()) o.m=some (((bi d.toNat ls o).1,true,()),(bi d.toNat ls o).2.m))/\(¬ aar d ls->iT (d,ls,()) o.m=some (([],false,()),o.m)):=by
 have e0:iT (d,ls,()) o.m=qJ fB eL d ls o.draws o.drawn o.bad o.issued o.met o.hashes o.tags o.seals o.opens o.plains some:=rfl
 rw [e0]
 unfold qJ
 constructor
 ·rintro ⟨h0,h8,hl⟩
  obtain ⟨n,rfl⟩:∃ n:Nat,d=(n:Int):=⟨d.toNat,by omega⟩
  simp only [Int.toNat_natCast] at *
  have hmin:Min.min n 64=n:=Nat.min_eq_left (by omega)
  have hsmall:2 ^ n<=2 ^ 8:=Nat.pow_le_pow_right (by decide) (by omega)
  have hcast:(2:Int) ^ n=((2 ^ n:Nat):Int):=by simp
  have hw:IntKind.i64.wrap (1*2 ^ Min.min n 64)=((2 ^ n:Nat):Int):=by rw [hmin,Int.one_mul,hcast,aQ (by omega) (by omega)]
  have hb:=akL (n:Int) ls (2 ^ n) (by omega) hs (2 ^ n) 0 o [] (by omega) rfl w (by unfold P1; omega)
  obtain ⟨w1,x1,d1,f1⟩:=dg (aT ls 0 (2 ^ n)) w (by rw [a8]; omega)
  have u1:=Bk (l:=aT ls 0 (2 ^ n)) w (by rw [a8]; omega)
  rw [a8] at d1
  have ht:=aaq n (by omega) n 0 (az (aT ls 0 (2 ^ n)) o).2 (az (aT ls 0 (2 ^ n)) o).1 [(az (aT ls 0 (2 ^ n)) o).1] (by omega) rfl w1 (by rw [cn,a8]) u1 (by omega)
  rw [bq (by omega),bq (by omega),ap (by omega),bq (by rw [hw]; omega),ap (by omega),hw]
  rw [show ((0:Nat):Int)=0 from rfl] at hb ht
  rw [hb]
  simp only [Option.bind_some,List.nil_append]
  rw [ht]
  simp only [Option.bind_some]
  unfold bi
  obtain ⟨r,hr⟩:=Bm n (az (aT ls 0 (2 ^ n)) o).1 (az (aT ls 0 (2 ^ n)) o).2
  simp only [hr,List.tail_cons,List.singleton_append]
  rfl
 ·intro hn
  by_cases h0:d<0
  ·rw [ap h0]; rfl
  ·rw [bq h0]
   by_cases h8:d>8
   ·rw [ap h8]; rfl
   ·rw [bq h8,ap (by omega)]
    obtain ⟨n,rfl⟩:∃ n:Nat,d=(n:Int):=⟨d.toNat,by omega⟩
    simp only [Int.toNat_natCast] at *
    have hmin:Min.min n 64=n:=Nat.min_eq_left (by omega)
    have hsmall:2 ^ n<=2 ^ 8:=Nat.pow_le_pow_right (by decide) (by omega)
    have hcast:(2:Int) ^ n=((2 ^ n:Nat):Int):=by simp
    have hnn:(0:Int)<=((2 ^ n:Nat):Int):=Int.natCast_nonneg _
    have hw:IntKind.i64.wrap (1*2 ^ Min.min n 64)=((2 ^ n:Nat):Int):=by rw [hmin,Int.one_mul,hcast,aQ (by omega) (by omega)]
    have hl:¬ ls.length<=2 ^ n:=fun h=>hn ⟨by omega,by omega,by simpa using h⟩
    rw [ap (by rw [hw]; omega)]
    rfl
theorem wR {o:Or} {d:Nat} {ls:List ByteArray} (w:Wf o) (h8:d<=8) (hd:o.drawn<=3000000000000000000) :
  Wf (bi d ls o).2/\Pq o (bi d ls o).2/\(bi d ls o).2.drawn<=o.drawn+512/\oK (bi d ls o).2.tab (bi d ls o).1/\KM (bi d ls o).1/\(bi d ls o).1.length=d+1 /\
   ((bi d ls o).1.headD []).length=2 ^ d/\∀ i,i<2 ^ d->(bi d ls o).2.tab (bh (ls.getD i eB))=some (((bi d ls o).1.headD []).getD i 0):=by
 have hsmall:2 ^ d<=2 ^ 8:=Nat.pow_le_pow_right (by decide) h8
 have hcast:(2:Int) ^ d=((2 ^ d:Nat):Int):=by simp
 obtain ⟨w1,x1,d1,f1⟩:=dg (aT ls 0 (2 ^ d)) w (by rw [a8]; omega)
 have u1:=Bk (l:=aT ls 0 (2 ^ d)) w (by rw [a8]; omega)
 rw [a8] at d1 f1
 obtain ⟨w2,x2,d2,t2,u2⟩:=aap d (az (aT ls 0 (2 ^ d)) o).1 w1 (by rw [cn,a8]) u1 (by omega)
 obtain ⟨r,hr⟩:=Bm d (az (aT ls 0 (2 ^ d)) o).1 (az (aT ls 0 (2 ^ d)) o).2
 have hh:(bi d ls o).1.headD []=(az (aT ls 0 (2 ^ d)) o).1:=by unfold bi; rw [hr]; rfl
 refine ⟨w2,x1.trans x2,?_,t2,u2,RH _ _ _,?_,fun i hi=>?_⟩
 ·show (cV d _ _).2.drawn<=_
  omega
 ·rw [hh,cn,a8]
 ·rw [hh]
  have:=f1 i hi
  have e:(aT ls 0 (2 ^ d)).getD i eB=bh (ls.getD i eB):=by
   rw [List.getD_eq_getElem?_getD,List.getElem?_eq_getElem (by rw [a8]; exact hi)]
   simp [aT]
  rw [e] at this
  exact x2.per _ _ this
def RK:List (List Int)->Prop
 | []=>False
 | [l]=>l.length=1
 | l::l'::r=>l.length=2*l'.length/\RK (l'::r)
theorem ue {T:Tab}:∀ {t:List (List Int)},oK T t->RK t
 | [],h=>h
 | [l],h=>h
 | l::l'::r,⟨h1,_,h3⟩=>⟨h1,ue h3⟩
theorem Pr:∀ (l:List Int) (r:List (List Int)),RK (l::r)->l.length=2 ^ r.length
 | l,[],h=>h
 | l,l'::r,⟨h1,h2⟩=>by
  have:=Pr l' r h2
  rw [List.length_cons,Nat.pow_succ,h1,this]
  omega
theorem GZ (n:Nat) (hn:n<=8) (tr:List (List Int)) (ht:tr.length=n+1):∀ (suf pre:List (List Int)),tr=pre++suf->RK suf ->
  gE ((n:Int),tr,((n+1:Nat):Int),(pre.length:Int),()) ()=some (.inr ((),()))
 | [],pre,e,h=>h.elim
 | l::r,pre,e,h=>by
  have hp:=Pr l r h
  have hlen:pre.length+r.length=n:=by rw [e] at ht; simp at ht; omega
  rw [Ql]
  unfold eM
  have e1:IntKind.i64.wrap ((n:Int)-(pre.length:Int))=((r.length:Nat):Int):=by rw [aQ (by omega) (by omega)]; omega
  have e2:IntKind.i64.wrap ((pre.length:Int)+1)=((pre++[l]).length:Int):=by rw [aQ (by omega) (by omega)]; simp
  have hsmall:2 ^ r.length<=2 ^ 8:=Nat.pow_le_pow_right (by decide) (by omega)
  have hcast:(2:Int) ^ r.length=((2 ^ r.length:Nat):Int):=by simp
  have hg:tr.getD pre.length []=l:=by rw [e]; exact g7 ..
  have hlt:(pre.length:Int)<(tr.length:Int):=by rw [ht]; omega
  rw [ap (by omega),ap (by omega),ap hlt,e1,ap (by omega),Int.toNat_natCast,Int.toNat_natCast,hg,Nat.min_eq_left (by omega),Int.one_mul,hcast,aQ (by omega) (by omega),hp,
   eu (by simp),e2]
  cases r with
  | nil =>
   rw [Ql]
   unfold eM
   rw [bq (by simp at hlen ⊢; omega)]
  | cons l' r=>exact GZ n hn tr ht (l'::r) (pre++[l]) (by rw [e]; simp) h.2
theorem akM {tr:List (List Int)} (h:RK tr) (hl:tr.length<=9):qN (tr,()) ()=some (true,()):=by
 rw [at6]
 unfold qM
 have hpos:0<tr.length:=by cases tr with | nil=>exact h.elim | cons=>simp
 have e1:IntKind.i64.wrap ((tr.length:Int)-1)=((tr.length-1:Nat):Int):=by rw [aQ (by omega) (by omega)]; omega
 have:=GZ (tr.length-1) (by omega) tr (by omega) tr [] rfl h
 rw [show tr.length-1+1=tr.length by omega] at this
 rw [e1,bq (by omega),bq (by omega)]
 simp only [List.length_nil] at this
 rw [show ((0:Nat):Int)=0 from rfl] at this
 rw [this]
 rfl
theorem Lq (i:Nat) (hi:i<256) (n:Nat) (hn:n<=8) (tr:List (List Int)) (ht:tr.length=n+1):∀ (suf pre:List (List Int)) (acc:List Int),tr=pre++suf->RK suf->acc.length=pre.length->i / 2 ^ pre.length<(suf.headD []).length ->
  gF (tr,(i:Int),(n:Int),(pre.length:Int),()) (acc,())=some ((),(acc++bB suf (i / 2 ^ pre.length),()))
 | [],pre,acc,e,h,_,_=>h.elim
 | [l],pre,acc,e,h,ha,hlt=>by
  have hlen:pre.length=n:=by rw [e] at ht; simp at ht; omega
  rw [Qn]
  unfold eN
  rw [bq (by omega)]
  simp [bB]
 | l::l'::r,pre,acc,e,h,ha,hlt=>by
  have hlen:pre.length+r.length+1=n:=by rw [e] at ht; simp at ht; omega
  have h2:l.length=2*l'.length:=h.1
  simp only [List.headD_cons] at hlt
  rw [Qn]
  unfold eN
  have hltr:(pre.length:Int)<(tr.length:Int):=by rw [ht]; omega
  have hg:tr.getD pre.length []=l:=by rw [e]; exact g7 ..
  have ej:(i:Int).fdiv (2 ^ Min.min pre.length 64)=((i / 2 ^ pre.length:Nat):Int):=by
   have hp2:(2:Int) ^ pre.length=((2 ^ pre.length:Nat):Int):=by simp
   rw [Nat.min_eq_left (by omega),Int.fdiv_eq_ediv_of_nonneg _ (by rw [hp2]; exact Int.natCast_nonneg _),hp2]
   simp
  have hj:i / 2 ^ pre.length<512:=Nat.lt_of_le_of_lt (Nat.div_le_self _ _) (by omega)
  have hsib:Pj (i / 2 ^ pre.length)<l.length:=by
   generalize i / 2 ^ pre.length=j at hlt
   unfold Pj
   split<;>omega
  have hlt2:i / 2 ^ pre.length / 2<l'.length:=by
   generalize i / 2 ^ pre.length=j at hlt
   omega
  have e2:IntKind.i64.wrap ((pre.length:Int)+1)=((pre++[l]).length:Int):=by rw [aQ (by omega) (by omega)]; simp
  have ed:i / 2 ^ pre.length / 2=i / 2 ^ (pre++[l]).length:=by
   rw [List.length_append,List.length_singleton,Nat.pow_succ,Nat.div_div_eq_div_mul]
  rw [ap (by omega),ap (by omega),ap hltr,ap (by omega),Int.toNat_natCast,hg,ej,akJ hj,ap (by omega),ap (by omega),Int.toNat_natCast,ap (by first | omega | (simp; omega)),e2,
   Lq i hi n hn tr ht (l'::r) (pre++[l]) _ (by rw [e]; simp) h.2 (by simp [ha]) (by simp only [List.headD_cons]; rw [← ed]; exact hlt2)]
  simp only [bB,List.nil_append,List.append_assoc,List.singleton_append,ed]
theorem azd {tr:List (List Int)} (h:RK tr) (hl:tr.length<=9) (i:Int) :
  xX (tr,i,()) ()=if 0<=i/\i<(tr.headD []).length then some ((bB tr i.toNat,true,()),()) else some (([],false,()),()):=by
 have hpos:0<tr.length:=by cases tr with | nil=>exact h.elim | cons=>simp
 have hg:tr.getD 0 []=tr.headD []:=by cases tr with | nil=>rfl | cons=>rfl
 rw [at7]
 unfold qQ
 rw [akM h hl]
 simp only [Option.bind_some,Bool.not_true,cond_false]
 rw [hg]
 by_cases h0:i<0
 ·rw [ap h0,if_neg (by omega)]
 ·rw [bq h0,ap (by omega)]
  by_cases h1:i≥((tr.headD []).length:Int)
  ·rw [ap h1,if_neg (by omega)]
  ·rw [bq h1,if_pos (by omega)]
   have e1:IntKind.i64.wrap ((tr.length:Int)-1)=((tr.length-1:Nat):Int):=by rw [aQ (by omega) (by omega)]; omega
   have hlen:(tr.headD []).length<=256:=by
    cases tr with
    | nil=>exact h.elim
    | cons l r =>
     have:=Pr l r h
     simp only [List.headD_cons,this]
     exact (Nat.pow_le_pow_right (by decide) (by simp at hl; omega):2 ^ r.length<=2 ^ 8)
   have:=Lq i.toNat (by omega) (tr.length-1) (by omega) tr (by omega) tr [] [] rfl h rfl (by simp only [List.length_nil,Nat.pow_zero,Nat.div_one]; omega)
   simp only [List.length_nil,Nat.pow_zero,Nat.div_one,List.nil_append] at this
   rw [e1]
   rw [show ((0:Nat):Int)=0 from rfl,show (i.toNat:Int)=i by omega] at this
   rw [this]
   rfl
def dh:Int->Nat->List Int->Or->Int×Or
 | h,_,[],o=>(h,o)
 | h,i,b::p,o=>dh (o.hash (cG h b i)).1 (i / 2) p (o.hash (cG h b i)).2
theorem zm:∀ (p:List Int) (h:Int) (i:Nat) {o:Or},Wf o->o.drawn+p.length<=P1->U h ->
  Wf (dh h i p o).2/\Pq o (dh h i p o).2/\(dh h i p o).2.drawn<=o.drawn+p.length/\U (dh h i p o).1/\Ca (dh h i p o).2.tab h i p=some (dh h i p o).1
 | [],h,i,o,w,hb,hu=>⟨w,Pq.refl o,by show o.drawn<=o.drawn+0; omega,hu,rfl⟩
 | b::p,h,i,o,w,hb,hu=>by
  unfold P1 at hb
  simp only [List.length_cons] at hb
  obtain ⟨w1,x1,d1,f1⟩:=cJ w (cG h b i) (by omega)
  obtain ⟨w2,x2,d2,u2,f2⟩:=zm p (o.hash (cG h b i)).1 (i / 2) w1 (by unfold P1; omega) (w1.val _ _ f1).1
  refine ⟨w2,x1.trans x2,?_,u2,?_⟩
  ·simp only [dh,List.length_cons]; omega
  ·show ((dh h i (b::p) o).2.tab (cG h b i)).bind _=_
   have:(dh h i (b::p) o).2.tab (cG h b i)=some (o.hash (cG h b i)).1:=x2.per _ _ f1
   rw [this]
   exact f2
theorem Ju (i:Nat) (hi:i<256) (pa:List Int) (hp:pa.length<=8) (hu:∀ x,x∈pa->U x):∀ (suf pre:List Int) (h:Int) (o:Or),pa=pre++suf->Wf o->U h->o.drawn+suf.length<=P1 ->
  gG ((i:Int),h,pa,(pa.length:Int),(pre.length:Int),()) ((o.draws,o.drawn,o.bad,()),o.issued,o.met,o.hashes,o.tags,o.seals,o.opens,o.plains,()) =
   some (((dh h (i / 2 ^ pre.length) suf o).1,()),(dh h (i / 2 ^ pre.length) suf o).2.m)
 | [],pre,h,o,e,w,hh,hb=>by
  rw [Qp]
  unfold eO
  rw [bq (by rw [e]; simp)]
  rfl
 | b::suf,pre,h,o,e,w,hh,hb=>by
  unfold P1 at hb
  simp only [List.length_cons] at hb
  have hlen:pre.length+suf.length+1=pa.length:=by rw [e]; simp; omega
  have hb':U b:=hu b (by rw [e]; simp)
  have hg:pa.getD pre.length 0=b:=by rw [e]; exact g7 ..
  have ej:(i:Int).fdiv (2 ^ Min.min pre.length 64)=((i / 2 ^ pre.length:Nat):Int):=by
   have hp2:(2:Int) ^ pre.length=((2 ^ pre.length:Nat):Int):=by simp
   rw [Nat.min_eq_left (by omega),Int.fdiv_eq_ediv_of_nonneg _ (by rw [hp2]; exact Int.natCast_nonneg _),hp2]
   simp
  have hj:i / 2 ^ pre.length<512:=Nat.lt_of_le_of_lt (Nat.div_le_self _ _) (by omega)
  obtain ⟨w1,x1,d1,f1⟩:=cJ w (cG h b (i / 2 ^ pre.length)) (by omega)
  have hd0:=w.d0
  have hjn:=akK o hh hb' hj hd0
  unfold Or.m at hjn
  have e2:IntKind.i64.wrap ((pre.length:Int)+1)=((pre++[b]).length:Int):=by rw [aQ (by omega) (by omega)]; simp
  have ed:i / 2 ^ pre.length / 2=i / 2 ^ (pre++[b]).length:=by
   rw [List.length_append,List.length_singleton,Nat.pow_succ,Nat.div_div_eq_div_mul]
  rw [Qp]
  unfold eO
  rw [ap (by omega),ap (by omega),ap (by omega),ap (by omega),Int.toNat_natCast,hg,ej,hjn]
  simp only [Option.bind_some]
  rw [e2]
  refine (Ju i hi pa hp hu suf (pre++[b]) (o.hash (cG h b (i / 2 ^ pre.length))).1 (o.hash (cG h b (i / 2 ^ pre.length))).2 (by rw [e]; simp) w1 (w1.val _ _ f1).1 (by unfold P1; omega)).trans ?_
  rw [← ed]
  rfl
def fF (i:Int) (p:List Int):Prop:=p.length<=8/\0<=i/\i<2 ^ p.length
theorem Po {o:Or} {i:Int} {p:List Int} {s:ByteArray} (w:Wf o) (hd:o.drawn<=4000000000000000000) (hs:s.size<=140737488355328) (hu:∀ x,x∈p->U x) :
  (fF i p->cT (s,i,p,()) o.m=some (((dh (o.hash (bh s)).1 i.toNat p (o.hash (bh s)).2).1,true,()),(dh (o.hash (bh s)).1 i.toNat p (o.hash (bh s)).2).2.m)) /\
   (¬ fF i p->cT (s,i,p,()) o.m=some ((0,false,()),o.m)):=by
 have e0:cT (s,i,p,()) o.m=qV dI gG s i p o.draws o.drawn o.bad o.issued o.met o.hashes o.tags o.seals o.opens o.plains some:=rfl
 rw [e0]
 unfold qV
 constructor
 ·rintro ⟨h8,h0,h1⟩
  have hcast:(2:Int) ^ p.length=((2 ^ p.length:Nat):Int):=by simp
  have hsmall:2 ^ p.length<=2 ^ 8:=Nat.pow_le_pow_right (by decide) h8
  have hlf:=akG o s w.d0 hs
  unfold Or.m at hlf
  obtain ⟨w1,x1,d1,f1⟩:=cJ w (bh s) (by omega)
  have hc:=Ju i.toNat (by omega) p h8 hu p [] (o.hash (bh s)).1 (o.hash (bh s)).2 rfl w1 (w1.val _ _ f1).1 (by unfold P1; omega)
  simp only [List.length_nil,Nat.pow_zero,Nat.div_one] at hc
  rw [show ((0:Nat):Int)=0 from rfl,show (i.toNat:Int)=i by omega] at hc
  rw [bq (by omega),bq (by omega),bq (by rw [Int.toNat_natCast,Nat.min_eq_left (by omega),Int.one_mul,hcast,aQ (by omega) (by omega)]; omega),hlf]
  simp only [Option.bind_some]
  rw [hc]
  rfl
 ·intro hn
  by_cases h8:(p.length:Int)>8
  ·rw [ap h8]; rfl
  ·rw [bq h8]
   by_cases h0:i<0
   ·rw [ap h0]; rfl
   ·have hcast:(2:Int) ^ p.length=((2 ^ p.length:Nat):Int):=by simp
    have hsmall:2 ^ p.length<=2 ^ 8:=Nat.pow_le_pow_right (by decide) (by omega)
    have hnn:(0:Int)<=((2 ^ p.length:Nat):Int):=Int.natCast_nonneg _
    have hge:¬ i<2 ^ p.length:=fun h=>hn ⟨by omega,by omega,h⟩
    rw [bq h0,ap (by rw [Int.toNat_natCast,Nat.min_eq_left (by omega),Int.one_mul,hcast,aQ (by omega) (by omega)]; rw [hcast] at hge; omega)]
    rfl
end Go.Proofs.YtljfdfghagiblaaGreat.S2.Mk
