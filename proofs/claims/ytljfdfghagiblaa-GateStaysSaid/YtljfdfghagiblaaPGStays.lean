/- What is refused changes nothing that is trusted; a read never does: in plain words. -/
import Derived.Test.YtljfdfghagiblaaP23f
import Derived.Test.YtljfdfghagiblaaGLGateStays
set_option linter.unusedVariables false
set_option linter.unusedSimpArgs false
namespace Go.Proofs.Ytljfdfghagiblaa.S2.Mk
open Go Go.Proofs.Ytljfdfghagiblaa.S2
structure SI (d:Nat) (j:Nat) (o:Or) (S:List ByteArray):Prop where
  g:G o
  dr:o.drawn≤1000 * j + 1000
  st:∃ n t,StG 256 S n t∧n≤j + 1
  j:j≤40
variable (d:Nat) (now texts:List ByteArray) (s:Int) (tx lf:ByteArray)
abbrev mdS:Mdl:=mdl false s tx lf
def stI (o:Or) (S:List ByteArray):LM_k35_9:=(o.plains,[],[],(o.draws,o.drawn,o.bad,()),o.issued,o.met,o.hashes,o.tags,o.seals,o.opens,(3,5,(d:Int),()),(),(256,()),S,texts,mdS s tx lf,((d:Int),now,()),())
def stJ (x:ActG) (b:TrT) (o:Or) (S:List ByteArray):LM_k35_100026:=(o.plains,[],[],actT x,b,(o.draws,o.drawn,o.bad,()),o.issued,o.met,o.hashes,o.tags,o.seals,o.opens,(3,5,(d:Int),()),(),(256,()),S,texts,mdS s tx lf,((d:Int),now,()),())
def stA (o:Or) (S:List ByteArray):(List Int×Int×Bool×Unit)×List (Int×Int)×List (Int×Int)×List (ByteArray×Int)×List (TagK×Int)×List (SealK×Int)×List (ToldK×Int)×(Int×Int×Int×Unit)×Unit×(Int×Unit)×List ByteArray×List ByteArray×Mdl×(Int×List ByteArray×Unit)×List W2×List ByteArray×List (List ByteArray)×Unit:=((o.draws,o.drawn,o.bad,()),o.issued,o.met,o.hashes,o.tags,o.seals,o.opens,(3,5,(d:Int),()),(),(256,()),S,texts,mdS s tx lf,((d:Int),now,()),[],o.plains,[],())
def GoodJ (j:Nat) (l:List ActG) (r:LO_k35_100026):Prop :=
  (∃ u,r = .inl u∧u.1.2.1 = true)∨∃ o S,SI d (j + 1) o S∧(r = .inr (.inl ((l,(j:Int),()),stA d now texts s tx lf o S))∨r = .inr (.inr ((l,(j:Int),()),stI d now texts s tx lf o S)))
theorem join_stays {j : Nat} {l : List ActG} {x : ActG} {b : TrT} {rf : Bool} {o : Or} {S : List ByteArray} (g : G o) (dr : o.drawn ≤ 1000 * (j : Int) + 2000) (hst : ∃ n t, StG 256 S n t ∧ n ≤ (j : Int) + 1 + (if x.1 = 3 then 0 else 1)) (hj : j < 40) (hb : rf = true → (trustD S []).1 = b) :
    ∃ r,L_k35_100026 (l,(j:Int),rf,()) (stJ d now texts s tx lf x b o S) = some r∧GoodJ d now texts s tx lf j l r:=by
  obtain ⟨n,t,st,hn⟩:=hst
  have hD:=st_D st
  have hT:=e_Trust hD
  have hB:=e_Bad o
  have rest:∀ e,e = (F_k29 () o.m).bind (fun r6=>cond r6.1 ((F_k29 () o.m).bind (fun r7=>some (Sum.inl ((l,r7.1,(j:Int),()),(o.plains,[],[],(o.draws,o.drawn,o.bad,()),o.issued,o.met,o.hashes,o.tags,o.seals,o.opens,(3,5,(d:Int),()),(),(256,()),S,texts,mdS s tx lf,((d:Int),now,()),()))))) (cond (x.1 == 3) ((F_k36 (actT x,()) (acI (d:Int) o S now [] (mdS s tx lf) texts)).bind (fun r5=>some (Sum.inr (Sum.inl ((l,(j:Int),()),((r5.2.2.2.1.1,r5.2.2.2.1.2.1,r5.2.2.2.1.2.2.1,()),r5.2.2.2.2.2.2.2.2.2.1,r5.2.2.2.2.2.2.2.2.2.2.1,r5.2.2.2.2.2.2.2.2.2.2.2.1,r5.2.2.2.2.2.2.2.2.2.2.2.2.1,r5.2.2.2.2.2.2.2.2.2.2.2.2.2.1,r5.2.2.2.2.2.2.2.2.2.2.2.2.2.2.1,(r5.2.1.1,r5.2.1.2.1,r5.2.1.2.2.1,()),(),(r5.2.2.1.1,()),r5.2.2.2.2.2.2.2.1,r5.2.2.2.2.2.2.2.2.2.2.2.2.2.2.2.2.2.1,(r5.2.2.2.2.2.1.1,r5.2.2.2.2.2.1.2.1,r5.2.2.2.2.2.1.2.2.1,r5.2.2.2.2.2.1.2.2.2.1,()),(r5.2.2.2.2.1.1,r5.2.2.2.2.1.2.1,()),r5.2.2.2.2.2.2.2.2.2.2.2.2.2.2.2.2.2.2.1,r5.2.2.2.2.2.2.2.2.2.2.2.2.2.2.2.2.2.2.2.1,r5.2.2.2.2.2.2.2.2.2.2.2.2.2.2.2.2.2.2.2.2.1,())))))) (some (Sum.inr (Sum.inr ((l,(j:Int),()),(o.plains,[],[],(o.draws,o.drawn,o.bad,()),o.issued,o.met,o.hashes,o.tags,o.seals,o.opens,(3,5,(d:Int),()),(),(256,()),S,texts,mdS s tx lf,((d:Int),now,()),())))))) )→∃ r,e = some r∧GoodJ d now texts s tx lf j l r:=by
    intro e he
    rw [he,hB]
    simp only [Option.bind_some]
    cases hbad:o.bad with
    | true=>exact ⟨_,rfl,.inl ⟨_,rfl,rfl⟩⟩
    | false =>
      rw [cond_false]
      by_cases h3:x.1 = 3
      · rw [c_t (beq_iff_eq.2 h3)]
        obtain ⟨b',hA⟩:=e_acted3_no (x:=x) (d:=(d:Int)) (o:=o) (now:=now) (old:=[]) (s:=s) (tx:=tx) (lf:=lf) (texts:=texts) h3 hD
        obtain ⟨n',t',st',hn'⟩:=done_any st (by rw [if_pos h3] at hn; omega)
        rw [hA]
        refine ⟨_,rfl,.inr ⟨o,doneS S,⟨g,by omega,⟨n',t',st',by rw [if_pos h3] at hn; omega⟩,by omega⟩,.inl rfl⟩⟩
      · rw [c_f (beq_false_of_ne h3)]
        rw [if_neg h3] at hn
        refine ⟨_,rfl,.inr ⟨o,S,⟨g,by omega,⟨n,t,st,by omega⟩,by omega⟩,.inr (by rw [← hbad]; rfl)⟩⟩
  obtain ⟨r,hr1,hr2⟩:=rest _ rfl
  refine ⟨r,?_,hr2⟩
  unfold L_k35_100026 ltree_k35_100026
  refine bindS hT ?_
  cases rf with
  | false =>
    refine (c_f rfl).trans ?_
    exact hr1
  | true =>
    obtain rfl:=hb rfl
    refine (c_t rfl).trans ?_
    refine (c_f ?_).trans hr1
    show (true ^^ ((trustD S []).1.1 == (trustD S []).1.1 && ((trustD S []).1.2.1 == (trustD S []).1.2.1 && ((trustD S []).1.2.2.1 == (trustD S []).1.2.2.1 && ((trustD S []).1.2.2.2.1 == (trustD S []).1.2.2.2.1 && ((trustD S []).1.2.2.2.2.1 == (trustD S []).1.2.2.2.2.1 && ((trustD S []).1.2.2.2.2.2.1.toList == (trustD S []).1.2.2.2.2.2.1.toList && true))))))) = false
    simp only [beq_self_eq_true,Bool.and_true,Bool.true_and]
    rfl
def Fin (r:LO_k35_9):Prop:=∀ u,r = .inl u→u.1.1 = true
noncomputable def contK:LO_k35_100026→Option LO_k35_9:=Sum.elim (fun u5=>some (.inl ((u5.1.2.1,()),(u5.2.2.2.1,((u5.2.2.2.2.2.2.2.2.2.2.2.2.2.1.1,()),(u5.2.2.2.2.2.2.2.2.2.2.2.2.2.2.1,()))))))
  (fun u5=>Sum.elim (fun u6=>L_k35_9 (u6.1.1,(IntKind.i64.wrap (u6.1.2.1 + 1),())) (u6.2.2.2.2.2.2.2.2.2.2.2.2.2.2.2.2.1,(u6.2.2.2.2.2.2.2.2.2.2.2.2.2.2.2.2.2.1,(u6.2.2.2.2.2.2.2.2.2.2.2.2.2.2.2.1,((u6.2.1.1,(u6.2.1.2.1,(u6.2.1.2.2.1,()))),(u6.2.2.1,(u6.2.2.2.1,(u6.2.2.2.2.1,(u6.2.2.2.2.2.1,(u6.2.2.2.2.2.2.1,(u6.2.2.2.2.2.2.2.1,((u6.2.2.2.2.2.2.2.2.1.1,(u6.2.2.2.2.2.2.2.2.1.2.1,(u6.2.2.2.2.2.2.2.2.1.2.2.1,()))),((),((u6.2.2.2.2.2.2.2.2.2.2.1.1,()),(u6.2.2.2.2.2.2.2.2.2.2.2.1,(u6.2.2.2.2.2.2.2.2.2.2.2.2.1,((u6.2.2.2.2.2.2.2.2.2.2.2.2.2.1.1,(u6.2.2.2.2.2.2.2.2.2.2.2.2.2.1.2.1,(u6.2.2.2.2.2.2.2.2.2.2.2.2.2.1.2.2.1,(u6.2.2.2.2.2.2.2.2.2.2.2.2.2.1.2.2.2.1,())))),((u6.2.2.2.2.2.2.2.2.2.2.2.2.2.2.1.1,(u6.2.2.2.2.2.2.2.2.2.2.2.2.2.2.1.2.1,())),()))))))))))))))))))
    (fun u6=>L_k35_9 (u6.1.1,(IntKind.i64.wrap (u6.1.2.1 + 1),())) (u6.2.1,(u6.2.2.1,(u6.2.2.2.1,((u6.2.2.2.2.1.1,(u6.2.2.2.2.1.2.1,(u6.2.2.2.2.1.2.2.1,()))),(u6.2.2.2.2.2.1,(u6.2.2.2.2.2.2.1,(u6.2.2.2.2.2.2.2.1,(u6.2.2.2.2.2.2.2.2.1,(u6.2.2.2.2.2.2.2.2.2.1,(u6.2.2.2.2.2.2.2.2.2.2.1,((u6.2.2.2.2.2.2.2.2.2.2.2.1.1,(u6.2.2.2.2.2.2.2.2.2.2.2.1.2.1,(u6.2.2.2.2.2.2.2.2.2.2.2.1.2.2.1,()))),((),((u6.2.2.2.2.2.2.2.2.2.2.2.2.2.1.1,()),(u6.2.2.2.2.2.2.2.2.2.2.2.2.2.2.1,(u6.2.2.2.2.2.2.2.2.2.2.2.2.2.2.2.1,((u6.2.2.2.2.2.2.2.2.2.2.2.2.2.2.2.2.1.1,(u6.2.2.2.2.2.2.2.2.2.2.2.2.2.2.2.2.1.2.1,(u6.2.2.2.2.2.2.2.2.2.2.2.2.2.2.2.2.1.2.2.1,(u6.2.2.2.2.2.2.2.2.2.2.2.2.2.2.2.2.1.2.2.2.1,())))),((u6.2.2.2.2.2.2.2.2.2.2.2.2.2.2.2.2.2.1.1,(u6.2.2.2.2.2.2.2.2.2.2.2.2.2.2.2.2.2.1.2.1,())),()))))))))))))))))) ) u5)
theorem cont_ok {j:Nat} {l:List ActG} {r:LO_k35_100026} (hj:j < 40) (h:GoodJ d now texts s tx lf j l r)
    (ih:∀ o S,SI d (j + 1) o S→∃ r,L_k35_9 (l,((j + 1:Nat):Int),()) (stI d now texts s tx lf o S) = some r∧Fin r):∃ q,contK r = some q∧Fin q:=by
  rcases h with ⟨u,rfl,hu⟩ | ⟨o,S,hS,h⟩
  · refine ⟨_,rfl,fun v hv=>?_⟩
    cases hv
    exact hu
  · obtain ⟨q,h1,h2⟩:=ih o S hS
    have e:IntKind.i64.wrap ((j:Int) + 1) = ((j + 1:Nat):Int):=by rw [i64id (by omega) (by omega)]; simp
    refine ⟨q,?_,h2⟩
    rw [← e] at h1
    rcases h with rfl | rfl
    · exact h1
    · exact h1
theorem Lvs_rep {d:Nat} {l:List ByteArray} (e:l = List.replicate (2 ^ d) ByteArray.empty):Lvs d l:=by
  refine ⟨by rw [e,List.length_replicate],fun s hs=>?_⟩
  rw [e] at hs
  rw [List.eq_of_mem_replicate hs]
  exact Nat.zero_le _
abbrev act0:ActG:=(0,0,0,0,0,ByteArray.empty,ByteArray.empty,[],[])
theorem loop_stays (h4:d≤4) (hnow:Lvs d now) {l:List ActG} (hl:l.length≤140737488355328) (hok:∀ x∈l,ActOkG x):∀ (k j:Nat) (o:Or) (S:List ByteArray),j + k = 40→SI d j o S→∃ r,L_k35_9 (l,(j:Int),()) (stI d now texts s tx lf o S) = some r∧Fin r
  | k,j,o,S,hk,hS=>by
    obtain ⟨g,dr,⟨n,t,st,hn⟩,hj⟩:=hS
    have hT:=e_Trust (st_D st)
    unfold stI
    rw [Le_k35_9]
    unfold ltree_k35_9
    by_cases h1:(j:Int) < (l.length:Int)
    · by_cases h2:j < 40
      · obtain ⟨k,rfl⟩:∃ k',k = k' + 1:=⟨k - 1,by omega⟩
        have ih:=loop_stays h4 hnow hl hok k (j + 1)
        rw [cd_t h1,cd_t (by omega),cd_t (by omega),cd_t h1,Int.toNat_natCast]
        generalize hx:l.getD j act0 = x
        have hxo:ActOkG x:=by
          rw [← hx,List.getD_eq_getElem?_getD,List.getElem?_eq_getElem (by omega)]
          exact hok _ (List.getElem_mem (by omega))
        obtain ⟨leaf,path,o1,hsh,hw,g1,x1,d1,_⟩:=e_show (old:=[]) (x:=x) g (by omega) h4 hnow (by intro l hl; cases hl) (by simp) hxo
        have hu5:u64I 5:=⟨by decide,by decide⟩
        have hD:=st_D st
        have fin : ∀ {rf : Bool} {o' : Or} {S' : List ByteArray}, G o' → o'.drawn ≤ 1000 * (j : Int) + 2000 → (∃ n t, StG 256 S' n t ∧ n ≤ (j : Int) + 1 + (if x.1 = 3 then 0 else 1)) → (rf = true → (trustD S' []).1 = (trustD S []).1) →
            ∃ q,(L_k35_100026 (l,(j:Int),rf,()) (stJ d now texts s tx lf x (trustD S []).1 o' S')).bind contK = some q∧Fin q:=by
          intro rf o' S' g' d' s' b'
          obtain ⟨r,h5,h6⟩:=join_stays d now texts s tx lf (l:=l) (x:=x) g' d' s' h2 b'
          obtain ⟨q,h7,h8⟩:=cont_ok d now texts s tx lf h2 h6 (fun o S hS=>ih o S (by omega) hS)
          exact ⟨q,bindS h5 h7,h8⟩
        by_cases a0:x.1 = 0
        · obtain ⟨g2,x2,d2,_⟩:=read_G g1 (by omega) 3 5 (d:Int) S x.2.2.2.1 leaf path
          have hR:=e_Read (k:=3) (v:=5) (d:=(d:Int)) (sector:=x.2.2.2.1) (S:=S) g1 (by omega) hw (by omega) (by omega) hD hu5 hxo.s
          obtain ⟨q,h7,h8⟩:=fin (rf:=true) g2 (by omega) ⟨n,t,st,by rw [if_neg (by omega)]; omega⟩ (fun _=>rfl)
          refine ⟨q,?_,h8⟩
          refine bindS hT ?_
          refine (c_t (beq_iff_eq.2 a0)).trans ?_
          refine bindS hsh ?_
          refine bindS hR ?_
          exact h7
        by_cases a1:x.1 = 1
        · obtain ⟨g2,x2,d2,n',t',s2,b2⟩:=write_any (d:=d) (S:=S) (sector:=x.2.2.2.1) (epoch:=x.2.2.2.2.1) (p:=x.2.2.2.2.2.1) g1 (by omega) h4 st (by omega) hxo.s hw hxo.h
          have hR:=e_Write (k:=3) (v:=5) (d:=(d:Int)) (sector:=x.2.2.2.1) (epoch:=x.2.2.2.2.1) (p:=x.2.2.2.2.2.1) (S:=S) g1 (by omega) hw (by omega) (by omega) hD hu5 hxo.s hxo.h
          generalize writeF 3 5 (d:Int) o1 S x.2.2.2.1 x.2.2.2.2.1 x.2.2.2.2.2.1 leaf path = r at *
          obtain ⟨q,h7,h8⟩:=fin (rf:=r.1.2 != 0) g2 (by omega) ⟨n',t',s2.1,by rw [if_neg (by omega)]; omega⟩ (fun h=>by rw [b2 (bne_iff_ne.1 h)])
          refine ⟨q,?_,h8⟩
          refine bindS hT ?_
          refine (c_f (beq_false_of_ne a0)).trans ?_
          refine (c_t (beq_iff_eq.2 a1)).trans ?_
          refine bindS hsh ?_
          refine bindS hR ?_
          exact h7
        by_cases a2:x.1 = 2
        · obtain ⟨g2,x2,d2,n',t',s2,b2⟩:=trim_any (d:=d) (S:=S) (sector:=x.2.2.2.1) g1 (by omega) h4 st (by omega) hxo.s hw
          have hR:=e_Trim (k:=3) (v:=5) (d:=(d:Int)) (sector:=x.2.2.2.1) (S:=S) g1 (by omega) hw (by omega) (by omega) hD hxo.s
          generalize trimF (d:Int) o1 S x.2.2.2.1 leaf path = r at *
          obtain ⟨q,h7,h8⟩:=fin (rf:=r.1.2 != 0) g2 (by omega) ⟨n',t',s2.1,by rw [if_neg (by omega)]; omega⟩ (fun h=>by rw [b2 (bne_iff_ne.1 h)])
          refine ⟨q,?_,h8⟩
          refine bindS hT ?_
          refine (c_f (beq_false_of_ne a0)).trans ?_
          refine (c_f (beq_false_of_ne a1)).trans ?_
          refine (c_t (beq_iff_eq.2 a2)).trans ?_
          refine bindS hsh ?_
          refine bindS hR ?_
          exact h7
        by_cases a4:x.1 = 4
        · obtain ⟨g2,x2,d2,_⟩:=rec_G g1 (by omega) (d:Int) S leaf path
          obtain ⟨n',t',s2,hn2,b2⟩:=rec_any (o:=o1) st (by omega) (d:Int) leaf path
          have hR:=e_Recover (k:=3) (v:=5) (d:=(d:Int)) (S:=S) g1 (by omega) hw hD
          generalize recF (d:Int) o1 S leaf path = r at *
          obtain ⟨q,h7,h8⟩:=fin (rf:=r.1.2 != 0) g2 (by omega) ⟨n',t',s2,by rw [if_neg (by omega)]; omega⟩ (fun h=>by rw [b2 (bne_iff_ne.1 h)])
          refine ⟨q,?_,h8⟩
          refine bindS hT ?_
          refine (c_f (beq_false_of_ne a0)).trans ?_
          refine (c_f (beq_false_of_ne a1)).trans ?_
          refine (c_f (beq_false_of_ne a2)).trans ?_
          refine (c_t (beq_iff_eq.2 a4)).trans ?_
          refine bindS hsh ?_
          refine bindS hR ?_
          exact h7
        · obtain ⟨q,h7,h8⟩:=fin (rf:=false) g (by omega) ⟨n,t,st,by split <;> omega⟩ (fun h=>by cases h)
          refine ⟨q,?_,h8⟩
          refine bindS hT ?_
          refine (c_f (beq_false_of_ne a0)).trans ?_
          refine (c_f (beq_false_of_ne a1)).trans ?_
          refine (c_f (beq_false_of_ne a2)).trans ?_
          refine (c_f (beq_false_of_ne a4)).trans ?_
          exact h7
      · rw [cd_t h1,cd_f (by omega)]
        exact ⟨_,rfl,fun u hu=>by cases hu⟩
    · rw [cd_f h1]
      exact ⟨_,rfl,fun u hu=>by cases hu⟩
theorem pow_wrap {d:Nat} (h4:d≤4):IntKind.u64.wrap (d:Int) = (d:Int)∧IntKind.i64.wrap (1 * 2 ^ Min.min d 64) = ((2 ^ d:Nat):Int):=by
  obtain ⟨h1,h2⟩:=pow_small h4
  have hc:(2:Int) ^ d = ((2 ^ d:Nat):Int):=by simp
  refine ⟨u64id (by omega) (by omega),?_⟩
  rw [Nat.min_eq_left (by omega),Int.one_mul,hc,i64id (by omega) (by omega)]
theorem GateStays_plain {draws:List Int} {dp:Int} {l:List ActG} (hd:∀ x,x∈draws→U x) (hdl:draws.length≤17592186044416) (hl:l.length≤140737488355328) (hok:∀ x∈l,ActOkG x):F_k35 (draws,dp,l,()) () = some (true,()):=by
  have g0:=new_G hd
  have hN:=e_New hdl
  have hF:=e_fixed23
  unfold F_k35 tree_k35
  refine bindS hN ?_
  by_cases hdp:0≤dp∧dp≤4
  · obtain ⟨d,rfl⟩:∃ d:Nat,dp = (d:Int):=⟨dp.toNat,by omega⟩
    have h4:d≤4:=by omega
    have d0:(Or.new draws).drawn = 0:=rfl
    obtain ⟨S,root,hM,st,_⟩:=e_made (o:=Or.new draws) (d:=d) g0 (by rw [d0]; decide) h4
    obtain ⟨g1,x1⟩:=build_G (d:=d) (ls:=[]) g0 (by omega) (by rw [d0]; decide)
    have d1:=(build_wf (d:=d) (ls:=[]) g0.wf (by omega) (by rw [d0]; decide)).2.2.1
    rw [d0] at d1
    obtain ⟨p1,p2⟩:=pow_small h4
    obtain ⟨w1,w2⟩:=pow_wrap h4
    refine bindS hM ?_
    rw [Sum.elim_inl]
    refine bindS hF ?_
    refine (c_f rfl).trans ?_
    refine (c_f rfl).trans ?_
    dsimp only
    rw [w1,Int.toNat_natCast,w2,cd_t (by omega),cd_t (by omega),cd_t (by omega),cd_t (by omega),cd_t (by omega),cd_t (by omega),cd_t (by omega)]
    obtain ⟨r,hr,hfin⟩:=loop_stays d (List.replicate (2 ^ d) ByteArray.empty) (List.replicate (2 ^ d) ByteArray.empty) 0 ByteArray.empty ByteArray.empty h4 (Lvs_rep rfl) hl hok 40 0 (buildS d [] (Or.new draws)).2 S rfl ⟨g1,by omega,⟨1,_,st,by omega⟩,by omega⟩
    rw [Int.toNat_natCast]
    refine bindS hr ?_
    rcases r with u | u
    · have:=hfin u rfl
      rw [Sum.elim_inl,this]
    · rw [Sum.elim_inr]
  · have hM:=e_made_no (o:=Or.new draws) hdp
    refine bindS hM ?_
    rw [Sum.elim_inr]
    refine bindS hF ?_
    refine (c_f rfl).trans ?_
    refine bindS hF ?_
    rfl
end Go.Proofs.Ytljfdfghagiblaa.S2.Mk
