/- The tree's functions of the program,in plain words. -/
import Derived.Test.YtljfdfghagiblaaPmk1
import Derived.Test.YtljfdfghagiblaaGmerkle
import Derived.Test.YtljfdfghagiblaaGr03
import Derived.Test.YtljfdfghagiblaaS2y
import Derived.Lib.Repeat
set_option linter.unusedVariables false
set_option linter.unusedSimpArgs false
namespace Go.Proofs.Ytljfdfghagiblaa.S2.Mk
open Go Go.Proofs.Ytljfdfghagiblaa.S2
abbrev Lim:Int:=4611686018427387905
theorem size_app (a b:ByteArray):(a ++ b).size = a.size + b.size:=by
  rw [← bs_len,bs_append,List.length_append,bs_len,bs_len]
theorem e_Leaf (o:Or) (t:ByteArray) (h:0≤o.drawn) (ht:t.size≤140737488355328):F_k45 (t,()) o.m = some ((o.hash (leafT t)).1,(o.hash (leafT t)).2.m):=by
  have hf:=e_Hash o (leafT t) h
  obtain ⟨draws,drawn,bad,issued,met,hashes,tags,seals,opens,plains⟩:=o
  simp only [Or.m] at *
  rw [Fe_k45]
  unfold tree_k45
  rw [cd_t (by omega)]
  unfold leafT at *
  rw [hf]
  rfl
theorem e_Node (o:Or) {a b:Int} (ha:U a) (hb:U b) (h:0≤o.drawn):F_k46 (a,b,()) o.m = some ((o.hash (nodeT a b)).1,(o.hash (nodeT a b)).2.m):=by
  have hf:=e_Hash o (nodeT a b) h
  have h1:=putB_size ha.1 ha.2
  have h2:=putB_size hb.1 hb.2
  obtain ⟨draws,drawn,bad,issued,met,hashes,tags,seals,opens,plains⟩:=o
  simp only [Or.m] at *
  rw [Fe_k46]
  unfold tree_k46
  rw [e_PutUint ha.1 ha.2,e_PutUint hb.1 hb.2]
  simp only [Option.bind_some]
  have h4:(ByteArray.mk #[110,111,100,101]).size = 4:=rfl
  rw [cd_t (by omega),cd_t (by rw [size_app,h4]; omega)]
  unfold nodeT at *
  rw [hf]
  rfl
theorem and1:∀ j:Fin 512,(BitVec.ofNat 64 j.val &&& BitVec.ofNat 64 1).toNat = j.val % 2:=by decide +kernel
theorem xor1:∀ j:Fin 512,(BitVec.ofNat 64 j.val ^^^ BitVec.ofNat 64 1).toNat = sib j.val:=by decide +kernel
theorem and1_int {j:Nat} (h:j < 512):IntKind.i64.wrap (((BitVec.ofInt 64 (j:Int) &&& BitVec.ofInt 64 1).toNat:Nat):Int) = ((j % 2:Nat):Int):=by
  have:=and1 ⟨j,h⟩
  dsimp only at this
  rw [BitVec.ofInt_natCast,show BitVec.ofInt 64 (1:Int) = BitVec.ofNat 64 1 from rfl,this,i64id (by omega) (by omega)]
theorem sib_lt {j:Nat}:sib j≤j + 1:=by unfold sib; split <;> omega
theorem xor1_int {j:Nat} (h:j < 512):IntKind.i64.wrap (((BitVec.ofInt 64 (j:Int) ^^^ BitVec.ofInt 64 1).toNat:Nat):Int) = ((sib j:Nat):Int):=by
  have:=xor1 ⟨j,h⟩
  dsimp only at this
  have hs:sib j≤j + 1:=sib_lt
  rw [BitVec.ofInt_natCast,show BitVec.ofInt 64 (1:Int) = BitVec.ofNat 64 1 from rfl,this,i64id (by omega) (by omega)]
theorem e_joined (o:Or) {h b:Int} {i:Nat} (hh:U h) (hb:U b) (hi:i < 512) (hd:0≤o.drawn):F_k49 (h,b,(i:Int),()) o.m = some ((o.hash (joinT h b i)).1,(o.hash (joinT h b i)).2.m):=by
  have h1:=e_Node o hh hb hd
  have h2:=e_Node o hb hh hd
  obtain ⟨draws,drawn,bad,issued,met,hashes,tags,seals,opens,plains⟩:=o
  simp only [Or.m] at *
  rw [Fe_k49]
  unfold tree_k49 joinT
  rw [and1_int hi]
  by_cases hm:i % 2 = 1
  · rw [c_t (by rw [hm]; rfl),if_pos hm,h2]
    rfl
  · rw [c_f (by rw [show i % 2 = 0 by omega]; rfl),if_neg hm,h1]
    rfl
theorem foldA_eq:∀ (l:List (Int×Int)) (o:Or) (acc:List Int),Wf o→o.drawn + l.length≤Lim→(∀ p,p∈l→U p.1∧U p.2) →
    foldA F_k46 l o.m acc = some (acc ++ (hashAll (l.map fun p=>nodeT p.1 p.2) o).1,(hashAll (l.map fun p=>nodeT p.1 p.2) o).2.m)
  | [],o,acc,w,hb,hu=>by simp [foldA,hashAll]
  | p :: l,o,acc,w,hb,hu=>by
    simp only [List.length_cons] at hb
    obtain ⟨h1,h2⟩:=hu p List.mem_cons_self
    obtain ⟨w1,x1,d1,f1⟩:=hash_wf w (nodeT p.1 p.2) (by unfold Lim at hb; omega)
    have hd:=w.d0
    simp only [foldA]
    rw [e_Node o h1 h2 hd]
    simp only [Option.bind_some]
    have ih:=foldA_eq l (o.hash (nodeT p.1 p.2)).2 (acc ++ [(o.hash (nodeT p.1 p.2)).1]) w1 (by omega) (fun q hq=>hu q (List.mem_cons_of_mem _ hq))
    rw [ih]
    simp [hashAll]
theorem pairs_U {l:List Int} (h:∀ x,x∈l→U x):∀ p,p∈pairsA l→U p.1∧U p.2:=by
  intro p hp
  unfold pairsA at hp
  obtain ⟨k,_,rfl⟩:=List.mem_map.1 hp
  exact ⟨U_getD h _,U_getD h _⟩
theorem e_above {o:Or} {l:List Int} (w:Wf o) (hu:∀ x,x∈l→U x) (he:l.length % 2 = 0) (hl:l.length≤1000000) (hd:o.drawn≤4000000000000000000) :
    F_k48 (l,()) o.m = some ((hashAll (texts l) o).1,(hashAll (texts l) o).2.m):=by
  have hok:okA l o.drawn = true:=by
    unfold okA
    simp only [Bool.and_eq_true,decide_eq_true_eq,List.all_eq_true]
    refine ⟨⟨⟨⟨he,by omega⟩,w.d0⟩,by omega⟩,fun x hx=>?_⟩
    obtain ⟨h0,h1⟩:=hu x hx
    exact ⟨h0,by omega⟩
  unfold F_k48
  refine (c_t (show okA l o.drawn = true from hok)).trans ?_
  show foldA F_k46 (pairsA l) o.m [] = _
  rw [foldA_eq _ o [] w (by unfold Lim pairsA; simp; omega) (pairs_U hu)]
  rfl
def leafTs (ls:List ByteArray) (k d:Nat):List ByteArray:=(List.range' k d).map fun i=>leafT (ls.getD i ByteArray.empty)
theorem leafTs_len (ls:List ByteArray) (k d:Nat):(leafTs ls k d).length = d:=by simp [leafTs]
theorem getD_size {ls:List ByteArray} (hs:∀ s,s∈ls→s.size≤140737488355328) (k:Nat):(ls.getD k ByteArray.empty).size≤140737488355328:=by
  by_cases h:k < ls.length
  · rw [List.getD_eq_getElem?_getD,List.getElem?_eq_getElem h]
    exact hs _ (List.getElem_mem h)
  · rw [List.getD_eq_getElem?_getD,List.getElem?_eq_none (by omega)]
    decide
theorem build5 (x:Int) (ls:List ByteArray) (n:Nat) (hn:n≤1000) (hs:∀ s,s∈ls→s.size≤140737488355328):∀ (d k:Nat) (o:Or) (acc:List Int),k + d = n→acc.length = k→Wf o→o.drawn + d≤Lim →
    L_k43_5 (x,ls,(n:Int),(k:Int),()) ((o.draws,o.drawn,o.bad,()),o.issued,o.met,o.hashes,o.tags,o.seals,o.opens,o.plains,acc,()) =
      some ((x,()),(((hashAll (leafTs ls k d) o).2.draws,(hashAll (leafTs ls k d) o).2.drawn,(hashAll (leafTs ls k d) o).2.bad,()),(hashAll (leafTs ls k d) o).2.issued,(hashAll (leafTs ls k d) o).2.met,(hashAll (leafTs ls k d) o).2.hashes,(hashAll (leafTs ls k d) o).2.tags,(hashAll (leafTs ls k d) o).2.seals,(hashAll (leafTs ls k d) o).2.opens,(hashAll (leafTs ls k d) o).2.plains,acc ++ (hashAll (leafTs ls k d) o).1,()))
  | 0,k,o,acc,hk,ha,w,hb=>by
    rw [Le_k43_5]
    unfold ltree_k43_5
    rw [cd_f (by omega)]
    simp [leafTs,hashAll]
  | d + 1,k,o,acc,hk,ha,w,hb=>by
    unfold Lim at hb
    obtain ⟨w1,x1,d1,f1⟩:=hash_wf w (leafT (ls.getD k ByteArray.empty)) (by omega)
    have hd0:=w.d0
    have ih:=build5 x ls n hn hs d (k + 1) (o.hash (leafT (ls.getD k ByteArray.empty))).2 (acc ++ [(o.hash (leafT (ls.getD k ByteArray.empty))).1]) (by omega) (by simp [ha]) w1 (by unfold Lim; omega)
    have e1:IntKind.i64.wrap ((k:Int) + 1) = ((k + 1:Nat):Int):=by rw [i64id (by omega) (by omega)]; simp
    have hrange:leafTs ls k (d + 1) = leafT (ls.getD k ByteArray.empty) :: leafTs ls (k + 1) d:=by simp [leafTs,List.range'_succ]
    rw [Le_k43_5]
    unfold ltree_k43_5
    rw [cd_t (by omega),hrange]
    simp only [hashAll]
    rw [List.append_assoc] at ih
    have hlf:=e_Leaf o (ls.getD k ByteArray.empty) hd0 (getD_size hs k)
    unfold Or.m at hlf
    by_cases hkl:(k:Int) < (ls.length:Int)
    · rw [cd_t hkl,cd_t (by omega),cd_t hkl,Int.toNat_natCast,hlf]
      simp only [Option.bind_some]
      rw [cd_t (by first | omega | (simp; omega)),e1,List.nil_append]
      exact ih
    · have hg : ls.getD k ByteArray.empty = ByteArray.empty := by
        rw [List.getD_eq_getElem?_getD,List.getElem?_eq_none (by omega)]; rfl
      rw [cd_f hkl]
      rw [hg] at hlf ih ⊢
      rw [hlf]
      simp only [Option.bind_some]
      rw [cd_t (by first | omega | (simp; omega)),e1,List.nil_append]
      exact ih
theorem build14 (n:Nat) (hn:n≤8):∀ (d k:Nat) (o:Or) (l:List Int) (tr:List (List Int)),k + d = n→tr.length = k + 1→Wf o→l.length = 2 ^ d→(∀ x,x∈l→U x)→o.drawn + 2 ^ d≤4000000000000000000 →
    L_k43_14 (l,(n:Int),(k:Int),()) ((o.draws,o.drawn,o.bad,()),o.issued,o.met,o.hashes,o.tags,o.seals,o.opens,o.plains,tr,()) =
      some ((),(((treeS d l o).2.draws,(treeS d l o).2.drawn,(treeS d l o).2.bad,()),(treeS d l o).2.issued,(treeS d l o).2.met,(treeS d l o).2.hashes,(treeS d l o).2.tags,(treeS d l o).2.seals,(treeS d l o).2.opens,(treeS d l o).2.plains,tr ++ (treeS d l o).1.tail,()))
  | 0,k,o,l,tr,hk,ht,w,hl,hu,hb=>by
    rw [Le_k43_14]
    unfold ltree_k43_14
    rw [cd_f (by omega)]
    simp [treeS]
  | d + 1,k,o,l,tr,hk,ht,w,hl,hu,hb=>by
    have hpn:(2:Nat) ^ (d + 1) = 2 ^ d + 2 ^ d:=by rw [Nat.pow_succ]; omega
    have hp:(2:Int) ^ (d + 1) = 2 ^ d + 2 ^ d:=by rw [Int.pow_succ]; omega
    have hcast:((2 ^ d:Nat):Int) = 2 ^ d:=by simp
    have hsmall:2 ^ d≤2 ^ 8:=Nat.pow_le_pow_right (by decide) (by omega)
    have hpos:0 < 2 ^ d:=Nat.pow_pos (by decide)
    have htx:(texts l).length = 2 ^ d:=by rw [texts_len,hl]; omega
    obtain ⟨w1,x1,d1,f1⟩:=hashAll_wf (texts l) w (by rw [htx]; omega)
    have u1:=hashAll_U (l:=texts l) w (by rw [htx]; omega)
    have l1:(hashAll (texts l) o).1.length = 2 ^ d:=by rw [hashAll_len,htx]
    have ih:=build14 n hn d (k + 1) (hashAll (texts l) o).2 (hashAll (texts l) o).1 (tr ++ [(hashAll (texts l) o).1]) (by omega) (by simp [ht]) w1 l1 u1 (by rw [htx] at d1; omega)
    have e1:IntKind.i64.wrap ((k:Int) + 1) = ((k + 1:Nat):Int):=by rw [i64id (by omega) (by omega)]; simp
    have hab:=e_above (o:=o) w hu (by omega) (by omega) (by omega)
    unfold Or.m at hab
    rw [Le_k43_14]
    unfold ltree_k43_14
    rw [cd_t (by omega),hab]
    simp only [Option.bind_some]
    rw [cd_t (by first | omega | (simp; omega)),e1,List.nil_append]
    refine Eq.trans ih ?_
    obtain ⟨r,hr⟩:=tree_head d (hashAll (texts l) o).1 (hashAll (texts l) o).2
    simp only [treeS,List.tail_cons,hr,List.append_assoc,List.singleton_append]
def buildS (d:Nat) (ls:List ByteArray) (o:Or):List (List Int)×Or:=treeS d (hashAll (leafTs ls 0 (2 ^ d)) o).1 (hashAll (leafTs ls 0 (2 ^ d)) o).2
def okBuild (d:Int) (ls:List ByteArray):Prop:=0≤d∧d≤8∧ls.length≤2 ^ d.toNat
theorem e_Build {o:Or} {d:Int} {ls:List ByteArray} (w:Wf o) (hd:o.drawn≤3000000000000000000) (hs:∀ s,s∈ls→s.size≤140737488355328) :
    (okBuild d ls→F_k43 (d,ls,()) o.m = some (((buildS d.toNat ls o).1,true,()),(buildS d.toNat ls o).2.m))∧(¬ okBuild d ls→F_k43 (d,ls,()) o.m = some (([],false,()),o.m)):=by
  have e0:F_k43 (d,ls,()) o.m = tree_k43 L_k43_5 L_k43_14 d ls o.draws o.drawn o.bad o.issued o.met o.hashes o.tags o.seals o.opens o.plains some:=rfl
  rw [e0]
  unfold tree_k43
  constructor
  · rintro ⟨h0,h8,hl⟩
    obtain ⟨n,rfl⟩:∃ n:Nat,d = (n:Int):=⟨d.toNat,by omega⟩
    simp only [Int.toNat_natCast] at *
    have hmin:Min.min n 64 = n:=Nat.min_eq_left (by omega)
    have hsmall:2 ^ n≤2 ^ 8:=Nat.pow_le_pow_right (by decide) (by omega)
    have hcast:(2:Int) ^ n = ((2 ^ n:Nat):Int):=by simp
    have hw:IntKind.i64.wrap (1 * 2 ^ Min.min n 64) = ((2 ^ n:Nat):Int):=by rw [hmin,Int.one_mul,hcast,i64id (by omega) (by omega)]
    have hb:=build5 (n:Int) ls (2 ^ n) (by omega) hs (2 ^ n) 0 o [] (by omega) rfl w (by unfold Lim; omega)
    obtain ⟨w1,x1,d1,f1⟩:=hashAll_wf (leafTs ls 0 (2 ^ n)) w (by rw [leafTs_len]; omega)
    have u1:=hashAll_U (l:=leafTs ls 0 (2 ^ n)) w (by rw [leafTs_len]; omega)
    rw [leafTs_len] at d1
    have ht:=build14 n (by omega) n 0 (hashAll (leafTs ls 0 (2 ^ n)) o).2 (hashAll (leafTs ls 0 (2 ^ n)) o).1 [(hashAll (leafTs ls 0 (2 ^ n)) o).1] (by omega) rfl w1 (by rw [hashAll_len,leafTs_len]) u1 (by omega)
    rw [cd_f (by omega),cd_f (by omega),cd_t (by omega),cd_f (by rw [hw]; omega),cd_t (by omega),hw]
    rw [show ((0:Nat):Int) = 0 from rfl] at hb ht
    rw [hb]
    simp only [Option.bind_some,List.nil_append]
    rw [ht]
    simp only [Option.bind_some]
    unfold buildS
    obtain ⟨r,hr⟩:=tree_head n (hashAll (leafTs ls 0 (2 ^ n)) o).1 (hashAll (leafTs ls 0 (2 ^ n)) o).2
    simp only [hr,List.tail_cons,List.singleton_append]
    rfl
  · intro hn
    by_cases h0:d < 0
    · rw [cd_t h0]; rfl
    · rw [cd_f h0]
      by_cases h8:d > 8
      · rw [cd_t h8]; rfl
      · rw [cd_f h8,cd_t (by omega)]
        obtain ⟨n,rfl⟩:∃ n:Nat,d = (n:Int):=⟨d.toNat,by omega⟩
        simp only [Int.toNat_natCast] at *
        have hmin:Min.min n 64 = n:=Nat.min_eq_left (by omega)
        have hsmall:2 ^ n≤2 ^ 8:=Nat.pow_le_pow_right (by decide) (by omega)
        have hcast:(2:Int) ^ n = ((2 ^ n:Nat):Int):=by simp
        have hnn:(0:Int)≤((2 ^ n:Nat):Int):=Int.natCast_nonneg _
        have hw:IntKind.i64.wrap (1 * 2 ^ Min.min n 64) = ((2 ^ n:Nat):Int):=by rw [hmin,Int.one_mul,hcast,i64id (by omega) (by omega)]
        have hl:¬ ls.length≤2 ^ n:=fun h=>hn ⟨by omega,by omega,by simpa using h⟩
        rw [cd_t (by rw [hw]; omega)]
        rfl
theorem build_wf {o:Or} {d:Nat} {ls:List ByteArray} (w:Wf o) (h8:d≤8) (hd:o.drawn≤3000000000000000000) :
    Wf (buildS d ls o).2∧Ext o (buildS d ls o).2∧(buildS d ls o).2.drawn≤o.drawn + 512∧TreeT (buildS d ls o).2.tab (buildS d ls o).1∧AllU (buildS d ls o).1∧(buildS d ls o).1.length = d + 1 ∧
      ((buildS d ls o).1.headD []).length = 2 ^ d∧∀ i,i < 2 ^ d→(buildS d ls o).2.tab (leafT (ls.getD i ByteArray.empty)) = some (((buildS d ls o).1.headD []).getD i 0):=by
  have hsmall:2 ^ d≤2 ^ 8:=Nat.pow_le_pow_right (by decide) h8
  have hcast:(2:Int) ^ d = ((2 ^ d:Nat):Int):=by simp
  obtain ⟨w1,x1,d1,f1⟩:=hashAll_wf (leafTs ls 0 (2 ^ d)) w (by rw [leafTs_len]; omega)
  have u1:=hashAll_U (l:=leafTs ls 0 (2 ^ d)) w (by rw [leafTs_len]; omega)
  rw [leafTs_len] at d1 f1
  obtain ⟨w2,x2,d2,t2,u2⟩:=tree_wf d (hashAll (leafTs ls 0 (2 ^ d)) o).1 w1 (by rw [hashAll_len,leafTs_len]) u1 (by omega)
  obtain ⟨r,hr⟩:=tree_head d (hashAll (leafTs ls 0 (2 ^ d)) o).1 (hashAll (leafTs ls 0 (2 ^ d)) o).2
  have hh:(buildS d ls o).1.headD [] = (hashAll (leafTs ls 0 (2 ^ d)) o).1:=by unfold buildS; rw [hr]; rfl
  refine ⟨w2,x1.trans x2,?_,t2,u2,tree_len _ _ _,?_,fun i hi=>?_⟩
  · show (treeS d _ _).2.drawn≤_
    omega
  · rw [hh,hashAll_len,leafTs_len]
  · rw [hh]
    have:=f1 i hi
    have e:(leafTs ls 0 (2 ^ d)).getD i ByteArray.empty = leafT (ls.getD i ByteArray.empty):=by
      rw [List.getD_eq_getElem?_getD,List.getElem?_eq_getElem (by rw [leafTs_len]; exact hi)]
      simp [leafTs]
    rw [e] at this
    exact x2.per _ _ this
def ShpL:List (List Int)→Prop
  | []=>False
  | [l]=>l.length = 1
  | l :: l' :: r=>l.length = 2 * l'.length∧ShpL (l' :: r)
theorem shp_of_tree {T:Tab}:∀ {t:List (List Int)},TreeT T t→ShpL t
  | [],h=>h
  | [l],h=>h
  | l :: l' :: r,⟨h1,_,h3⟩=>⟨h1,shp_of_tree h3⟩
theorem shp_pow:∀ (l:List Int) (r:List (List Int)),ShpL (l :: r)→l.length = 2 ^ r.length
  | l,[],h=>h
  | l,l' :: r,⟨h1,h2⟩=>by
    have:=shp_pow l' r h2
    rw [List.length_cons,Nat.pow_succ,h1,this]
    omega
theorem shaped_loop (n:Nat) (hn:n≤8) (tr:List (List Int)) (ht:tr.length = n + 1):∀ (suf pre:List (List Int)),tr = pre ++ suf→ShpL suf →
    L_k50_5 ((n:Int),tr,((n + 1:Nat):Int),(pre.length:Int),()) () = some (.inr ((),()))
  | [],pre,e,h=>h.elim
  | l :: r,pre,e,h=>by
    have hp:=shp_pow l r h
    have hlen:pre.length + r.length = n:=by rw [e] at ht; simp at ht; omega
    rw [Le_k50_5]
    unfold ltree_k50_5
    have e1:IntKind.i64.wrap ((n:Int) - (pre.length:Int)) = ((r.length:Nat):Int):=by rw [i64id (by omega) (by omega)]; omega
    have e2:IntKind.i64.wrap ((pre.length:Int) + 1) = ((pre ++ [l]).length:Int):=by rw [i64id (by omega) (by omega)]; simp
    have hsmall:2 ^ r.length≤2 ^ 8:=Nat.pow_le_pow_right (by decide) (by omega)
    have hcast:(2:Int) ^ r.length = ((2 ^ r.length:Nat):Int):=by simp
    have hg:tr.getD pre.length [] = l:=by rw [e]; exact getD_pre ..
    have hlt:(pre.length:Int) < (tr.length:Int):=by rw [ht]; omega
    rw [cd_t (by omega),cd_t (by omega),cd_t hlt,e1,cd_t (by omega),Int.toNat_natCast,Int.toNat_natCast,hg,Nat.min_eq_left (by omega),Int.one_mul,hcast,i64id (by omega) (by omega),hp,
      c_f (by simp),e2]
    cases r with
    | nil =>
      rw [Le_k50_5]
      unfold ltree_k50_5
      rw [cd_f (by simp at hlen ⊢; omega)]
    | cons l' r=>exact shaped_loop n hn tr ht (l' :: r) (pre ++ [l]) (by rw [e]; simp) h.2
theorem e_shaped {tr:List (List Int)} (h:ShpL tr) (hl:tr.length≤9):F_k50 (tr,()) () = some (true,()):=by
  rw [Fe_k50]
  unfold tree_k50
  have hpos:0 < tr.length:=by cases tr with | nil=>exact h.elim | cons=>simp
  have e1:IntKind.i64.wrap ((tr.length:Int) - 1) = ((tr.length - 1:Nat):Int):=by rw [i64id (by omega) (by omega)]; omega
  have:=shaped_loop (tr.length - 1) (by omega) tr (by omega) tr [] rfl h
  rw [show tr.length - 1 + 1 = tr.length by omega] at this
  rw [e1,cd_f (by omega),cd_f (by omega)]
  simp only [List.length_nil] at this
  rw [show ((0:Nat):Int) = 0 from rfl] at this
  rw [this]
  rfl
theorem path_loop (i:Nat) (hi:i < 256) (n:Nat) (hn:n≤8) (tr:List (List Int)) (ht:tr.length = n + 1):∀ (suf pre:List (List Int)) (acc:List Int),tr = pre ++ suf→ShpL suf→acc.length = pre.length→i / 2 ^ pre.length < (suf.headD []).length →
    L_k47_5 (tr,(i:Int),(n:Int),(pre.length:Int),()) (acc,()) = some ((),(acc ++ pathT suf (i / 2 ^ pre.length),()))
  | [],pre,acc,e,h,_,_=>h.elim
  | [l],pre,acc,e,h,ha,hlt=>by
    have hlen:pre.length = n:=by rw [e] at ht; simp at ht; omega
    rw [Le_k47_5]
    unfold ltree_k47_5
    rw [cd_f (by omega)]
    simp [pathT]
  | l :: l' :: r,pre,acc,e,h,ha,hlt=>by
    have hlen:pre.length + r.length + 1 = n:=by rw [e] at ht; simp at ht; omega
    have h2:l.length = 2 * l'.length:=h.1
    simp only [List.headD_cons] at hlt
    rw [Le_k47_5]
    unfold ltree_k47_5
    have hltr:(pre.length:Int) < (tr.length:Int):=by rw [ht]; omega
    have hg:tr.getD pre.length [] = l:=by rw [e]; exact getD_pre ..
    have ej:(i:Int).fdiv (2 ^ Min.min pre.length 64) = ((i / 2 ^ pre.length:Nat):Int):=by
      have hp2:(2:Int) ^ pre.length = ((2 ^ pre.length:Nat):Int):=by simp
      rw [Nat.min_eq_left (by omega),Int.fdiv_eq_ediv_of_nonneg _ (by rw [hp2]; exact Int.natCast_nonneg _),hp2]
      simp
    have hj:i / 2 ^ pre.length < 512:=Nat.lt_of_le_of_lt (Nat.div_le_self _ _) (by omega)
    have hsib:sib (i / 2 ^ pre.length) < l.length:=by
      generalize i / 2 ^ pre.length = j at hlt
      unfold sib
      split <;> omega
    have hlt2:i / 2 ^ pre.length / 2 < l'.length:=by
      generalize i / 2 ^ pre.length = j at hlt
      omega
    have e2:IntKind.i64.wrap ((pre.length:Int) + 1) = ((pre ++ [l]).length:Int):=by rw [i64id (by omega) (by omega)]; simp
    have ed:i / 2 ^ pre.length / 2 = i / 2 ^ (pre ++ [l]).length:=by
      rw [List.length_append,List.length_singleton,Nat.pow_succ,Nat.div_div_eq_div_mul]
    rw [cd_t (by omega),cd_t (by omega),cd_t hltr,cd_t (by omega),Int.toNat_natCast,hg,ej,xor1_int hj,cd_t (by omega),cd_t (by omega),Int.toNat_natCast,cd_t (by first | omega | (simp; omega)),e2,
      path_loop i hi n hn tr ht (l' :: r) (pre ++ [l]) _ (by rw [e]; simp) h.2 (by simp [ha]) (by simp only [List.headD_cons]; rw [← ed]; exact hlt2)]
    simp only [pathT,List.nil_append,List.append_assoc,List.singleton_append,ed]
theorem e_Path {tr:List (List Int)} (h:ShpL tr) (hl:tr.length≤9) (i:Int) :
    F_k47 (tr,i,()) () = if 0≤i∧i < (tr.headD []).length then some ((pathT tr i.toNat,true,()),()) else some (([],false,()),()):=by
  have hpos:0 < tr.length:=by cases tr with | nil=>exact h.elim | cons=>simp
  have hg:tr.getD 0 [] = tr.headD []:=by cases tr with | nil=>rfl | cons=>rfl
  rw [Fe_k47]
  unfold tree_k47
  rw [e_shaped h hl]
  simp only [Option.bind_some,Bool.not_true,cond_false]
  rw [hg]
  by_cases h0:i < 0
  · rw [cd_t h0,if_neg (by omega)]
  · rw [cd_f h0,cd_t (by omega)]
    by_cases h1:i≥((tr.headD []).length:Int)
    · rw [cd_t h1,if_neg (by omega)]
    · rw [cd_f h1,if_pos (by omega)]
      have e1:IntKind.i64.wrap ((tr.length:Int) - 1) = ((tr.length - 1:Nat):Int):=by rw [i64id (by omega) (by omega)]; omega
      have hlen:(tr.headD []).length≤256:=by
        cases tr with
        | nil=>exact h.elim
        | cons l r =>
          have:=shp_pow l r h
          simp only [List.headD_cons,this]
          exact (Nat.pow_le_pow_right (by decide) (by simp at hl; omega):2 ^ r.length≤2 ^ 8)
      have:=path_loop i.toNat (by omega) (tr.length - 1) (by omega) tr (by omega) tr [] [] rfl h rfl (by simp only [List.length_nil,Nat.pow_zero,Nat.div_one]; omega)
      simp only [List.length_nil,Nat.pow_zero,Nat.div_one,List.nil_append] at this
      rw [e1]
      rw [show ((0:Nat):Int) = 0 from rfl,show (i.toNat:Int) = i by omega] at this
      rw [this]
      rfl
def climbS:Int→Nat→List Int→Or→Int×Or
  | h,_,[],o=>(h,o)
  | h,i,b :: p,o=>climbS (o.hash (joinT h b i)).1 (i / 2) p (o.hash (joinT h b i)).2
theorem climb_wf:∀ (p:List Int) (h:Int) (i:Nat) {o:Or},Wf o→o.drawn + p.length≤Lim→U h →
    Wf (climbS h i p o).2∧Ext o (climbS h i p o).2∧(climbS h i p o).2.drawn≤o.drawn + p.length∧U (climbS h i p o).1∧climbT (climbS h i p o).2.tab h i p = some (climbS h i p o).1
  | [],h,i,o,w,hb,hu=>⟨w,Ext.refl o,by show o.drawn≤o.drawn + 0; omega,hu,rfl⟩
  | b :: p,h,i,o,w,hb,hu=>by
    unfold Lim at hb
    simp only [List.length_cons] at hb
    obtain ⟨w1,x1,d1,f1⟩:=hash_wf w (joinT h b i) (by omega)
    obtain ⟨w2,x2,d2,u2,f2⟩:=climb_wf p (o.hash (joinT h b i)).1 (i / 2) w1 (by unfold Lim; omega) (w1.val _ _ f1).1
    refine ⟨w2,x1.trans x2,?_,u2,?_⟩
    · simp only [climbS,List.length_cons]; omega
    · show ((climbS h i (b :: p) o).2.tab (joinT h b i)).bind _ = _
      have:(climbS h i (b :: p) o).2.tab (joinT h b i) = some (o.hash (joinT h b i)).1:=x2.per _ _ f1
      rw [this]
      exact f2
theorem climb_loop (i:Nat) (hi:i < 256) (pa:List Int) (hp:pa.length≤8) (hu:∀ x,x∈pa→U x):∀ (suf pre:List Int) (h:Int) (o:Or),pa = pre ++ suf→Wf o→U h→o.drawn + suf.length≤Lim →
    L_k44_5 ((i:Int),h,pa,(pa.length:Int),(pre.length:Int),()) ((o.draws,o.drawn,o.bad,()),o.issued,o.met,o.hashes,o.tags,o.seals,o.opens,o.plains,()) =
      some (((climbS h (i / 2 ^ pre.length) suf o).1,()),(climbS h (i / 2 ^ pre.length) suf o).2.m)
  | [],pre,h,o,e,w,hh,hb=>by
    rw [Le_k44_5]
    unfold ltree_k44_5
    rw [cd_f (by rw [e]; simp)]
    rfl
  | b :: suf,pre,h,o,e,w,hh,hb=>by
    unfold Lim at hb
    simp only [List.length_cons] at hb
    have hlen:pre.length + suf.length + 1 = pa.length:=by rw [e]; simp; omega
    have hb':U b:=hu b (by rw [e]; simp)
    have hg:pa.getD pre.length 0 = b:=by rw [e]; exact getD_pre ..
    have ej:(i:Int).fdiv (2 ^ Min.min pre.length 64) = ((i / 2 ^ pre.length:Nat):Int):=by
      have hp2:(2:Int) ^ pre.length = ((2 ^ pre.length:Nat):Int):=by simp
      rw [Nat.min_eq_left (by omega),Int.fdiv_eq_ediv_of_nonneg _ (by rw [hp2]; exact Int.natCast_nonneg _),hp2]
      simp
    have hj:i / 2 ^ pre.length < 512:=Nat.lt_of_le_of_lt (Nat.div_le_self _ _) (by omega)
    obtain ⟨w1,x1,d1,f1⟩:=hash_wf w (joinT h b (i / 2 ^ pre.length)) (by omega)
    have hd0:=w.d0
    have hjn:=e_joined o hh hb' hj hd0
    unfold Or.m at hjn
    have e2:IntKind.i64.wrap ((pre.length:Int) + 1) = ((pre ++ [b]).length:Int):=by rw [i64id (by omega) (by omega)]; simp
    have ed:i / 2 ^ pre.length / 2 = i / 2 ^ (pre ++ [b]).length:=by
      rw [List.length_append,List.length_singleton,Nat.pow_succ,Nat.div_div_eq_div_mul]
    rw [Le_k44_5]
    unfold ltree_k44_5
    rw [cd_t (by omega),cd_t (by omega),cd_t (by omega),cd_t (by omega),Int.toNat_natCast,hg,ej,hjn]
    simp only [Option.bind_some]
    rw [e2]
    refine (climb_loop i hi pa hp hu suf (pre ++ [b]) (o.hash (joinT h b (i / 2 ^ pre.length))).1 (o.hash (joinT h b (i / 2 ^ pre.length))).2 (by rw [e]; simp) w1 (w1.val _ _ f1).1 (by unfold Lim; omega)).trans ?_
    rw [← ed]
    rfl
def okClimb (i:Int) (p:List Int):Prop:=p.length≤8∧0≤i∧i < 2 ^ p.length
theorem e_Climb {o:Or} {i:Int} {p:List Int} {s:ByteArray} (w:Wf o) (hd:o.drawn≤4000000000000000000) (hs:s.size≤140737488355328) (hu:∀ x,x∈p→U x) :
    (okClimb i p→F_k44 (s,i,p,()) o.m = some (((climbS (o.hash (leafT s)).1 i.toNat p (o.hash (leafT s)).2).1,true,()),(climbS (o.hash (leafT s)).1 i.toNat p (o.hash (leafT s)).2).2.m)) ∧
      (¬ okClimb i p→F_k44 (s,i,p,()) o.m = some ((0,false,()),o.m)):=by
  have e0:F_k44 (s,i,p,()) o.m = tree_k44 F_k45 L_k44_5 s i p o.draws o.drawn o.bad o.issued o.met o.hashes o.tags o.seals o.opens o.plains some:=rfl
  rw [e0]
  unfold tree_k44
  constructor
  · rintro ⟨h8,h0,h1⟩
    have hcast:(2:Int) ^ p.length = ((2 ^ p.length:Nat):Int):=by simp
    have hsmall:2 ^ p.length≤2 ^ 8:=Nat.pow_le_pow_right (by decide) h8
    have hlf:=e_Leaf o s w.d0 hs
    unfold Or.m at hlf
    obtain ⟨w1,x1,d1,f1⟩:=hash_wf w (leafT s) (by omega)
    have hc:=climb_loop i.toNat (by omega) p h8 hu p [] (o.hash (leafT s)).1 (o.hash (leafT s)).2 rfl w1 (w1.val _ _ f1).1 (by unfold Lim; omega)
    simp only [List.length_nil,Nat.pow_zero,Nat.div_one] at hc
    rw [show ((0:Nat):Int) = 0 from rfl,show (i.toNat:Int) = i by omega] at hc
    rw [cd_f (by omega),cd_f (by omega),cd_f (by rw [Int.toNat_natCast,Nat.min_eq_left (by omega),Int.one_mul,hcast,i64id (by omega) (by omega)]; omega),hlf]
    simp only [Option.bind_some]
    rw [hc]
    rfl
  · intro hn
    by_cases h8:(p.length:Int) > 8
    · rw [cd_t h8]; rfl
    · rw [cd_f h8]
      by_cases h0:i < 0
      · rw [cd_t h0]; rfl
      · have hcast:(2:Int) ^ p.length = ((2 ^ p.length:Nat):Int):=by simp
        have hsmall:2 ^ p.length≤2 ^ 8:=Nat.pow_le_pow_right (by decide) (by omega)
        have hnn:(0:Int)≤((2 ^ p.length:Nat):Int):=Int.natCast_nonneg _
        have hge:¬ i < 2 ^ p.length:=fun h=>hn ⟨by omega,by omega,h⟩
        rw [cd_f h0,cd_t (by rw [Int.toNat_natCast,Nat.min_eq_left (by omega),Int.one_mul,hcast,i64id (by omega) (by omega)]; rw [hcast] at hge; omega)]
        rfl
end Go.Proofs.Ytljfdfghagiblaa.S2.Mk
