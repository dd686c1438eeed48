/- merkle.above: a range over slices.Chunk: walked. -/
import Derived.Test.YtljfdfghagiblaaGreatS2zu
import Derived.Test.YtljfdfghagiblaaGreatGmerkle
import Derived.Test.YtljfdfghagiblaaGreatHrwire
import Derived.Test.YtljfdfghagiblaaGreatPmk2
import Derived.RangeFuncBox
import Derived.RangeFuncLeaves
import Derived.Shelf.Abstract
import Derived.WalkKit
import Derived.OwnWalkIn
import Derived.TacticsInMore
import Derived.LoopNIn
import Derived.LoopIn
import Derived.Maps.AppendAt
import Derived.Shelf.RegionOpen
import Derived.RegionIn
namespace Go.Proofs.YtljfdfghagiblaaGreat.S2
open Go Go.RowKit Go.Shelf
namespace Above
attribute [local go_sem] Oper.semAt_some
def Kp (Bs Bn:Nat) (A B:World):Prop:=B.heap[Bs]? = A.heap[Bs]?/\B.heap[Bn]? = A.heap[Bn]?
set_option maxRecDepth 100000 in
set_option maxHeartbeats 2000000 in
theorem acT {m:Nat} (F:Fence) (n:Nat) (h7:F.fn 125) (hro:F.round=none) (hn:1<=n) (l Bs Bn:Nat) (ad:Addr) (cap:Nat) (hm:m<=1000000000000000) (hcap:2*m<=cap) (J Jx:List (Fin m)->World->Prop) (hJd:∀ s A,J s A->J s A.drew)
  (hY:∀ pre x W,J pre W->pre.length<m->YieldAt F (n-1) Tryz.prog l #[.slice (some (ad.add (2*x.val))) 2 2] W fun e W' =>
   (e=.returned (.bool true)/\J (pre++[x]) W'/\Kp Bs Bn W W')∨(e=.returned (.bool false)/\Jx (pre++[x]) W'))
  (W:World) (hBs:W.cell? ⟨Bs,0,none⟩=some (.slice (some ad) (2*m) cap)) (hBn:W.cell? ⟨Bn,0,none⟩=some (.int .i64 2)) (h0:J [] W) :
  CallsIn F n Tryz.prog 125 #[.func (.yield l) #[] #[],.pointer (some ⟨Bs,0,none⟩),.pointer (some ⟨Bn,0,none⟩)] W fun e W'=>(∃ v,e=.returned v) /\
   (J (List.finRange m) W'∨(∃ pre,Jx pre W')):=by
 refine callsIn_of_wp Tryz.func125 rfl h7 ?_ hro
 simp only [Tryz.ntmps125,List.size_toArray,List.length_cons,List.length_nil,Nat.reduceAdd,Nat.reduceSub,Array.replicate_succ,Array.replicate_zero,List.push_toArray,List.append_toArray,List.nil_append,List.cons_append]
 gi_wp2
 gi_loopw [4] (fun i wr=>∃ k:Nat,k<=m/\i=.int .i64 ((2*k:Nat):Int)/\J ((List.finRange m).take k) wr/\wr.cell? ⟨Bs,0,none⟩=some (.slice (some ad) (2*m) cap)/\wr.cell? ⟨Bn,0,none⟩=some (.int .i64 2))
  (fun i _=>2*m-(intOf i).toNat)
 case atStart=>exact ⟨0,Nat.zero_le _,rfl,by simpa using h0,hBs,hBn⟩
 case round =>
  obtain ⟨k,hk,rfl,hJs,hs,hb⟩:=hrel
  by_cases hlt:k<m
  ·have hmx:Tryz.prog.follows .mixedOrders=true:=by kernel_rfl
   have hr1:2*k<=2*m:=by omega
   have htk:(List.finRange m).take (k+1)=(List.finRange m).take k++[⟨k,hlt⟩]:=by
    rw [List.take_add_one,List.getElem?_eq_getElem (by simp; omega)]
    simp
   have hr2:2*k<=cap:=by omega
   gi_wp2
   have hif:(if ((2*m-2*k:Nat):Int)<2 then ((2*m-2*k:Nat):Int) else 2)=2:=if_neg (by omega)
   have hmin:min (2:Int) ((2*m-2*k:Nat):Int)=2:=by omega
   gi_region
   all_goals
    obtain ⟨fn,tmps,assign,body,hy,hR⟩:=hY _ ⟨k,hlt⟩ wr.drew (hJd _ _ hJs) (by simp; omega)
    have hs':wr.drew.cell? ⟨Bs,0,none⟩=some (.slice (some ad) (2*m) cap):=hs
    have hb':wr.drew.cell? ⟨Bn,0,none⟩=some (.int .i64 2):=hb
    gi_wp2
    refine hR.mono ?_
    rintro e W3 (⟨rfl,hJ3,hk3⟩ | ⟨rfl,hJx3⟩)
    ·have hs3:W3.cell? ⟨Bs,0,none⟩=some (.slice (some ad) (2*m) cap):=(World.cell?_of_block hk3.1).trans hs'
     have hb3:W3.cell? ⟨Bn,0,none⟩=some (.int .i64 2):=(World.cell?_of_block hk3.2).trans hb'
     gi_wp2
     go_roundw
     case rel=>exact ⟨k+1,by omega,by simp; omega,by rw [htk]; exact hJ3,hs3,hb3⟩
     case measure=>simp [intOf]; omega
    ·gi_wp2
     refine bodyPost_ret (results_none rfl _ _ _) rfl ?_
     exact ⟨⟨_,rfl⟩,.inr ⟨_,hJx3⟩⟩
  ·obtain rfl:k=m:=by omega
   gi_wp2
   go_end0
   exact ⟨⟨_,rfl⟩,.inl (by rw [List.take_of_length_le (by simp)] at hJs; exact hJs)⟩
set_option maxRecDepth 100000 in
set_option maxHeartbeats 1000000 in
theorem aa1 {m:Nat} (F:Fence) (n:Nat) (h7:F.fn 125) (hro:F.round=none) (l Bs Bn:Nat) (ad:Option Addr) (cap:Nat) (J:List (Fin m)->World->Prop)
  (W:World) (hBs:W.cell? ⟨Bs,0,none⟩=some (.slice ad 0 cap)) (hBn:W.cell? ⟨Bn,0,none⟩=some (.int .i64 2)) (h0:J [] W) :
  CallsIn F n Tryz.prog 125 #[.func (.yield l) #[] #[],.pointer (some ⟨Bs,0,none⟩),.pointer (some ⟨Bn,0,none⟩)] W fun e W'=>(∃ v,e=.returned v)/\J [] W':=by
 refine callsIn_of_wp Tryz.func125 rfl h7 ?_ hro
 simp only [Tryz.ntmps125,List.size_toArray,List.length_cons,List.length_nil,Nat.reduceAdd,Nat.reduceSub,Array.replicate_succ,Array.replicate_zero,List.push_toArray,List.append_toArray,List.nil_append,List.cons_append]
 gi_wp2
 gi_loopw [4] (fun i wr=>i=.int .i64 0/\J [] wr/\wr.cell? ⟨Bs,0,none⟩=some (.slice ad 0 cap)) (fun _ _=>0)
 case atStart=>exact ⟨rfl,h0,hBs⟩
 case round =>
  obtain ⟨rfl,hJs,hs⟩:=hrel
  gi_wp2
  go_end0
  exact ⟨⟨_,rfl⟩,hJs⟩
end Above
open Go Go.RowKit Go.Shelf
namespace Above
attribute [local go_sem] Oper.semAt_some
abbrev rU:aw:=.cons (.int .u64) .nil
def Cv (k:Nat):Code->Option (Array Oper)
 | .region i ops _=>if i=k then some ops else none
 | .seq a b=>(Cv k a).or (Cv k b)
 | .cond _ a b=>(Cv k a).or (Cv k b)
 | .block _ b=>Cv k b
 | .loop b=>Cv k b
 | .rangeFunc _ _ a b=>(Cv k a).or (Cv k b)
 | _=>none
noncomputable def aty:Array Oper:=((Tryz.f67.body.bind (Cv 4))).getD #[]
noncomputable def IG:List iX:=(aY (jX Tryz.prog) aty.toList).getD []
def HG (b:IH) (hs:List Int):ar:=io.mem b++[(502,.row 38 rU hs),(1064,.cells [.ptr 0 0 0]),(1160,.cells [.slw 502])]
def jt (zs:List Int):List SV:=[.ptr 0 0 0,.ps 38 rU zs,.ptr 1064 0 0,.dead,.dead,.ptr 1160 0 0]++List.replicate 16 .dead
def L8 (zs:List Int) (x y:Int):List SV:=[.ptr 0 0 0,.ps 38 rU zs,.ptr 1064 0 0,.dead,.dead,.ptr 1160 0 0,.ps 38 rU [x,y]]++List.replicate 15 .dead
def acU:cF:=⟨0,[0,1,2,5],[(.cell 1160 0,502,38,rU)],[10,11,12,13,14,15,16,17,18,19,20],[]⟩
set_option maxRecDepth 100000 in
theorem acV (zs:List Int) (b:IH) (hs:List Int) (x y:Int) {α:Type} (K:St->Option α) :
  fG (ao [(102,⟨uM,zY,uN,gh⟩)] []) L9 IG IG ⟨L8 zs x y,HG b hs⟩ [] (fun s t=>match nj IG t with
   | true=>(match lR acU ⟨jt zs,s.mem⟩ with | some s'=>K s' | none=>none)
   | false=>none)=(gh (x,y,()) b).bind fun r=>cond (decide ((hs.length+1)*8<=140737488355328)) (K ⟨jt zs,HG r.2 (hs++[r.1])⟩) none:=by kernel_rfl
theorem P3 {m:Nat} (F:Fence) (n:Nat) (h7:F.fn 125) (hro:F.round=none) (hn:1<=n) (Bs Bn:Nat) (A:Option Addr) (ad:Addr) (cap:Nat) (hm:m<=1000000000000000) (hA:0<m->A=some ad) (hcap:2*m<=cap) (w:World) (hBs:Bs<w.heap.size) (hBn:Bn<w.heap.size)
  (hc:w.cell? ⟨Bs,0,none⟩=some (.slice A (2*m) cap)) (hc2:w.cell? ⟨Bn,0,none⟩=some (.int .i64 2)) :
  SeqStopsK F n Tryz.prog 125 #[.pointer (some ⟨Bs,0,none⟩),.pointer (some ⟨Bn,0,none⟩)] (fun x:Fin m=>#[Value.slice (some (ad.add (2*x.val))) 2 2]) (Kp Bs Bn) (fun ys=>ys=List.finRange m) (fun _=>True) m w:=fun l J Jx W hW hJ _ hY h0=>by
 have hc':=(hW.cell (p:=⟨Bs,0,none⟩) hBs).trans hc
 have hc2':=(hW.cell (p:=⟨Bn,0,none⟩) hBn).trans hc2
 have hJd:∀ s A,J s A->J s A.drew:=fun s A h=>hJ s A A.drew none h ⟨rfl,rfl,rfl,Nat.le_refl _,fun _ _ _=>rfl⟩ (fun r e=>by cases e)
 cases m with
 | zero=>exact (aa1 F n h7 hro l Bs Bn A cap J W hc' hc2' h0).mono fun e W' ⟨he,hj⟩=>⟨he,.inl ⟨_,rfl,hj⟩⟩
 | succ m =>
  obtain rfl:=hA (by omega)
  refine (acT F n h7 hro hn l Bs Bn ad cap hm hcap J Jx hJd hY W hc' hc2' h0).mono ?_
  rintro e W' ⟨he,hj | ⟨pre,hj⟩⟩
  ·exact ⟨he,.inl ⟨_,rfl,hj⟩⟩
  ·exact ⟨he,.inr ⟨pre,trivial,hj⟩⟩
set_option maxRecDepth 100000 in
theorem ST (F:Fence) (n:Nat) (h7:F.fn 101) (hro:F.round=none) (ad:Option Addr) (k cap:Nat) (w:World) :
  CallsIn F n Tryz.prog 101 #[.slice ad k cap,.int .i64 2] w fun e w'=>e=.returned (.func (.func 125) #[] #[.pointer (some ⟨w.heap.size,0,none⟩),.pointer (some ⟨w.heap.size+1,0,none⟩)]) /\
   w'=(w.alloc (.cells #[.slice ad k cap] 22)).alloc (.cells #[.int .i64 2] 3):=by
 refine callsIn_of_wp Tryz.func101 rfl h7 ?_ hro
 simp only [Tryz.ntmps101,List.size_toArray,List.length_cons,List.length_nil,Nat.reduceAdd,Nat.reduceSub,Array.replicate_succ,Array.replicate_zero,List.push_toArray,List.append_toArray,List.nil_append,List.cons_append]
 gi_wp2
 go_ret
 exact ⟨rfl,rfl⟩
open Mk
def pr (zs:List Int) (k:Nat):Int×Int:=(zs.getD (2*k) 0,zs.getD (2*k+1) 0)
theorem II (N:VD->IJ->Option IK) (p:Int×Int):∀ (l:List (Int×Int)) (b:IJ) (acc:List Int),uO N (l++[p]) b acc=(uO N l b acc).bind fun r=>(N (p.1,p.2,()) r.2).bind fun q=>some (r.1++[q.1],q.2)
 | [],b,acc=>rfl
 | x::l,b,acc=>by
  simp only [List.cons_append,uO]
  rw [Option.bind_assoc]
  congr 1
  funext r
  exact II N p l r.2 _
theorem VE {o:Or} (t:ByteArray) (h0:0<=o.drawn) (h1:o.drawn<5000000000000000000):0<=(o.hash t).2.drawn/\(o.hash t).2.drawn<=o.drawn+1:=by
 unfold Or.hash
 cases aG xa t o.hashes with
 | some h =>
  show 0<=o.drawn/\o.drawn<=o.drawn+1
  omega
 | none =>
  show 0<=IntKind.i64.wrap (o.drawn+1)/\IntKind.i64.wrap (o.drawn+1)<=o.drawn+1
  rw [aQ (by omega) (by omega)]
  omega
theorem aa2 {m:Nat} (zs:List Int) (h:zs.length / 2=m):lT zs=(List.finRange m).map fun x=>pr zs x.val:=by
 subst h
 unfold lT
 apply List.ext_getElem
 ·simp
 ·intro i h1 h2
  simp [pr]
section
variable {w w':World} {A S:Nat->Prop} {β:aP} {Z:Nat->Prop}
theorem KS {xs:List Int} {v:Value} (h:(ak.slc 38 rU).R w A xs v) (hS:∀ r,S r->∃ o:Obj,w.heap[r]? = some o/\o.isCells=false):(ak.slc 38 rU).R w (fun b=>A b∨S b) xs v:=by
 simp only [ak.R] at h ⊢
 obtain ⟨ad,cap,hv,hc,hall⟩:=h
 refine ⟨ad,cap,hv,hc,fun j hj=>?_⟩
 obtain ⟨a,cs,ha,hA,hlt,hl,hcs,hR⟩:=hall j hj
 refine ⟨a,cs,ha,?_,hlt,hl,hcs,hR⟩
 rintro (h | h)
 ·exact hA h
 ·obtain ⟨o,ho,hno⟩:=hS _ h
  have hl:cs.length=1:=hl
  match cs,hl with
  | [u],_ =>
   obtain ⟨o',ho',hno'⟩:=cells_of_cell (hcs 0 u rfl)
   rw [fH] at ho'
   rw [ho] at ho'
   cases ho'
   rw [hno] at hno'
   cases hno'
theorem VF:β.away (fun b=>Z b∨S b)=fun b=>β.away Z b∨S b:=by
 funext b
 apply propext
 unfold aP.away
 constructor
 ·rintro (h | h | h)
  ·exact .inl (.inl h)
  ·exact .inl (.inr h)
  ·exact .inr h
 ·rintro ((h | h) | h)
  ·exact .inl h
  ·exact .inr (.inl h)
  ·exact .inr (.inr h)
theorem alV (o:Or) (hs:List Int):∀ p,p∈(HG o.m hs).tail->p.2.hasPs=false/\p.2.ren (fun q=>some q)=p.2:=by
 show ∀ p,p∈[(1,Ob.map (.cons (.int .u64) .nil) false (.int .i64) o.issued),(2,Ob.map (.cons (.int .u64) .nil) false (.int .i64) o.met),(3,Ob.map (.cons .str .nil) false (.int .u64) o.hashes),(4,Ob.map (.cons (.int .u64) (.cons .str .nil)) true (.int .u64) o.tags),
  (5,Ob.map (.cons (.int .u64) (.cons (.int .u64) (.cons .str (.cons .str .nil)))) true (.int .u64) o.seals),(6,Ob.map (.cons (.int .u64) (.cons (.int .u64) (.cons (.int .u64) (.cons .str .nil)))) true (.int .i64) o.opens),(7,Ob.row 9 (.cons .str .nil) o.plains),
  (502,.row 38 rU hs),(1064,.cells [.ptr 0 0 0]),(1160,.cells [.slw 502])]->_
 repeat' (refine List.forall_mem_cons.2 ⟨⟨rfl,rfl⟩,?_⟩)
 intro p hp
 cases hp
theorem VG {o:Or} {hs:List Int} (hm:MR w Z β (HG o.m hs)) (hS:∀ r,S r->∃ ob:Obj,w.heap[r]? = some ob/\ob.isCells=false) (hno:∀ r,S r->¬ β.owned r):MR w (fun b=>Z b∨S b) β (HG o.m hs):=by
 refine ⟨fun k ob hk=>?_,hm.dom,hm.inj,fun b ho hz=>hz.elim (hm.apart b ho) (fun h=>hno b h ho),fun b hz=>hz.elim (hm.old b) fun h=>?_⟩
 ·obtain ⟨l,hl,hr⟩:=hm.obs k ob hk
  refine ⟨l,hl,?_⟩
  rw [VF]
  by_cases h0:k=0
  ·subst h0
   have hk:some (Ob.cells [.ps 38 rU o.draws,.int .i64 o.drawn,.bool o.bad,.mp 1,.mp 2,.mp 3,.mp 4,.mp 5,.mp 6,.slw 7])=some ob:=hk
   cases hk
   cases l with
   | box b =>
    obtain ⟨vs,t,hh,hrl,h1⟩:=hr
    refine ⟨vs,t,hh,?_,h1⟩
    simp only [SV.RL] at hrl ⊢
    obtain ⟨v,vs',e,hv,hrest⟩:=hrl
    refine ⟨v,vs',e,KS hv hS,?_⟩
    exact hrest
   | _=>exact hr.elim
  ·obtain ⟨hps, e⟩ : ob.hasPs = false /\ ob.ren (fun q => some q) = ob := by
    rcases List.mem_cons.1 (show (k,ob)∈(0,_)::(HG o.m hs).tail from jY hk) with h | h
    ·cases h; exact (h0 rfl).elim
    ·exact alV o hs _ h
   have:=GR.ren' (w:=w) (A:=β.away Z) (A':=fun b=>β.away Z b∨S b) (β:=β) (β':=β) (ρ:=fun q=>some q) (fun k l j h e=>by cases e; exact h) hps hr
   rwa [e] at this
 ·obtain ⟨ob,hob,_⟩:=hS b h
  exact (Array.getElem?_eq_some_iff.1 hob).1
end
def Inv (zs:List Int) (b0:IH) (d0:Int) {m:Nat} (w4:World) (β4:aP) (Z:Nat->Prop) (a0:Act) (pre:List (Fin m)) (W:World):Prop :=
 ∃ (hs:List Int) (o:Or) (β:aP),uO gh (pre.map fun x=>pr zs x.val) b0 []=some (hs,o.m)/\hs.length=pre.length/\0<=o.drawn/\o.drawn<=d0+pre.length /\
  cK w4 W β4 β/\FR W (β.away Z) β (jt zs) a0/\MR W Z β (HG o.m hs)
theorem SU {w4 W:World} {β4 β:aP} {Z:Nat->Prop} {o4 o:Or} {hs4 hs:List Int} (h4:MR w4 Z β4 (HG o4.m hs4)) (hst:cK w4 W β4 β) (hm:MR W Z β (HG o.m hs)) {r:Nat} (hr:w4.heap.size<=r) {ob:Obj} (ho:W.heap[r]? = some ob) (hno:ob.isCells=false):¬ β.owned r:=by
 rintro ⟨k,l,hk,hl⟩
 obtain ⟨x,hx⟩:=hm.dom k l hk
 obtain ⟨l',hl',hob⟩:=hm.obs k x hx
 rw [hk] at hl'
 cases hl'
 cases l with
 | box b =>
  cases hl
  cases x with
  | cells cs =>
   obtain ⟨vs,t,hh,_⟩:=hob
   rw [ho] at hh
   cases hh
   cases hno
  | _=>exact hob.elim
 | row ad cap n sz e =>
  cases x with
  | row e' r' xs =>
   obtain ⟨_,_,_,_,cells,hown,_⟩:=hob
   cases ad with
   | none=>cases hl
   | some g =>
    cases hl
    obtain ⟨_,cur,hh,_⟩:=hown
    rw [ho] at hh
    cases hh
    cases hno
  | _=>exact hob.elim
 | froz=>cases hl
 | gone=>cases hl
 | map b =>
  cases hl
  have hk5:k<500:=by
   have hx2:=jY hx
   have hk2:∀ p,p∈HG o.m hs->(∃ kr agg vp es,p.2=Ob.map kr agg vp es)->p.1<500:=by
    show ∀ p,p∈[(0,Ob.cells [.ps 38 rU o.draws,.int .i64 o.drawn,.bool o.bad,.mp 1,.mp 2,.mp 3,.mp 4,.mp 5,.mp 6,.slw 7]),(1,Ob.map (.cons (.int .u64) .nil) false (.int .i64) o.issued),(2,Ob.map (.cons (.int .u64) .nil) false (.int .i64) o.met),(3,Ob.map (.cons .str .nil) false (.int .u64) o.hashes),(4,Ob.map (.cons (.int .u64) (.cons .str .nil)) true (.int .u64) o.tags),
     (5,Ob.map (.cons (.int .u64) (.cons (.int .u64) (.cons .str (.cons .str .nil)))) true (.int .u64) o.seals),(6,Ob.map (.cons (.int .u64) (.cons (.int .u64) (.cons (.int .u64) (.cons .str .nil)))) true (.int .i64) o.opens),(7,Ob.row 9 (.cons .str .nil) o.plains),
     (502,.row 38 rU hs),(1064,.cells [.ptr 0 0 0]),(1160,.cells [.slw 502])]->_
    repeat' (refine List.forall_mem_cons.2 ⟨fun h=>?_,?_⟩)
    all_goals first
     | (intro p hp; cases hp; done)
     | (clear h; simp; done)
     | (obtain ⟨_,_,_,_,h⟩:=h; cases h)
   cases x with
   | map kr agg vp es=>exact hk2 _ hx2 ⟨kr,agg,vp,es,rfl⟩
   | _=>exact hob.elim
  have h4k:∃ l4,β4 k=some l4:=by
   cases h:β4 k with
   | some l4=>exact ⟨l4,rfl⟩
   | none =>
    exfalso
    have hx2:=jY hx
    have:∃ y,(HG o4.m hs4).get k=some y:=by
     have hnames:aE (HG o4.m hs4)=aE (HG o.m hs):=rfl
     exact fI.1 (by rw [hnames]; exact fI.2 ⟨x,hx⟩)
    obtain ⟨y,hy⟩:=this
    obtain ⟨l5,hl5,_⟩:=h4.obs k y hy
    rw [h] at hl5
    cases hl5
  obtain ⟨l4,h4k⟩:=h4k
  obtain ⟨l6,hl6,hle⟩:=hst.le k l4 hk5 h4k
  rw [hk] at hl6
  cases hl6
  have:l4=.map r:=by cases hle; rfl
  subst this
  obtain ⟨y,hy⟩:=h4.dom k _ h4k
  obtain ⟨l7,hl7,hob7⟩:=h4.obs k y hy
  rw [h4k] at hl7
  cases hl7
  have:=IL hob7 rfl
  omega
theorem Inv.own {zs:List Int} {b0:IH} {d0:Int} {m:Nat} {w4:World} {β4:aP} {Z:Nat->Prop} {a0:Act} {o4:Or} {hs4:List Int} (h4:MR w4 Z β4 (HG o4.m hs4)):OwnFrom w4.heap.size (Inv (m:=m) zs b0 d0 w4 β4 Z a0):=by
 rintro pre W W' row ⟨hs,o,β,e1,e2,e3,e4,hst,hF,hm⟩ hg hr
 have hS:∀ r,row=some r->∃ ob:Obj,W.heap[r]? = some ob/\ob.isCells=false:=fun r e=>(hr r e).2
 have hno:∀ r,row=some r->¬ β.owned r:=fun r e=>by
  obtain ⟨h1,ob,h2,h3⟩:=hr r e
  exact SU h4 hst hm h1 h2 h3
 have hm2:=VG (S:=fun r=>row=some r) hm hS hno
 have hZ2:∀ b,Z b->(Z b∨row=some b)∨W.heap.size<=b:=fun b h=>.inl (.inl h)
 have hF2:FR W (β.away fun b=>Z b∨row=some b) β (jt zs) a0:=by
  refine ⟨hF.len,fun t=>?_,hF.defers⟩
  have hv:=hF.val t
  rw [VF]
  match t,hv with
  | 0,hv=>exact hv
  | 1,hv=>exact KS hv hS
  | 2,hv=>exact hv
  | 3,hv=>exact hv
  | 4,hv=>exact hv
  | 5,hv=>exact hv
  | t+6,hv =>
   have e:(jt zs).getD (t+6) .dead=.dead:=by
    show (List.replicate 16 SV.dead).getD t .dead=.dead
    rw [List.getD_eq_getElem?_getD,List.getElem?_replicate]
    split<;>rfl
   rw [e]
   trivial
 refine ⟨hs,o,β,e1,e2,e3,e4,?_,hF2.turn hm2 hg (fun r e=>.inr e) hZ2,hm2.turn hg (fun r e=>.inr e) hZ2 fun b h=>Nat.lt_of_lt_of_le (hm.old b h) hg.size⟩
 exact ⟨hg.os.trans hst.os,hg.tape.trans hst.tape,hg.output.trans hst.output,Nat.le_trans hst.size hg.size,fun b hb ho=>(hg.block b (Nat.lt_of_lt_of_le hb hst.size) (fun e=>by have:=(hr b e.symm).1; omega)).trans (hst.block b hb ho),hst.own,hst.le⟩
theorem atz {w:World} {A:Nat->Prop} {zs:List Int} {k:Nat} (hk:2*k+1<zs.length) {ad:Addr} {cap n:Nat} (hn:n=zs.length) (h:(ak.slc 38 rU).R w A zs (.slice (some ad) n cap)) :
  (ak.slc 38 rU).R w A [(pr zs k).1,(pr zs k).2] (.slice (some (ad.add (2*k))) 2 2):=by
 simp only [ak.R] at h ⊢
 obtain ⟨ad',cap',hv,hc,hall⟩:=h
 simp only [Value.slice.injEq] at hv
 obtain ⟨rfl,_,rfl⟩:=hv
 refine ⟨some (ad.add (2*k)),2,rfl,⟨Nat.le_refl _,fun h=>by cases h⟩,fun j hj=>?_⟩
 have hj2:j<2:=hj
 have hj3:2*k+j<zs.length:=by omega
 obtain ⟨a,cs,ha,hA,hlt,hl,hcs,hR⟩:=hall (2*k+j) hj3
 cases ha
 refine ⟨_,cs,rfl,by rw [fH]; exact hA,by rw [fH]; exact hlt,hl,fun i u hu=>?_,?_⟩
 ·rw [tg]
  have:=hcs i u hu
  have e:rU.size=1:=rfl
  rw [e] at this ⊢
  rw [show 2*k+(j*1+i)=(2*k+j)*1+i by omega]
  exact this
 ·have e : List.get (α := Int) [(pr zs k).1, (pr zs k).2] ⟨j, hj⟩ = List.get (α := Int) zs ⟨2 * k + j, hj3⟩ := by
   match j,hj2 with
   | 0,_=>simp [pr,List.getD_eq_getElem?_getD,List.getElem?_eq_getElem (show 2*k<zs.length by omega)]
   | 1,_=>simp [pr,List.getD_eq_getElem?_getD,List.getElem?_eq_getElem (show 2*k+1<zs.length by omega)]
  exact e▸hR
theorem aa3 (zs:List Int) (o:Or) (hs:List Int) (x y:Int) (q:IK) (hN:gh (x,y,()) o.m=some q) (hlen:(hs.length+1)*8<=140737488355328) :
  ∃ st' tr,fG (ao [(102,⟨uM,zY,uN,gh⟩)] []) L9 IG IG ⟨L8 zs x y,HG o.m hs⟩ [] (fun s t=>some (s,t))=some (st',tr)/\nj IG tr=true /\
   lR acU ⟨jt zs,st'.mem⟩=some ⟨jt zs,HG q.2 (hs++[q.1])⟩:=by
 have h:=acV zs o.m hs x y (fun s=>some s)
 rw [hN] at h
 simp only [Option.bind_some] at h
 rw [eC (decide_eq_true hlen),cQ (E5 _ _)] at h
 obtain ⟨⟨st',tr⟩,h1,h2⟩:=Option.bind_eq_some_iff.1 h
 dsimp only at h2
 refine ⟨st',tr,h1,?_⟩
 split at h2
 ·rename_i ha
  refine ⟨ha,?_⟩
  split at h2
  ·rename_i s' hs'
   rw [hs']
   exact h2
  ·cases h2
 ·cases h2
theorem alW {zs:List Int} {b0:IH} {d0:Int} {m:Nat} {w4:World} {β4:aP} {Z:Nat->Prop} {a0:Act} {o4:Or} {hs4:List Int} (h4:MR w4 Z β4 (HG o4.m hs4)) (hd0:d0<=4611686018427387904) (hm8:m<=10000000000000)
  (hu:∀ z,z∈zs->U z) (hz:zs.length=2*m) {l n:Nat} {Bs Bn:Nat} (hBs:Bs<w4.heap.size) (hBn:Bn<w4.heap.size) (hoBs:¬ β4.owned Bs) (hoBn:¬ β4.owned Bn) {pre:List (Fin m)} {x:Fin m} {W:World} {a1:Act} (hp:pre.length<m)
  (hI:Inv zs b0 d0 w4 β4 Z a0 pre W) (ha1:∀ β,FR W (β.away Z) β (jt zs) a0->FR W (β.away Z) β (L8 zs (pr zs x.val).1 (pr zs x.val).2) a1) :
  (Code.region 4 aty true).wpIn (Fence.wide.inRound l) n Tryz.prog (fun e a' W'=>e=.normal/\(KeepsFrom w4.heap.size W W'/\Kp Bs Bn W W'/\Inv zs b0 d0 w4 β4 Z a0 (pre++[x]) W')) a1 W:=by
 obtain ⟨hs,o,β,e1,e2,e3,e4,hst,hF,hm⟩:=hI
 have hU:U (pr zs x.val).1/\U (pr zs x.val).2:=⟨iY hu _,iY hu _⟩
 have hN:=Ma o hU.1 hU.2 e3
 obtain ⟨st',tr,hrun,hany,hhead⟩:=aa3 zs o hs (pr zs x.val).1 (pr zs x.val).2 _ hN (by omega)
 refine aa4 (ops2:=IG) (E5 _ _) apc.ok.calls (by kernel_rfl) (by kernel_rfl) (by kernel_rfl) ?_ hrun hany (ha1 β hF) hm ?_
 ·have hall:aty.all (fun o=>match o.op with | .defer _=>false | _=>true)=true:=by kernel_rfl
  intro j oo hj c hc
  have:=Array.all_eq_true.1 hall j (Array.getElem?_eq_some_iff.1 hj).1
  rw [(Array.getElem?_eq_some_iff.1 hj).2,hc] at this
  cases this
 ·intro a' w' β' hS hF' hm'
  have hF0:FR w' (β'.away Z) β' (jt zs) a0:=⟨hF.len,fun t=>SV.R_step hS.stays hS.le _ _ (hF.val t),hF.defers⟩
  obtain ⟨β2,s2,f2,m2⟩:=pS (an:=acU) (st:=⟨jt zs,st'.mem⟩) hhead hF0 hm'
  refine ⟨rfl,⟨hS.size,fun k ob hk ho hno=>?_⟩,⟨?_,?_⟩,hs++[(o.hash (dR (pr zs x.val).1 (pr zs x.val).2)).1],(o.hash (dR (pr zs x.val).1 (pr zs x.val).2)).2,β2,?_,by simp [e2],?_,?_,hst.trans (hS.weak.trans s2),f2,m2⟩
  ·rw [hS.block k (Array.getElem?_eq_some_iff.1 ho).1 (SU h4 hst hm hk ho hno)]
   exact ho
  ·exact hS.block Bs (Nat.lt_of_lt_of_le hBs hst.size) fun h=>(hst.own _ h).elim hoBs (by omega)
  ·exact hS.block Bn (Nat.lt_of_lt_of_le hBn hst.size) fun h=>(hst.own _ h).elim hoBn (by omega)
  ·rw [List.map_append,List.map_singleton,II,e1]
   simp only [Option.bind_some]
   rw [hN]
   rfl
  ·exact (VE _ e3 (by omega)).1
  ·have:=(VE (dR (pr zs x.val).1 (pr zs x.val).2) e3 (by omega)).2
   simp only [List.length_append,List.length_singleton]
   omega
theorem azS (zs:List Int) (o:Or):lR acU ⟨jt zs,((io.mem o.m).sets [(1064,.cells [.ptr 0 0 0])]).sets [(1160,.cells [.nils])]⟩=some ⟨jt zs,HG o.m []⟩:=by kernel_rfl
def alX (k:Nat):Option Nat:=if k<500 then some k else none
theorem alY (o o1:Or) (hs:List Int):yl alX ((HG o1.m hs).sets (cl (HG o1.m hs) [502]))=(io.mem o.m).sets (io.mem o1.m):=by kernel_rfl
theorem GS {w W W':World} {β β':aP} (h:cK w W β β') {row:Option Nat} (hg:W.grownBy W' row) (hr:∀ r,row=some r->w.heap.size<=r):cK w W' β β' :=
 ⟨hg.os.trans h.os,hg.tape.trans h.tape,hg.output.trans h.output,Nat.le_trans h.size hg.size,fun b hb ho=>(hg.block b (Nat.lt_of_lt_of_le hb h.size) (fun e=>by have:=hr b e.symm; omega)).trans (h.block b hb ho),h.own,h.le⟩
set_option maxRecDepth 100000 in
set_option maxHeartbeats 4000000 in
theorem acX {zs:List Int} {o:Or} {hs:List Int} {b':IJ} (hok:okA zs o.drawn=true) (hfold:uO gh (lT zs) o.m []=some (hs,b')) {w:World} {Z:Nat->Prop} {β:aP} {v1 v2:Value} (hm:MR w Z β (io.mem o.m))
  (h1:(SV.ptr 0 0 0).R w (β.away Z) β v1) (h2:(SV.ps 38 rU zs).R w (β.away Z) β v2) :
  CallsIn Fence.wide 3 Tryz.prog 67 #[v1,v2] w fun e W'=>∃ u β',e=.returned u/\bX w W' β β'/\MR W' Z β' ((io.mem o.m).sets (io.mem b'))/\(SV.ps 38 rU hs).R W' (β'.away Z) β' u:=by
 have hok2:=hok
 unfold okA at hok2
 simp only [Bool.and_eq_true,decide_eq_true_eq,List.all_eq_true] at hok2
 obtain ⟨⟨⟨⟨k1,k2⟩,k3⟩,k4⟩,k5⟩:=hok2
 have hu:∀ z,z∈zs->U z:=fun z hz=>⟨(k5 z hz).1,by have:=(k5 z hz).2; omega⟩
 obtain ⟨m,hz⟩:∃ m,zs.length=2*m:=⟨zs.length / 2,by omega⟩
 have hm8:m<=10000000000000:=by omega
 -- the arguments
 simp only [SV.R] at h1
 obtain ⟨l1,hl1,hp1⟩:=h1
 obtain ⟨l1',hl1',ho1⟩:=hm.obs 0 _ rfl
 rw [hl1] at hl1'
 cases hl1'
 have hbox:∃ g,l1=.box g:=by
  cases l1 with
  | box g=>exact ⟨g,rfl⟩
  | _=>exact ho1.elim
 obtain ⟨g,rfl⟩:=hbox
 have hp1:v1=.pointer (some ⟨g,0,none⟩):=hp1
 have h1:(SV.ptr 0 0 0).R w (β.away Z) β v1:=⟨_,hl1,hp1⟩
 have h2':=h2
 simp only [SV.R,ak.R] at h2'
 obtain ⟨A,cap,rfl,hcap,hall⟩:=h2'
 have hlen:List.length (α:=rU.T) zs=2*m:=hz
 rw [hlen] at h2 ⊢
 have hcap1:2*m<=cap:=hlen▸hcap.1
 obtain ⟨ad,hA⟩:∃ ad,0<m->A=some ad:=by
  by_cases h0:0<m
  ·obtain ⟨a,cs,ha,_⟩:=hall 0 (by rw [hlen]; omega)
   exact ⟨a,fun _=>ha⟩
  ·exact ⟨⟨0,0,none⟩,fun h=>(h0 h).elim⟩
 subst hp1
 refine callsIn_of_wp_marks Tryz.func67 rfl trivial ?_ rfl
 simp only [Tryz.ntmps67,List.size_toArray,List.length_cons,List.length_nil,Nat.reduceAdd,Nat.reduceSub,Array.replicate_succ,Array.replicate_zero,List.push_toArray,List.append_toArray,List.nil_append,List.cons_append]
 gi_wp2
 refine ⟨trivial,(ST Fence.wide 2 trivial rfl A (2*m) cap _).mono ?_⟩
 rintro e w' ⟨rfl,rfl⟩
 gi_wp2
 -- the boxes,as objects of the frame
 obtain ⟨β1,s1,m1,r1⟩:=zZ hm (k:=1064) rfl (cs:=[.ptr 0 0 0]) (vs:=[.pointer (some ⟨g,0,none⟩)]) ⟨_,[],rfl,h1,rfl⟩ (by intro u hu; simp only [List.mem_singleton] at hu; subst hu; rfl) 24 []
 obtain ⟨β2,s2,m2,r2⟩:=zZ m1 (k:=1160) rfl (cs:=[.nils]) (vs:=[.slice none 0 0]) ⟨_,[],rfl,rfl,rfl⟩ (by intro u hu; simp only [List.mem_singleton] at hu; subst hu; rfl) 22 []
 obtain ⟨W2,hW2⟩:∃ W2,((w.alloc (.cells #[.pointer (some ⟨g,0,none⟩)] 24)).alloc (.cells #[.slice none 0 0] 22))=W2:=⟨_,rfl⟩
 have z2:W2.heap.size=w.heap.size+2:=by rw [← hW2]; simp
 have z1:(w.alloc (.cells #[.pointer (some ⟨g,0,none⟩)] 24)).heap.size=w.heap.size+1:=by simp
 have r1':=SV.R_step s2.stays s2.le _ _ r1
 have h1':=SV.R_step s2.stays s2.le _ _ (SV.R_step s1.stays s1.le _ _ h1)
 have h2':=SV.R_step s2.stays s2.le _ _ (SV.R_step s1.stays s1.le _ _ h2)
 rw [z1] at r2
 rw [hW2] at s2 m2 r1' r2 h1' h2' ⊢
 obtain ⟨a0,ha0⟩:∃ a0:Act,a0={ tmps:=#[.pointer (some ⟨g,0,none⟩),.slice A (2*m) cap,.pointer (some ⟨w.heap.size,0,none⟩),undef,.slice none 0 0,.pointer (some ⟨w.heap.size+1,0,none⟩),undef,undef,undef,undef,undef,undef,undef,undef,undef,undef,undef,undef,undef,undef,undef,undef],defers:=[] }:=⟨_,rfl⟩
 have dead6:∀ t,(jt zs).getD (t+6) .dead=.dead:=fun t=>by
  show (List.replicate 16 SV.dead).getD t .dead=.dead
  rw [List.getD_eq_getElem?_getD,List.getElem?_replicate]
  split<;>rfl
 have F2:FR W2 (β2.away Z) β2 (jt zs) a0:=by
  subst ha0
  refine ⟨rfl,fun t=>?_,rfl⟩
  match t with
  | 0=>exact h1'
  | 1=>exact h2'
  | 2=>exact r1'
  | 3=>trivial
  | 4=>trivial
  | 5=>exact r2
  | t+6=>rw [dead6]; trivial
 obtain ⟨β3,s3,F3,m3⟩:=pS (an:=acU) (st:=⟨jt zs,_⟩) (azS zs o) F2 m2
 obtain ⟨W4,hW4⟩:∃ W4,((W2.alloc (.cells #[.slice A (2*m) cap] 22)).alloc (.cells #[.int .i64 2] 3))=W4:=⟨_,rfl⟩
 have z4:W4.heap.size=W2.heap.size+2:=by rw [← hW4]; simp
 have g4:W2.grownBy W4 none:=by
  rw [← hW4]
  exact ⟨rfl,rfl,rfl,by simp only [World.size_alloc]; omega,fun k hk _=>(Below.heap_alloc _ _ _ (by simp; omega)).trans (Below.heap_alloc _ _ _ hk)⟩
 have F4:=F3.turn m3 g4 (fun r e=>by cases e) (Z':=Z) (fun b h=>.inl h)
 have m4:MR W4 Z β3 (HG o.m []):=m3.turn g4 (fun r e=>by cases e) (fun b h=>.inl h) (fun b h=>Nat.lt_of_lt_of_le (m3.old b h) g4.size)
 have hst0:cK w W4 β β3:=GS (s1.weak.trans (s2.weak.trans s3)) g4 (fun r e=>by cases e)
 have hown3:∀ b,β3.owned b->b<W2.heap.size:=by
  rintro b ⟨k,l,hk,hl⟩
  obtain ⟨x,hx⟩:=m3.dom k l hk
  obtain ⟨l',hl',hob⟩:=m3.obs k x hx
  rw [hk] at hl'
  cases hl'
  exact IL hob hl
 have hcs:W4.cell? ⟨W2.heap.size,0,none⟩=some (.slice A (2*m) cap):=by rw [← hW4]; exact ((Boxed.new W2 22 _).alloc _).cell
 have hcn:W4.cell? ⟨W2.heap.size+1,0,none⟩=some (.int .i64 2):=by
  rw [← hW4]
  have:=(Boxed.new (W2.alloc (.cells #[.slice A (2*m) cap] 22)) 3 (.int .i64 2)).cell
  rwa [World.size_alloc] at this
 have hI0:Inv (m:=m) zs o.m o.drawn W4 β3 Z a0 [] W4:=⟨[],o,β3,rfl,rfl,k3,by simp,cK.refl W4 β3,F4,m4⟩
 rw [z2] at hcs hcn
 rw [hW4,show w.heap.size+1+1=w.heap.size+2 by omega]
 refine wpIn_rangeFunc_ownG (w:=W4) rfl (by decide) (gf:=125) (lb:=#[.pointer (some ⟨w.heap.size+2,0,none⟩),.pointer (some ⟨w.heap.size+2+1,0,none⟩)]) rfl trivial (enters_of Tryz.func125 (by kernel_rfl) rfl)
  (P3 (m:=m) Fence.wide 2 trivial rfl (by decide) (w.heap.size+2) (w.heap.size+2+1) A ad cap (by omega) hA hcap1 W4 (by omega) (by omega) hcs hcn)
  (fun h k=>⟨k.1.trans h.1,k.2.trans h.2⟩) (fun W l x x' hl _ _ _=>⟨World.putObj_heap_other (by omega),World.putObj_heap_other (by omega)⟩) (Below.refl _ _) (fun _=>rfl)
  (Inv zs o.m o.drawn W4 β3 Z a0) (fun _ _ _=>False) (Inv.own m4) (fun _ _ _ _ _ hs _ _=>hs) hI0
  (fun x=>{ tmps:=#[.pointer (some ⟨g,0,none⟩),.slice A (2*m) cap,.pointer (some ⟨w.heap.size,0,none⟩),undef,.slice none 0 0,.pointer (some ⟨w.heap.size+1,0,none⟩),.slice (some (ad.add (2*x.val))) 2 2,.slice A (2*m) cap,.func (.func 125) #[] #[.pointer (some ⟨w.heap.size+2,0,none⟩),.pointer (some ⟨w.heap.size+2+1,0,none⟩)],.slice (some (ad.add (2*x.val))) 2 2,undef,undef,undef,undef,undef,undef,undef,undef,undef,undef,undef,undef],defers:=[] }) ?assign ?body ?done ?stop
 case assign =>
  intro l x W K hK
  gi_wp2
  exact hK
 case body =>
  rintro l pre x W hI hlt
  gi_wp2
  refine wpIn_mono (alW (l:=l) (n:=1) (Bs:=w.heap.size+2) (Bn:=w.heap.size+2+1) (pre:=pre) (x:=x) m4 k4 hm8 hu hz (by omega) (by omega) (fun h=>by have:=hown3 _ h; omega) (fun h=>by have:=hown3 _ h; omega) hlt hI fun βx hFx=>?_) ?_
  ·refine ⟨rfl,fun t=>?_,rfl⟩
   subst ha0
   match t with
   | 0=>exact hFx.val 0
   | 1=>exact hFx.val 1
   | 2=>exact hFx.val 2
   | 3=>trivial
   | 4=>trivial
   | 5=>exact hFx.val 5
   | 6 =>
    have hx:=x.isLt
    have hv:(SV.ps 38 rU zs).R W (βx.away Z) βx (.slice A (2*m) cap):=hFx.val 1
    rw [hA (by omega)] at hv
    exact atz (k:=x.val) (by omega) hz.symm hv
   | t+7 =>
    have e:(L8 zs (pr zs x.val).1 (pr zs x.val).2).getD (t+7) .dead=.dead:=by
     show (List.replicate 15 SV.dead).getD t .dead=.dead
     rw [List.getD_eq_getElem?_getD,List.getElem?_replicate]
     split<;>rfl
    rw [e]
    trivial
  ·rintro e a' W' ⟨rfl,h⟩
   exact h
 case done =>
  rintro D ys W hD rfl hI hK
  obtain ⟨hs1,o1,β4,f1,f2,f3,f4,hst,hF,hm'⟩:=hI
  rw [← aa2 zs (by omega),hfold] at f1
  cases f1
  have hbx:=hF.val 5
  subst ha0
  obtain ⟨lb,hlb,hpb⟩:∃ l,β4 1160=some l/\l.addr 0 0 (.pointer (some ⟨w.heap.size+1,0,none⟩)):=hbx
  obtain ⟨lb',hlb',hob⟩:=hm'.obs 1160 (.cells [.slw 502]) rfl
  rw [hlb] at hlb'
  cases hlb'
  cases lb with
  | box bb =>
   have hpb:Value.pointer (some ⟨w.heap.size+1,0,none⟩)=.pointer (some ⟨bb,0+0,none⟩):=hpb
   simp only [Value.pointer.injEq,Option.some.injEq,Addr.mk.injEq] at hpb
   obtain ⟨rfl,_,_⟩:=hpb
   obtain ⟨us,ty,hh,hR,_⟩:=hob
   obtain ⟨u,us',hus,hu502,hnil⟩:=hR
   have hc:W.cell? ⟨w.heap.size+1,0,none⟩=some u:=by
    have e0:us[0]? = some u:=by rw [← Array.getElem?_toList,hus]; rfl
    simp [World.cell?,hh,e0]
   have hfz:W.frozen? ⟨w.heap.size+1,0,none⟩=false:=by simp [World.frozen?,hh]
   gi_wp2
   refine ⟨by simp,.inl ⟨_,_,rfl,run_takeDeferred hK,?_⟩⟩
   have hDnc:∃ ob:Obj,W.heap[D]? = some ob/\ob.isCells=false:=⟨_,hK,rfl⟩
   have hgr:W.grownBy (W.putObj D (.deferred none)) (some D):=grownBy_putObj' W D _
   have hnoD:¬ β4.owned D:=by
    obtain ⟨ob,h1,h2⟩:=hDnc
    exact SU m4 hst hm' hD h1 h2
   have hm2:=VG (S:=fun r=>r=D) hm' (fun r e=>by subst e; exact hDnc) (fun r e=>by subst e; exact hnoD)
   have hm3:MR (W.putObj D (.deferred none)) Z β4 (HG o1.m hs):=hm2.turn hgr (fun r e=>by cases e; exact .inr rfl) (fun b h=>.inl (.inl h)) (fun b h=>Nat.lt_of_lt_of_le (hm'.old b h) hgr.size)
   have hfrz:MR (W.putObj D (.deferred none)) Z (β4.freezeL [502]) ((HG o1.m hs).sets (cl (HG o1.m hs) [502])):=z6 hm3 [502]
   have hps:(ak.slc 38 rU).R (W.putObj D (.deferred none)) ((β4.freezeL [502]).away Z) hs u:=by
    refine ak.of_frz hm3 (ks:=[502]) (.slc 38 rU) (.slw 502) hs u rfl (by intro k hk; simpa [SV.keys1] using hk) ?_
    obtain ⟨lw,hlw,hww⟩:=hu502
    exact ⟨lw,hlw,hww⟩
   obtain ⟨β5,s5,F5,m5⟩:=xb (ts:=[.ps 38 rU hs]) (a:={ tmps:=#[u],defers:=[] }) (ρ:=alX) ⟨rfl,fun t=>by
    match t with
    | 0=>exact hps
    | t+1=>exact trivial,rfl⟩ hfrz (fun k q h=>by
     unfold alX at h
     split at h
     ·cases h; rfl
     ·cases h) (fun k l hk hl=>by unfold alX; rw [if_pos hk])
   have hall:cK w (W.putObj D (.deferred none)) β β5:=(GS (hst0.trans hst) hgr (fun r e=>by cases e; have:=hst0.size; omega)).trans ((gQ [502]).weak.trans s5)
   refine ⟨_,results_tmp rfl _ _ _,u,rfl,β5,⟨hall.os,hall.tape,hall.output,hall.size,hall.block,hall.own,fun k l hk=>?_⟩,?_,F5.val 0⟩
   ·obtain ⟨x,hx⟩:=hm.dom k l hk
    have hk8:k<500:=by
     have:=jY hx
     have hall8:∀ p,p∈io.mem o.m->p.1<500:=by
      show ∀ p,p∈[(0,_),(1,_),(2,_),(3,_),(4,_),(5,_),(6,_),(7,_)]->_
      intro p hp
      simp only [List.mem_cons,List.not_mem_nil,or_false] at hp
      rcases hp with rfl | rfl | rfl | rfl | rfl | rfl | rfl | rfl<;>simp
     exact hall8 _ this
    exact hall.le k l hk8 hk
   ·rw [← alY o o1 hs]
    exact m5
  | _=>exact hob.elim
 case stop =>
  rintro D c pre W _ _ h _
  exact h.elim
theorem holds:aq Tryz.prog 67 ⟨ym,io,yn,jD⟩:=by
 rintro ⟨(zs:List Int),⟨⟩⟩ b r hr
 obtain ⟨⟨d,k,x,⟨⟩⟩,i,me,h,t,s,op,p,⟨⟩⟩:=b
 have hr:cond (okA zs k) (uO gh (lT zs) (Or.m ⟨d,k,x,i,me,h,t,s,op,p⟩) []) none=some r:=hr
 cases hok:okA zs k with
 | false=>rw [hok] at hr; cases hr
 | true =>
  rw [hok] at hr
  have hr:uO gh (lT zs) (Or.m ⟨d,k,x,i,me,h,t,s,op,p⟩) []=some (r.1,r.2):=hr
  intro w Z β vs hm hx
  obtain ⟨v1,vs1,rfl,hv1,v2,vs2,rfl,hv2,hv3⟩:=hx
  simp only [aC.svs,SV.RL] at hv3
  subst hv3
  have hc:=callsIn_wide.1 (acX (o:=⟨d,k,x,i,me,h,t,s,op,p⟩) hok hr hm hv1 hv2)
  exact BN Tryz.func67 (by kernel_rfl) (by kernel_rfl) (hc.mono fun e w' ⟨u,β',he,h1,h2,h3⟩=>⟨u,he,β',h1,h2,h3⟩)
end Above
end Go.Proofs.YtljfdfghagiblaaGreat.S2
