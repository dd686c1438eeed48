/- Plain forms of the program's functions,by program. -/
import Derived.Test.YtljfdfghagiblaaS2y
import Derived.Lib.Repeat
set_option maxRecDepth 100000
set_option maxHeartbeats 0
set_option linter.unusedVariables false
set_option linter.unusedSimpArgs false
namespace Go.Proofs.Ytljfdfghagiblaa.S2
open Go
def args_k76:SkL:=.cons lS (.cons lI .nil)
def mem_k76:MSk:=[]
def outs_k76:List OutC:=[⟨.leaf .str,[]⟩]
abbrev A_k76:Type:=ByteArray×Int×Unit
abbrev M_k76:Type:=Unit
abbrev O_k76:Type:=ByteArray×Unit
abbrev B_k76:=A_k76→M_k76→Option O_k76
def F_k76:A_k76→M_k76→Option O_k76:=fun a b=>cond (decide (0≤a.2.1∧a.2.1≤9223372036854775807∧a.1.size * a.2.1.toNat≤140737488355328)) (some (⟨(Go.Lib.repeatL a.1.data.toList a.2.1.toNat).toArray⟩,())) none
def args_k6:SkL:=(.cons (cP 0) .nil)
def mem_k6:MSk:=[(0,.cells (.cons lI (.cons (cW 1) (.cons (cW 2) .nil)))),(1,qf),(2,qg)]
def outs_k6:List OutC:=[⟨lI,[]⟩]
abbrev A_k6:Type:=Unit
abbrev M_k6:Type:=((Int×Unit)×Yb×Y6×Unit)
abbrev O_k6:Type:=Int×Unit
abbrev B_k6:=A_k6→M_k6→Option O_k6
def routs_k6:List OutC:=[⟨lI,[(0,.cells (.cons lI (.cons (cW 1) (.cons (cW 2) .nil)))),(1,qf),(2,qg)]⟩]
abbrev RO_k6:Type:=Int×((Int×Unit)×Yb×Y6×Unit)
def tree_k6 {α:Type} (x1:Int) (x2:Yb) (x3:Y6) (K:RO_k6→Option α):Option α :=
 K ((↑x2.length:Int),(x1,()),x2,x3,())
noncomputable def R_k6:A_k6→M_k6→Option RO_k6:=fun a b=>tree_k6 b.1.1 b.2.1 b.2.2.1 some
theorem reads_k6 (a:A_k6) (b:M_k6):Leaf (fun r:RO_k6=>r.2 = b) (R_k6 a b):=by
 show Leaf _ (tree_k6 b.1.1 b.2.1 b.2.2.1 some)
 unfold tree_k6
 repeat (first | (with_reducible refine leaf_bind fun _=>?_) | (with_reducible apply leaf_cond) | (with_reducible refine leaf_sum (fun _=>?_) (fun _=>?_)) | (with_reducible exact leaf_none) | exact leaf_some rfl)
noncomputable def F_k6:A_k6→M_k6→Option O_k6:=fun a b=>(R_k6 a b).map fun r=>(r.1,())
theorem n_k6 (x1 x2 x3) {α:Type} (K:RO_k6→Option α):tree_k6 x1 x2 x3 K = (tree_k6 x1 x2 x3 some).bind K:=by simp only [tree_k6,bind_cond,bind_none',bind_some',bind_bind',bind_sum]
theorem Fe_k6 (x1 x2 x3):F_k6 () ((x1,()),x2,x3,()) = (tree_k6 x1 x2 x3 some).map fun r=>(r.1,()):=rfl
def args_k7:SkL:=(.cons (cP 0) .nil)
def mem_k7:MSk:=[(0,.cells (.cons lI (.cons (cW 1) (.cons (cW 2) .nil)))),(1,qf),(2,qg)]
def outs_k7:List OutC:=[⟨lI,[]⟩]
abbrev A_k7:Type:=Unit
abbrev M_k7:Type:=((Int×Unit)×Yb×Y6×Unit)
abbrev O_k7:Type:=Int×Unit
abbrev B_k7:=A_k7→M_k7→Option O_k7
def routs_k7:List OutC:=[⟨lI,[(0,.cells (.cons lI (.cons (cW 1) (.cons (cW 2) .nil)))),(1,qf),(2,qg)]⟩]
abbrev RO_k7:Type:=Int×((Int×Unit)×Yb×Y6×Unit)
def tree_k7 {α:Type} (x1:Int) (x2:Yb) (x3:Y6) (K:RO_k7→Option α):Option α :=
 K (x1,(x1,()),x2,x3,())
noncomputable def R_k7:A_k7→M_k7→Option RO_k7:=fun a b=>tree_k7 b.1.1 b.2.1 b.2.2.1 some
theorem reads_k7 (a:A_k7) (b:M_k7):Leaf (fun r:RO_k7=>r.2 = b) (R_k7 a b):=by
 show Leaf _ (tree_k7 b.1.1 b.2.1 b.2.2.1 some)
 unfold tree_k7
 repeat (first | (with_reducible refine leaf_bind fun _=>?_) | (with_reducible apply leaf_cond) | (with_reducible refine leaf_sum (fun _=>?_) (fun _=>?_)) | (with_reducible exact leaf_none) | exact leaf_some rfl)
noncomputable def F_k7:A_k7→M_k7→Option O_k7:=fun a b=>(R_k7 a b).map fun r=>(r.1,())
theorem n_k7 (x1 x2 x3) {α:Type} (K:RO_k7→Option α):tree_k7 x1 x2 x3 K = (tree_k7 x1 x2 x3 some).bind K:=by simp only [tree_k7,bind_cond,bind_none',bind_some',bind_bind',bind_sum]
theorem Fe_k7 (x1 x2 x3):F_k7 () ((x1,()),x2,x3,()) = (tree_k7 x1 x2 x3 some).map fun r=>(r.1,()):=rfl
def args_k9:SkL:=(.cons (cP 0) (.cons lI .nil))
def mem_k9:MSk:=[(0,.cells (.cons lI (.cons (cW 1) (.cons (cW 2) .nil)))),(1,qf),(2,qg)]
def outs_k9:List OutC:=[⟨lB,[]⟩]
abbrev A_k9:Type:=(Int×Unit)
abbrev M_k9:Type:=((Int×Unit)×Yb×Y6×Unit)
abbrev O_k9:Type:=Bool×Unit
abbrev B_k9:=A_k9→M_k9→Option O_k9
def routs_k9:List OutC:=[⟨lB,[(0,.cells (.cons lI (.cons (cW 1) (.cons (cW 2) .nil)))),(1,qf),(2,qg)]⟩]
abbrev RO_k9:Type:=Bool×((Int×Unit)×Yb×Y6×Unit)
def tree_k9 {α:Type} (x1:Int) (x2:Int) (x3:Yb) (x4:Y6) (K:RO_k9→Option α):Option α :=
 cond (decide (x1≥0))
 (K (decide (x1 < (↑x3.length:Int)),(x2,()),x3,x4,()))
 (K (false,(x2,()),x3,x4,()))
noncomputable def R_k9:A_k9→M_k9→Option RO_k9:=fun a b=>tree_k9 a.1 b.1.1 b.2.1 b.2.2.1 some
theorem reads_k9 (a:A_k9) (b:M_k9):Leaf (fun r:RO_k9=>r.2 = b) (R_k9 a b):=by
 show Leaf _ (tree_k9 a.1 b.1.1 b.2.1 b.2.2.1 some)
 unfold tree_k9
 repeat (first | (with_reducible refine leaf_bind fun _=>?_) | (with_reducible apply leaf_cond) | (with_reducible refine leaf_sum (fun _=>?_) (fun _=>?_)) | (with_reducible exact leaf_none) | exact leaf_some rfl)
noncomputable def F_k9:A_k9→M_k9→Option O_k9:=fun a b=>(R_k9 a b).map fun r=>(r.1,())
theorem n_k9 (x1 x2 x3 x4) {α:Type} (K:RO_k9→Option α):tree_k9 x1 x2 x3 x4 K = (tree_k9 x1 x2 x3 x4 some).bind K:=by simp only [tree_k9,bind_cond,bind_none',bind_some',bind_bind',bind_sum]
theorem Fe_k9 (x1 x2 x3 x4):F_k9 (x1,()) ((x2,()),x3,x4,()) = (tree_k9 x1 x2 x3 x4 some).map fun r=>(r.1,()):=rfl
def args_k5:SkL:=(.cons (cP 0) (.cons lI .nil))
def mem_k5:MSk:=[(0,.cells (.cons lI (.cons (cW 1) (.cons (cW 2) .nil)))),(1,qf),(2,qg)]
def outs_k5:List OutC:=[⟨(.tup (.cons lS (.cons lB .nil))),[]⟩]
abbrev A_k5:Type:=(Int×Unit)
abbrev M_k5:Type:=((Int×Unit)×Yb×Y6×Unit)
abbrev O_k5:Type:=(ByteArray×Bool×Unit)×Unit
abbrev B_k5:=A_k5→M_k5→Option O_k5
def routs_k5:List OutC:=[⟨(.tup (.cons lS (.cons lB .nil))),[(0,.cells (.cons lI (.cons (cW 1) (.cons (cW 2) .nil)))),(1,qf),(2,qg)]⟩]
abbrev RO_k5:Type:=(ByteArray×Bool×Unit)×((Int×Unit)×Yb×Y6×Unit)
def tree_k5 (F_k9:B_k9) {α:Type} (x1:Int) (x2:Int) (x3:Yb) (x4:Y6) (K:RO_k5→Option α):Option α :=
 (F_k9 (x1,()) ((x2,()),x3,x4,())).bind fun r1 =>
 cond (!r1.1)
 (K ((ByteArray.empty,false,()),(x2,()),x3,x4,()))
 (cond (decide (0≤x1))
 (cond (decide (x1 < (↑x3.length:Int)))
 (K ((x3.getD (0 + x1.toNat) ByteArray.empty,true,()),(x2,()),x3,x4,()))
 (none))
 (none))
noncomputable def R_k5:A_k5→M_k5→Option RO_k5:=fun a b=>tree_k5 F_k9 a.1 b.1.1 b.2.1 b.2.2.1 some
theorem reads_k5 (a:A_k5) (b:M_k5):Leaf (fun r:RO_k5=>r.2 = b) (R_k5 a b):=by
 show Leaf _ (tree_k5 F_k9 a.1 b.1.1 b.2.1 b.2.2.1 some)
 unfold tree_k5
 repeat (first | (with_reducible refine leaf_bind fun _=>?_) | (with_reducible apply leaf_cond) | (with_reducible refine leaf_sum (fun _=>?_) (fun _=>?_)) | (with_reducible exact leaf_none) | exact leaf_some rfl)
noncomputable def F_k5:A_k5→M_k5→Option O_k5:=fun a b=>(R_k5 a b).map fun r=>(r.1,())
theorem n_k5 (F_k9:B_k9) (x1 x2 x3 x4) {α:Type} (K:RO_k5→Option α):tree_k5 F_k9 x1 x2 x3 x4 K = (tree_k5 F_k9 x1 x2 x3 x4 some).bind K:=by simp only [tree_k5,bind_cond,bind_none',bind_some',bind_bind',bind_sum]
theorem Fe_k5 (x1 x2 x3 x4):F_k5 (x1,()) ((x2,()),x3,x4,()) = (tree_k5 F_k9 x1 x2 x3 x4 some).map fun r=>(r.1,()):=rfl
def args_k4:SkL:=(.cons (cP 0) (.cons lI .nil))
def mem_k4:MSk:=[(0,.cells (.cons lI (.cons (cW 1) (.cons (cW 2) .nil)))),(1,qf),(2,qg)]
def outs_k4:List OutC:=[⟨(.tup (.cons lS (.cons lB .nil))),[]⟩]
abbrev A_k4:Type:=(Int×Unit)
abbrev M_k4:Type:=((Int×Unit)×Yb×Y6×Unit)
abbrev O_k4:Type:=(ByteArray×Bool×Unit)×Unit
abbrev B_k4:=A_k4→M_k4→Option O_k4
def ltmps_k4_2:SkL:=(.cons (cP 0) (.cons lI (dz 4 (.cons lI (dz 33 .nil)))))
def lmem_k4_2:MSk:=[(0,.cells (.cons lI (.cons (cW 1) (.cons (cW 2) .nil)))),(1,qf),(2,qg)]
def louts_k4_2:List OutL:=[⟨.ret,(.cons (cP 0) (.cons lI (dz 2 (.cons lS (.cons lB (dz 34 .nil)))))),[(0,.cells (.cons lI (.cons (cW 1) (.cons (cW 2) .nil)))),(1,qf),(2,qg)]⟩,⟨(.exit 0),(.cons (cP 0) (.cons lI (dz 38 .nil))),[(0,.cells (.cons lI (.cons (cW 1) (.cons (cW 2) .nil)))),(1,qf),(2,qg)]⟩]
abbrev LT_k4_2:Type:=(Int×Int×Unit)
abbrev LM_k4_2:Type:=((Int×Unit)×Yb×Y6×Unit)
abbrev LO_k4_2:Type:=((Int×ByteArray×Bool×Unit)×((Int×Unit)×Yb×Y6×Unit)) ⊕ ((Int×Unit)×((Int×Unit)×Yb×Y6×Unit))
def ltree_k4_2 {α:Type} (x1:Int) (x2:Int) (x3:Int) (x4:Yb) (x5:Y6) (kn:LT_k4_2→LM_k4_2→Option α) (kr:LO_k4_2→Option α):Option α :=
 cond (decide (x2≥0))
 (cond (decide (0≤x2))
 (cond (decide (x2 < (↑x5.length:Int)))
 (cond ((x5.getD (0 + x2.toNat) (0,ByteArray.empty)).1 == x1)
 (cond (decide (0≤x2))
 (cond (decide (x2 < (↑x5.length:Int)))
 (kr (.inl ((x1,(x5.getD (0 + x2.toNat) (0,ByteArray.empty)).2,true,()),(x3,()),x4,x5,())))
 (none))
 (none))
 (kn (x1,IntKind.i64.wrap (x2 - 1),()) ((x3,()),x4,x5,())))
 (none))
 (none))
 (kr (.inr ((x1,()),(x3,()),x4,x5,())))
noncomputable def L_k4_2:LT_k4_2→LM_k4_2→Option LO_k4_2:=fun x y=>runL (fun p=>(fun (a:LT_k4_2) (b:LM_k4_2)=>ltree_k4_2 a.1 a.2.1 b.1.1 b.2.1 b.2.2.1 (fun a' b'=>some (.inl (a',b'))) fun r=>some (.inr r)) p.1 p.2) (x,y)
theorem nl_k4_2 (x1 x2 x3 x4 x5) {α:Type} (kn:LT_k4_2→LM_k4_2→Option α) (kr:LO_k4_2→Option α):ltree_k4_2 x1 x2 x3 x4 x5 kn kr = (ltree_k4_2 x1 x2 x3 x4 x5 (fun a b=>some (.inl (a,b))) fun r=>some (.inr r)).bind (Sum.elim (fun p:LT_k4_2×LM_k4_2=>kn p.1 p.2) kr):=by simp only [ltree_k4_2,bind_cond,bind_none',bind_some',bind_bind',bind_sum,Sum.elim_inl,Sum.elim_inr]
theorem Le_k4_2 (x1 x2 x3 x4 x5):L_k4_2 (x1,x2,()) ((x3,()),x4,x5,()) = ltree_k4_2 x1 x2 x3 x4 x5 L_k4_2 some:=runL_tree (A:=LT_k4_2) (B:=LM_k4_2) (R:=LO_k4_2) (fun a b kn kr=>ltree_k4_2 a.1 a.2.1 b.1.1 b.2.1 b.2.2.1 kn kr) (fun a b kn kr=>nl_k4_2 a.1 a.2.1 b.1.1 b.2.1 b.2.2.1 kn kr) (x1,x2,()) ((x3,()),x4,x5,())
def routs_k4:List OutC:=[⟨(.tup (.cons lS (.cons lB .nil))),[(0,.cells (.cons lI (.cons (cW 1) (.cons (cW 2) .nil)))),(1,qf),(2,qg)]⟩]
abbrev RO_k4:Type:=(ByteArray×Bool×Unit)×((Int×Unit)×Yb×Y6×Unit)
def tree_k4 (F_k5:B_k5) (L_k4_2:LT_k4_2→LM_k4_2→Option LO_k4_2) {α:Type} (x1:Int) (x2:Int) (x3:Yb) (x4:Y6) (K:RO_k4→Option α):Option α :=
 (L_k4_2 (x1,IntKind.i64.wrap ((↑x4.length:Int) - 1),()) ((x2,()),x3,x4,())).bind fun r1 =>
 Sum.elim (fun u2 =>
 K ((u2.1.2.1,u2.1.2.2.1,()),(u2.2.1.1,()),u2.2.2.1,u2.2.2.2.1,()))
 (fun u2 =>
 (F_k5 (u2.1.1,()) ((u2.2.1.1,()),u2.2.2.1,u2.2.2.2.1,())).bind fun r3 =>
 K ((r3.1.1,r3.1.2.1,()),(u2.2.1.1,()),u2.2.2.1,u2.2.2.2.1,())) (r1)
noncomputable def R_k4:A_k4→M_k4→Option RO_k4:=fun a b=>tree_k4 F_k5 L_k4_2 a.1 b.1.1 b.2.1 b.2.2.1 some
theorem lr_k4_2 (x:LT_k4_2) (y:LM_k4_2):Leaf (fun r:LO_k4_2=>((Sum.elim (fun r=>r.2 = y) (fun r=>r.2 = y)):LO_k4_2→Prop) r) (L_k4_2 x y):=by
 refine leaf_loop (fun s=>s.2 = y) (fun s hs=>?_) rfl
 obtain ⟨a,b⟩:=s
 cases hs
 dsimp only
 unfold ltree_k4_2
 repeat (first | (with_reducible refine leaf_bind fun _=>?_) | (with_reducible apply leaf_cond) | (with_reducible refine leaf_sum (fun _=>?_) (fun _=>?_)) | (with_reducible exact leaf_none) | exact leaf_some rfl)
theorem reads_k4 (a:A_k4) (b:M_k4):Leaf (fun r:RO_k4=>r.2 = b) (R_k4 a b):=by
 show Leaf _ (tree_k4 F_k5 L_k4_2 a.1 b.1.1 b.2.1 b.2.2.1 some)
 unfold tree_k4
 repeat (first | ((with_reducible refine leaf_bindL (lr_k4_2 _ _) fun r hr=>?_); first | (rcases r with r | r <;> (have hr:r.2 = _:=hr; obtain ⟨r1,r2⟩:=r; cases hr; simp only [Sum.elim_inl,Sum.elim_inr])) | (have hr:r.2 = _:=hr; obtain ⟨r1,r2⟩:=r; cases hr)) | (with_reducible refine leaf_bind fun _=>?_) | (with_reducible apply leaf_cond) | (with_reducible refine leaf_sum (fun _=>?_) (fun _=>?_)) | (with_reducible exact leaf_none) | exact leaf_some rfl)
noncomputable def F_k4:A_k4→M_k4→Option O_k4:=fun a b=>(R_k4 a b).map fun r=>(r.1,())
theorem n_k4 (F_k5:B_k5) (L_k4_2:LT_k4_2→LM_k4_2→Option LO_k4_2) (x1 x2 x3 x4) {α:Type} (K:RO_k4→Option α):tree_k4 F_k5 L_k4_2 x1 x2 x3 x4 K = (tree_k4 F_k5 L_k4_2 x1 x2 x3 x4 some).bind K:=by simp only [tree_k4,bind_cond,bind_none',bind_some',bind_bind',bind_sum]
theorem Fe_k4 (x1 x2 x3 x4):F_k4 (x1,()) ((x2,()),x3,x4,()) = (tree_k4 F_k5 L_k4_2 x1 x2 x3 x4 some).map fun r=>(r.1,()):=rfl
def args_k3:SkL:=(.cons lI (.cons (cP 0) .nil))
def mem_k3:MSk:=[(0,.cells (.cons (cP 1) .nil)),(1,.cells (.cons lI (.cons (cW 2) (.cons (cW 3) .nil)))),(2,qf),(3,qg)]
def outs_k3:List OutC:=[⟨lI,[]⟩]
abbrev A_k3:Type:=(Int×Unit)
abbrev M_k3:Type:=(Unit×(Int×Unit)×Yb×Y6×Unit)
abbrev O_k3:Type:=Int×Unit
abbrev B_k3:=A_k3→M_k3→Option O_k3
def routs_k3:List OutC:=[⟨lI,[(0,.cells (.cons (cP 1) .nil)),(1,.cells (.cons lI (.cons (cW 2) (.cons (cW 3) .nil)))),(2,qf),(3,qg)]⟩]
abbrev RO_k3:Type:=Int×(Unit×(Int×Unit)×Yb×Y6×Unit)
def tree_k3 {α:Type} (x1:Int) (x2:Int) (x3:Yb) (x4:Y6) (K:RO_k3→Option α):Option α :=
 K (x2,(),(x2,()),x3,x4,())
noncomputable def R_k3:A_k3→M_k3→Option RO_k3:=fun a b=>tree_k3 a.1 b.2.1.1 b.2.2.1 b.2.2.2.1 some
theorem reads_k3 (a:A_k3) (b:M_k3):Leaf (fun r:RO_k3=>r.2 = b) (R_k3 a b):=by
 show Leaf _ (tree_k3 a.1 b.2.1.1 b.2.2.1 b.2.2.2.1 some)
 unfold tree_k3
 repeat (first | (with_reducible refine leaf_bind fun _=>?_) | (with_reducible apply leaf_cond) | (with_reducible refine leaf_sum (fun _=>?_) (fun _=>?_)) | (with_reducible exact leaf_none) | exact leaf_some rfl)
noncomputable def F_k3:A_k3→M_k3→Option O_k3:=fun a b=>(R_k3 a b).map fun r=>(r.1,())
theorem n_k3 (x1 x2 x3 x4) {α:Type} (K:RO_k3→Option α):tree_k3 x1 x2 x3 x4 K = (tree_k3 x1 x2 x3 x4 some).bind K:=by simp only [tree_k3,bind_cond,bind_none',bind_some',bind_bind',bind_sum]
theorem Fe_k3 (x1 x2 x3 x4):F_k3 (x1,()) ((),(x2,()),x3,x4,()) = (tree_k3 x1 x2 x3 x4 some).map fun r=>(r.1,()):=rfl
def args_k1:SkL:=(.cons lI (.cons (cP 0) .nil))
def mem_k1:MSk:=[(0,.cells (.cons (.leaf (.slc 3 (.cons (.int .i64) .nil))) .nil))]
def outs_k1:List OutC:=[⟨lI,[]⟩]
abbrev A_k1:Type:=(Int×Unit)
abbrev M_k1:Type:=((List Int×Unit)×Unit)
abbrev O_k1:Type:=Int×Unit
abbrev B_k1:=A_k1→M_k1→Option O_k1
def routs_k1:List OutC:=[⟨lI,[(0,.cells (.cons (.leaf (.slc 3 (.cons (.int .i64) .nil))) .nil))]⟩]
abbrev RO_k1:Type:=Int×((List Int×Unit)×Unit)
def tree_k1 {α:Type} (x1:Int) (x2:List Int) (K:RO_k1→Option α):Option α :=
 cond (decide (x1 < (↑x2.length:Int)))
 (cond (decide (0≤x1))
 (cond (decide (x1 < (↑x2.length:Int)))
 (K (x2.getD x1.toNat 0,(x2,()),()))
 (none))
 (none))
 (K (0,(x2,()),()))
noncomputable def R_k1:A_k1→M_k1→Option RO_k1:=fun a b=>tree_k1 a.1 b.1.1 some
theorem reads_k1 (a:A_k1) (b:M_k1):Leaf (fun r:RO_k1=>r.2 = b) (R_k1 a b):=by
 show Leaf _ (tree_k1 a.1 b.1.1 some)
 unfold tree_k1
 repeat (first | (with_reducible refine leaf_bind fun _=>?_) | (with_reducible apply leaf_cond) | (with_reducible refine leaf_sum (fun _=>?_) (fun _=>?_)) | (with_reducible exact leaf_none) | exact leaf_some rfl)
noncomputable def F_k1:A_k1→M_k1→Option O_k1:=fun a b=>(R_k1 a b).map fun r=>(r.1,())
theorem n_k1 (x1 x2) {α:Type} (K:RO_k1→Option α):tree_k1 x1 x2 K = (tree_k1 x1 x2 some).bind K:=by simp only [tree_k1,bind_cond,bind_none',bind_some',bind_bind',bind_sum]
theorem Fe_k1 (x1 x2):F_k1 (x1,()) ((x2,()),()) = (tree_k1 x1 x2 some).map fun r=>(r.1,()):=rfl
def args_k10:SkL:=(.cons (cP 0) (.cons (.fn 130 (.cons (cP 1) .nil)) .nil))
def mem_k10:MSk:=[(0,.cells (.cons lI (.cons (cW 2) (.cons (cW 3) .nil)))),(1,.cells (.cons (cP 0) .nil)),(2,qf),(3,qg)]
def outs_k10:List OutC:=[⟨(.tup .nil),[(0,.cells (.cons lI (.cons (cW 2) (.cons (cW 4) .nil)))),(1,.cells (.cons (cP 0) .nil)),(2,qf),(3,.gone),(4,qg)]⟩]
abbrev A_k10:Type:=(Unit×Unit)
abbrev M_k10:Type:=((Int×Unit)×Unit×Yb×Y6×Unit)
abbrev O_k10:Type:=Unit×((Int×Unit)×Unit×Yb×Unit×Y6×Unit)
abbrev B_k10:=A_k10→M_k10→Option O_k10
def ltmps_k10_1:SkL:=(.cons (cP 0) (.cons (.fn 130 (.cons (cP 1) .nil)) (dz 8 (.cons (cW 3) (.cons lI (.cons lI (dz 39 .nil)))))))
def lmem_k10_1:MSk:=[(0,.cells (.cons lI (.cons (cW 2) (.cons (cW 3) .nil)))),(1,.cells (.cons (cP 0) .nil)),(2,qf),(3,qg)]
def louts_k10_1:List OutL:=[⟨(.exit 0),(.cons (cP 0) (dz 51 .nil)),[(0,.cells (.cons lI (.cons (cW 2) (.cons (cW 3) .nil)))),(1,.cells (.cons (cP 0) .nil)),(2,qf),(3,qg)]⟩]
abbrev LT_k10_1:Type:=(Unit×Int×Int×Unit)
abbrev LM_k10_1:Type:=((Int×Unit)×Unit×Yb×Y6×Unit)
abbrev LO_k10_1:Type:=Unit×((Int×Unit)×Unit×Yb×Y6×Unit)
def ltree_k10_1 (F_k3:B_k3) {α:Type} (x1:Int) (x2:Int) (x3:Int) (x4:Yb) (x5:Y6) (kn:LT_k10_1→LM_k10_1→Option α) (kr:LO_k10_1→Option α):Option α :=
 cond (decide (x2 < x1))
 (cond (decide (0≤x2))
 (cond (decide (x2 < (↑x5.length:Int)))
 ((F_k3 (x2,()) ((),(x3,()),x4,x5,())).bind fun r1 =>
 cond (decide (0≤if x3 < if 0 > r1.1 then 0 else r1.1 then x3 else if 0 > r1.1 then 0 else r1.1))
 (cond (decide ((if x3 < if 0 > r1.1 then 0 else r1.1 then x3 else if 0 > r1.1 then 0 else r1.1)≤(↑(x5.getD (0 + x2.toNat) (0,ByteArray.empty)).2.size:Int)))
 (cond (decide (0≤(x5.getD (0 + x2.toNat) (0,ByteArray.empty)).1))
 (cond (decide ((x5.getD (0 + x2.toNat) (0,ByteArray.empty)).1 < (↑x4.length:Int)))
 (cond (decide (0≤if x3 < if 0 > r1.1 then 0 else r1.1 then x3 else if 0 > r1.1 then 0 else r1.1))
 (cond (decide ((if x3 < if 0 > r1.1 then 0 else r1.1 then x3 else if 0 > r1.1 then 0 else r1.1)≤(↑(x4.getD (0 + (x5.getD (0 + x2.toNat) (0,ByteArray.empty)).1.toNat) ByteArray.empty).size:Int)))
 (cond (decide (((x5.getD (0 + x2.toNat) (0,ByteArray.empty)).2.extract 0 (if x3 < if 0 > r1.1 then 0 else r1.1 then x3 else if 0 > r1.1 then 0 else r1.1).toNat).size + ((x4.getD (0 + (x5.getD (0 + x2.toNat) (0,ByteArray.empty)).1.toNat) ByteArray.empty).extract (if x3 < if 0 > r1.1 then 0 else r1.1 then x3 else if 0 > r1.1 then 0 else r1.1).toNat (x4.getD (0 + (x5.getD (0 + x2.toNat) (0,ByteArray.empty)).1.toNat) ByteArray.empty).size).size≤9223372036854775807))
 (cond (decide (0≤(x5.getD (0 + x2.toNat) (0,ByteArray.empty)).1))
 (cond (decide ((x5.getD (0 + x2.toNat) (0,ByteArray.empty)).1 < (↑x4.length:Int)))
 (kn ((),x1,IntKind.i64.wrap (x2 + 1),()) ((x3,()),(),x4.set (0 + (x5.getD (0 + x2.toNat) (0,ByteArray.empty)).1.toNat) ((x5.getD (0 + x2.toNat) (0,ByteArray.empty)).2.extract 0 (if x3 < if 0 > r1.1 then 0 else r1.1 then x3 else if 0 > r1.1 then 0 else r1.1).toNat ++ (x4.getD (0 + (x5.getD (0 + x2.toNat) (0,ByteArray.empty)).1.toNat) ByteArray.empty).extract (if x3 < if 0 > r1.1 then 0 else r1.1 then x3 else if 0 > r1.1 then 0 else r1.1).toNat (x4.getD (0 + (x5.getD (0 + x2.toNat) (0,ByteArray.empty)).1.toNat) ByteArray.empty).size),x5,()))
 (none))
 (none))
 (none))
 (none))
 (none))
 (none))
 (none))
 (none))
 (none))
 (none))
 (none))
 (kr ((),(x3,()),(),x4,x5,()))
noncomputable def L_k10_1:LT_k10_1→LM_k10_1→Option LO_k10_1:=fun x y=>runL (fun p=>(fun (a:LT_k10_1) (b:LM_k10_1)=>ltree_k10_1 F_k3 a.2.1 a.2.2.1 b.1.1 b.2.2.1 b.2.2.2.1 (fun a' b'=>some (.inl (a',b'))) fun r=>some (.inr r)) p.1 p.2) (x,y)
theorem nl_k10_1 (F_k3:B_k3) (x1 x2 x3 x4 x5) {α:Type} (kn:LT_k10_1→LM_k10_1→Option α) (kr:LO_k10_1→Option α):ltree_k10_1 F_k3 x1 x2 x3 x4 x5 kn kr = (ltree_k10_1 F_k3 x1 x2 x3 x4 x5 (fun a b=>some (.inl (a,b))) fun r=>some (.inr r)).bind (Sum.elim (fun p:LT_k10_1×LM_k10_1=>kn p.1 p.2) kr):=by simp only [ltree_k10_1,bind_cond,bind_none',bind_some',bind_bind',bind_sum,Sum.elim_inl,Sum.elim_inr]
theorem Le_k10_1 (x1 x2 x3 x4 x5):L_k10_1 ((),x1,x2,()) ((x3,()),(),x4,x5,()) = ltree_k10_1 F_k3 x1 x2 x3 x4 x5 L_k10_1 some:=runL_tree (A:=LT_k10_1) (B:=LM_k10_1) (R:=LO_k10_1) (fun a b kn kr=>ltree_k10_1 F_k3 a.2.1 a.2.2.1 b.1.1 b.2.2.1 b.2.2.2.1 kn kr) (fun a b kn kr=>nl_k10_1 F_k3 a.2.1 a.2.2.1 b.1.1 b.2.2.1 b.2.2.2.1 kn kr) ((),x1,x2,()) ((x3,()),(),x4,x5,())
def tree_k10 (L_k10_1:LT_k10_1→LM_k10_1→Option LO_k10_1) {α:Type} (x1:Int) (x2:Yb) (x3:Y6) (K:O_k10→Option α):Option α :=
 (L_k10_1 ((),(↑x3.length:Int),0,()) ((x1,()),(),x2,x3,())).bind fun r1 =>
 K ((),(r1.2.1.1,()),(),r1.2.2.2.1,(),[],())
noncomputable def F_k10:A_k10→M_k10→Option O_k10:=fun a b=>tree_k10 L_k10_1 b.1.1 b.2.2.1 b.2.2.2.1 some
theorem n_k10 (L_k10_1:LT_k10_1→LM_k10_1→Option LO_k10_1) (x1 x2 x3) {α:Type} (K:O_k10→Option α):tree_k10 L_k10_1 x1 x2 x3 K = (tree_k10 L_k10_1 x1 x2 x3 some).bind K:=by simp only [tree_k10,bind_cond,bind_none',bind_some',bind_bind',bind_sum]
theorem Fe_k10 (x1 x2 x3):F_k10 ((),()) ((x1,()),(),x2,x3,()) = tree_k10 L_k10_1 x1 x2 x3 some:=rfl
def args_k11:SkL:=(.cons (cP 0) (.cons (.fn 93 (.cons (cP 1) .nil)) .nil))
def mem_k11:MSk:=[(0,.cells (.cons lI (.cons (cW 2) (.cons (cW 3) .nil)))),(1,.cells (.cons (.leaf (.slc 3 (.cons (.int .i64) .nil))) .nil)),(2,qf),(3,qg)]
def outs_k11:List OutC:=[⟨(.tup .nil),[(0,.cells (.cons lI (.cons (cW 2) (.cons (cW 4) .nil)))),(1,.cells (.cons (.leaf (.slc 3 (.cons (.int .i64) .nil))) .nil)),(2,qf),(3,.gone),(4,qg)]⟩]
abbrev A_k11:Type:=(Unit×Unit)
abbrev M_k11:Type:=((Int×Unit)×(List Int×Unit)×Yb×Y6×Unit)
abbrev O_k11:Type:=Unit×((Int×Unit)×(List Int×Unit)×Yb×Unit×Y6×Unit)
abbrev B_k11:=A_k11→M_k11→Option O_k11
def ltmps_k11_1:SkL:=(.cons (cP 0) (.cons (.fn 93 (.cons (cP 1) .nil)) (dz 8 (.cons (cW 3) (.cons lI (.cons lI (dz 39 .nil)))))))
def lmem_k11_1:MSk:=[(0,.cells (.cons lI (.cons (cW 2) (.cons (cW 3) .nil)))),(1,.cells (.cons (.leaf (.slc 3 (.cons (.int .i64) .nil))) .nil)),(2,qf),(3,qg)]
def louts_k11_1:List OutL:=[⟨(.exit 0),(.cons (cP 0) (dz 51 .nil)),[(0,.cells (.cons lI (.cons (cW 2) (.cons (cW 3) .nil)))),(1,.cells (.cons (.leaf (.slc 3 (.cons (.int .i64) .nil))) .nil)),(2,qf),(3,qg)]⟩]
abbrev LT_k11_1:Type:=(Unit×Int×Int×Unit)
abbrev LM_k11_1:Type:=((Int×Unit)×(List Int×Unit)×Yb×Y6×Unit)
abbrev LO_k11_1:Type:=Unit×((Int×Unit)×(List Int×Unit)×Yb×Y6×Unit)
def ltree_k11_1 (F_k1:B_k1) {α:Type} (x1:Int) (x2:Int) (x3:Int) (x4:List Int) (x5:Yb) (x6:Y6) (kn:LT_k11_1→LM_k11_1→Option α) (kr:LO_k11_1→Option α):Option α :=
 cond (decide (x2 < x1))
 (cond (decide (0≤x2))
 (cond (decide (x2 < (↑x6.length:Int)))
 ((F_k1 (x2,()) ((x4,()),())).bind fun r1 =>
 cond (decide (0≤if x3 < if 0 > r1.1 then 0 else r1.1 then x3 else if 0 > r1.1 then 0 else r1.1))
 (cond (decide ((if x3 < if 0 > r1.1 then 0 else r1.1 then x3 else if 0 > r1.1 then 0 else r1.1)≤(↑(x6.getD (0 + x2.toNat) (0,ByteArray.empty)).2.size:Int)))
 (cond (decide (0≤(x6.getD (0 + x2.toNat) (0,ByteArray.empty)).1))
 (cond (decide ((x6.getD (0 + x2.toNat) (0,ByteArray.empty)).1 < (↑x5.length:Int)))
 (cond (decide (0≤if x3 < if 0 > r1.1 then 0 else r1.1 then x3 else if 0 > r1.1 then 0 else r1.1))
 (cond (decide ((if x3 < if 0 > r1.1 then 0 else r1.1 then x3 else if 0 > r1.1 then 0 else r1.1)≤(↑(x5.getD (0 + (x6.getD (0 + x2.toNat) (0,ByteArray.empty)).1.toNat) ByteArray.empty).size:Int)))
 (cond (decide (((x6.getD (0 + x2.toNat) (0,ByteArray.empty)).2.extract 0 (if x3 < if 0 > r1.1 then 0 else r1.1 then x3 else if 0 > r1.1 then 0 else r1.1).toNat).size + ((x5.getD (0 + (x6.getD (0 + x2.toNat) (0,ByteArray.empty)).1.toNat) ByteArray.empty).extract (if x3 < if 0 > r1.1 then 0 else r1.1 then x3 else if 0 > r1.1 then 0 else r1.1).toNat (x5.getD (0 + (x6.getD (0 + x2.toNat) (0,ByteArray.empty)).1.toNat) ByteArray.empty).size).size≤9223372036854775807))
 (cond (decide (0≤(x6.getD (0 + x2.toNat) (0,ByteArray.empty)).1))
 (cond (decide ((x6.getD (0 + x2.toNat) (0,ByteArray.empty)).1 < (↑x5.length:Int)))
 (kn ((),x1,IntKind.i64.wrap (x2 + 1),()) ((x3,()),(x4,()),x5.set (0 + (x6.getD (0 + x2.toNat) (0,ByteArray.empty)).1.toNat) ((x6.getD (0 + x2.toNat) (0,ByteArray.empty)).2.extract 0 (if x3 < if 0 > r1.1 then 0 else r1.1 then x3 else if 0 > r1.1 then 0 else r1.1).toNat ++ (x5.getD (0 + (x6.getD (0 + x2.toNat) (0,ByteArray.empty)).1.toNat) ByteArray.empty).extract (if x3 < if 0 > r1.1 then 0 else r1.1 then x3 else if 0 > r1.1 then 0 else r1.1).toNat (x5.getD (0 + (x6.getD (0 + x2.toNat) (0,ByteArray.empty)).1.toNat) ByteArray.empty).size),x6,()))
 (none))
 (none))
 (none))
 (none))
 (none))
 (none))
 (none))
 (none))
 (none))
 (none))
 (none))
 (kr ((),(x3,()),(x4,()),x5,x6,()))
noncomputable def L_k11_1:LT_k11_1→LM_k11_1→Option LO_k11_1:=fun x y=>runL (fun p=>(fun (a:LT_k11_1) (b:LM_k11_1)=>ltree_k11_1 F_k1 a.2.1 a.2.2.1 b.1.1 b.2.1.1 b.2.2.1 b.2.2.2.1 (fun a' b'=>some (.inl (a',b'))) fun r=>some (.inr r)) p.1 p.2) (x,y)
theorem nl_k11_1 (F_k1:B_k1) (x1 x2 x3 x4 x5 x6) {α:Type} (kn:LT_k11_1→LM_k11_1→Option α) (kr:LO_k11_1→Option α):ltree_k11_1 F_k1 x1 x2 x3 x4 x5 x6 kn kr = (ltree_k11_1 F_k1 x1 x2 x3 x4 x5 x6 (fun a b=>some (.inl (a,b))) fun r=>some (.inr r)).bind (Sum.elim (fun p:LT_k11_1×LM_k11_1=>kn p.1 p.2) kr):=by simp only [ltree_k11_1,bind_cond,bind_none',bind_some',bind_bind',bind_sum,Sum.elim_inl,Sum.elim_inr]
theorem Le_k11_1 (x1 x2 x3 x4 x5 x6):L_k11_1 ((),x1,x2,()) ((x3,()),(x4,()),x5,x6,()) = ltree_k11_1 F_k1 x1 x2 x3 x4 x5 x6 L_k11_1 some:=runL_tree (A:=LT_k11_1) (B:=LM_k11_1) (R:=LO_k11_1) (fun a b kn kr=>ltree_k11_1 F_k1 a.2.1 a.2.2.1 b.1.1 b.2.1.1 b.2.2.1 b.2.2.2.1 kn kr) (fun a b kn kr=>nl_k11_1 F_k1 a.2.1 a.2.2.1 b.1.1 b.2.1.1 b.2.2.1 b.2.2.2.1 kn kr) ((),x1,x2,()) ((x3,()),(x4,()),x5,x6,())
def tree_k11 (L_k11_1:LT_k11_1→LM_k11_1→Option LO_k11_1) {α:Type} (x1:Int) (x2:List Int) (x3:Yb) (x4:Y6) (K:O_k11→Option α):Option α :=
 (L_k11_1 ((),(↑x4.length:Int),0,()) ((x1,()),(x2,()),x3,x4,())).bind fun r1 =>
 K ((),(r1.2.1.1,()),(r1.2.2.1.1,()),r1.2.2.2.1,(),[],())
noncomputable def F_k11:A_k11→M_k11→Option O_k11:=fun a b=>tree_k11 L_k11_1 b.1.1 b.2.1.1 b.2.2.1 b.2.2.2.1 some
theorem n_k11 (L_k11_1:LT_k11_1→LM_k11_1→Option LO_k11_1) (x1 x2 x3 x4) {α:Type} (K:O_k11→Option α):tree_k11 L_k11_1 x1 x2 x3 x4 K = (tree_k11 L_k11_1 x1 x2 x3 x4 some).bind K:=by simp only [tree_k11,bind_cond,bind_none',bind_some',bind_bind',bind_sum]
theorem Fe_k11 (x1 x2 x3 x4):F_k11 ((),()) ((x1,()),(x2,()),x3,x4,()) = tree_k11 L_k11_1 x1 x2 x3 x4 some:=rfl
def args_k2:SkL:=(.cons (cP 0) .nil)
def mem_k2:MSk:=[(0,.cells (.cons lI (.cons (cW 1) (.cons (cW 2) .nil)))),(1,qf),(2,qg)]
def outs_k2:List OutC:=[⟨(.tup .nil),[(0,.cells (.cons lI (.cons (cW 1) (.cons (cW 3) .nil)))),(1,qf),(2,.gone),(3,qg)]⟩]
abbrev A_k2:Type:=Unit
abbrev M_k2:Type:=((Int×Unit)×Yb×Y6×Unit)
abbrev O_k2:Type:=Unit×((Int×Unit)×Yb×Unit×Y6×Unit)
abbrev B_k2:=A_k2→M_k2→Option O_k2
def tree_k2 (F_k10:B_k10) {α:Type} (x1:Int) (x2:Yb) (x3:Y6) (K:O_k2→Option α):Option α :=
 (F_k10 ((),()) ((x1,()),(),x2,x3,())).bind fun r1 =>
 K ((),(r1.2.1.1,()),r1.2.2.2.1,(),r1.2.2.2.2.2.1,())
noncomputable def F_k2:A_k2→M_k2→Option O_k2:=fun a b=>tree_k2 F_k10 b.1.1 b.2.1 b.2.2.1 some
theorem n_k2 (F_k10:B_k10) (x1 x2 x3) {α:Type} (K:O_k2→Option α):tree_k2 F_k10 x1 x2 x3 K = (tree_k2 F_k10 x1 x2 x3 some).bind K:=by simp only [tree_k2,bind_cond,bind_none',bind_some',bind_bind',bind_sum]
theorem Fe_k2 (x1 x2 x3):F_k2 () ((x1,()),x2,x3,()) = tree_k2 F_k10 x1 x2 x3 some:=rfl
def args_k0:SkL:=(.cons (cP 0) (.cons (.leaf (.slc 3 (.cons (.int .i64) .nil))) .nil))
def mem_k0:MSk:=[(0,.cells (.cons lI (.cons (cW 1) (.cons (cW 2) .nil)))),(1,qf),(2,qg)]
def outs_k0:List OutC:=[⟨(.tup .nil),[(0,.cells (.cons lI (.cons (cW 1) (.cons (cW 3) .nil)))),(1,qf),(2,.gone),(3,qg)]⟩]
abbrev A_k0:Type:=(List Int×Unit)
abbrev M_k0:Type:=((Int×Unit)×Yb×Y6×Unit)
abbrev O_k0:Type:=Unit×((Int×Unit)×Yb×Unit×Y6×Unit)
abbrev B_k0:=A_k0→M_k0→Option O_k0
def tree_k0 (F_k11:B_k11) {α:Type} (x1:List Int) (x2:Int) (x3:Yb) (x4:Y6) (K:O_k0→Option α):Option α :=
 (F_k11 ((),()) ((x2,()),(x1,()),x3,x4,())).bind fun r1 =>
 K ((),(r1.2.1.1,()),r1.2.2.2.1,(),r1.2.2.2.2.2.1,())
noncomputable def F_k0:A_k0→M_k0→Option O_k0:=fun a b=>tree_k0 F_k11 a.1 b.1.1 b.2.1 b.2.2.1 some
theorem n_k0 (F_k11:B_k11) (x1 x2 x3 x4) {α:Type} (K:O_k0→Option α):tree_k0 F_k11 x1 x2 x3 x4 K = (tree_k0 F_k11 x1 x2 x3 x4 some).bind K:=by simp only [tree_k0,bind_cond,bind_none',bind_some',bind_bind',bind_sum]
theorem Fe_k0 (x1 x2 x3 x4):F_k0 (x1,()) ((x2,()),x3,x4,()) = tree_k0 F_k11 x1 x2 x3 x4 some:=rfl
def args_k8:SkL:=(.cons (cP 0) (.cons lI (.cons lS .nil)))
def mem_k8:MSk:=[(0,.cells (.cons lI (.cons (cW 1) (.cons (cW 2) .nil)))),(1,qf),(2,qg)]
def outs_k8:List OutC:=[⟨lB,[(0,.cells (.cons lI (.cons (cW 1) (.cons (cW 3) .nil)))),(1,qf),(2,.gone),(3,qg)]⟩]
abbrev A_k8:Type:=(Int×ByteArray×Unit)
abbrev M_k8:Type:=((Int×Unit)×Yb×Y6×Unit)
abbrev O_k8:Type:=Bool×((Int×Unit)×Yb×Unit×Y6×Unit)
abbrev B_k8:=A_k8→M_k8→Option O_k8
def tree_k8 (F_k9:B_k9) (F_k76:B_k76) {α:Type} (x1:Int) (x2:ByteArray) (x3:Int) (x4:Yb) (x5:Y6) (K:O_k8→Option α):Option α :=
 (F_k9 (x1,()) ((x3,()),x4,x5,())).bind fun r1 =>
 cond (!r1.1)
 (K (false,(x3,()),x4,(),x5,()))
 (cond (decide ((↑x2.size:Int) > x3))
 (K (false,(x3,()),x4,(),x5,()))
 ((F_k76 ((ByteArray.mk #[0]),IntKind.i64.wrap (x3 - (↑x2.size:Int)),()) ()).bind fun r2 =>
 cond (decide (x2.size + r2.1.size≤9223372036854775807))
 (cond (decide ((x5.length + 1) * 24≤140737488355328))
 (K (true,(x3,()),x4,(),x5 ++ ([] ++ [(x1,x2 ++ r2.1)]),()))
 (none))
 (none)))
noncomputable def F_k8:A_k8→M_k8→Option O_k8:=fun a b=>tree_k8 F_k9 F_k76 a.1 a.2.1 b.1.1 b.2.1 b.2.2.1 some
theorem n_k8 (F_k9:B_k9) (F_k76:B_k76) (x1 x2 x3 x4 x5) {α:Type} (K:O_k8→Option α):tree_k8 F_k9 F_k76 x1 x2 x3 x4 x5 K = (tree_k8 F_k9 F_k76 x1 x2 x3 x4 x5 some).bind K:=by simp only [tree_k8,bind_cond,bind_none',bind_some',bind_bind',bind_sum]
theorem Fe_k8 (x1 x2 x3 x4 x5):F_k8 (x1,x2,()) ((x3,()),x4,x5,()) = tree_k8 F_k9 F_k76 x1 x2 x3 x4 x5 some:=rfl
def args_k12:SkL:=(.cons lI (.cons lI .nil))
def mem_k12:MSk:=[]
def outs_k12:List OutC:=[⟨(.tup (.cons (.const .nilp) (.cons (.const (.bool Bool.false)) .nil))),[]⟩,⟨(.tup (.cons (cP 0) (.cons (.const (.bool Bool.true)) .nil))),[(0,.cells (.cons lI (.cons (cW 1) (.cons (cW 2) .nil)))),(1,qf),(2,qg)]⟩]
abbrev A_k12:Type:=(Int×Int×Unit)
abbrev M_k12:Type:=Unit
abbrev O_k12:Type:=(Unit×Unit) ⊕ (Unit×((Int×Unit)×Yb×Y6×Unit))
abbrev B_k12:=A_k12→M_k12→Option O_k12
def ltmps_k12_5:SkL:=(.cons (.const .dead) (.cons lI (dz 4 (.cons (cP 1736) (dz 17 (.cons lI (.cons lI (dz 14 .nil))))))))
def lmem_k12_5:MSk:=[(501,qf),(1736,.cells (.cons lI (.cons (cW 501) (.cons (.const .nils) .nil))))]
def louts_k12_5:List OutL:=[⟨(.exit 0),(dz 6 (.cons (cP 1736) (dz 33 .nil))),[(501,qf),(1736,.cells (.cons lI (.cons (cW 501) (.cons (.const .nils) .nil))))]⟩]
abbrev LT_k12_5:Type:=(Int×Int×Int×Unit)
abbrev LM_k12_5:Type:=(Yb×(Int×Unit)×Unit)
abbrev LO_k12_5:Type:=Unit×(Yb×(Int×Unit)×Unit)
def ltree_k12_5 (F_k76:B_k76) {α:Type} (x1:Int) (x2:Int) (x3:Int) (x4:Yb) (x5:Int) (kn:LT_k12_5→LM_k12_5→Option α) (kr:LO_k12_5→Option α):Option α :=
 cond (decide (x3 < x2))
 ((F_k76 ((ByteArray.mk #[0]),x1,()) ()).bind fun r1 =>
 cond (decide ((x4.length + 1) * 16≤140737488355328))
 (kn (x1,x2,IntKind.i64.wrap (x3 + 1),()) (x4 ++ ([] ++ [r1.1]),(x5,()),()))
 (none))
 (kr ((),x4,(x5,()),()))
noncomputable def L_k12_5:LT_k12_5→LM_k12_5→Option LO_k12_5:=fun x y=>runL (fun p=>(fun (a:LT_k12_5) (b:LM_k12_5)=>ltree_k12_5 F_k76 a.1 a.2.1 a.2.2.1 b.1 b.2.1.1 (fun a' b'=>some (.inl (a',b'))) fun r=>some (.inr r)) p.1 p.2) (x,y)
theorem nl_k12_5 (F_k76:B_k76) (x1 x2 x3 x4 x5) {α:Type} (kn:LT_k12_5→LM_k12_5→Option α) (kr:LO_k12_5→Option α):ltree_k12_5 F_k76 x1 x2 x3 x4 x5 kn kr = (ltree_k12_5 F_k76 x1 x2 x3 x4 x5 (fun a b=>some (.inl (a,b))) fun r=>some (.inr r)).bind (Sum.elim (fun p:LT_k12_5×LM_k12_5=>kn p.1 p.2) kr):=by simp only [ltree_k12_5,bind_cond,bind_none',bind_some',bind_bind',bind_sum,Sum.elim_inl,Sum.elim_inr]
theorem Le_k12_5 (x1 x2 x3 x4 x5):L_k12_5 (x1,x2,x3,()) (x4,(x5,()),()) = ltree_k12_5 F_k76 x1 x2 x3 x4 x5 L_k12_5 some:=runL_tree (A:=LT_k12_5) (B:=LM_k12_5) (R:=LO_k12_5) (fun a b kn kr=>ltree_k12_5 F_k76 a.1 a.2.1 a.2.2.1 b.1 b.2.1.1 kn kr) (fun a b kn kr=>nl_k12_5 F_k76 a.1 a.2.1 a.2.2.1 b.1 b.2.1.1 kn kr) (x1,x2,x3,()) (x4,(x5,()),())
def tree_k12 (L_k12_5:LT_k12_5→LM_k12_5→Option LO_k12_5) {α:Type} (x1:Int) (x2:Int) (K:O_k12→Option α):Option α :=
 cond (decide (x1 < 1))
 (K (.inl ((),())))
 (cond (decide (x1 > 256))
 (K (.inl ((),())))
 (cond (decide (x2 < 32))
 (K (.inl ((),())))
 (cond (decide (x2 > 512))
 (K (.inl ((),())))
 ((L_k12_5 (x2,x1,0,()) ([],(x2,()),())).bind fun r1 =>
 K (.inr ((),(r1.2.2.1.1,()),r1.2.1,[],()))))))
noncomputable def F_k12:A_k12→M_k12→Option O_k12:=fun a b=>tree_k12 L_k12_5 a.1 a.2.1 some
theorem n_k12 (L_k12_5:LT_k12_5→LM_k12_5→Option LO_k12_5) (x1 x2) {α:Type} (K:O_k12→Option α):tree_k12 L_k12_5 x1 x2 K = (tree_k12 L_k12_5 x1 x2 some).bind K:=by simp only [tree_k12,bind_cond,bind_none',bind_some',bind_bind',bind_sum]
theorem Fe_k12 (x1 x2):F_k12 (x1,x2,()) () = tree_k12 L_k12_5 x1 x2 some:=rfl
end Go.Proofs.Ytljfdfghagiblaa.S2
