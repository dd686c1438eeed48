/- Plain forms of the program's functions,by program. -/
import Derived.Test.YtljfdfghagiblaaGdisk
set_option maxRecDepth 100000
set_option maxHeartbeats 0
set_option linter.unusedVariables false
set_option linter.unusedSimpArgs false
namespace Go.Proofs.Ytljfdfghagiblaa.S2
open Go
def args_k66:SkL:=(.cons lI .nil)
def mem_k66:MSk:=[]
def outs_k66:List OutC:=[⟨lB,[]⟩]
abbrev A_k66:Type:=(Int×Unit)
abbrev M_k66:Type:=Unit
abbrev O_k66:Type:=Bool×Unit
abbrev B_k66:=A_k66→M_k66→Option O_k66
def tree_k66 {α:Type} (x1:Int) (K:O_k66→Option α):Option α :=
 cond (decide (x1≥32))
 (K (decide (x1≤512),()))
 (K (false,()))
noncomputable def F_k66:A_k66→M_k66→Option O_k66:=fun a b=>tree_k66 a.1 some
theorem n_k66 (x1) {α:Type} (K:O_k66→Option α):tree_k66 x1 K = (tree_k66 x1 some).bind K:=by simp only [tree_k66,bind_cond,bind_none',bind_some',bind_bind',bind_sum]
theorem Fe_k66 (x1):F_k66 (x1,()) () = tree_k66 x1 some:=rfl
def args_k63:SkL:=(.cons lU .nil)
def mem_k63:MSk:=[]
def outs_k63:List OutC:=[⟨lS,[]⟩]
abbrev A_k63:Type:=(Int×Unit)
abbrev M_k63:Type:=Unit
abbrev O_k63:Type:=ByteArray×Unit
abbrev B_k63:=A_k63→M_k63→Option O_k63
def tree_k63 {α:Type} (x1:Int) (K:O_k63→Option α):Option α :=
 K (Go.strOfNums [IntKind.u8.wrap (x1.fdiv 72057594037927936),IntKind.u8.wrap (x1.fdiv 281474976710656),IntKind.u8.wrap (x1.fdiv 1099511627776),IntKind.u8.wrap (x1.fdiv 4294967296),IntKind.u8.wrap (x1.fdiv 16777216),IntKind.u8.wrap (x1.fdiv 65536),IntKind.u8.wrap (x1.fdiv 256),IntKind.u8.wrap (x1.fdiv 1)],())
noncomputable def F_k63:A_k63→M_k63→Option O_k63:=fun a b=>tree_k63 a.1 some
theorem n_k63 (x1) {α:Type} (K:O_k63→Option α):tree_k63 x1 K = (tree_k63 x1 some).bind K:=by simp only [tree_k63,bind_cond,bind_none',bind_some',bind_bind',bind_sum]
theorem Fe_k63 (x1):F_k63 (x1,()) () = tree_k63 x1 some:=rfl
def args_k65:SkL:=(.cons lS .nil)
def mem_k65:MSk:=[]
def outs_k65:List OutC:=[⟨lU,[]⟩]
abbrev A_k65:Type:=(ByteArray×Unit)
abbrev M_k65:Type:=Unit
abbrev O_k65:Type:=Int×Unit
abbrev B_k65:=A_k65→M_k65→Option O_k65
def ltmps_k65_3:SkL:=(.cons lS (dz 2 (.cons lU (dz 2 (.cons lI (.cons lI (dz 11 .nil)))))))
def lmem_k65_3:MSk:=[]
def louts_k65_3:List OutL:=[⟨(.exit 0),(dz 3 (.cons lU (dz 15 .nil))),[]⟩]
abbrev LT_k65_3:Type:=(ByteArray×Int×Int×Int×Unit)
abbrev LM_k65_3:Type:=Unit
abbrev LO_k65_3:Type:=(Int×Unit)×Unit
def ltree_k65_3 {α:Type} (x1:ByteArray) (x2:Int) (x3:Int) (x4:Int) (kn:LT_k65_3→LM_k65_3→Option α) (kr:LO_k65_3→Option α):Option α :=
 cond (decide (x4 < x3))
 (cond (decide (0≤x4))
 (cond (decide (x4 < (↑x1.size:Int)))
 (kn (x1,IntKind.u64.wrap (↑(BitVec.ofInt 64 (IntKind.u64.wrap (x2 * 256)) ||| BitVec.ofInt 64 (IntKind.u64.wrap (strAt x1 x4))).toNat:Int),x3,IntKind.i64.wrap (x4 + 1),()) ())
 (none))
 (none))
 (kr ((x2,()),()))
noncomputable def L_k65_3:LT_k65_3→LM_k65_3→Option LO_k65_3:=fun x y=>runL (fun p=>(fun (a:LT_k65_3) (b:LM_k65_3)=>ltree_k65_3 a.1 a.2.1 a.2.2.1 a.2.2.2.1 (fun a' b'=>some (.inl (a',b'))) fun r=>some (.inr r)) p.1 p.2) (x,y)
theorem nl_k65_3 (x1 x2 x3 x4) {α:Type} (kn:LT_k65_3→LM_k65_3→Option α) (kr:LO_k65_3→Option α):ltree_k65_3 x1 x2 x3 x4 kn kr = (ltree_k65_3 x1 x2 x3 x4 (fun a b=>some (.inl (a,b))) fun r=>some (.inr r)).bind (Sum.elim (fun p:LT_k65_3×LM_k65_3=>kn p.1 p.2) kr):=by simp only [ltree_k65_3,bind_cond,bind_none',bind_some',bind_bind',bind_sum,Sum.elim_inl,Sum.elim_inr]
theorem Le_k65_3 (x1 x2 x3 x4):L_k65_3 (x1,x2,x3,x4,()) () = ltree_k65_3 x1 x2 x3 x4 L_k65_3 some:=runL_tree (A:=LT_k65_3) (B:=LM_k65_3) (R:=LO_k65_3) (fun a b kn kr=>ltree_k65_3 a.1 a.2.1 a.2.2.1 a.2.2.2.1 kn kr) (fun a b kn kr=>nl_k65_3 a.1 a.2.1 a.2.2.1 a.2.2.2.1 kn kr) (x1,x2,x3,x4,()) ()
def tree_k65 (L_k65_3:LT_k65_3→LM_k65_3→Option LO_k65_3) {α:Type} (x1:ByteArray) (K:O_k65→Option α):Option α :=
 (L_k65_3 (x1,0,(↑x1.size:Int),0,()) ()).bind fun r1 =>
 K (r1.1.1,())
noncomputable def F_k65:A_k65→M_k65→Option O_k65:=fun a b=>tree_k65 L_k65_3 a.1 some
theorem n_k65 (L_k65_3:LT_k65_3→LM_k65_3→Option LO_k65_3) (x1) {α:Type} (K:O_k65→Option α):tree_k65 L_k65_3 x1 K = (tree_k65 L_k65_3 x1 some).bind K:=by simp only [tree_k65,bind_cond,bind_none',bind_some',bind_bind',bind_sum]
theorem Fe_k65 (x1):F_k65 (x1,()) () = tree_k65 L_k65_3 x1 some:=rfl
def args_k59:SkL:=(.cons lU (.cons lS (.cons lI .nil)))
def mem_k59:MSk:=[]
def outs_k59:List OutC:=[⟨(.tup (.cons lS (.cons lB .nil))),[]⟩]
abbrev A_k59:Type:=(Int×ByteArray×Int×Unit)
abbrev M_k59:Type:=Unit
abbrev O_k59:Type:=(ByteArray×Bool×Unit)×Unit
abbrev B_k59:=A_k59→M_k59→Option O_k59
def tree_k59 (F_k66:B_k66) (F_k63:B_k63) (F_k76:B_k76) {α:Type} (x1:Int) (x2:ByteArray) (x3:Int) (K:O_k59→Option α):Option α :=
 (F_k66 (x3,()) ()).bind fun r1 =>
 cond (!r1.1)
 (K ((ByteArray.empty,false,()),()))
 (cond (x1 == 0)
 (K ((ByteArray.empty,false,()),()))
 (cond (decide ((↑x2.size:Int) > IntKind.i64.wrap (x3 - 18)))
 (K ((ByteArray.empty,false,()),()))
 ((F_k63 (x1,()) ()).bind fun r2 =>
 cond (decide (r2.1.size + (Go.strOfNums ([] ++ [IntKind.u8.wrap ((↑x2.size:Int).fdiv 256)] ++ [IntKind.u8.wrap (↑x2.size:Int)])).size≤9223372036854775807))
 (cond (decide ((r2.1 ++ Go.strOfNums ([] ++ [IntKind.u8.wrap ((↑x2.size:Int).fdiv 256)] ++ [IntKind.u8.wrap (↑x2.size:Int)])).size + x2.size≤9223372036854775807))
 ((F_k76 ((ByteArray.mk #[0]),IntKind.i64.wrap (IntKind.i64.wrap (x3 - 18) - (↑x2.size:Int)),()) ()).bind fun r3 =>
 cond (decide ((r2.1 ++ Go.strOfNums ([] ++ [IntKind.u8.wrap ((↑x2.size:Int).fdiv 256)] ++ [IntKind.u8.wrap (↑x2.size:Int)]) ++ x2).size + r3.1.size≤9223372036854775807))
 ((F_k63 (x1,()) ()).bind fun r4 =>
 cond (decide ((r2.1 ++ Go.strOfNums ([] ++ [IntKind.u8.wrap ((↑x2.size:Int).fdiv 256)] ++ [IntKind.u8.wrap (↑x2.size:Int)]) ++ x2 ++ r3.1).size + r4.1.size≤9223372036854775807))
 (K ((r2.1 ++ Go.strOfNums ([] ++ [IntKind.u8.wrap ((↑x2.size:Int).fdiv 256)] ++ [IntKind.u8.wrap (↑x2.size:Int)]) ++ x2 ++ r3.1 ++ r4.1,true,()),()))
 (none))
 (none))
 (none))
 (none))))
noncomputable def F_k59:A_k59→M_k59→Option O_k59:=fun a b=>tree_k59 F_k66 F_k63 F_k76 a.1 a.2.1 a.2.2.1 some
theorem n_k59 (F_k66:B_k66) (F_k63:B_k63) (F_k76:B_k76) (x1 x2 x3) {α:Type} (K:O_k59→Option α):tree_k59 F_k66 F_k63 F_k76 x1 x2 x3 K = (tree_k59 F_k66 F_k63 F_k76 x1 x2 x3 some).bind K:=by simp only [tree_k59,bind_cond,bind_none',bind_some',bind_bind',bind_sum]
theorem Fe_k59 (x1 x2 x3):F_k59 (x1,x2,x3,()) () = tree_k59 F_k66 F_k63 F_k76 x1 x2 x3 some:=rfl
def args_k62:SkL:=(.cons lS .nil)
def mem_k62:MSk:=[]
def outs_k62:List OutC:=[⟨(.tup (.cons lU (.cons lS (.cons lB .nil)))),[]⟩]
abbrev A_k62:Type:=(ByteArray×Unit)
abbrev M_k62:Type:=Unit
abbrev O_k62:Type:=(Int×ByteArray×Bool×Unit)×Unit
abbrev B_k62:=A_k62→M_k62→Option O_k62
def tree_k62 (F_k66:B_k66) (F_k65:B_k65) {α:Type} (x1:ByteArray) (K:O_k62→Option α):Option α :=
 (F_k66 ((↑x1.size:Int),()) ()).bind fun r1 =>
 cond (!r1.1)
 (K ((0,ByteArray.empty,false,()),()))
 (cond (decide (8≤(↑x1.size:Int)))
 ((F_k65 (x1.extract 0 8,()) ()).bind fun r2 =>
 cond (decide (10≤(↑x1.size:Int)))
 ((F_k65 (x1.extract 8 10,()) ()).bind fun r3 =>
 cond (r2.1 == 0)
 (K ((0,ByteArray.empty,false,()),()))
 (cond (decide (0≤IntKind.i64.wrap ((↑x1.size:Int) - 8)))
 (cond (decide (IntKind.i64.wrap ((↑x1.size:Int) - 8)≤(↑x1.size:Int)))
 ((F_k65 (x1.extract (IntKind.i64.wrap ((↑x1.size:Int) - 8)).toNat x1.size,()) ()).bind fun r4 =>
 cond (r2.1 != r4.1)
 (K ((0,ByteArray.empty,false,()),()))
 (cond (decide (IntKind.i64.wrap r3.1 > IntKind.i64.wrap ((↑x1.size:Int) - 18)))
 (K ((0,ByteArray.empty,false,()),()))
 (cond (decide (10≤IntKind.i64.wrap (10 + IntKind.i64.wrap r3.1)))
 (cond (decide (IntKind.i64.wrap (10 + IntKind.i64.wrap r3.1)≤(↑x1.size:Int)))
 (K ((r2.1,x1.extract 10 (IntKind.i64.wrap (10 + IntKind.i64.wrap r3.1)).toNat,true,()),()))
 (none))
 (none))))
 (none))
 (none)))
 (none))
 (none))
noncomputable def F_k62:A_k62→M_k62→Option O_k62:=fun a b=>tree_k62 F_k66 F_k65 a.1 some
theorem n_k62 (F_k66:B_k66) (F_k65:B_k65) (x1) {α:Type} (K:O_k62→Option α):tree_k62 F_k66 F_k65 x1 K = (tree_k62 F_k66 F_k65 x1 some).bind K:=by simp only [tree_k62,bind_cond,bind_none',bind_some',bind_bind',bind_sum]
theorem Fe_k62 (x1):F_k62 (x1,()) () = tree_k62 F_k66 F_k65 x1 some:=rfl
def args_k64:SkL:=(.cons (cP 0) (.cons lI (.cons lI .nil)))
def mem_k64:MSk:=[(0,.cells (.cons lI (.cons (cW 1) (.cons (cW 2) .nil)))),(1,qf),(2,qg)]
def outs_k64:List OutC:=[⟨(.tup (.cons lI (.cons lU (.cons lS .nil)))),[]⟩]
abbrev A_k64:Type:=(Int×Int×Unit)
abbrev M_k64:Type:=((Int×Unit)×Yb×Y6×Unit)
abbrev O_k64:Type:=(Int×Int×ByteArray×Unit)×Unit
abbrev B_k64:=A_k64→M_k64→Option O_k64
def routs_k64:List OutC:=[⟨(.tup (.cons lI (.cons lU (.cons lS .nil)))),[(0,.cells (.cons lI (.cons (cW 1) (.cons (cW 2) .nil)))),(1,qf),(2,qg)]⟩]
abbrev RO_k64:Type:=(Int×Int×ByteArray×Unit)×((Int×Unit)×Yb×Y6×Unit)
def tree_k64 (F_k4:B_k4) (F_k62:B_k62) {α:Type} (x1:Int) (x2:Int) (x3:Int) (x4:Yb) (x5:Y6) (K:RO_k64→Option α):Option α :=
 (F_k4 (x1,()) ((x3,()),x4,x5,())).bind fun r1 =>
 (F_k4 (x2,()) ((x3,()),x4,x5,())).bind fun r2 =>
 (F_k62 (r1.1.1,()) ()).bind fun r3 =>
 (F_k62 (r2.1.1,()) ()).bind fun r4 =>
 cond (r4.1.2.2.1)
 (cond (!r3.1.2.2.1)
 (K ((x2,r4.1.1,r4.1.2.1,()),(x3,()),x4,x5,()))
 (cond (decide (r4.1.1 > r3.1.1))
 (K ((x2,r4.1.1,r4.1.2.1,()),(x3,()),x4,x5,()))
 (cond (!r3.1.2.2.1)
 (K ((x2,0,ByteArray.empty,()),(x3,()),x4,x5,()))
 (K ((x1,r3.1.1,r3.1.2.1,()),(x3,()),x4,x5,())))))
 (cond (!r3.1.2.2.1)
 (K ((x2,0,ByteArray.empty,()),(x3,()),x4,x5,()))
 (K ((x1,r3.1.1,r3.1.2.1,()),(x3,()),x4,x5,())))
noncomputable def R_k64:A_k64→M_k64→Option RO_k64:=fun a b=>tree_k64 F_k4 F_k62 a.1 a.2.1 b.1.1 b.2.1 b.2.2.1 some
theorem reads_k64 (a:A_k64) (b:M_k64):Leaf (fun r:RO_k64=>r.2 = b) (R_k64 a b):=by
 show Leaf _ (tree_k64 F_k4 F_k62 a.1 a.2.1 b.1.1 b.2.1 b.2.2.1 some)
 unfold tree_k64
 repeat (first | (with_reducible refine leaf_bind fun _=>?_) | (with_reducible apply leaf_cond) | (with_reducible refine leaf_sum (fun _=>?_) (fun _=>?_)) | (with_reducible exact leaf_none) | exact leaf_some rfl)
noncomputable def F_k64:A_k64→M_k64→Option O_k64:=fun a b=>(R_k64 a b).map fun r=>(r.1,())
theorem n_k64 (F_k4:B_k4) (F_k62:B_k62) (x1 x2 x3 x4 x5) {α:Type} (K:RO_k64→Option α):tree_k64 F_k4 F_k62 x1 x2 x3 x4 x5 K = (tree_k64 F_k4 F_k62 x1 x2 x3 x4 x5 some).bind K:=by simp only [tree_k64,bind_cond,bind_none',bind_some',bind_bind',bind_sum]
theorem Fe_k64 (x1 x2 x3 x4 x5):F_k64 (x1,x2,()) ((x3,()),x4,x5,()) = (tree_k64 F_k4 F_k62 x1 x2 x3 x4 x5 some).map fun r=>(r.1,()):=rfl
def args_k60:SkL:=(.cons (cP 0) (.cons lI (.cons lI .nil)))
def mem_k60:MSk:=[(0,.cells (.cons lI (.cons (cW 1) (.cons (cW 2) .nil)))),(1,qf),(2,qg)]
def outs_k60:List OutC:=[⟨(.tup (.cons lU (.cons lS .nil))),[]⟩]
abbrev A_k60:Type:=(Int×Int×Unit)
abbrev M_k60:Type:=((Int×Unit)×Yb×Y6×Unit)
abbrev O_k60:Type:=(Int×ByteArray×Unit)×Unit
abbrev B_k60:=A_k60→M_k60→Option O_k60
def routs_k60:List OutC:=[⟨(.tup (.cons lU (.cons lS .nil))),[(0,.cells (.cons lI (.cons (cW 1) (.cons (cW 2) .nil)))),(1,qf),(2,qg)]⟩]
abbrev RO_k60:Type:=(Int×ByteArray×Unit)×((Int×Unit)×Yb×Y6×Unit)
def tree_k60 (F_k64:B_k64) {α:Type} (x1:Int) (x2:Int) (x3:Int) (x4:Yb) (x5:Y6) (K:RO_k60→Option α):Option α :=
 (F_k64 (x1,x2,()) ((x3,()),x4,x5,())).bind fun r1 =>
 K ((r1.1.2.1,r1.1.2.2.1,()),(x3,()),x4,x5,())
noncomputable def R_k60:A_k60→M_k60→Option RO_k60:=fun a b=>tree_k60 F_k64 a.1 a.2.1 b.1.1 b.2.1 b.2.2.1 some
theorem reads_k60 (a:A_k60) (b:M_k60):Leaf (fun r:RO_k60=>r.2 = b) (R_k60 a b):=by
 show Leaf _ (tree_k60 F_k64 a.1 a.2.1 b.1.1 b.2.1 b.2.2.1 some)
 unfold tree_k60
 repeat (first | (with_reducible refine leaf_bind fun _=>?_) | (with_reducible apply leaf_cond) | (with_reducible refine leaf_sum (fun _=>?_) (fun _=>?_)) | (with_reducible exact leaf_none) | exact leaf_some rfl)
noncomputable def F_k60:A_k60→M_k60→Option O_k60:=fun a b=>(R_k60 a b).map fun r=>(r.1,())
theorem n_k60 (F_k64:B_k64) (x1 x2 x3 x4 x5) {α:Type} (K:RO_k60→Option α):tree_k60 F_k64 x1 x2 x3 x4 x5 K = (tree_k60 F_k64 x1 x2 x3 x4 x5 some).bind K:=by simp only [tree_k60,bind_cond,bind_none',bind_some',bind_bind',bind_sum]
theorem Fe_k60 (x1 x2 x3 x4 x5):F_k60 (x1,x2,()) ((x3,()),x4,x5,()) = (tree_k60 F_k64 x1 x2 x3 x4 x5 some).map fun r=>(r.1,()):=rfl
def args_k58:SkL:=(.cons (cP 0) (.cons lI (.cons lI (.cons lS .nil))))
def mem_k58:MSk:=[(0,.cells (.cons lI (.cons (cW 1) (.cons (cW 2) .nil)))),(1,qf),(2,qg)]
def outs_k58:List OutC:=[⟨lB,[(0,.cells (.cons lI (.cons (cW 1) (.cons (cW 3) .nil)))),(1,qf),(2,.gone),(3,qg)]⟩]
abbrev A_k58:Type:=(Int×Int×ByteArray×Unit)
abbrev M_k58:Type:=((Int×Unit)×Yb×Y6×Unit)
abbrev O_k58:Type:=Bool×((Int×Unit)×Yb×Unit×Y6×Unit)
abbrev B_k58:=A_k58→M_k58→Option O_k58
def tree_k58 (F_k6:B_k6) (F_k64:B_k64) (F_k7:B_k7) (F_k59:B_k59) (F_k8:B_k8) {α:Type} (x1:Int) (x2:Int) (x3:ByteArray) (x4:Int) (x5:Yb) (x6:Y6) (K:O_k58→Option α):Option α :=
 cond (x1 == x2)
 (K (false,(x4,()),x5,(),x6,()))
 (cond (decide (x1 < 0))
 (K (false,(x4,()),x5,(),x6,()))
 (cond (decide (x2 < 0))
 (K (false,(x4,()),x5,(),x6,()))
 ((F_k6 () ((x4,()),x5,x6,())).bind fun r1 =>
 cond (decide (x1≥r1.1))
 (K (false,(x4,()),x5,(),x6,()))
 ((F_k6 () ((x4,()),x5,x6,())).bind fun r2 =>
 cond (decide (x2≥r2.1))
 (K (false,(x4,()),x5,(),x6,()))
 ((F_k64 (x1,x2,()) ((x4,()),x5,x6,())).bind fun r3 =>
 cond (r3.1.2.1 == 18446744073709551615)
 (K (false,(x4,()),x5,(),x6,()))
 ((F_k7 () ((x4,()),x5,x6,())).bind fun r4 =>
 (F_k59 (IntKind.u64.wrap (r3.1.2.1 + 1),x3,r4.1,()) ()).bind fun r5 =>
 cond (!r5.1.2.1)
 (K (false,(x4,()),x5,(),x6,()))
 (cond (r3.1.1 == x1)
 ((F_k8 (x2,r5.1.1,()) ((x4,()),x5,x6,())).bind fun r6 =>
 K (r6.1,(r6.2.1.1,()),r6.2.2.1,(),r6.2.2.2.2.1,()))
 ((F_k8 (x1,r5.1.1,()) ((x4,()),x5,x6,())).bind fun r7 =>
 K (r7.1,(r7.2.1.1,()),r7.2.2.1,(),r7.2.2.2.2.1,())))))))))
noncomputable def F_k58:A_k58→M_k58→Option O_k58:=fun a b=>tree_k58 F_k6 F_k64 F_k7 F_k59 F_k8 a.1 a.2.1 a.2.2.1 b.1.1 b.2.1 b.2.2.1 some
theorem n_k58 (F_k6:B_k6) (F_k64:B_k64) (F_k7:B_k7) (F_k59:B_k59) (F_k8:B_k8) (x1 x2 x3 x4 x5 x6) {α:Type} (K:O_k58→Option α):tree_k58 F_k6 F_k64 F_k7 F_k59 F_k8 x1 x2 x3 x4 x5 x6 K = (tree_k58 F_k6 F_k64 F_k7 F_k59 F_k8 x1 x2 x3 x4 x5 x6 some).bind K:=by simp only [tree_k58,bind_cond,bind_none',bind_some',bind_bind',bind_sum]
theorem Fe_k58 (x1 x2 x3 x4 x5 x6):F_k58 (x1,x2,x3,()) ((x4,()),x5,x6,()) = tree_k58 F_k6 F_k64 F_k7 F_k59 F_k8 x1 x2 x3 x4 x5 x6 some:=rfl
def args_k61:SkL:=(.cons (cP 0) (.cons lI (.cons lI (.cons lS .nil))))
def mem_k61:MSk:=[(0,.cells (.cons lI (.cons (cW 1) (.cons (cW 2) .nil)))),(1,qf),(2,qg)]
def outs_k61:List OutC:=[⟨lB,[(0,.cells (.cons lI (.cons (cW 1) (.cons (cW 3) .nil)))),(1,qf),(2,.gone),(3,qg)]⟩]
abbrev A_k61:Type:=(Int×Int×ByteArray×Unit)
abbrev M_k61:Type:=((Int×Unit)×Yb×Y6×Unit)
abbrev O_k61:Type:=Bool×((Int×Unit)×Yb×Unit×Y6×Unit)
abbrev B_k61:=A_k61→M_k61→Option O_k61
def tree_k61 (F_k58:B_k58) (F_k2:B_k2) {α:Type} (x1:Int) (x2:Int) (x3:ByteArray) (x4:Int) (x5:Yb) (x6:Y6) (K:O_k61→Option α):Option α :=
 (F_k58 (x1,x2,x3,()) ((x4,()),x5,x6,())).bind fun r1 =>
 cond (!r1.1)
 (K (false,(r1.2.1.1,()),r1.2.2.1,(),r1.2.2.2.2.1,()))
 ((F_k2 () ((r1.2.1.1,()),r1.2.2.1,r1.2.2.2.2.1,())).bind fun r2 =>
 K (true,(r2.2.1.1,()),r2.2.2.1,(),r2.2.2.2.2.1,()))
noncomputable def F_k61:A_k61→M_k61→Option O_k61:=fun a b=>tree_k61 F_k58 F_k2 a.1 a.2.1 a.2.2.1 b.1.1 b.2.1 b.2.2.1 some
theorem n_k61 (F_k58:B_k58) (F_k2:B_k2) (x1 x2 x3 x4 x5 x6) {α:Type} (K:O_k61→Option α):tree_k61 F_k58 F_k2 x1 x2 x3 x4 x5 x6 K = (tree_k61 F_k58 F_k2 x1 x2 x3 x4 x5 x6 some).bind K:=by simp only [tree_k61,bind_cond,bind_none',bind_some',bind_bind',bind_sum]
theorem Fe_k61 (x1 x2 x3 x4 x5 x6):F_k61 (x1,x2,x3,()) ((x4,()),x5,x6,()) = tree_k61 F_k58 F_k2 x1 x2 x3 x4 x5 x6 some:=rfl
end Go.Proofs.Ytljfdfghagiblaa.S2
