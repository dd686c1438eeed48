/- Plain forms of the program's functions,by program. -/
import Derived.Test.YtljfdfghagiblaaGdisk
set_option maxRecDepth 100000
set_option maxHeartbeats 0
set_option linter.unusedVariables false
set_option linter.unusedSimpArgs false
namespace Go.Proofs.Ytljfdfghagiblaa.S2
open Go
def args_k61:SkL:=(.cons lI .nil)
def mem_k61:MSk:=[]
def outs_k61:List OutC:=[⟨lB,[]⟩]
abbrev A_k61:Type:=(Int×Unit)
abbrev M_k61:Type:=Unit
abbrev O_k61:Type:=Bool×Unit
abbrev B_k61:=A_k61→M_k61→Option O_k61
def tree_k61 {α:Type} (x1:Int) (K:O_k61→Option α):Option α :=
 cond (decide (x1≥32))
 (K (decide (x1≤512),()))
 (K (false,()))
noncomputable def F_k61:A_k61→M_k61→Option O_k61:=fun a b=>tree_k61 a.1 some
theorem n_k61 (x1) {α:Type} (K:O_k61→Option α):tree_k61 x1 K = (tree_k61 x1 some).bind K:=by simp only [tree_k61,bind_cond,bind_none',bind_some',bind_bind',bind_sum]
theorem Fe_k61 (x1):F_k61 (x1,()) () = tree_k61 x1 some:=rfl
def args_k58:SkL:=(.cons lU .nil)
def mem_k58:MSk:=[]
def outs_k58:List OutC:=[⟨lS,[]⟩]
abbrev A_k58:Type:=(Int×Unit)
abbrev M_k58:Type:=Unit
abbrev O_k58:Type:=ByteArray×Unit
abbrev B_k58:=A_k58→M_k58→Option O_k58
def tree_k58 {α:Type} (x1:Int) (K:O_k58→Option α):Option α :=
 K (Go.strOfNums [IntKind.u8.wrap (x1.fdiv 72057594037927936),IntKind.u8.wrap (x1.fdiv 281474976710656),IntKind.u8.wrap (x1.fdiv 1099511627776),IntKind.u8.wrap (x1.fdiv 4294967296),IntKind.u8.wrap (x1.fdiv 16777216),IntKind.u8.wrap (x1.fdiv 65536),IntKind.u8.wrap (x1.fdiv 256),IntKind.u8.wrap (x1.fdiv 1)],())
noncomputable def F_k58:A_k58→M_k58→Option O_k58:=fun a b=>tree_k58 a.1 some
theorem n_k58 (x1) {α:Type} (K:O_k58→Option α):tree_k58 x1 K = (tree_k58 x1 some).bind K:=by simp only [tree_k58,bind_cond,bind_none',bind_some',bind_bind',bind_sum]
theorem Fe_k58 (x1):F_k58 (x1,()) () = tree_k58 x1 some:=rfl
def args_k60:SkL:=(.cons lS .nil)
def mem_k60:MSk:=[]
def outs_k60:List OutC:=[⟨lU,[]⟩]
abbrev A_k60:Type:=(ByteArray×Unit)
abbrev M_k60:Type:=Unit
abbrev O_k60:Type:=Int×Unit
abbrev B_k60:=A_k60→M_k60→Option O_k60
def ltmps_k60_3:SkL:=(.cons lS (dz 2 (.cons lU (dz 2 (.cons lI (.cons lI (dz 11 .nil)))))))
def lmem_k60_3:MSk:=[]
def louts_k60_3:List OutL:=[⟨(.exit 0),(dz 3 (.cons lU (dz 15 .nil))),[]⟩]
abbrev LT_k60_3:Type:=(ByteArray×Int×Int×Int×Unit)
abbrev LM_k60_3:Type:=Unit
abbrev LO_k60_3:Type:=(Int×Unit)×Unit
def ltree_k60_3 {α:Type} (x1:ByteArray) (x2:Int) (x3:Int) (x4:Int) (kn:LT_k60_3→LM_k60_3→Option α) (kr:LO_k60_3→Option α):Option α :=
 cond (decide (x4 < x3))
 (cond (decide (0≤x4))
 (cond (decide (x4 < (↑x1.size:Int)))
 (kn (x1,IntKind.u64.wrap (↑(BitVec.ofInt 64 (IntKind.u64.wrap (x2 * 256)) ||| BitVec.ofInt 64 (IntKind.u64.wrap (strAt x1 x4))).toNat:Int),x3,IntKind.i64.wrap (x4 + 1),()) ())
 (none))
 (none))
 (kr ((x2,()),()))
noncomputable def L_k60_3:LT_k60_3→LM_k60_3→Option LO_k60_3:=fun x y=>runL (fun p=>(fun (a:LT_k60_3) (b:LM_k60_3)=>ltree_k60_3 a.1 a.2.1 a.2.2.1 a.2.2.2.1 (fun a' b'=>some (.inl (a',b'))) fun r=>some (.inr r)) p.1 p.2) (x,y)
theorem nl_k60_3 (x1 x2 x3 x4) {α:Type} (kn:LT_k60_3→LM_k60_3→Option α) (kr:LO_k60_3→Option α):ltree_k60_3 x1 x2 x3 x4 kn kr = (ltree_k60_3 x1 x2 x3 x4 (fun a b=>some (.inl (a,b))) fun r=>some (.inr r)).bind (Sum.elim (fun p:LT_k60_3×LM_k60_3=>kn p.1 p.2) kr):=by simp only [ltree_k60_3,bind_cond,bind_none',bind_some',bind_bind',bind_sum,Sum.elim_inl,Sum.elim_inr]
theorem Le_k60_3 (x1 x2 x3 x4):L_k60_3 (x1,x2,x3,x4,()) () = ltree_k60_3 x1 x2 x3 x4 L_k60_3 some:=runL_tree (A:=LT_k60_3) (B:=LM_k60_3) (R:=LO_k60_3) (fun a b kn kr=>ltree_k60_3 a.1 a.2.1 a.2.2.1 a.2.2.2.1 kn kr) (fun a b kn kr=>nl_k60_3 a.1 a.2.1 a.2.2.1 a.2.2.2.1 kn kr) (x1,x2,x3,x4,()) ()
def tree_k60 (L_k60_3:LT_k60_3→LM_k60_3→Option LO_k60_3) {α:Type} (x1:ByteArray) (K:O_k60→Option α):Option α :=
 (L_k60_3 (x1,0,(↑x1.size:Int),0,()) ()).bind fun r1 =>
 K (r1.1.1,())
noncomputable def F_k60:A_k60→M_k60→Option O_k60:=fun a b=>tree_k60 L_k60_3 a.1 some
theorem n_k60 (L_k60_3:LT_k60_3→LM_k60_3→Option LO_k60_3) (x1) {α:Type} (K:O_k60→Option α):tree_k60 L_k60_3 x1 K = (tree_k60 L_k60_3 x1 some).bind K:=by simp only [tree_k60,bind_cond,bind_none',bind_some',bind_bind',bind_sum]
theorem Fe_k60 (x1):F_k60 (x1,()) () = tree_k60 L_k60_3 x1 some:=rfl
def args_k54:SkL:=(.cons lU (.cons lS (.cons lI .nil)))
def mem_k54:MSk:=[]
def outs_k54:List OutC:=[⟨(.tup (.cons lS (.cons lB .nil))),[]⟩]
abbrev A_k54:Type:=(Int×ByteArray×Int×Unit)
abbrev M_k54:Type:=Unit
abbrev O_k54:Type:=(ByteArray×Bool×Unit)×Unit
abbrev B_k54:=A_k54→M_k54→Option O_k54
def tree_k54 (F_k61:B_k61) (F_k58:B_k58) (F_k71:B_k71) {α:Type} (x1:Int) (x2:ByteArray) (x3:Int) (K:O_k54→Option α):Option α :=
 (F_k61 (x3,()) ()).bind fun r1 =>
 cond (!r1.1)
 (K ((ByteArray.empty,false,()),()))
 (cond (x1 == 0)
 (K ((ByteArray.empty,false,()),()))
 (cond (decide ((↑x2.size:Int) > IntKind.i64.wrap (x3 - 18)))
 (K ((ByteArray.empty,false,()),()))
 ((F_k58 (x1,()) ()).bind fun r2 =>
 cond (decide (r2.1.size + (Go.strOfNums ([] ++ [IntKind.u8.wrap ((↑x2.size:Int).fdiv 256)] ++ [IntKind.u8.wrap (↑x2.size:Int)])).size≤9223372036854775807))
 (cond (decide ((r2.1 ++ Go.strOfNums ([] ++ [IntKind.u8.wrap ((↑x2.size:Int).fdiv 256)] ++ [IntKind.u8.wrap (↑x2.size:Int)])).size + x2.size≤9223372036854775807))
 ((F_k71 ((ByteArray.mk #[0]),IntKind.i64.wrap (IntKind.i64.wrap (x3 - 18) - (↑x2.size:Int)),()) ()).bind fun r3 =>
 cond (decide ((r2.1 ++ Go.strOfNums ([] ++ [IntKind.u8.wrap ((↑x2.size:Int).fdiv 256)] ++ [IntKind.u8.wrap (↑x2.size:Int)]) ++ x2).size + r3.1.size≤9223372036854775807))
 ((F_k58 (x1,()) ()).bind fun r4 =>
 cond (decide ((r2.1 ++ Go.strOfNums ([] ++ [IntKind.u8.wrap ((↑x2.size:Int).fdiv 256)] ++ [IntKind.u8.wrap (↑x2.size:Int)]) ++ x2 ++ r3.1).size + r4.1.size≤9223372036854775807))
 (K ((r2.1 ++ Go.strOfNums ([] ++ [IntKind.u8.wrap ((↑x2.size:Int).fdiv 256)] ++ [IntKind.u8.wrap (↑x2.size:Int)]) ++ x2 ++ r3.1 ++ r4.1,true,()),()))
 (none))
 (none))
 (none))
 (none))))
noncomputable def F_k54:A_k54→M_k54→Option O_k54:=fun a b=>tree_k54 F_k61 F_k58 F_k71 a.1 a.2.1 a.2.2.1 some
theorem n_k54 (F_k61:B_k61) (F_k58:B_k58) (F_k71:B_k71) (x1 x2 x3) {α:Type} (K:O_k54→Option α):tree_k54 F_k61 F_k58 F_k71 x1 x2 x3 K = (tree_k54 F_k61 F_k58 F_k71 x1 x2 x3 some).bind K:=by simp only [tree_k54,bind_cond,bind_none',bind_some',bind_bind',bind_sum]
theorem Fe_k54 (x1 x2 x3):F_k54 (x1,x2,x3,()) () = tree_k54 F_k61 F_k58 F_k71 x1 x2 x3 some:=rfl
def args_k57:SkL:=(.cons lS .nil)
def mem_k57:MSk:=[]
def outs_k57:List OutC:=[⟨(.tup (.cons lU (.cons lS (.cons lB .nil)))),[]⟩]
abbrev A_k57:Type:=(ByteArray×Unit)
abbrev M_k57:Type:=Unit
abbrev O_k57:Type:=(Int×ByteArray×Bool×Unit)×Unit
abbrev B_k57:=A_k57→M_k57→Option O_k57
def tree_k57 (F_k61:B_k61) (F_k60:B_k60) {α:Type} (x1:ByteArray) (K:O_k57→Option α):Option α :=
 (F_k61 ((↑x1.size:Int),()) ()).bind fun r1 =>
 cond (!r1.1)
 (K ((0,ByteArray.empty,false,()),()))
 (cond (decide (8≤(↑x1.size:Int)))
 ((F_k60 (x1.extract 0 8,()) ()).bind fun r2 =>
 cond (decide (10≤(↑x1.size:Int)))
 ((F_k60 (x1.extract 8 10,()) ()).bind fun r3 =>
 cond (r2.1 == 0)
 (K ((0,ByteArray.empty,false,()),()))
 (cond (decide (0≤IntKind.i64.wrap ((↑x1.size:Int) - 8)))
 (cond (decide (IntKind.i64.wrap ((↑x1.size:Int) - 8)≤(↑x1.size:Int)))
 ((F_k60 (x1.extract (IntKind.i64.wrap ((↑x1.size:Int) - 8)).toNat x1.size,()) ()).bind fun r4 =>
 cond (r2.1 != r4.1)
 (K ((0,ByteArray.empty,false,()),()))
 (cond (decide (IntKind.i64.wrap r3.1 > IntKind.i64.wrap ((↑x1.size:Int) - 18)))
 (K ((0,ByteArray.empty,false,()),()))
 (cond (decide (10≤IntKind.i64.wrap (10 + IntKind.i64.wrap r3.1)))
 (cond (decide (IntKind.i64.wrap (10 + IntKind.i64.wrap r3.1)≤(↑x1.size:Int)))
 (K ((r2.1,x1.extract 10 (IntKind.i64.wrap (10 + IntKind.i64.wrap r3.1)).toNat,true,()),()))
 (none))
 (none))))
 (none))
 (none)))
 (none))
 (none))
noncomputable def F_k57:A_k57→M_k57→Option O_k57:=fun a b=>tree_k57 F_k61 F_k60 a.1 some
theorem n_k57 (F_k61:B_k61) (F_k60:B_k60) (x1) {α:Type} (K:O_k57→Option α):tree_k57 F_k61 F_k60 x1 K = (tree_k57 F_k61 F_k60 x1 some).bind K:=by simp only [tree_k57,bind_cond,bind_none',bind_some',bind_bind',bind_sum]
theorem Fe_k57 (x1):F_k57 (x1,()) () = tree_k57 F_k61 F_k60 x1 some:=rfl
def args_k59:SkL:=(.cons (cP 0) (.cons lI (.cons lI .nil)))
def mem_k59:MSk:=[(0,.cells (.cons lI (.cons (cW 1) (.cons (cW 2) .nil)))),(1,qf),(2,qg)]
def outs_k59:List OutC:=[⟨(.tup (.cons lI (.cons lU (.cons lS .nil)))),[]⟩]
abbrev A_k59:Type:=(Int×Int×Unit)
abbrev M_k59:Type:=((Int×Unit)×Yb×Y6×Unit)
abbrev O_k59:Type:=(Int×Int×ByteArray×Unit)×Unit
abbrev B_k59:=A_k59→M_k59→Option O_k59
def routs_k59:List OutC:=[⟨(.tup (.cons lI (.cons lU (.cons lS .nil)))),[(0,.cells (.cons lI (.cons (cW 1) (.cons (cW 2) .nil)))),(1,qf),(2,qg)]⟩]
abbrev RO_k59:Type:=(Int×Int×ByteArray×Unit)×((Int×Unit)×Yb×Y6×Unit)
def tree_k59 (F_k3:B_k3) (F_k57:B_k57) {α:Type} (x1:Int) (x2:Int) (x3:Int) (x4:Yb) (x5:Y6) (K:RO_k59→Option α):Option α :=
 (F_k3 (x1,()) ((x3,()),x4,x5,())).bind fun r1 =>
 (F_k3 (x2,()) ((x3,()),x4,x5,())).bind fun r2 =>
 (F_k57 (r1.1.1,()) ()).bind fun r3 =>
 (F_k57 (r2.1.1,()) ()).bind fun r4 =>
 cond (r4.1.2.2.1)
 (cond (!r3.1.2.2.1)
 (K ((x2,r4.1.1,r4.1.2.1,()),(x3,()),x4,x5,()))
 (cond (decide (r4.1.1 > r3.1.1))
 (K ((x2,r4.1.1,r4.1.2.1,()),(x3,()),x4,x5,()))
 (cond (!r3.1.2.2.1)
 (K ((x2,0,ByteArray.empty,()),(x3,()),x4,x5,()))
 (K ((x1,r3.1.1,r3.1.2.1,()),(x3,()),x4,x5,())))))
 (cond (!r3.1.2.2.1)
 (K ((x2,0,ByteArray.empty,()),(x3,()),x4,x5,()))
 (K ((x1,r3.1.1,r3.1.2.1,()),(x3,()),x4,x5,())))
noncomputable def R_k59:A_k59→M_k59→Option RO_k59:=fun a b=>tree_k59 F_k3 F_k57 a.1 a.2.1 b.1.1 b.2.1 b.2.2.1 some
theorem reads_k59 (a:A_k59) (b:M_k59):Leaf (fun r:RO_k59=>r.2 = b) (R_k59 a b):=by
 show Leaf _ (tree_k59 F_k3 F_k57 a.1 a.2.1 b.1.1 b.2.1 b.2.2.1 some)
 unfold tree_k59
 repeat (first | (with_reducible refine leaf_bind fun _=>?_) | (with_reducible apply leaf_cond) | (with_reducible refine leaf_sum (fun _=>?_) (fun _=>?_)) | (with_reducible exact leaf_none) | exact leaf_some rfl)
noncomputable def F_k59:A_k59→M_k59→Option O_k59:=fun a b=>(R_k59 a b).map fun r=>(r.1,())
theorem n_k59 (F_k3:B_k3) (F_k57:B_k57) (x1 x2 x3 x4 x5) {α:Type} (K:RO_k59→Option α):tree_k59 F_k3 F_k57 x1 x2 x3 x4 x5 K = (tree_k59 F_k3 F_k57 x1 x2 x3 x4 x5 some).bind K:=by simp only [tree_k59,bind_cond,bind_none',bind_some',bind_bind',bind_sum]
theorem Fe_k59 (x1 x2 x3 x4 x5):F_k59 (x1,x2,()) ((x3,()),x4,x5,()) = (tree_k59 F_k3 F_k57 x1 x2 x3 x4 x5 some).map fun r=>(r.1,()):=rfl
def args_k55:SkL:=(.cons (cP 0) (.cons lI (.cons lI .nil)))
def mem_k55:MSk:=[(0,.cells (.cons lI (.cons (cW 1) (.cons (cW 2) .nil)))),(1,qf),(2,qg)]
def outs_k55:List OutC:=[⟨(.tup (.cons lU (.cons lS .nil))),[]⟩]
abbrev A_k55:Type:=(Int×Int×Unit)
abbrev M_k55:Type:=((Int×Unit)×Yb×Y6×Unit)
abbrev O_k55:Type:=(Int×ByteArray×Unit)×Unit
abbrev B_k55:=A_k55→M_k55→Option O_k55
def routs_k55:List OutC:=[⟨(.tup (.cons lU (.cons lS .nil))),[(0,.cells (.cons lI (.cons (cW 1) (.cons (cW 2) .nil)))),(1,qf),(2,qg)]⟩]
abbrev RO_k55:Type:=(Int×ByteArray×Unit)×((Int×Unit)×Yb×Y6×Unit)
def tree_k55 (F_k59:B_k59) {α:Type} (x1:Int) (x2:Int) (x3:Int) (x4:Yb) (x5:Y6) (K:RO_k55→Option α):Option α :=
 (F_k59 (x1,x2,()) ((x3,()),x4,x5,())).bind fun r1 =>
 K ((r1.1.2.1,r1.1.2.2.1,()),(x3,()),x4,x5,())
noncomputable def R_k55:A_k55→M_k55→Option RO_k55:=fun a b=>tree_k55 F_k59 a.1 a.2.1 b.1.1 b.2.1 b.2.2.1 some
theorem reads_k55 (a:A_k55) (b:M_k55):Leaf (fun r:RO_k55=>r.2 = b) (R_k55 a b):=by
 show Leaf _ (tree_k55 F_k59 a.1 a.2.1 b.1.1 b.2.1 b.2.2.1 some)
 unfold tree_k55
 repeat (first | (with_reducible refine leaf_bind fun _=>?_) | (with_reducible apply leaf_cond) | (with_reducible refine leaf_sum (fun _=>?_) (fun _=>?_)) | (with_reducible exact leaf_none) | exact leaf_some rfl)
noncomputable def F_k55:A_k55→M_k55→Option O_k55:=fun a b=>(R_k55 a b).map fun r=>(r.1,())
theorem n_k55 (F_k59:B_k59) (x1 x2 x3 x4 x5) {α:Type} (K:RO_k55→Option α):tree_k55 F_k59 x1 x2 x3 x4 x5 K = (tree_k55 F_k59 x1 x2 x3 x4 x5 some).bind K:=by simp only [tree_k55,bind_cond,bind_none',bind_some',bind_bind',bind_sum]
theorem Fe_k55 (x1 x2 x3 x4 x5):F_k55 (x1,x2,()) ((x3,()),x4,x5,()) = (tree_k55 F_k59 x1 x2 x3 x4 x5 some).map fun r=>(r.1,()):=rfl
def args_k53:SkL:=(.cons (cP 0) (.cons lI (.cons lI (.cons lS .nil))))
def mem_k53:MSk:=[(0,.cells (.cons lI (.cons (cW 1) (.cons (cW 2) .nil)))),(1,qf),(2,qg)]
def outs_k53:List OutC:=[⟨lB,[(0,.cells (.cons lI (.cons (cW 1) (.cons (cW 3) .nil)))),(1,qf),(2,.gone),(3,qg)]⟩]
abbrev A_k53:Type:=(Int×Int×ByteArray×Unit)
abbrev M_k53:Type:=((Int×Unit)×Yb×Y6×Unit)
abbrev O_k53:Type:=Bool×((Int×Unit)×Yb×Unit×Y6×Unit)
abbrev B_k53:=A_k53→M_k53→Option O_k53
def tree_k53 (F_k5:B_k5) (F_k59:B_k59) (F_k6:B_k6) (F_k54:B_k54) (F_k7:B_k7) {α:Type} (x1:Int) (x2:Int) (x3:ByteArray) (x4:Int) (x5:Yb) (x6:Y6) (K:O_k53→Option α):Option α :=
 cond (x1 == x2)
 (K (false,(x4,()),x5,(),x6,()))
 (cond (decide (x1 < 0))
 (K (false,(x4,()),x5,(),x6,()))
 (cond (decide (x2 < 0))
 (K (false,(x4,()),x5,(),x6,()))
 ((F_k5 () ((x4,()),x5,x6,())).bind fun r1 =>
 cond (decide (x1≥r1.1))
 (K (false,(x4,()),x5,(),x6,()))
 ((F_k5 () ((x4,()),x5,x6,())).bind fun r2 =>
 cond (decide (x2≥r2.1))
 (K (false,(x4,()),x5,(),x6,()))
 ((F_k59 (x1,x2,()) ((x4,()),x5,x6,())).bind fun r3 =>
 cond (r3.1.2.1 == 18446744073709551615)
 (K (false,(x4,()),x5,(),x6,()))
 ((F_k6 () ((x4,()),x5,x6,())).bind fun r4 =>
 (F_k54 (IntKind.u64.wrap (r3.1.2.1 + 1),x3,r4.1,()) ()).bind fun r5 =>
 cond (!r5.1.2.1)
 (K (false,(x4,()),x5,(),x6,()))
 (cond (r3.1.1 == x1)
 ((F_k7 (x2,r5.1.1,()) ((x4,()),x5,x6,())).bind fun r6 =>
 K (r6.1,(r6.2.1.1,()),r6.2.2.1,(),r6.2.2.2.2.1,()))
 ((F_k7 (x1,r5.1.1,()) ((x4,()),x5,x6,())).bind fun r7 =>
 K (r7.1,(r7.2.1.1,()),r7.2.2.1,(),r7.2.2.2.2.1,())))))))))
noncomputable def F_k53:A_k53→M_k53→Option O_k53:=fun a b=>tree_k53 F_k5 F_k59 F_k6 F_k54 F_k7 a.1 a.2.1 a.2.2.1 b.1.1 b.2.1 b.2.2.1 some
theorem n_k53 (F_k5:B_k5) (F_k59:B_k59) (F_k6:B_k6) (F_k54:B_k54) (F_k7:B_k7) (x1 x2 x3 x4 x5 x6) {α:Type} (K:O_k53→Option α):tree_k53 F_k5 F_k59 F_k6 F_k54 F_k7 x1 x2 x3 x4 x5 x6 K = (tree_k53 F_k5 F_k59 F_k6 F_k54 F_k7 x1 x2 x3 x4 x5 x6 some).bind K:=by simp only [tree_k53,bind_cond,bind_none',bind_some',bind_bind',bind_sum]
theorem Fe_k53 (x1 x2 x3 x4 x5 x6):F_k53 (x1,x2,x3,()) ((x4,()),x5,x6,()) = tree_k53 F_k5 F_k59 F_k6 F_k54 F_k7 x1 x2 x3 x4 x5 x6 some:=rfl
def args_k56:SkL:=(.cons (cP 0) (.cons lI (.cons lI (.cons lS .nil))))
def mem_k56:MSk:=[(0,.cells (.cons lI (.cons (cW 1) (.cons (cW 2) .nil)))),(1,qf),(2,qg)]
def outs_k56:List OutC:=[⟨lB,[(0,.cells (.cons lI (.cons (cW 1) (.cons (cW 3) .nil)))),(1,qf),(2,.gone),(3,qg)]⟩]
abbrev A_k56:Type:=(Int×Int×ByteArray×Unit)
abbrev M_k56:Type:=((Int×Unit)×Yb×Y6×Unit)
abbrev O_k56:Type:=Bool×((Int×Unit)×Yb×Unit×Y6×Unit)
abbrev B_k56:=A_k56→M_k56→Option O_k56
def tree_k56 (F_k53:B_k53) (F_k1:B_k1) {α:Type} (x1:Int) (x2:Int) (x3:ByteArray) (x4:Int) (x5:Yb) (x6:Y6) (K:O_k56→Option α):Option α :=
 (F_k53 (x1,x2,x3,()) ((x4,()),x5,x6,())).bind fun r1 =>
 cond (!r1.1)
 (K (false,(r1.2.1.1,()),r1.2.2.1,(),r1.2.2.2.2.1,()))
 ((F_k1 () ((r1.2.1.1,()),r1.2.2.1,r1.2.2.2.2.1,())).bind fun r2 =>
 K (true,(r2.2.1.1,()),r2.2.2.1,(),r2.2.2.2.2.1,()))
noncomputable def F_k56:A_k56→M_k56→Option O_k56:=fun a b=>tree_k56 F_k53 F_k1 a.1 a.2.1 a.2.2.1 b.1.1 b.2.1 b.2.2.1 some
theorem n_k56 (F_k53:B_k53) (F_k1:B_k1) (x1 x2 x3 x4 x5 x6) {α:Type} (K:O_k56→Option α):tree_k56 F_k53 F_k1 x1 x2 x3 x4 x5 x6 K = (tree_k56 F_k53 F_k1 x1 x2 x3 x4 x5 x6 some).bind K:=by simp only [tree_k56,bind_cond,bind_none',bind_some',bind_bind',bind_sum]
theorem Fe_k56 (x1 x2 x3 x4 x5 x6):F_k56 (x1,x2,x3,()) ((x4,()),x5,x6,()) = tree_k56 F_k53 F_k1 x1 x2 x3 x4 x5 x6 some:=rfl
end Go.Proofs.Ytljfdfghagiblaa.S2
