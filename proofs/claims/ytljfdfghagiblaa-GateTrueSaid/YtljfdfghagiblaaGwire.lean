/- Plain forms of the program's functions,by program. -/
import Derived.Test.YtljfdfghagiblaaS2y
import Derived.Lib.Repeat
set_option maxRecDepth 100000
set_option maxHeartbeats 0
set_option linter.unusedVariables false
set_option linter.unusedSimpArgs false
namespace Go.Proofs.Ytljfdfghagiblaa.S2
open Go
def args_k81:SkL:=(.cons (.const .nils) (.cons lU .nil))
def mem_k81:MSk:=[]
def outs_k81:List OutC:=[⟨(.leaf (.slc 5 (.cons (.int .u8) .nil))),[]⟩]
abbrev A_k81:Type:=(Int×Unit)
abbrev M_k81:Type:=Unit
abbrev O_k81:Type:=List Int×Unit
abbrev B_k81:=A_k81→M_k81→Option O_k81
def ltmps_k81_1:SkL:=(.cons (cW 500) (.cons lU (dz 18 .nil)))
def lmem_k81_1:MSk:=[(500,.row 5 (.cons (.int .u8) .nil))]
def louts_k81_1:List OutL:=[⟨(.exit 0),(.cons (cW 500) (.cons lU (dz 18 .nil))),[(500,.row 5 (.cons (.int .u8) .nil))]⟩]
abbrev LT_k81_1:Type:=(Int×Unit)
abbrev LM_k81_1:Type:=(List Int×Unit)
abbrev LO_k81_1:Type:=(Int×Unit)×(List Int×Unit)
def ltree_k81_1 {α:Type} (x1:Int) (x2:List Int) (kn:LT_k81_1→LM_k81_1→Option α) (kr:LO_k81_1→Option α):Option α :=
 cond (decide (x1≥128))
 (cond (decide ((x2.length + ([] ++ [IntKind.u8.wrap (↑(BitVec.ofInt 8 (IntKind.u8.wrap x1) ||| BitVec.ofInt 8 128).toNat:Int)]).length) * 1≤140737488355328))
 (kn (x1.fdiv 128,()) (x2 ++ ([] ++ [IntKind.u8.wrap (↑(BitVec.ofInt 8 (IntKind.u8.wrap x1) ||| BitVec.ofInt 8 128).toNat:Int)]),()))
 (none))
 (kr ((x1,()),x2,()))
noncomputable def L_k81_1:LT_k81_1→LM_k81_1→Option LO_k81_1:=fun x y=>runL (fun p=>(fun (a:LT_k81_1) (b:LM_k81_1)=>ltree_k81_1 a.1 b.1 (fun a' b'=>some (.inl (a',b'))) fun r=>some (.inr r)) p.1 p.2) (x,y)
theorem nl_k81_1 (x1 x2) {α:Type} (kn:LT_k81_1→LM_k81_1→Option α) (kr:LO_k81_1→Option α):ltree_k81_1 x1 x2 kn kr = (ltree_k81_1 x1 x2 (fun a b=>some (.inl (a,b))) fun r=>some (.inr r)).bind (Sum.elim (fun p:LT_k81_1×LM_k81_1=>kn p.1 p.2) kr):=by simp only [ltree_k81_1,bind_cond,bind_none',bind_some',bind_bind',bind_sum,Sum.elim_inl,Sum.elim_inr]
theorem Le_k81_1 (x1 x2):L_k81_1 (x1,()) (x2,()) = ltree_k81_1 x1 x2 L_k81_1 some:=runL_tree (A:=LT_k81_1) (B:=LM_k81_1) (R:=LO_k81_1) (fun a b kn kr=>ltree_k81_1 a.1 b.1 kn kr) (fun a b kn kr=>nl_k81_1 a.1 b.1 kn kr) (x1,()) (x2,())
def tree_k81 (L_k81_1:LT_k81_1→LM_k81_1→Option LO_k81_1) {α:Type} (x1:Int) (K:O_k81→Option α):Option α :=
 (L_k81_1 (x1,()) ([],())).bind fun r1 =>
 cond (decide ((r1.2.1.length + 1) * 1≤140737488355328))
 (K (r1.2.1 ++ ([] ++ [IntKind.u8.wrap r1.1.1]),()))
 (none)
noncomputable def F_k81:A_k81→M_k81→Option O_k81:=fun a b=>tree_k81 L_k81_1 a.1 some
theorem n_k81 (L_k81_1:LT_k81_1→LM_k81_1→Option LO_k81_1) (x1) {α:Type} (K:O_k81→Option α):tree_k81 L_k81_1 x1 K = (tree_k81 L_k81_1 x1 some).bind K:=by simp only [tree_k81,bind_cond,bind_none',bind_some',bind_bind',bind_sum]
theorem Fe_k81 (x1):F_k81 (x1,()) () = tree_k81 L_k81_1 x1 some:=rfl
def args_k78:SkL:=(.cons lU .nil)
def mem_k78:MSk:=[]
def outs_k78:List OutC:=[⟨lS,[]⟩]
abbrev A_k78:Type:=(Int×Unit)
abbrev M_k78:Type:=Unit
abbrev O_k78:Type:=ByteArray×Unit
abbrev B_k78:=A_k78→M_k78→Option O_k78
def tree_k78 (F_k81:B_k81) {α:Type} (x1:Int) (K:O_k78→Option α):Option α :=
 (F_k81 (x1,()) ()).bind fun r1 =>
 K (Go.strOfNums r1.1,())
noncomputable def F_k78:A_k78→M_k78→Option O_k78:=fun a b=>tree_k78 F_k81 a.1 some
theorem n_k78 (F_k81:B_k81) (x1) {α:Type} (K:O_k78→Option α):tree_k78 F_k81 x1 K = (tree_k78 F_k81 x1 some).bind K:=by simp only [tree_k78,bind_cond,bind_none',bind_some',bind_bind',bind_sum]
theorem Fe_k78 (x1):F_k78 (x1,()) () = tree_k78 F_k81 x1 some:=rfl
def args_k77:SkL:=(.cons lS .nil)
def mem_k77:MSk:=[]
def outs_k77:List OutC:=[⟨lS,[]⟩]
abbrev A_k77:Type:=(ByteArray×Unit)
abbrev M_k77:Type:=Unit
abbrev O_k77:Type:=ByteArray×Unit
abbrev B_k77:=A_k77→M_k77→Option O_k77
def tree_k77 (F_k78:B_k78) {α:Type} (x1:ByteArray) (K:O_k77→Option α):Option α :=
 (F_k78 (IntKind.u64.wrap (↑x1.size:Int),()) ()).bind fun r1 =>
 cond (decide (r1.1.size + x1.size≤9223372036854775807))
 (K (r1.1 ++ x1,()))
 (none)
noncomputable def F_k77:A_k77→M_k77→Option O_k77:=fun a b=>tree_k77 F_k78 a.1 some
theorem n_k77 (F_k78:B_k78) (x1) {α:Type} (K:O_k77→Option α):tree_k77 F_k78 x1 K = (tree_k77 F_k78 x1 some).bind K:=by simp only [tree_k77,bind_cond,bind_none',bind_some',bind_bind',bind_sum]
theorem Fe_k77 (x1):F_k77 (x1,()) () = tree_k77 F_k78 x1 some:=rfl
def args_k80:SkL:=(.cons lS .nil)
def mem_k80:MSk:=[]
def outs_k80:List OutC:=[⟨(.tup (.cons lU (.cons lS (.cons lB .nil)))),[]⟩]
abbrev A_k80:Type:=(ByteArray×Unit)
abbrev M_k80:Type:=Unit
abbrev O_k80:Type:=(Int×ByteArray×Bool×Unit)×Unit
abbrev B_k80:=A_k80→M_k80→Option O_k80
def ltmps_k80_3:SkL:=(.cons lS (dz 4 (.cons lU (dz 3 (.cons lI (.cons lI (dz 33 .nil)))))))
def lmem_k80_3:MSk:=[]
def louts_k80_3:List OutL:=[⟨(.exit 0),(dz 44 .nil),[]⟩,⟨.ret,(dz 2 (.cons lU (.cons lS (.cons lB (dz 39 .nil))))),[]⟩]
abbrev LT_k80_3:Type:=(ByteArray×Int×Int×Int×Unit)
abbrev LM_k80_3:Type:=Unit
abbrev LO_k80_3:Type:=(Unit×Unit) ⊕ ((Int×ByteArray×Bool×Unit)×Unit)
def ltree_k80_3 {α:Type} (x1:ByteArray) (x2:Int) (x3:Int) (x4:Int) (kn:LT_k80_3→LM_k80_3→Option α) (kr:LO_k80_3→Option α):Option α :=
 cond (decide (x4 < x3))
 (cond (decide (0≤x4))
 (cond (decide (x4 < (↑x1.size:Int)))
 (cond (x4 == 9)
 (cond (decide (strAt x1 x4 > 1))
 (kr (.inl ((),())))
 (cond (decide (0≤IntKind.i64.wrap (7 * x4)))
 (cond (decide (strAt x1 x4 < 128))
 (cond (strAt x1 x4 == 0)
 (cond (decide (x4 > 0))
 (kr (.inl ((),())))
 (cond (decide (0≤IntKind.i64.wrap (x4 + 1)))
 (cond (decide (IntKind.i64.wrap (x4 + 1)≤(↑x1.size:Int)))
 (kr (.inr ((IntKind.u64.wrap (↑(BitVec.ofInt 64 x2 ||| BitVec.ofInt 64 (IntKind.u64.wrap (IntKind.u64.wrap (IntKind.u8.wrap (↑(BitVec.ofInt 8 (strAt x1 x4) &&& BitVec.ofInt 8 127).toNat:Int)) * 2 ^ Min.min (IntKind.i64.wrap (7 * x4)).toNat 64))).toNat:Int),x1.extract (IntKind.i64.wrap (x4 + 1)).toNat x1.size,true,()),())))
 (none))
 (none)))
 (cond (decide (0≤IntKind.i64.wrap (x4 + 1)))
 (cond (decide (IntKind.i64.wrap (x4 + 1)≤(↑x1.size:Int)))
 (kr (.inr ((IntKind.u64.wrap (↑(BitVec.ofInt 64 x2 ||| BitVec.ofInt 64 (IntKind.u64.wrap (IntKind.u64.wrap (IntKind.u8.wrap (↑(BitVec.ofInt 8 (strAt x1 x4) &&& BitVec.ofInt 8 127).toNat:Int)) * 2 ^ Min.min (IntKind.i64.wrap (7 * x4)).toNat 64))).toNat:Int),x1.extract (IntKind.i64.wrap (x4 + 1)).toNat x1.size,true,()),())))
 (none))
 (none)))
 (kn (x1,IntKind.u64.wrap (↑(BitVec.ofInt 64 x2 ||| BitVec.ofInt 64 (IntKind.u64.wrap (IntKind.u64.wrap (IntKind.u8.wrap (↑(BitVec.ofInt 8 (strAt x1 x4) &&& BitVec.ofInt 8 127).toNat:Int)) * 2 ^ Min.min (IntKind.i64.wrap (7 * x4)).toNat 64))).toNat:Int),x3,IntKind.i64.wrap (x4 + 1),()) ()))
 (none)))
 (cond (decide (0≤IntKind.i64.wrap (7 * x4)))
 (cond (decide (strAt x1 x4 < 128))
 (cond (strAt x1 x4 == 0)
 (cond (decide (x4 > 0))
 (kr (.inl ((),())))
 (cond (decide (0≤IntKind.i64.wrap (x4 + 1)))
 (cond (decide (IntKind.i64.wrap (x4 + 1)≤(↑x1.size:Int)))
 (kr (.inr ((IntKind.u64.wrap (↑(BitVec.ofInt 64 x2 ||| BitVec.ofInt 64 (IntKind.u64.wrap (IntKind.u64.wrap (IntKind.u8.wrap (↑(BitVec.ofInt 8 (strAt x1 x4) &&& BitVec.ofInt 8 127).toNat:Int)) * 2 ^ Min.min (IntKind.i64.wrap (7 * x4)).toNat 64))).toNat:Int),x1.extract (IntKind.i64.wrap (x4 + 1)).toNat x1.size,true,()),())))
 (none))
 (none)))
 (cond (decide (0≤IntKind.i64.wrap (x4 + 1)))
 (cond (decide (IntKind.i64.wrap (x4 + 1)≤(↑x1.size:Int)))
 (kr (.inr ((IntKind.u64.wrap (↑(BitVec.ofInt 64 x2 ||| BitVec.ofInt 64 (IntKind.u64.wrap (IntKind.u64.wrap (IntKind.u8.wrap (↑(BitVec.ofInt 8 (strAt x1 x4) &&& BitVec.ofInt 8 127).toNat:Int)) * 2 ^ Min.min (IntKind.i64.wrap (7 * x4)).toNat 64))).toNat:Int),x1.extract (IntKind.i64.wrap (x4 + 1)).toNat x1.size,true,()),())))
 (none))
 (none)))
 (kn (x1,IntKind.u64.wrap (↑(BitVec.ofInt 64 x2 ||| BitVec.ofInt 64 (IntKind.u64.wrap (IntKind.u64.wrap (IntKind.u8.wrap (↑(BitVec.ofInt 8 (strAt x1 x4) &&& BitVec.ofInt 8 127).toNat:Int)) * 2 ^ Min.min (IntKind.i64.wrap (7 * x4)).toNat 64))).toNat:Int),x3,IntKind.i64.wrap (x4 + 1),()) ()))
 (none)))
 (none))
 (none))
 (kr (.inl ((),())))
noncomputable def L_k80_3:LT_k80_3→LM_k80_3→Option LO_k80_3:=fun x y=>runL (fun p=>(fun (a:LT_k80_3) (b:LM_k80_3)=>ltree_k80_3 a.1 a.2.1 a.2.2.1 a.2.2.2.1 (fun a' b'=>some (.inl (a',b'))) fun r=>some (.inr r)) p.1 p.2) (x,y)
theorem nl_k80_3 (x1 x2 x3 x4) {α:Type} (kn:LT_k80_3→LM_k80_3→Option α) (kr:LO_k80_3→Option α):ltree_k80_3 x1 x2 x3 x4 kn kr = (ltree_k80_3 x1 x2 x3 x4 (fun a b=>some (.inl (a,b))) fun r=>some (.inr r)).bind (Sum.elim (fun p:LT_k80_3×LM_k80_3=>kn p.1 p.2) kr):=by simp only [ltree_k80_3,bind_cond,bind_none',bind_some',bind_bind',bind_sum,Sum.elim_inl,Sum.elim_inr]
theorem Le_k80_3 (x1 x2 x3 x4):L_k80_3 (x1,x2,x3,x4,()) () = ltree_k80_3 x1 x2 x3 x4 L_k80_3 some:=runL_tree (A:=LT_k80_3) (B:=LM_k80_3) (R:=LO_k80_3) (fun a b kn kr=>ltree_k80_3 a.1 a.2.1 a.2.2.1 a.2.2.2.1 kn kr) (fun a b kn kr=>nl_k80_3 a.1 a.2.1 a.2.2.1 a.2.2.2.1 kn kr) (x1,x2,x3,x4,()) ()
def tree_k80 (L_k80_3:LT_k80_3→LM_k80_3→Option LO_k80_3) {α:Type} (x1:ByteArray) (K:O_k80→Option α):Option α :=
 (L_k80_3 (x1,0,(↑x1.size:Int),0,()) ()).bind fun r1 =>
 Sum.elim (fun u2 =>
 K ((0,ByteArray.empty,false,()),()))
 (fun u2 =>
 K ((u2.1.1,u2.1.2.1,u2.1.2.2.1,()),())) (r1)
noncomputable def F_k80:A_k80→M_k80→Option O_k80:=fun a b=>tree_k80 L_k80_3 a.1 some
theorem n_k80 (L_k80_3:LT_k80_3→LM_k80_3→Option LO_k80_3) (x1) {α:Type} (K:O_k80→Option α):tree_k80 L_k80_3 x1 K = (tree_k80 L_k80_3 x1 some).bind K:=by simp only [tree_k80,bind_cond,bind_none',bind_some',bind_bind',bind_sum]
theorem Fe_k80 (x1):F_k80 (x1,()) () = tree_k80 L_k80_3 x1 some:=rfl
def args_k79:SkL:=(.cons lS (.cons lI .nil))
def mem_k79:MSk:=[]
def outs_k79:List OutC:=[⟨(.tup (.cons lS (.cons lS (.cons lB .nil)))),[]⟩]
abbrev A_k79:Type:=(ByteArray×Int×Unit)
abbrev M_k79:Type:=Unit
abbrev O_k79:Type:=(ByteArray×ByteArray×Bool×Unit)×Unit
abbrev B_k79:=A_k79→M_k79→Option O_k79
def tree_k79 (F_k80:B_k80) {α:Type} (x1:ByteArray) (x2:Int) (K:O_k79→Option α):Option α :=
 (F_k80 (x1,()) ()).bind fun r1 =>
 cond (!r1.1.2.2.1)
 (K ((ByteArray.empty,ByteArray.empty,false,()),()))
 (cond (decide (x2 < 0))
 (K ((ByteArray.empty,ByteArray.empty,false,()),()))
 (cond (decide (r1.1.1 > IntKind.u64.wrap x2))
 (K ((ByteArray.empty,ByteArray.empty,false,()),()))
 (cond (decide (r1.1.1 > IntKind.u64.wrap (↑r1.1.2.1.size:Int)))
 (K ((ByteArray.empty,ByteArray.empty,false,()),()))
 (cond (decide (0≤r1.1.1))
 (cond (decide (r1.1.1≤(↑r1.1.2.1.size:Int)))
 (cond (decide (0≤r1.1.1))
 (cond (decide (r1.1.1≤(↑r1.1.2.1.size:Int)))
 (K ((r1.1.2.1.extract 0 r1.1.1.toNat,r1.1.2.1.extract r1.1.1.toNat r1.1.2.1.size,true,()),()))
 (none))
 (none))
 (none))
 (none)))))
noncomputable def F_k79:A_k79→M_k79→Option O_k79:=fun a b=>tree_k79 F_k80 a.1 a.2.1 some
theorem n_k79 (F_k80:B_k80) (x1 x2) {α:Type} (K:O_k79→Option α):tree_k79 F_k80 x1 x2 K = (tree_k79 F_k80 x1 x2 some).bind K:=by simp only [tree_k79,bind_cond,bind_none',bind_some',bind_bind',bind_sum]
theorem Fe_k79 (x1 x2):F_k79 (x1,x2,()) () = tree_k79 F_k80 x1 x2 some:=rfl
end Go.Proofs.Ytljfdfghagiblaa.S2
