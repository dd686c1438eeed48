/- Plain forms of the program's functions,by program. -/
import Derived.Test.YtljfdfghagiblaaGslot
import Derived.Test.YtljfdfghagiblaaGwire
set_option maxRecDepth 100000
set_option maxHeartbeats 0
set_option linter.unusedVariables false
set_option linter.unusedSimpArgs false
namespace Go.Proofs.Ytljfdfghagiblaa.S2
open Go
def args_k75:SkL:=(.cons (.agg (.cons lU (.cons lU (.cons lU (.cons lU (.cons lU (.cons lS .nil))))))) .nil)
def mem_k75:MSk:=[]
def outs_k75:List OutC:=[⟨lB,[]⟩]
abbrev A_k75:Type:=(Yt×Unit)
abbrev M_k75:Type:=Unit
abbrev O_k75:Type:=Bool×Unit
abbrev B_k75:=A_k75→M_k75→Option O_k75
def tree_k75 {α:Type} (x1:Int) (x2:Int) (x3:Int) (x4:Int) (x5:Int) (x6:ByteArray) (K:O_k75→Option α):Option α :=
 cond (x3 == 1)
 (K (true,()))
 (cond (x3 == 0)
 (cond (x4 == 0)
 (cond (x5 == 0)
 (K (x6.toList == ByteArray.empty.toList,()))
 (K (false,())))
 (K (false,())))
 (K (false,())))
noncomputable def F_k75:A_k75→M_k75→Option O_k75:=fun a b=>tree_k75 a.1.1 a.1.2.1 a.1.2.2.1 a.1.2.2.2.1 a.1.2.2.2.2.1 a.1.2.2.2.2.2.1 some
theorem n_k75 (x1 x2 x3 x4 x5 x6) {α:Type} (K:O_k75→Option α):tree_k75 x1 x2 x3 x4 x5 x6 K = (tree_k75 x1 x2 x3 x4 x5 x6 some).bind K:=by simp only [tree_k75,bind_cond,bind_none',bind_some',bind_bind',bind_sum]
theorem Fe_k75 (x1 x2 x3 x4 x5 x6):F_k75 ((x1,x2,x3,x4,x5,x6,()),()) () = tree_k75 x1 x2 x3 x4 x5 x6 some:=rfl
def args_k74:SkL:=(.cons (.agg (.cons lU (.cons lU (.cons lU (.cons lU (.cons lU (.cons lS .nil))))))) .nil)
def mem_k74:MSk:=[]
def outs_k74:List OutC:=[⟨lS,[]⟩]
abbrev A_k74:Type:=(Yt×Unit)
abbrev M_k74:Type:=Unit
abbrev O_k74:Type:=ByteArray×Unit
abbrev B_k74:=A_k74→M_k74→Option O_k74
def tree_k74 (F_k78:B_k78) (F_k77:B_k77) {α:Type} (x1:Int) (x2:Int) (x3:Int) (x4:Int) (x5:Int) (x6:ByteArray) (K:O_k74→Option α):Option α :=
 (F_k78 (x1,()) ()).bind fun r1 =>
 cond (decide (0 + r1.1.size≤9223372036854775807))
 ((F_k78 (x2,()) ()).bind fun r2 =>
 cond (decide ((ByteArray.empty ++ r1.1).size + r2.1.size≤9223372036854775807))
 ((F_k78 (x3,()) ()).bind fun r3 =>
 cond (decide ((ByteArray.empty ++ r1.1 ++ r2.1).size + r3.1.size≤9223372036854775807))
 ((F_k78 (x4,()) ()).bind fun r4 =>
 cond (decide ((ByteArray.empty ++ r1.1 ++ r2.1 ++ r3.1).size + r4.1.size≤9223372036854775807))
 ((F_k78 (x5,()) ()).bind fun r5 =>
 cond (decide ((ByteArray.empty ++ r1.1 ++ r2.1 ++ r3.1 ++ r4.1).size + r5.1.size≤9223372036854775807))
 ((F_k77 (x6,()) ()).bind fun r6 =>
 cond (decide ((ByteArray.empty ++ r1.1 ++ r2.1 ++ r3.1 ++ r4.1 ++ r5.1).size + r6.1.size≤9223372036854775807))
 (K (ByteArray.empty ++ r1.1 ++ r2.1 ++ r3.1 ++ r4.1 ++ r5.1 ++ r6.1,()))
 (none))
 (none))
 (none))
 (none))
 (none))
 (none)
noncomputable def F_k74:A_k74→M_k74→Option O_k74:=fun a b=>tree_k74 F_k78 F_k77 a.1.1 a.1.2.1 a.1.2.2.1 a.1.2.2.2.1 a.1.2.2.2.2.1 a.1.2.2.2.2.2.1 some
theorem n_k74 (F_k78:B_k78) (F_k77:B_k77) (x1 x2 x3 x4 x5 x6) {α:Type} (K:O_k74→Option α):tree_k74 F_k78 F_k77 x1 x2 x3 x4 x5 x6 K = (tree_k74 F_k78 F_k77 x1 x2 x3 x4 x5 x6 some).bind K:=by simp only [tree_k74,bind_cond,bind_none',bind_some',bind_bind',bind_sum]
theorem Fe_k74 (x1 x2 x3 x4 x5 x6):F_k74 ((x1,x2,x3,x4,x5,x6,()),()) () = tree_k74 F_k78 F_k77 x1 x2 x3 x4 x5 x6 some:=rfl
def args_k68:SkL:=(.cons lS .nil)
def mem_k68:MSk:=[]
def outs_k68:List OutC:=[⟨(.tup (.cons (.agg (.cons lU (.cons lU (.cons lU (.cons lU (.cons lU (.cons lS .nil))))))) (.cons lB .nil))),[]⟩]
abbrev A_k68:Type:=(ByteArray×Unit)
abbrev M_k68:Type:=Unit
abbrev O_k68:Type:=(Yt×Bool×Unit)×Unit
abbrev B_k68:=A_k68→M_k68→Option O_k68
def tree_k68 (F_k80:B_k80) (F_k79:B_k79) (F_k75:B_k75) {α:Type} (x1:ByteArray) (K:O_k68→Option α):Option α :=
 (F_k80 (x1,()) ()).bind fun r1 =>
 cond (!r1.1.2.2.1)
 (K (((0,0,0,0,0,ByteArray.empty,()),false,()),()))
 ((F_k80 (r1.1.2.1,()) ()).bind fun r2 =>
 cond (!r2.1.2.2.1)
 (K (((0,0,0,0,0,ByteArray.empty,()),false,()),()))
 ((F_k80 (r2.1.2.1,()) ()).bind fun r3 =>
 cond (!r3.1.2.2.1)
 (K (((0,0,0,0,0,ByteArray.empty,()),false,()),()))
 ((F_k80 (r3.1.2.1,()) ()).bind fun r4 =>
 cond (!r4.1.2.2.1)
 (K (((0,0,0,0,0,ByteArray.empty,()),false,()),()))
 ((F_k80 (r4.1.2.1,()) ()).bind fun r5 =>
 cond (!r5.1.2.2.1)
 (K (((0,0,0,0,0,ByteArray.empty,()),false,()),()))
 ((F_k79 (r5.1.2.1,(↑r5.1.2.1.size:Int),()) ()).bind fun r6 =>
 cond (!r6.1.2.2.1)
 (K (((0,0,0,0,0,ByteArray.empty,()),false,()),()))
 (cond (!r6.1.2.1.toList == ByteArray.empty.toList)
 (K (((0,0,0,0,0,ByteArray.empty,()),false,()),()))
 ((F_k75 ((r1.1.1,r2.1.1,r3.1.1,r4.1.1,r5.1.1,r6.1.1,()),()) ()).bind fun r7 =>
 cond (!r7.1)
 (K (((0,0,0,0,0,ByteArray.empty,()),false,()),()))
 (K (((r1.1.1,r2.1.1,r3.1.1,r4.1.1,r5.1.1,r6.1.1,()),true,()),())))))))))
noncomputable def F_k68:A_k68→M_k68→Option O_k68:=fun a b=>tree_k68 F_k80 F_k79 F_k75 a.1 some
theorem n_k68 (F_k80:B_k80) (F_k79:B_k79) (F_k75:B_k75) (x1) {α:Type} (K:O_k68→Option α):tree_k68 F_k80 F_k79 F_k75 x1 K = (tree_k68 F_k80 F_k79 F_k75 x1 some).bind K:=by simp only [tree_k68,bind_cond,bind_none',bind_some',bind_bind',bind_sum]
theorem Fe_k68 (x1):F_k68 (x1,()) () = tree_k68 F_k80 F_k79 F_k75 x1 some:=rfl
def args_k67:SkL:=(.cons (cP 0) .nil)
def mem_k67:MSk:=[(0,.cells (.cons lI (.cons (cW 1) (.cons (cW 2) .nil)))),(1,qf),(2,qg)]
def outs_k67:List OutC:=[⟨(.tup (.cons (.const .nilp) (.cons (.const (.bool Bool.false)) .nil))),[(0,.cells (.cons lI (.cons (cW 1) (.cons (cW 2) .nil)))),(1,qf),(2,qg)]⟩,⟨(.tup (.cons (cP 3) (.cons (.const (.bool Bool.true)) .nil))),[(0,.cells (.cons lI (.cons (cW 1) (.cons (cW 2) .nil)))),(1,qf),(2,qg),(3,.cells (.cons (cP 0) .nil))]⟩]
abbrev A_k67:Type:=Unit
abbrev M_k67:Type:=((Int×Unit)×Yb×Y6×Unit)
abbrev O_k67:Type:=(Unit×((Int×Unit)×Yb×Y6×Unit)) ⊕ (Unit×((Int×Unit)×Yb×Y6×Unit×Unit))
abbrev B_k67:=A_k67→M_k67→Option O_k67
def tree_k67 (F_k6:B_k6) {α:Type} (x1:Int) (x2:Yb) (x3:Y6) (K:O_k67→Option α):Option α :=
 (F_k6 () ((x1,()),x2,x3,())).bind fun r1 =>
 cond (decide (r1.1 < 2))
 (K (.inl ((),(x1,()),x2,x3,())))
 (K (.inr ((),(x1,()),x2,x3,(),())))
noncomputable def F_k67:A_k67→M_k67→Option O_k67:=fun a b=>tree_k67 F_k6 b.1.1 b.2.1 b.2.2.1 some
theorem n_k67 (F_k6:B_k6) (x1 x2 x3) {α:Type} (K:O_k67→Option α):tree_k67 F_k6 x1 x2 x3 K = (tree_k67 F_k6 x1 x2 x3 some).bind K:=by simp only [tree_k67,bind_cond,bind_none',bind_some',bind_bind',bind_sum]
theorem Fe_k67 (x1 x2 x3):F_k67 () ((x1,()),x2,x3,()) = tree_k67 F_k6 x1 x2 x3 some:=rfl
def args_k72:SkL:=(.cons (cP 0) .nil)
def mem_k72:MSk:=[(0,.cells (.cons (cP 1) .nil)),(1,.cells (.cons lI (.cons (cW 2) (.cons (cW 3) .nil)))),(2,qf),(3,qg)]
def outs_k72:List OutC:=[⟨(.tup (.cons (.agg (.cons lU (.cons lU (.cons lU (.cons lU (.cons lU (.cons lS .nil))))))) (.cons lB .nil))),[]⟩]
abbrev A_k72:Type:=Unit
abbrev M_k72:Type:=(Unit×(Int×Unit)×Yb×Y6×Unit)
abbrev O_k72:Type:=(Yt×Bool×Unit)×Unit
abbrev B_k72:=A_k72→M_k72→Option O_k72
def routs_k72:List OutC:=[⟨(.tup (.cons (.agg (.cons lU (.cons lU (.cons lU (.cons lU (.cons lU (.cons lS .nil))))))) (.cons lB .nil))),[(0,.cells (.cons (cP 1) .nil)),(1,.cells (.cons lI (.cons (cW 2) (.cons (cW 3) .nil)))),(2,qf),(3,qg)]⟩]
abbrev RO_k72:Type:=(Yt×Bool×Unit)×(Unit×(Int×Unit)×Yb×Y6×Unit)
def tree_k72 (F_k60:B_k60) (F_k68:B_k68) {α:Type} (x1:Int) (x2:Yb) (x3:Y6) (K:RO_k72→Option α):Option α :=
 (F_k60 (0,1,()) ((x1,()),x2,x3,())).bind fun r1 =>
 cond (r1.1.1 == 0)
 (K (((0,0,0,0,0,ByteArray.empty,()),false,()),(),(x1,()),x2,x3,()))
 ((F_k68 (r1.1.2.1,()) ()).bind fun r2 =>
 K (((r2.1.1.1,r2.1.1.2.1,r2.1.1.2.2.1,r2.1.1.2.2.2.1,r2.1.1.2.2.2.2.1,r2.1.1.2.2.2.2.2.1,()),r2.1.2.1,()),(),(x1,()),x2,x3,()))
noncomputable def R_k72:A_k72→M_k72→Option RO_k72:=fun a b=>tree_k72 F_k60 F_k68 b.2.1.1 b.2.2.1 b.2.2.2.1 some
theorem reads_k72 (a:A_k72) (b:M_k72):Leaf (fun r:RO_k72=>r.2 = b) (R_k72 a b):=by
 show Leaf _ (tree_k72 F_k60 F_k68 b.2.1.1 b.2.2.1 b.2.2.2.1 some)
 unfold tree_k72
 repeat (first | (with_reducible refine leaf_bind fun _=>?_) | (with_reducible apply leaf_cond) | (with_reducible refine leaf_sum (fun _=>?_) (fun _=>?_)) | (with_reducible exact leaf_none) | exact leaf_some rfl)
noncomputable def F_k72:A_k72→M_k72→Option O_k72:=fun a b=>(R_k72 a b).map fun r=>(r.1,())
theorem n_k72 (F_k60:B_k60) (F_k68:B_k68) (x1 x2 x3) {α:Type} (K:RO_k72→Option α):tree_k72 F_k60 F_k68 x1 x2 x3 K = (tree_k72 F_k60 F_k68 x1 x2 x3 some).bind K:=by simp only [tree_k72,bind_cond,bind_none',bind_some',bind_bind',bind_sum]
theorem Fe_k72 (x1 x2 x3):F_k72 () ((),(x1,()),x2,x3,()) = (tree_k72 F_k60 F_k68 x1 x2 x3 some).map fun r=>(r.1,()):=rfl
def args_k73:SkL:=(.cons (cP 0) (.cons (.agg (.cons lU (.cons lU (.cons lU (.cons lU (.cons lU (.cons lS .nil))))))) .nil))
def mem_k73:MSk:=[(0,.cells (.cons (cP 1) .nil)),(1,.cells (.cons lI (.cons (cW 2) (.cons (cW 3) .nil)))),(2,qf),(3,qg)]
def outs_k73:List OutC:=[⟨lB,[(0,.cells (.cons (cP 1) .nil)),(1,.cells (.cons lI (.cons (cW 2) (.cons (cW 4) .nil)))),(2,qf),(3,.gone),(4,qg)]⟩]
abbrev A_k73:Type:=(Yt×Unit)
abbrev M_k73:Type:=(Unit×(Int×Unit)×Yb×Y6×Unit)
abbrev O_k73:Type:=Bool×(Unit×(Int×Unit)×Yb×Unit×Y6×Unit)
abbrev B_k73:=A_k73→M_k73→Option O_k73
def tree_k73 (F_k74:B_k74) (F_k61:B_k61) {α:Type} (x1:Int) (x2:Int) (x3:Int) (x4:Int) (x5:Int) (x6:ByteArray) (x7:Int) (x8:Yb) (x9:Y6) (K:O_k73→Option α):Option α :=
 (F_k74 ((x1,x2,x3,x4,x5,x6,()),()) ()).bind fun r1 =>
 (F_k61 (0,1,r1.1,()) ((x7,()),x8,x9,())).bind fun r2 =>
 K (r2.1,(),(r2.2.1.1,()),r2.2.2.1,(),r2.2.2.2.2.1,())
noncomputable def F_k73:A_k73→M_k73→Option O_k73:=fun a b=>tree_k73 F_k74 F_k61 a.1.1 a.1.2.1 a.1.2.2.1 a.1.2.2.2.1 a.1.2.2.2.2.1 a.1.2.2.2.2.2.1 b.2.1.1 b.2.2.1 b.2.2.2.1 some
theorem n_k73 (F_k74:B_k74) (F_k61:B_k61) (x1 x2 x3 x4 x5 x6 x7 x8 x9) {α:Type} (K:O_k73→Option α):tree_k73 F_k74 F_k61 x1 x2 x3 x4 x5 x6 x7 x8 x9 K = (tree_k73 F_k74 F_k61 x1 x2 x3 x4 x5 x6 x7 x8 x9 some).bind K:=by simp only [tree_k73,bind_cond,bind_none',bind_some',bind_bind',bind_sum]
theorem Fe_k73 (x1 x2 x3 x4 x5 x6 x7 x8 x9):F_k73 ((x1,x2,x3,x4,x5,x6,()),()) ((),(x7,()),x8,x9,()) = tree_k73 F_k74 F_k61 x1 x2 x3 x4 x5 x6 x7 x8 x9 some:=rfl
def args_k70:SkL:=(.cons (cP 0) (.cons lU .nil))
def mem_k70:MSk:=[(0,.cells (.cons (cP 1) .nil)),(1,.cells (.cons lI (.cons (cW 2) (.cons (cW 3) .nil)))),(2,qf),(3,qg)]
def outs_k70:List OutC:=[⟨lB,[(0,.cells (.cons (cP 1) .nil)),(1,.cells (.cons lI (.cons (cW 2) (.cons (cW 4) .nil)))),(2,qf),(3,.gone),(4,qg)]⟩]
abbrev A_k70:Type:=(Int×Unit)
abbrev M_k70:Type:=(Unit×(Int×Unit)×Yb×Y6×Unit)
abbrev O_k70:Type:=Bool×(Unit×(Int×Unit)×Yb×Unit×Y6×Unit)
abbrev B_k70:=A_k70→M_k70→Option O_k70
def tree_k70 (F_k73:B_k73) {α:Type} (x1:Int) (x2:Int) (x3:Yb) (x4:Y6) (K:O_k70→Option α):Option α :=
 (F_k73 ((x1,0,0,0,0,ByteArray.empty,()),()) ((),(x2,()),x3,x4,())).bind fun r1 =>
 K (r1.1,(),(r1.2.2.1.1,()),r1.2.2.2.1,(),r1.2.2.2.2.2.1,())
noncomputable def F_k70:A_k70→M_k70→Option O_k70:=fun a b=>tree_k70 F_k73 a.1 b.2.1.1 b.2.2.1 b.2.2.2.1 some
theorem n_k70 (F_k73:B_k73) (x1 x2 x3 x4) {α:Type} (K:O_k70→Option α):tree_k70 F_k73 x1 x2 x3 x4 K = (tree_k70 F_k73 x1 x2 x3 x4 some).bind K:=by simp only [tree_k70,bind_cond,bind_none',bind_some',bind_bind',bind_sum]
theorem Fe_k70 (x1 x2 x3 x4):F_k70 (x1,()) ((),(x2,()),x3,x4,()) = tree_k70 F_k73 x1 x2 x3 x4 some:=rfl
def args_k69:SkL:=(.cons (cP 0) (.cons lU (.cons lS (.cons lU .nil))))
def mem_k69:MSk:=[(0,.cells (.cons (cP 1) .nil)),(1,.cells (.cons lI (.cons (cW 2) (.cons (cW 3) .nil)))),(2,qf),(3,qg)]
def outs_k69:List OutC:=[⟨lB,[(0,.cells (.cons (cP 1) .nil)),(1,.cells (.cons lI (.cons (cW 2) (.cons (cW 4) .nil)))),(2,qf),(3,.gone),(4,qg)]⟩]
abbrev A_k69:Type:=(Int×ByteArray×Int×Unit)
abbrev M_k69:Type:=(Unit×(Int×Unit)×Yb×Y6×Unit)
abbrev O_k69:Type:=Bool×(Unit×(Int×Unit)×Yb×Unit×Y6×Unit)
abbrev B_k69:=A_k69→M_k69→Option O_k69
def tree_k69 (F_k72:B_k72) (F_k73:B_k73) {α:Type} (x1:Int) (x2:ByteArray) (x3:Int) (x4:Int) (x5:Yb) (x6:Y6) (K:O_k69→Option α):Option α :=
 (F_k72 () ((),(x4,()),x5,x6,())).bind fun r1 =>
 cond (!r1.1.2.1)
 (K (false,(),(x4,()),x5,(),x6,()))
 (cond (r1.1.1.2.2.1 == 1)
 (K (false,(),(x4,()),x5,(),x6,()))
 ((F_k73 ((r1.1.1.1,r1.1.1.2.1,1,x1,x3,x2,()),()) ((),(x4,()),x5,x6,())).bind fun r2 =>
 K (r2.1,(),(r2.2.2.1.1,()),r2.2.2.2.1,(),r2.2.2.2.2.2.1,())))
noncomputable def F_k69:A_k69→M_k69→Option O_k69:=fun a b=>tree_k69 F_k72 F_k73 a.1 a.2.1 a.2.2.1 b.2.1.1 b.2.2.1 b.2.2.2.1 some
theorem n_k69 (F_k72:B_k72) (F_k73:B_k73) (x1 x2 x3 x4 x5 x6) {α:Type} (K:O_k69→Option α):tree_k69 F_k72 F_k73 x1 x2 x3 x4 x5 x6 K = (tree_k69 F_k72 F_k73 x1 x2 x3 x4 x5 x6 some).bind K:=by simp only [tree_k69,bind_cond,bind_none',bind_some',bind_bind',bind_sum]
theorem Fe_k69 (x1 x2 x3 x4 x5 x6):F_k69 (x1,x2,x3,()) ((),(x4,()),x5,x6,()) = tree_k69 F_k72 F_k73 x1 x2 x3 x4 x5 x6 some:=rfl
def args_k71:SkL:=(.cons (cP 0) (.cons lB .nil))
def mem_k71:MSk:=[(0,.cells (.cons (cP 1) .nil)),(1,.cells (.cons lI (.cons (cW 2) (.cons (cW 3) .nil)))),(2,qf),(3,qg)]
def outs_k71:List OutC:=[⟨lB,[(0,.cells (.cons (cP 1) .nil)),(1,.cells (.cons lI (.cons (cW 2) (.cons (cW 4) .nil)))),(2,qf),(3,.gone),(4,qg)]⟩]
abbrev A_k71:Type:=(Bool×Unit)
abbrev M_k71:Type:=(Unit×(Int×Unit)×Yb×Y6×Unit)
abbrev O_k71:Type:=Bool×(Unit×(Int×Unit)×Yb×Unit×Y6×Unit)
abbrev B_k71:=A_k71→M_k71→Option O_k71
def tree_k71 (F_k72:B_k72) (F_k73:B_k73) {α:Type} (x1:Bool) (x2:Int) (x3:Yb) (x4:Y6) (K:O_k71→Option α):Option α :=
 (F_k72 () ((),(x2,()),x3,x4,())).bind fun r1 =>
 cond (!r1.1.2.1)
 (K (false,(),(x2,()),x3,(),x4,()))
 (cond (r1.1.1.2.2.1 == 0)
 (K (false,(),(x2,()),x3,(),x4,()))
 (cond (x1)
 (cond (r1.1.1.2.1 == 18446744073709551615)
 (K (false,(),(x2,()),x3,(),x4,()))
 (cond (x1)
 ((F_k73 ((r1.1.1.2.2.2.2.1,IntKind.u64.wrap (r1.1.1.2.1 + 1),0,0,0,ByteArray.empty,()),()) ((),(x2,()),x3,x4,())).bind fun r2 =>
 K (r2.1,(),(r2.2.2.1.1,()),r2.2.2.2.1,(),r2.2.2.2.2.2.1,()))
 ((F_k73 ((r1.1.1.1,r1.1.1.2.1,0,0,0,ByteArray.empty,()),()) ((),(x2,()),x3,x4,())).bind fun r3 =>
 K (r3.1,(),(r3.2.2.1.1,()),r3.2.2.2.1,(),r3.2.2.2.2.2.1,()))))
 (cond (x1)
 ((F_k73 ((r1.1.1.2.2.2.2.1,IntKind.u64.wrap (r1.1.1.2.1 + 1),0,0,0,ByteArray.empty,()),()) ((),(x2,()),x3,x4,())).bind fun r4 =>
 K (r4.1,(),(r4.2.2.1.1,()),r4.2.2.2.1,(),r4.2.2.2.2.2.1,()))
 ((F_k73 ((r1.1.1.1,r1.1.1.2.1,0,0,0,ByteArray.empty,()),()) ((),(x2,()),x3,x4,())).bind fun r5 =>
 K (r5.1,(),(r5.2.2.1.1,()),r5.2.2.2.1,(),r5.2.2.2.2.2.1,())))))
noncomputable def F_k71:A_k71→M_k71→Option O_k71:=fun a b=>tree_k71 F_k72 F_k73 a.1 b.2.1.1 b.2.2.1 b.2.2.2.1 some
theorem n_k71 (F_k72:B_k72) (F_k73:B_k73) (x1 x2 x3 x4) {α:Type} (K:O_k71→Option α):tree_k71 F_k72 F_k73 x1 x2 x3 x4 K = (tree_k71 F_k72 F_k73 x1 x2 x3 x4 some).bind K:=by simp only [tree_k71,bind_cond,bind_none',bind_some',bind_bind',bind_sum]
theorem Fe_k71 (x1 x2 x3 x4):F_k71 (x1,()) ((),(x2,()),x3,x4,()) = tree_k71 F_k72 F_k73 x1 x2 x3 x4 some:=rfl
end Go.Proofs.Ytljfdfghagiblaa.S2
