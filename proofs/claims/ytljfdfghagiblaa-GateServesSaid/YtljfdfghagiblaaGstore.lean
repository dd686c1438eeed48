/- Plain forms of the program's functions,by program. -/
import Derived.Test.YtljfdfghagiblaaGslot
import Derived.Test.YtljfdfghagiblaaGwire
set_option maxRecDepth 100000
set_option maxHeartbeats 0
set_option linter.unusedVariables false
set_option linter.unusedSimpArgs false
namespace Go.Proofs.Ytljfdfghagiblaa.S2
open Go
def args_k70:SkL:=(.cons (.agg (.cons lU (.cons lU (.cons lU (.cons lU (.cons lU (.cons lS .nil))))))) .nil)
def mem_k70:MSk:=[]
def outs_k70:List OutC:=[⟨lB,[]⟩]
abbrev A_k70:Type:=(Yt×Unit)
abbrev M_k70:Type:=Unit
abbrev O_k70:Type:=Bool×Unit
abbrev B_k70:=A_k70→M_k70→Option O_k70
def tree_k70 {α:Type} (x1:Int) (x2:Int) (x3:Int) (x4:Int) (x5:Int) (x6:ByteArray) (K:O_k70→Option α):Option α :=
 cond (x3 == 1)
 (K (true,()))
 (cond (x3 == 0)
 (cond (x4 == 0)
 (cond (x5 == 0)
 (K (x6.toList == ByteArray.empty.toList,()))
 (K (false,())))
 (K (false,())))
 (K (false,())))
noncomputable def F_k70:A_k70→M_k70→Option O_k70:=fun a b=>tree_k70 a.1.1 a.1.2.1 a.1.2.2.1 a.1.2.2.2.1 a.1.2.2.2.2.1 a.1.2.2.2.2.2.1 some
theorem n_k70 (x1 x2 x3 x4 x5 x6) {α:Type} (K:O_k70→Option α):tree_k70 x1 x2 x3 x4 x5 x6 K = (tree_k70 x1 x2 x3 x4 x5 x6 some).bind K:=by simp only [tree_k70,bind_cond,bind_none',bind_some',bind_bind',bind_sum]
theorem Fe_k70 (x1 x2 x3 x4 x5 x6):F_k70 ((x1,x2,x3,x4,x5,x6,()),()) () = tree_k70 x1 x2 x3 x4 x5 x6 some:=rfl
def args_k69:SkL:=(.cons (.agg (.cons lU (.cons lU (.cons lU (.cons lU (.cons lU (.cons lS .nil))))))) .nil)
def mem_k69:MSk:=[]
def outs_k69:List OutC:=[⟨lS,[]⟩]
abbrev A_k69:Type:=(Yt×Unit)
abbrev M_k69:Type:=Unit
abbrev O_k69:Type:=ByteArray×Unit
abbrev B_k69:=A_k69→M_k69→Option O_k69
def tree_k69 (F_k73:B_k73) (F_k72:B_k72) {α:Type} (x1:Int) (x2:Int) (x3:Int) (x4:Int) (x5:Int) (x6:ByteArray) (K:O_k69→Option α):Option α :=
 (F_k73 (x1,()) ()).bind fun r1 =>
 cond (decide (0 + r1.1.size≤9223372036854775807))
 ((F_k73 (x2,()) ()).bind fun r2 =>
 cond (decide ((ByteArray.empty ++ r1.1).size + r2.1.size≤9223372036854775807))
 ((F_k73 (x3,()) ()).bind fun r3 =>
 cond (decide ((ByteArray.empty ++ r1.1 ++ r2.1).size + r3.1.size≤9223372036854775807))
 ((F_k73 (x4,()) ()).bind fun r4 =>
 cond (decide ((ByteArray.empty ++ r1.1 ++ r2.1 ++ r3.1).size + r4.1.size≤9223372036854775807))
 ((F_k73 (x5,()) ()).bind fun r5 =>
 cond (decide ((ByteArray.empty ++ r1.1 ++ r2.1 ++ r3.1 ++ r4.1).size + r5.1.size≤9223372036854775807))
 ((F_k72 (x6,()) ()).bind fun r6 =>
 cond (decide ((ByteArray.empty ++ r1.1 ++ r2.1 ++ r3.1 ++ r4.1 ++ r5.1).size + r6.1.size≤9223372036854775807))
 (K (ByteArray.empty ++ r1.1 ++ r2.1 ++ r3.1 ++ r4.1 ++ r5.1 ++ r6.1,()))
 (none))
 (none))
 (none))
 (none))
 (none))
 (none)
noncomputable def F_k69:A_k69→M_k69→Option O_k69:=fun a b=>tree_k69 F_k73 F_k72 a.1.1 a.1.2.1 a.1.2.2.1 a.1.2.2.2.1 a.1.2.2.2.2.1 a.1.2.2.2.2.2.1 some
theorem n_k69 (F_k73:B_k73) (F_k72:B_k72) (x1 x2 x3 x4 x5 x6) {α:Type} (K:O_k69→Option α):tree_k69 F_k73 F_k72 x1 x2 x3 x4 x5 x6 K = (tree_k69 F_k73 F_k72 x1 x2 x3 x4 x5 x6 some).bind K:=by simp only [tree_k69,bind_cond,bind_none',bind_some',bind_bind',bind_sum]
theorem Fe_k69 (x1 x2 x3 x4 x5 x6):F_k69 ((x1,x2,x3,x4,x5,x6,()),()) () = tree_k69 F_k73 F_k72 x1 x2 x3 x4 x5 x6 some:=rfl
def args_k63:SkL:=(.cons lS .nil)
def mem_k63:MSk:=[]
def outs_k63:List OutC:=[⟨(.tup (.cons (.agg (.cons lU (.cons lU (.cons lU (.cons lU (.cons lU (.cons lS .nil))))))) (.cons lB .nil))),[]⟩]
abbrev A_k63:Type:=(ByteArray×Unit)
abbrev M_k63:Type:=Unit
abbrev O_k63:Type:=(Yt×Bool×Unit)×Unit
abbrev B_k63:=A_k63→M_k63→Option O_k63
def tree_k63 (F_k75:B_k75) (F_k74:B_k74) (F_k70:B_k70) {α:Type} (x1:ByteArray) (K:O_k63→Option α):Option α :=
 (F_k75 (x1,()) ()).bind fun r1 =>
 cond (!r1.1.2.2.1)
 (K (((0,0,0,0,0,ByteArray.empty,()),false,()),()))
 ((F_k75 (r1.1.2.1,()) ()).bind fun r2 =>
 cond (!r2.1.2.2.1)
 (K (((0,0,0,0,0,ByteArray.empty,()),false,()),()))
 ((F_k75 (r2.1.2.1,()) ()).bind fun r3 =>
 cond (!r3.1.2.2.1)
 (K (((0,0,0,0,0,ByteArray.empty,()),false,()),()))
 ((F_k75 (r3.1.2.1,()) ()).bind fun r4 =>
 cond (!r4.1.2.2.1)
 (K (((0,0,0,0,0,ByteArray.empty,()),false,()),()))
 ((F_k75 (r4.1.2.1,()) ()).bind fun r5 =>
 cond (!r5.1.2.2.1)
 (K (((0,0,0,0,0,ByteArray.empty,()),false,()),()))
 ((F_k74 (r5.1.2.1,(↑r5.1.2.1.size:Int),()) ()).bind fun r6 =>
 cond (!r6.1.2.2.1)
 (K (((0,0,0,0,0,ByteArray.empty,()),false,()),()))
 (cond (!r6.1.2.1.toList == ByteArray.empty.toList)
 (K (((0,0,0,0,0,ByteArray.empty,()),false,()),()))
 ((F_k70 ((r1.1.1,r2.1.1,r3.1.1,r4.1.1,r5.1.1,r6.1.1,()),()) ()).bind fun r7 =>
 cond (!r7.1)
 (K (((0,0,0,0,0,ByteArray.empty,()),false,()),()))
 (K (((r1.1.1,r2.1.1,r3.1.1,r4.1.1,r5.1.1,r6.1.1,()),true,()),())))))))))
noncomputable def F_k63:A_k63→M_k63→Option O_k63:=fun a b=>tree_k63 F_k75 F_k74 F_k70 a.1 some
theorem n_k63 (F_k75:B_k75) (F_k74:B_k74) (F_k70:B_k70) (x1) {α:Type} (K:O_k63→Option α):tree_k63 F_k75 F_k74 F_k70 x1 K = (tree_k63 F_k75 F_k74 F_k70 x1 some).bind K:=by simp only [tree_k63,bind_cond,bind_none',bind_some',bind_bind',bind_sum]
theorem Fe_k63 (x1):F_k63 (x1,()) () = tree_k63 F_k75 F_k74 F_k70 x1 some:=rfl
def args_k62:SkL:=(.cons (cP 0) .nil)
def mem_k62:MSk:=[(0,.cells (.cons lI (.cons (cW 1) (.cons (cW 2) .nil)))),(1,qf),(2,qg)]
def outs_k62:List OutC:=[⟨(.tup (.cons (.const .nilp) (.cons (.const (.bool Bool.false)) .nil))),[(0,.cells (.cons lI (.cons (cW 1) (.cons (cW 2) .nil)))),(1,qf),(2,qg)]⟩,⟨(.tup (.cons (cP 3) (.cons (.const (.bool Bool.true)) .nil))),[(0,.cells (.cons lI (.cons (cW 1) (.cons (cW 2) .nil)))),(1,qf),(2,qg),(3,.cells (.cons (cP 0) .nil))]⟩]
abbrev A_k62:Type:=Unit
abbrev M_k62:Type:=((Int×Unit)×Yb×Y6×Unit)
abbrev O_k62:Type:=(Unit×((Int×Unit)×Yb×Y6×Unit)) ⊕ (Unit×((Int×Unit)×Yb×Y6×Unit×Unit))
abbrev B_k62:=A_k62→M_k62→Option O_k62
def tree_k62 (F_k5:B_k5) {α:Type} (x1:Int) (x2:Yb) (x3:Y6) (K:O_k62→Option α):Option α :=
 (F_k5 () ((x1,()),x2,x3,())).bind fun r1 =>
 cond (decide (r1.1 < 2))
 (K (.inl ((),(x1,()),x2,x3,())))
 (K (.inr ((),(x1,()),x2,x3,(),())))
noncomputable def F_k62:A_k62→M_k62→Option O_k62:=fun a b=>tree_k62 F_k5 b.1.1 b.2.1 b.2.2.1 some
theorem n_k62 (F_k5:B_k5) (x1 x2 x3) {α:Type} (K:O_k62→Option α):tree_k62 F_k5 x1 x2 x3 K = (tree_k62 F_k5 x1 x2 x3 some).bind K:=by simp only [tree_k62,bind_cond,bind_none',bind_some',bind_bind',bind_sum]
theorem Fe_k62 (x1 x2 x3):F_k62 () ((x1,()),x2,x3,()) = tree_k62 F_k5 x1 x2 x3 some:=rfl
def args_k67:SkL:=(.cons (cP 0) .nil)
def mem_k67:MSk:=[(0,.cells (.cons (cP 1) .nil)),(1,.cells (.cons lI (.cons (cW 2) (.cons (cW 3) .nil)))),(2,qf),(3,qg)]
def outs_k67:List OutC:=[⟨(.tup (.cons (.agg (.cons lU (.cons lU (.cons lU (.cons lU (.cons lU (.cons lS .nil))))))) (.cons lB .nil))),[]⟩]
abbrev A_k67:Type:=Unit
abbrev M_k67:Type:=(Unit×(Int×Unit)×Yb×Y6×Unit)
abbrev O_k67:Type:=(Yt×Bool×Unit)×Unit
abbrev B_k67:=A_k67→M_k67→Option O_k67
def routs_k67:List OutC:=[⟨(.tup (.cons (.agg (.cons lU (.cons lU (.cons lU (.cons lU (.cons lU (.cons lS .nil))))))) (.cons lB .nil))),[(0,.cells (.cons (cP 1) .nil)),(1,.cells (.cons lI (.cons (cW 2) (.cons (cW 3) .nil)))),(2,qf),(3,qg)]⟩]
abbrev RO_k67:Type:=(Yt×Bool×Unit)×(Unit×(Int×Unit)×Yb×Y6×Unit)
def tree_k67 (F_k55:B_k55) (F_k63:B_k63) {α:Type} (x1:Int) (x2:Yb) (x3:Y6) (K:RO_k67→Option α):Option α :=
 (F_k55 (0,1,()) ((x1,()),x2,x3,())).bind fun r1 =>
 cond (r1.1.1 == 0)
 (K (((0,0,0,0,0,ByteArray.empty,()),false,()),(),(x1,()),x2,x3,()))
 ((F_k63 (r1.1.2.1,()) ()).bind fun r2 =>
 K (((r2.1.1.1,r2.1.1.2.1,r2.1.1.2.2.1,r2.1.1.2.2.2.1,r2.1.1.2.2.2.2.1,r2.1.1.2.2.2.2.2.1,()),r2.1.2.1,()),(),(x1,()),x2,x3,()))
noncomputable def R_k67:A_k67→M_k67→Option RO_k67:=fun a b=>tree_k67 F_k55 F_k63 b.2.1.1 b.2.2.1 b.2.2.2.1 some
theorem reads_k67 (a:A_k67) (b:M_k67):Leaf (fun r:RO_k67=>r.2 = b) (R_k67 a b):=by
 show Leaf _ (tree_k67 F_k55 F_k63 b.2.1.1 b.2.2.1 b.2.2.2.1 some)
 unfold tree_k67
 repeat (first | (with_reducible refine leaf_bind fun _=>?_) | (with_reducible apply leaf_cond) | (with_reducible refine leaf_sum (fun _=>?_) (fun _=>?_)) | (with_reducible exact leaf_none) | exact leaf_some rfl)
noncomputable def F_k67:A_k67→M_k67→Option O_k67:=fun a b=>(R_k67 a b).map fun r=>(r.1,())
theorem n_k67 (F_k55:B_k55) (F_k63:B_k63) (x1 x2 x3) {α:Type} (K:RO_k67→Option α):tree_k67 F_k55 F_k63 x1 x2 x3 K = (tree_k67 F_k55 F_k63 x1 x2 x3 some).bind K:=by simp only [tree_k67,bind_cond,bind_none',bind_some',bind_bind',bind_sum]
theorem Fe_k67 (x1 x2 x3):F_k67 () ((),(x1,()),x2,x3,()) = (tree_k67 F_k55 F_k63 x1 x2 x3 some).map fun r=>(r.1,()):=rfl
def args_k68:SkL:=(.cons (cP 0) (.cons (.agg (.cons lU (.cons lU (.cons lU (.cons lU (.cons lU (.cons lS .nil))))))) .nil))
def mem_k68:MSk:=[(0,.cells (.cons (cP 1) .nil)),(1,.cells (.cons lI (.cons (cW 2) (.cons (cW 3) .nil)))),(2,qf),(3,qg)]
def outs_k68:List OutC:=[⟨lB,[(0,.cells (.cons (cP 1) .nil)),(1,.cells (.cons lI (.cons (cW 2) (.cons (cW 4) .nil)))),(2,qf),(3,.gone),(4,qg)]⟩]
abbrev A_k68:Type:=(Yt×Unit)
abbrev M_k68:Type:=(Unit×(Int×Unit)×Yb×Y6×Unit)
abbrev O_k68:Type:=Bool×(Unit×(Int×Unit)×Yb×Unit×Y6×Unit)
abbrev B_k68:=A_k68→M_k68→Option O_k68
def tree_k68 (F_k69:B_k69) (F_k56:B_k56) {α:Type} (x1:Int) (x2:Int) (x3:Int) (x4:Int) (x5:Int) (x6:ByteArray) (x7:Int) (x8:Yb) (x9:Y6) (K:O_k68→Option α):Option α :=
 (F_k69 ((x1,x2,x3,x4,x5,x6,()),()) ()).bind fun r1 =>
 (F_k56 (0,1,r1.1,()) ((x7,()),x8,x9,())).bind fun r2 =>
 K (r2.1,(),(r2.2.1.1,()),r2.2.2.1,(),r2.2.2.2.2.1,())
noncomputable def F_k68:A_k68→M_k68→Option O_k68:=fun a b=>tree_k68 F_k69 F_k56 a.1.1 a.1.2.1 a.1.2.2.1 a.1.2.2.2.1 a.1.2.2.2.2.1 a.1.2.2.2.2.2.1 b.2.1.1 b.2.2.1 b.2.2.2.1 some
theorem n_k68 (F_k69:B_k69) (F_k56:B_k56) (x1 x2 x3 x4 x5 x6 x7 x8 x9) {α:Type} (K:O_k68→Option α):tree_k68 F_k69 F_k56 x1 x2 x3 x4 x5 x6 x7 x8 x9 K = (tree_k68 F_k69 F_k56 x1 x2 x3 x4 x5 x6 x7 x8 x9 some).bind K:=by simp only [tree_k68,bind_cond,bind_none',bind_some',bind_bind',bind_sum]
theorem Fe_k68 (x1 x2 x3 x4 x5 x6 x7 x8 x9):F_k68 ((x1,x2,x3,x4,x5,x6,()),()) ((),(x7,()),x8,x9,()) = tree_k68 F_k69 F_k56 x1 x2 x3 x4 x5 x6 x7 x8 x9 some:=rfl
def args_k65:SkL:=(.cons (cP 0) (.cons lU .nil))
def mem_k65:MSk:=[(0,.cells (.cons (cP 1) .nil)),(1,.cells (.cons lI (.cons (cW 2) (.cons (cW 3) .nil)))),(2,qf),(3,qg)]
def outs_k65:List OutC:=[⟨lB,[(0,.cells (.cons (cP 1) .nil)),(1,.cells (.cons lI (.cons (cW 2) (.cons (cW 4) .nil)))),(2,qf),(3,.gone),(4,qg)]⟩]
abbrev A_k65:Type:=(Int×Unit)
abbrev M_k65:Type:=(Unit×(Int×Unit)×Yb×Y6×Unit)
abbrev O_k65:Type:=Bool×(Unit×(Int×Unit)×Yb×Unit×Y6×Unit)
abbrev B_k65:=A_k65→M_k65→Option O_k65
def tree_k65 (F_k68:B_k68) {α:Type} (x1:Int) (x2:Int) (x3:Yb) (x4:Y6) (K:O_k65→Option α):Option α :=
 (F_k68 ((x1,0,0,0,0,ByteArray.empty,()),()) ((),(x2,()),x3,x4,())).bind fun r1 =>
 K (r1.1,(),(r1.2.2.1.1,()),r1.2.2.2.1,(),r1.2.2.2.2.2.1,())
noncomputable def F_k65:A_k65→M_k65→Option O_k65:=fun a b=>tree_k65 F_k68 a.1 b.2.1.1 b.2.2.1 b.2.2.2.1 some
theorem n_k65 (F_k68:B_k68) (x1 x2 x3 x4) {α:Type} (K:O_k65→Option α):tree_k65 F_k68 x1 x2 x3 x4 K = (tree_k65 F_k68 x1 x2 x3 x4 some).bind K:=by simp only [tree_k65,bind_cond,bind_none',bind_some',bind_bind',bind_sum]
theorem Fe_k65 (x1 x2 x3 x4):F_k65 (x1,()) ((),(x2,()),x3,x4,()) = tree_k65 F_k68 x1 x2 x3 x4 some:=rfl
def args_k64:SkL:=(.cons (cP 0) (.cons lU (.cons lS (.cons lU .nil))))
def mem_k64:MSk:=[(0,.cells (.cons (cP 1) .nil)),(1,.cells (.cons lI (.cons (cW 2) (.cons (cW 3) .nil)))),(2,qf),(3,qg)]
def outs_k64:List OutC:=[⟨lB,[(0,.cells (.cons (cP 1) .nil)),(1,.cells (.cons lI (.cons (cW 2) (.cons (cW 4) .nil)))),(2,qf),(3,.gone),(4,qg)]⟩]
abbrev A_k64:Type:=(Int×ByteArray×Int×Unit)
abbrev M_k64:Type:=(Unit×(Int×Unit)×Yb×Y6×Unit)
abbrev O_k64:Type:=Bool×(Unit×(Int×Unit)×Yb×Unit×Y6×Unit)
abbrev B_k64:=A_k64→M_k64→Option O_k64
def tree_k64 (F_k67:B_k67) (F_k68:B_k68) {α:Type} (x1:Int) (x2:ByteArray) (x3:Int) (x4:Int) (x5:Yb) (x6:Y6) (K:O_k64→Option α):Option α :=
 (F_k67 () ((),(x4,()),x5,x6,())).bind fun r1 =>
 cond (!r1.1.2.1)
 (K (false,(),(x4,()),x5,(),x6,()))
 (cond (r1.1.1.2.2.1 == 1)
 (K (false,(),(x4,()),x5,(),x6,()))
 ((F_k68 ((r1.1.1.1,r1.1.1.2.1,1,x1,x3,x2,()),()) ((),(x4,()),x5,x6,())).bind fun r2 =>
 K (r2.1,(),(r2.2.2.1.1,()),r2.2.2.2.1,(),r2.2.2.2.2.2.1,())))
noncomputable def F_k64:A_k64→M_k64→Option O_k64:=fun a b=>tree_k64 F_k67 F_k68 a.1 a.2.1 a.2.2.1 b.2.1.1 b.2.2.1 b.2.2.2.1 some
theorem n_k64 (F_k67:B_k67) (F_k68:B_k68) (x1 x2 x3 x4 x5 x6) {α:Type} (K:O_k64→Option α):tree_k64 F_k67 F_k68 x1 x2 x3 x4 x5 x6 K = (tree_k64 F_k67 F_k68 x1 x2 x3 x4 x5 x6 some).bind K:=by simp only [tree_k64,bind_cond,bind_none',bind_some',bind_bind',bind_sum]
theorem Fe_k64 (x1 x2 x3 x4 x5 x6):F_k64 (x1,x2,x3,()) ((),(x4,()),x5,x6,()) = tree_k64 F_k67 F_k68 x1 x2 x3 x4 x5 x6 some:=rfl
def args_k66:SkL:=(.cons (cP 0) (.cons lB .nil))
def mem_k66:MSk:=[(0,.cells (.cons (cP 1) .nil)),(1,.cells (.cons lI (.cons (cW 2) (.cons (cW 3) .nil)))),(2,qf),(3,qg)]
def outs_k66:List OutC:=[⟨lB,[(0,.cells (.cons (cP 1) .nil)),(1,.cells (.cons lI (.cons (cW 2) (.cons (cW 4) .nil)))),(2,qf),(3,.gone),(4,qg)]⟩]
abbrev A_k66:Type:=(Bool×Unit)
abbrev M_k66:Type:=(Unit×(Int×Unit)×Yb×Y6×Unit)
abbrev O_k66:Type:=Bool×(Unit×(Int×Unit)×Yb×Unit×Y6×Unit)
abbrev B_k66:=A_k66→M_k66→Option O_k66
def tree_k66 (F_k67:B_k67) (F_k68:B_k68) {α:Type} (x1:Bool) (x2:Int) (x3:Yb) (x4:Y6) (K:O_k66→Option α):Option α :=
 (F_k67 () ((),(x2,()),x3,x4,())).bind fun r1 =>
 cond (!r1.1.2.1)
 (K (false,(),(x2,()),x3,(),x4,()))
 (cond (r1.1.1.2.2.1 == 0)
 (K (false,(),(x2,()),x3,(),x4,()))
 (cond (x1)
 (cond (r1.1.1.2.1 == 18446744073709551615)
 (K (false,(),(x2,()),x3,(),x4,()))
 (cond (x1)
 ((F_k68 ((r1.1.1.2.2.2.2.1,IntKind.u64.wrap (r1.1.1.2.1 + 1),0,0,0,ByteArray.empty,()),()) ((),(x2,()),x3,x4,())).bind fun r2 =>
 K (r2.1,(),(r2.2.2.1.1,()),r2.2.2.2.1,(),r2.2.2.2.2.2.1,()))
 ((F_k68 ((r1.1.1.1,r1.1.1.2.1,0,0,0,ByteArray.empty,()),()) ((),(x2,()),x3,x4,())).bind fun r3 =>
 K (r3.1,(),(r3.2.2.1.1,()),r3.2.2.2.1,(),r3.2.2.2.2.2.1,()))))
 (cond (x1)
 ((F_k68 ((r1.1.1.2.2.2.2.1,IntKind.u64.wrap (r1.1.1.2.1 + 1),0,0,0,ByteArray.empty,()),()) ((),(x2,()),x3,x4,())).bind fun r4 =>
 K (r4.1,(),(r4.2.2.1.1,()),r4.2.2.2.1,(),r4.2.2.2.2.2.1,()))
 ((F_k68 ((r1.1.1.1,r1.1.1.2.1,0,0,0,ByteArray.empty,()),()) ((),(x2,()),x3,x4,())).bind fun r5 =>
 K (r5.1,(),(r5.2.2.1.1,()),r5.2.2.2.1,(),r5.2.2.2.2.2.1,())))))
noncomputable def F_k66:A_k66→M_k66→Option O_k66:=fun a b=>tree_k66 F_k67 F_k68 a.1 b.2.1.1 b.2.2.1 b.2.2.2.1 some
theorem n_k66 (F_k67:B_k67) (F_k68:B_k68) (x1 x2 x3 x4) {α:Type} (K:O_k66→Option α):tree_k66 F_k67 F_k68 x1 x2 x3 x4 K = (tree_k66 F_k67 F_k68 x1 x2 x3 x4 some).bind K:=by simp only [tree_k66,bind_cond,bind_none',bind_some',bind_bind',bind_sum]
theorem Fe_k66 (x1 x2 x3 x4):F_k66 (x1,()) ((),(x2,()),x3,x4,()) = tree_k66 F_k67 F_k68 x1 x2 x3 x4 some:=rfl
end Go.Proofs.Ytljfdfghagiblaa.S2
