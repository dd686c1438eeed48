/- Plain forms of the program's functions,by program. -/
import Derived.Test.YtljfdfghagiblaaGseal
import Derived.Test.YtljfdfghagiblaaGmerkle
import Derived.Test.YtljfdfghagiblaaGstore
set_option maxRecDepth 100000
set_option maxHeartbeats 0
set_option linter.unusedVariables false
set_option linter.unusedSimpArgs false
namespace Go.Proofs.Ytljfdfghagiblaa.S2
open Go
def args_k27:SkL:=(.cons (cP 0) (.cons (cP 1) (.cons lU (.cons lU (.cons lI .nil)))))
def mem_k27:MSk:=[(0,.cells (.cons lL (.cons lI (.cons lB (.cons (cM 2) (.cons (cM 3) (.cons (cM 4) (.cons (cM 5) (.cons (cM 6) (.cons (cM 7) (.cons (cW 8) .nil))))))))))),(1,.cells (.cons (cP 9) .nil)),(2,qa),(3,qa),(4,qb),(5,qc),(6,qd),(7,qe),(8,qf),(9,.cells (.cons lI (.cons (cW 10) (.cons (cW 11) .nil)))),(10,qf),(11,qg)]
def outs_k27:List OutC:=[⟨(.tup (.cons (.const .nilp) (.cons (.const (.bool Bool.false)) .nil))),[(0,.cells (.cons lL (.cons lI (.cons lB (.cons (cM 2) (.cons (cM 3) (.cons (cM 4) (.cons (cM 5) (.cons (cM 6) (.cons (cM 7) (.cons (cW 8) .nil))))))))))),(1,.cells (.cons (cP 9) .nil)),(2,qa),(3,qa),(4,qb),(5,qc),(6,qd),(7,qe),(8,qf),(9,.cells (.cons lI (.cons (cW 10) (.cons (cW 11) .nil)))),(10,qf),(11,qg)]⟩,⟨(.tup (.cons (cP 12) (.cons (.const (.bool Bool.true)) .nil))),[(0,.cells (.cons lL (.cons lI (.cons lB (.cons (cM 2) (.cons (cM 3) (.cons (cM 4) (.cons (cM 5) (.cons (cM 6) (.cons (cM 7) (.cons (cW 8) .nil))))))))))),(1,.cells (.cons (cP 9) .nil)),(2,qa),(3,qa),(4,qb),(5,qc),(6,qd),(7,qe),(8,qf),(9,.cells (.cons lI (.cons (cW 10) (.cons (cW 11) .nil)))),(10,qf),(11,qg),(12,.cells (.cons (cP 0) (.cons (cP 1) (.cons lU (.cons lU (.cons lI .nil))))))]⟩]
abbrev A_k27:Type:=(Int×Int×Int×Unit)
abbrev M_k27:Type:=(Yd×Unit×Y1×Y1×Y2×Y3×Y4×Y5×Yb×(Int×Unit)×Yb×Y6×Unit)
abbrev O_k27:Type:=(Unit×(Yd×Unit×Y1×Y1×Y2×Y3×Y4×Y5×Yb×(Int×Unit)×Yb×Y6×Unit)) ⊕ (Unit×(Yd×Unit×Y1×Y1×Y2×Y3×Y4×Y5×Yb×(Int×Unit)×Yb×Y6×(Int×Int×Int×Unit)×Unit))
abbrev B_k27:=A_k27→M_k27→Option O_k27
def tree_k27 {α:Type} (x1:Int) (x2:Int) (x3:Int) (x4:List Int) (x5:Int) (x6:Bool) (x7:Y1) (x8:Y1) (x9:Y2) (x10:Y3) (x11:Y4) (x12:Y5) (x13:Yb) (x14:Int) (x15:Yb) (x16:Y6) (K:O_k27→Option α):Option α :=
 cond (decide (x3 < 0))
 (K (.inl ((),(x4,x5,x6,()),(),x7,x8,x9,x10,x11,x12,x13,(x14,()),x15,x16,())))
 (cond (decide (x3 > 4))
 (K (.inl ((),(x4,x5,x6,()),(),x7,x8,x9,x10,x11,x12,x13,(x14,()),x15,x16,())))
 (K (.inr ((),(x4,x5,x6,()),(),x7,x8,x9,x10,x11,x12,x13,(x14,()),x15,x16,(x1,x2,x3,()),()))))
noncomputable def F_k27:A_k27→M_k27→Option O_k27:=fun a b=>tree_k27 a.1 a.2.1 a.2.2.1 b.1.1 b.1.2.1 b.1.2.2.1 b.2.2.1 b.2.2.2.1 b.2.2.2.2.1 b.2.2.2.2.2.1 b.2.2.2.2.2.2.1 b.2.2.2.2.2.2.2.1 b.2.2.2.2.2.2.2.2.1 b.2.2.2.2.2.2.2.2.2.1.1 b.2.2.2.2.2.2.2.2.2.2.1 b.2.2.2.2.2.2.2.2.2.2.2.1 some
theorem n_k27 (x1 x2 x3 x4 x5 x6 x7 x8 x9 x10 x11 x12 x13 x14 x15 x16) {α:Type} (K:O_k27→Option α):tree_k27 x1 x2 x3 x4 x5 x6 x7 x8 x9 x10 x11 x12 x13 x14 x15 x16 K = (tree_k27 x1 x2 x3 x4 x5 x6 x7 x8 x9 x10 x11 x12 x13 x14 x15 x16 some).bind K:=by simp only [tree_k27,bind_cond,bind_none',bind_some',bind_bind',bind_sum]
theorem Fe_k27 (x1 x2 x3 x4 x5 x6 x7 x8 x9 x10 x11 x12 x13 x14 x15 x16):F_k27 (x1,x2,x3,()) ((x4,x5,x6,()),(),x7,x8,x9,x10,x11,x12,x13,(x14,()),x15,x16,()) = tree_k27 x1 x2 x3 x4 x5 x6 x7 x8 x9 x10 x11 x12 x13 x14 x15 x16 some:=rfl
def args_k21:SkL:=(.cons (cP 0) (.cons lU .nil))
def mem_k21:MSk:=[(0,.cells (.cons (cP 1) (.cons (cP 2) (.cons lU (.cons lU (.cons lI .nil)))))),(1,.cells (.cons lL (.cons lI (.cons lB (.cons (cM 3) (.cons (cM 4) (.cons (cM 5) (.cons (cM 6) (.cons (cM 7) (.cons (cM 8) (.cons (cW 9) .nil))))))))))),(2,.cells (.cons (cP 10) .nil)),(3,qa),(4,qa),(5,qb),(6,qc),(7,qd),(8,qe),(9,qf),(10,.cells (.cons lI (.cons (cW 11) (.cons (cW 12) .nil)))),(11,qf),(12,qg)]
def outs_k21:List OutC:=[⟨(.tup (.cons (.agg (.cons lU (.cons lU (.cons lU (.cons lU (.cons lU (.cons lS .nil))))))) (.cons lI .nil))),[]⟩]
abbrev A_k21:Type:=(Int×Unit)
abbrev M_k21:Type:=((Int×Int×Int×Unit)×Yd×Unit×Y1×Y1×Y2×Y3×Y4×Y5×Yb×(Int×Unit)×Yb×Y6×Unit)
abbrev O_k21:Type:=(Yt×Int×Unit)×Unit
abbrev B_k21:=A_k21→M_k21→Option O_k21
def routs_k21:List OutC:=[⟨(.tup (.cons (.agg (.cons lU (.cons lU (.cons lU (.cons lU (.cons lU (.cons lS .nil))))))) (.cons lI .nil))),[(0,.cells (.cons (cP 1) (.cons (cP 2) (.cons lU (.cons lU (.cons lI .nil)))))),(1,.cells (.cons lL (.cons lI (.cons lB (.cons (cM 3) (.cons (cM 4) (.cons (cM 5) (.cons (cM 6) (.cons (cM 7) (.cons (cM 8) (.cons (cW 9) .nil))))))))))),(2,.cells (.cons (cP 10) .nil)),(3,qa),(4,qa),(5,qb),(6,qc),(7,qd),(8,qe),(9,qf),(10,.cells (.cons lI (.cons (cW 11) (.cons (cW 12) .nil)))),(11,qf),(12,qg)]⟩]
abbrev RO_k21:Type:=(Yt×Int×Unit)×((Int×Int×Int×Unit)×Yd×Unit×Y1×Y1×Y2×Y3×Y4×Y5×Yb×(Int×Unit)×Yb×Y6×Unit)
def tree_k21 (F_k72:B_k72) {α:Type} (x1:Int) (x2:Int) (x3:Int) (x4:Int) (x5:List Int) (x6:Int) (x7:Bool) (x8:Y1) (x9:Y1) (x10:Y2) (x11:Y3) (x12:Y4) (x13:Y5) (x14:Yb) (x15:Int) (x16:Yb) (x17:Y6) (K:RO_k21→Option α):Option α :=
 (F_k72 () ((),(x15,()),x16,x17,())).bind fun r1 =>
 cond (!r1.1.2.1)
 (K (((r1.1.1.1,r1.1.1.2.1,r1.1.1.2.2.1,r1.1.1.2.2.2.1,r1.1.1.2.2.2.2.1,r1.1.1.2.2.2.2.2.1,()),235,()),(x2,x3,x4,()),(x5,x6,x7,()),(),x8,x9,x10,x11,x12,x13,x14,(x15,()),x16,x17,()))
 (cond (r1.1.1.2.2.1 == 1)
 (K (((r1.1.1.1,r1.1.1.2.1,r1.1.1.2.2.1,r1.1.1.2.2.2.1,r1.1.1.2.2.2.2.1,r1.1.1.2.2.2.2.2.1,()),234,()),(x2,x3,x4,()),(x5,x6,x7,()),(),x8,x9,x10,x11,x12,x13,x14,(x15,()),x16,x17,()))
 (cond (decide (0≤x4))
 (cond (decide (x1≥IntKind.u64.wrap (1 * 2 ^ Min.min x4.toNat 64)))
 (K (((r1.1.1.1,r1.1.1.2.1,r1.1.1.2.2.1,r1.1.1.2.2.2.1,r1.1.1.2.2.2.2.1,r1.1.1.2.2.2.2.2.1,()),230,()),(x2,x3,x4,()),(x5,x6,x7,()),(),x8,x9,x10,x11,x12,x13,x14,(x15,()),x16,x17,()))
 (K (((r1.1.1.1,r1.1.1.2.1,r1.1.1.2.2.1,r1.1.1.2.2.2.1,r1.1.1.2.2.2.2.1,r1.1.1.2.2.2.2.2.1,()),0,()),(x2,x3,x4,()),(x5,x6,x7,()),(),x8,x9,x10,x11,x12,x13,x14,(x15,()),x16,x17,())))
 (none)))
noncomputable def R_k21:A_k21→M_k21→Option RO_k21:=fun a b=>tree_k21 F_k72 a.1 b.1.1 b.1.2.1 b.1.2.2.1 b.2.1.1 b.2.1.2.1 b.2.1.2.2.1 b.2.2.2.1 b.2.2.2.2.1 b.2.2.2.2.2.1 b.2.2.2.2.2.2.1 b.2.2.2.2.2.2.2.1 b.2.2.2.2.2.2.2.2.1 b.2.2.2.2.2.2.2.2.2.1 b.2.2.2.2.2.2.2.2.2.2.1.1 b.2.2.2.2.2.2.2.2.2.2.2.1 b.2.2.2.2.2.2.2.2.2.2.2.2.1 some
theorem reads_k21 (a:A_k21) (b:M_k21):Leaf (fun r:RO_k21=>r.2 = b) (R_k21 a b):=by
 show Leaf _ (tree_k21 F_k72 a.1 b.1.1 b.1.2.1 b.1.2.2.1 b.2.1.1 b.2.1.2.1 b.2.1.2.2.1 b.2.2.2.1 b.2.2.2.2.1 b.2.2.2.2.2.1 b.2.2.2.2.2.2.1 b.2.2.2.2.2.2.2.1 b.2.2.2.2.2.2.2.2.1 b.2.2.2.2.2.2.2.2.2.1 b.2.2.2.2.2.2.2.2.2.2.1.1 b.2.2.2.2.2.2.2.2.2.2.2.1 b.2.2.2.2.2.2.2.2.2.2.2.2.1 some)
 unfold tree_k21
 repeat (first | (with_reducible refine leaf_bind fun _=>?_) | (with_reducible apply leaf_cond) | (with_reducible refine leaf_sum (fun _=>?_) (fun _=>?_)) | (with_reducible exact leaf_none) | exact leaf_some rfl)
noncomputable def F_k21:A_k21→M_k21→Option O_k21:=fun a b=>(R_k21 a b).map fun r=>(r.1,())
theorem n_k21 (F_k72:B_k72) (x1 x2 x3 x4 x5 x6 x7 x8 x9 x10 x11 x12 x13 x14 x15 x16 x17) {α:Type} (K:RO_k21→Option α):tree_k21 F_k72 x1 x2 x3 x4 x5 x6 x7 x8 x9 x10 x11 x12 x13 x14 x15 x16 x17 K = (tree_k21 F_k72 x1 x2 x3 x4 x5 x6 x7 x8 x9 x10 x11 x12 x13 x14 x15 x16 x17 some).bind K:=by simp only [tree_k21,bind_cond,bind_none',bind_some',bind_bind',bind_sum]
def args_k25:SkL:=(.cons (cP 0) .nil)
def mem_k25:MSk:=[(0,.cells (.cons (cP 1) (.cons (cP 2) (.cons lU (.cons lU (.cons lI .nil)))))),(1,.cells (.cons lL (.cons lI (.cons lB (.cons (cM 3) (.cons (cM 4) (.cons (cM 5) (.cons (cM 6) (.cons (cM 7) (.cons (cM 8) (.cons (cW 9) .nil))))))))))),(2,.cells (.cons (cP 10) .nil)),(3,qa),(4,qa),(5,qb),(6,qc),(7,qd),(8,qe),(9,qf),(10,.cells (.cons lI (.cons (cW 11) (.cons (cW 12) .nil)))),(11,qf),(12,qg)]
def outs_k25:List OutC:=[⟨(.tup (.cons (.agg (.cons lU (.cons lU (.cons lU (.cons lU (.cons lU (.cons lS .nil))))))) (.cons lI .nil))),[]⟩]
abbrev A_k25:Type:=Unit
abbrev M_k25:Type:=((Int×Int×Int×Unit)×Yd×Unit×Y1×Y1×Y2×Y3×Y4×Y5×Yb×(Int×Unit)×Yb×Y6×Unit)
abbrev O_k25:Type:=(Yt×Int×Unit)×Unit
abbrev B_k25:=A_k25→M_k25→Option O_k25
def routs_k25:List OutC:=[⟨(.tup (.cons (.agg (.cons lU (.cons lU (.cons lU (.cons lU (.cons lU (.cons lS .nil))))))) (.cons lI .nil))),[(0,.cells (.cons (cP 1) (.cons (cP 2) (.cons lU (.cons lU (.cons lI .nil)))))),(1,.cells (.cons lL (.cons lI (.cons lB (.cons (cM 3) (.cons (cM 4) (.cons (cM 5) (.cons (cM 6) (.cons (cM 7) (.cons (cM 8) (.cons (cW 9) .nil))))))))))),(2,.cells (.cons (cP 10) .nil)),(3,qa),(4,qa),(5,qb),(6,qc),(7,qd),(8,qe),(9,qf),(10,.cells (.cons lI (.cons (cW 11) (.cons (cW 12) .nil)))),(11,qf),(12,qg)]⟩]
abbrev RO_k25:Type:=(Yt×Int×Unit)×((Int×Int×Int×Unit)×Yd×Unit×Y1×Y1×Y2×Y3×Y4×Y5×Yb×(Int×Unit)×Yb×Y6×Unit)
def tree_k25 (F_k72:B_k72) {α:Type} (x1:Int) (x2:Int) (x3:Int) (x4:List Int) (x5:Int) (x6:Bool) (x7:Y1) (x8:Y1) (x9:Y2) (x10:Y3) (x11:Y4) (x12:Y5) (x13:Yb) (x14:Int) (x15:Yb) (x16:Y6) (K:RO_k25→Option α):Option α :=
 (F_k72 () ((),(x14,()),x15,x16,())).bind fun r1 =>
 cond (!r1.1.2.1)
 (K (((r1.1.1.1,r1.1.1.2.1,r1.1.1.2.2.1,r1.1.1.2.2.2.1,r1.1.1.2.2.2.2.1,r1.1.1.2.2.2.2.2.1,()),235,()),(x1,x2,x3,()),(x4,x5,x6,()),(),x7,x8,x9,x10,x11,x12,x13,(x14,()),x15,x16,()))
 (cond (r1.1.1.2.2.1 == 0)
 (K (((r1.1.1.1,r1.1.1.2.1,r1.1.1.2.2.1,r1.1.1.2.2.2.1,r1.1.1.2.2.2.2.1,r1.1.1.2.2.2.2.2.1,()),237,()),(x1,x2,x3,()),(x4,x5,x6,()),(),x7,x8,x9,x10,x11,x12,x13,(x14,()),x15,x16,()))
 (K (((r1.1.1.1,r1.1.1.2.1,r1.1.1.2.2.1,r1.1.1.2.2.2.1,r1.1.1.2.2.2.2.1,r1.1.1.2.2.2.2.2.1,()),0,()),(x1,x2,x3,()),(x4,x5,x6,()),(),x7,x8,x9,x10,x11,x12,x13,(x14,()),x15,x16,())))
noncomputable def R_k25:A_k25→M_k25→Option RO_k25:=fun a b=>tree_k25 F_k72 b.1.1 b.1.2.1 b.1.2.2.1 b.2.1.1 b.2.1.2.1 b.2.1.2.2.1 b.2.2.2.1 b.2.2.2.2.1 b.2.2.2.2.2.1 b.2.2.2.2.2.2.1 b.2.2.2.2.2.2.2.1 b.2.2.2.2.2.2.2.2.1 b.2.2.2.2.2.2.2.2.2.1 b.2.2.2.2.2.2.2.2.2.2.1.1 b.2.2.2.2.2.2.2.2.2.2.2.1 b.2.2.2.2.2.2.2.2.2.2.2.2.1 some
theorem reads_k25 (a:A_k25) (b:M_k25):Leaf (fun r:RO_k25=>r.2 = b) (R_k25 a b):=by
 show Leaf _ (tree_k25 F_k72 b.1.1 b.1.2.1 b.1.2.2.1 b.2.1.1 b.2.1.2.1 b.2.1.2.2.1 b.2.2.2.1 b.2.2.2.2.1 b.2.2.2.2.2.1 b.2.2.2.2.2.2.1 b.2.2.2.2.2.2.2.1 b.2.2.2.2.2.2.2.2.1 b.2.2.2.2.2.2.2.2.2.1 b.2.2.2.2.2.2.2.2.2.2.1.1 b.2.2.2.2.2.2.2.2.2.2.2.1 b.2.2.2.2.2.2.2.2.2.2.2.2.1 some)
 unfold tree_k25
 repeat (first | (with_reducible refine leaf_bind fun _=>?_) | (with_reducible apply leaf_cond) | (with_reducible refine leaf_sum (fun _=>?_) (fun _=>?_)) | (with_reducible exact leaf_none) | exact leaf_some rfl)
noncomputable def F_k25:A_k25→M_k25→Option O_k25:=fun a b=>(R_k25 a b).map fun r=>(r.1,())
theorem n_k25 (F_k72:B_k72) (x1 x2 x3 x4 x5 x6 x7 x8 x9 x10 x11 x12 x13 x14 x15 x16) {α:Type} (K:RO_k25→Option α):tree_k25 F_k72 x1 x2 x3 x4 x5 x6 x7 x8 x9 x10 x11 x12 x13 x14 x15 x16 K = (tree_k25 F_k72 x1 x2 x3 x4 x5 x6 x7 x8 x9 x10 x11 x12 x13 x14 x15 x16 some).bind K:=by simp only [tree_k25,bind_cond,bind_none',bind_some',bind_bind',bind_sum]
def args_k26:SkL:=(.cons (cP 0) (.cons lB .nil))
def mem_k26:MSk:=[(0,.cells (.cons (cP 1) (.cons (cP 2) (.cons lU (.cons lU (.cons lI .nil)))))),(1,.cells (.cons lL (.cons lI (.cons lB (.cons (cM 3) (.cons (cM 4) (.cons (cM 5) (.cons (cM 6) (.cons (cM 7) (.cons (cM 8) (.cons (cW 9) .nil))))))))))),(2,.cells (.cons (cP 10) .nil)),(3,qa),(4,qa),(5,qb),(6,qc),(7,qd),(8,qe),(9,qf),(10,.cells (.cons lI (.cons (cW 11) (.cons (cW 12) .nil)))),(11,qf),(12,qg)]
def outs_k26:List OutC:=[⟨lI,[(0,.cells (.cons (cP 1) (.cons (cP 2) (.cons lU (.cons lU (.cons lI .nil)))))),(1,.cells (.cons lL (.cons lI (.cons lB (.cons (cM 3) (.cons (cM 4) (.cons (cM 5) (.cons (cM 6) (.cons (cM 7) (.cons (cM 8) (.cons (cW 9) .nil))))))))))),(2,.cells (.cons (cP 10) .nil)),(3,qa),(4,qa),(5,qb),(6,qc),(7,qd),(8,qe),(9,qf),(10,.cells (.cons lI (.cons (cW 11) (.cons (cW 13) .nil)))),(11,qf),(12,.gone),(13,qg)]⟩]
abbrev A_k26:Type:=(Bool×Unit)
abbrev M_k26:Type:=((Int×Int×Int×Unit)×Yd×Unit×Y1×Y1×Y2×Y3×Y4×Y5×Yb×(Int×Unit)×Yb×Y6×Unit)
abbrev O_k26:Type:=Int×((Int×Int×Int×Unit)×Yd×Unit×Y1×Y1×Y2×Y3×Y4×Y5×Yb×(Int×Unit)×Yb×Unit×Y6×Unit)
abbrev B_k26:=A_k26→M_k26→Option O_k26
def tree_k26 (F_k71:B_k71) {α:Type} (x1:Bool) (x2:Int) (x3:Int) (x4:Int) (x5:List Int) (x6:Int) (x7:Bool) (x8:Y1) (x9:Y1) (x10:Y2) (x11:Y3) (x12:Y4) (x13:Y5) (x14:Yb) (x15:Int) (x16:Yb) (x17:Y6) (K:O_k26→Option α):Option α :=
 (F_k71 (x1,()) ((),(x15,()),x16,x17,())).bind fun r1 =>
 cond (!r1.1)
 (K (235,(x2,x3,x4,()),(x5,x6,x7,()),(),x8,x9,x10,x11,x12,x13,x14,(r1.2.2.1.1,()),r1.2.2.2.1,(),r1.2.2.2.2.2.1,()))
 (K (0,(x2,x3,x4,()),(x5,x6,x7,()),(),x8,x9,x10,x11,x12,x13,x14,(r1.2.2.1.1,()),r1.2.2.2.1,(),r1.2.2.2.2.2.1,()))
noncomputable def F_k26:A_k26→M_k26→Option O_k26:=fun a b=>tree_k26 F_k71 a.1 b.1.1 b.1.2.1 b.1.2.2.1 b.2.1.1 b.2.1.2.1 b.2.1.2.2.1 b.2.2.2.1 b.2.2.2.2.1 b.2.2.2.2.2.1 b.2.2.2.2.2.2.1 b.2.2.2.2.2.2.2.1 b.2.2.2.2.2.2.2.2.1 b.2.2.2.2.2.2.2.2.2.1 b.2.2.2.2.2.2.2.2.2.2.1.1 b.2.2.2.2.2.2.2.2.2.2.2.1 b.2.2.2.2.2.2.2.2.2.2.2.2.1 some
theorem n_k26 (F_k71:B_k71) (x1 x2 x3 x4 x5 x6 x7 x8 x9 x10 x11 x12 x13 x14 x15 x16 x17) {α:Type} (K:O_k26→Option α):tree_k26 F_k71 x1 x2 x3 x4 x5 x6 x7 x8 x9 x10 x11 x12 x13 x14 x15 x16 x17 K = (tree_k26 F_k71 x1 x2 x3 x4 x5 x6 x7 x8 x9 x10 x11 x12 x13 x14 x15 x16 x17 some).bind K:=by simp only [tree_k26,bind_cond,bind_none',bind_some',bind_bind',bind_sum]
def args_k13:SkL:=(.cons (cP 0) .nil)
def mem_k13:MSk:=[(0,.cells (.cons (cP 1) (.cons (cP 2) (.cons lU (.cons lU (.cons lI .nil)))))),(1,.cells (.cons lL (.cons lI (.cons lB (.cons (cM 3) (.cons (cM 4) (.cons (cM 5) (.cons (cM 6) (.cons (cM 7) (.cons (cM 8) (.cons (cW 9) .nil))))))))))),(2,.cells (.cons (cP 10) .nil)),(3,qa),(4,qa),(5,qb),(6,qc),(7,qd),(8,qe),(9,qf),(10,.cells (.cons lI (.cons (cW 11) (.cons (cW 12) .nil)))),(11,qf),(12,qg)]
def outs_k13:List OutC:=[⟨lI,[(0,.cells (.cons (cP 1) (.cons (cP 2) (.cons lU (.cons lU (.cons lI .nil)))))),(1,.cells (.cons lL (.cons lI (.cons lB (.cons (cM 3) (.cons (cM 4) (.cons (cM 5) (.cons (cM 6) (.cons (cM 7) (.cons (cM 8) (.cons (cW 9) .nil))))))))))),(2,.cells (.cons (cP 10) .nil)),(3,qa),(4,qa),(5,qb),(6,qc),(7,qd),(8,qe),(9,qf),(10,.cells (.cons lI (.cons (cW 11) (.cons (cW 13) .nil)))),(11,qf),(12,.gone),(13,qg)]⟩]
abbrev A_k13:Type:=Unit
abbrev M_k13:Type:=((Int×Int×Int×Unit)×Yd×Unit×Y1×Y1×Y2×Y3×Y4×Y5×Yb×(Int×Unit)×Yb×Y6×Unit)
abbrev O_k13:Type:=Int×((Int×Int×Int×Unit)×Yd×Unit×Y1×Y1×Y2×Y3×Y4×Y5×Yb×(Int×Unit)×Yb×Unit×Y6×Unit)
abbrev B_k13:=A_k13→M_k13→Option O_k13
def tree_k13 (F_k25:B_k25) (F_k26:B_k26) {α:Type} (x1:Int) (x2:Int) (x3:Int) (x4:List Int) (x5:Int) (x6:Bool) (x7:Y1) (x8:Y1) (x9:Y2) (x10:Y3) (x11:Y4) (x12:Y5) (x13:Yb) (x14:Int) (x15:Yb) (x16:Y6) (K:O_k13→Option α):Option α :=
 (F_k25 () ((x1,x2,x3,()),(x4,x5,x6,()),(),x7,x8,x9,x10,x11,x12,x13,(x14,()),x15,x16,())).bind fun r1 =>
 cond (r1.1.2.1 != 0)
 (K (r1.1.2.1,(x1,x2,x3,()),(x4,x5,x6,()),(),x7,x8,x9,x10,x11,x12,x13,(x14,()),x15,(),x16,()))
 ((F_k26 (Bool.true,()) ((x1,x2,x3,()),(x4,x5,x6,()),(),x7,x8,x9,x10,x11,x12,x13,(x14,()),x15,x16,())).bind fun r2 =>
 K (r2.1,(r2.2.1.1,r2.2.1.2.1,r2.2.1.2.2.1,()),(r2.2.2.1.1,r2.2.2.1.2.1,r2.2.2.1.2.2.1,()),(),r2.2.2.2.2.1,r2.2.2.2.2.2.1,r2.2.2.2.2.2.2.1,r2.2.2.2.2.2.2.2.1,r2.2.2.2.2.2.2.2.2.1,r2.2.2.2.2.2.2.2.2.2.1,r2.2.2.2.2.2.2.2.2.2.2.1,(r2.2.2.2.2.2.2.2.2.2.2.2.1.1,()),r2.2.2.2.2.2.2.2.2.2.2.2.2.1,(),r2.2.2.2.2.2.2.2.2.2.2.2.2.2.2.1,()))
noncomputable def F_k13:A_k13→M_k13→Option O_k13:=fun a b=>tree_k13 F_k25 F_k26 b.1.1 b.1.2.1 b.1.2.2.1 b.2.1.1 b.2.1.2.1 b.2.1.2.2.1 b.2.2.2.1 b.2.2.2.2.1 b.2.2.2.2.2.1 b.2.2.2.2.2.2.1 b.2.2.2.2.2.2.2.1 b.2.2.2.2.2.2.2.2.1 b.2.2.2.2.2.2.2.2.2.1 b.2.2.2.2.2.2.2.2.2.2.1.1 b.2.2.2.2.2.2.2.2.2.2.2.1 b.2.2.2.2.2.2.2.2.2.2.2.2.1 some
theorem n_k13 (F_k25:B_k25) (F_k26:B_k26) (x1 x2 x3 x4 x5 x6 x7 x8 x9 x10 x11 x12 x13 x14 x15 x16) {α:Type} (K:O_k13→Option α):tree_k13 F_k25 F_k26 x1 x2 x3 x4 x5 x6 x7 x8 x9 x10 x11 x12 x13 x14 x15 x16 K = (tree_k13 F_k25 F_k26 x1 x2 x3 x4 x5 x6 x7 x8 x9 x10 x11 x12 x13 x14 x15 x16 some).bind K:=by simp only [tree_k13,bind_cond,bind_none',bind_some',bind_bind',bind_sum]
def args_k24:SkL:=(.cons (cP 0) (.cons lU (.cons (.agg (.cons lS (.cons lL .nil))) .nil)))
def mem_k24:MSk:=[(0,.cells (.cons (cP 1) (.cons (cP 2) (.cons lU (.cons lU (.cons lI .nil)))))),(1,.cells (.cons lL (.cons lI (.cons lB (.cons (cM 3) (.cons (cM 4) (.cons (cM 5) (.cons (cM 6) (.cons (cM 7) (.cons (cM 8) (.cons (cW 9) .nil))))))))))),(2,.cells (.cons (cP 10) .nil)),(3,qa),(4,qa),(5,qb),(6,qc),(7,qd),(8,qe),(9,qf),(10,.cells (.cons lI (.cons (cW 11) (.cons (cW 12) .nil)))),(11,qf),(12,qg)]
def outs_k24:List OutC:=[⟨(.tup (.cons lU (.cons lB .nil))),[(0,.cells (.cons (cP 1) (.cons (cP 2) (.cons lU (.cons lU (.cons lI .nil)))))),(1,.cells (.cons lL (.cons lI (.cons lB (.cons (cM 3) (.cons (cM 4) (.cons (cM 5) (.cons (cM 6) (.cons (cM 7) (.cons (cM 8) (.cons (cW 9) .nil))))))))))),(2,.cells (.cons (cP 10) .nil)),(3,qa),(4,qa),(5,qb),(6,qc),(7,qd),(8,qe),(9,qf),(10,.cells (.cons lI (.cons (cW 11) (.cons (cW 12) .nil)))),(11,qf),(12,qg)]⟩]
abbrev A_k24:Type:=(Int×(ByteArray×List Int×Unit)×Unit)
abbrev M_k24:Type:=((Int×Int×Int×Unit)×Yd×Unit×Y1×Y1×Y2×Y3×Y4×Y5×Yb×(Int×Unit)×Yb×Y6×Unit)
abbrev O_k24:Type:=(Int×Bool×Unit)×((Int×Int×Int×Unit)×Yd×Unit×Y1×Y1×Y2×Y3×Y4×Y5×Yb×(Int×Unit)×Yb×Y6×Unit)
abbrev B_k24:=A_k24→M_k24→Option O_k24
def ltmps_k24_2:SkL:=(.cons (cP 0) (.cons lU (dz 3 (.cons (cP 1160) (dz 7 (.cons lL (.cons lI (.cons lI (dz 52 .nil)))))))))
def lmem_k24_2:MSk:=[(0,.cells (.cons (cP 1) (.cons (cP 2) (.cons lU (.cons lU (.cons lI .nil)))))),(1,.cells (.cons lL (.cons lI (.cons lB (.cons (cM 3) (.cons (cM 4) (.cons (cM 5) (.cons (cM 6) (.cons (cM 7) (.cons (cM 8) (.cons (cW 9) .nil))))))))))),(2,.cells (.cons (cP 10) .nil)),(3,qa),(4,qa),(5,qb),(6,qc),(7,qd),(8,qe),(9,qf),(10,.cells (.cons lI (.cons (cW 11) (.cons (cW 12) .nil)))),(11,qf),(12,qg),(1160,.cells (.cons lS (.cons lL .nil)))]
def louts_k24_2:List OutL:=[⟨(.exit 0),(.cons (cP 0) (.cons lU (dz 3 (.cons (cP 1160) (dz 62 .nil))))),[(0,.cells (.cons (cP 1) (.cons (cP 2) (.cons lU (.cons lU (.cons lI .nil)))))),(1,.cells (.cons lL (.cons lI (.cons lB (.cons (cM 3) (.cons (cM 4) (.cons (cM 5) (.cons (cM 6) (.cons (cM 7) (.cons (cM 8) (.cons (cW 9) .nil))))))))))),(2,.cells (.cons (cP 10) .nil)),(3,qa),(4,qa),(5,qb),(6,qc),(7,qd),(8,qe),(9,qf),(10,.cells (.cons lI (.cons (cW 11) (.cons (cW 12) .nil)))),(11,qf),(12,qg),(1160,.cells (.cons lS (.cons lL .nil)))]⟩]
abbrev LT_k24_2:Type:=(Int×List Int×Int×Int×Unit)
abbrev LM_k24_2:Type:=((Int×Int×Int×Unit)×Yd×Unit×Y1×Y1×Y2×Y3×Y4×Y5×Yb×(Int×Unit)×Yb×Y6×(ByteArray×List Int×Unit)×Unit)
abbrev LO_k24_2:Type:=(Int×Unit)×((Int×Int×Int×Unit)×Yd×Unit×Y1×Y1×Y2×Y3×Y4×Y5×Yb×(Int×Unit)×Yb×Y6×(ByteArray×List Int×Unit)×Unit)
def ltree_k24_2 (F_k32:B_k32) {α:Type} (x1:Int) (x2:List Int) (x3:Int) (x4:Int) (x5:Int) (x6:Int) (x7:Int) (x8:List Int) (x9:Int) (x10:Bool) (x11:Y1) (x12:Y1) (x13:Y2) (x14:Y3) (x15:Y4) (x16:Y5) (x17:Yb) (x18:Int) (x19:Yb) (x20:Y6) (x21:ByteArray) (x22:List Int) (kn:LT_k24_2→LM_k24_2→Option α) (kr:LO_k24_2→Option α):Option α :=
 cond (decide (x4 < x3))
 (cond (decide (0≤x4))
 (cond (decide (x4 < (↑x2.length:Int)))
 ((F_k32 (x2.getD x4.toNat 0,()) ((x8,x9,x10,()),x11,x12,x13,x14,x15,x16,x17,())).bind fun r1 =>
 kn (x1,x2,x3,IntKind.i64.wrap (x4 + 1),()) ((x5,x6,x7,()),(r1.2.1.1,r1.2.1.2.1,r1.2.1.2.2.1,()),(),r1.2.2.1,r1.2.2.2.1,r1.2.2.2.2.1,r1.2.2.2.2.2.1,r1.2.2.2.2.2.2.1,r1.2.2.2.2.2.2.2.1,r1.2.2.2.2.2.2.2.2.1,(x18,()),x19,x20,(x21,x22,()),()))
 (none))
 (none))
 (kr ((x1,()),(x5,x6,x7,()),(x8,x9,x10,()),(),x11,x12,x13,x14,x15,x16,x17,(x18,()),x19,x20,(x21,x22,()),()))
noncomputable def L_k24_2:LT_k24_2→LM_k24_2→Option LO_k24_2:=fun x y=>runL (fun p=>(fun (a:LT_k24_2) (b:LM_k24_2)=>ltree_k24_2 F_k32 a.1 a.2.1 a.2.2.1 a.2.2.2.1 b.1.1 b.1.2.1 b.1.2.2.1 b.2.1.1 b.2.1.2.1 b.2.1.2.2.1 b.2.2.2.1 b.2.2.2.2.1 b.2.2.2.2.2.1 b.2.2.2.2.2.2.1 b.2.2.2.2.2.2.2.1 b.2.2.2.2.2.2.2.2.1 b.2.2.2.2.2.2.2.2.2.1 b.2.2.2.2.2.2.2.2.2.2.1.1 b.2.2.2.2.2.2.2.2.2.2.2.1 b.2.2.2.2.2.2.2.2.2.2.2.2.1 b.2.2.2.2.2.2.2.2.2.2.2.2.2.1.1 b.2.2.2.2.2.2.2.2.2.2.2.2.2.1.2.1 (fun a' b'=>some (.inl (a',b'))) fun r=>some (.inr r)) p.1 p.2) (x,y)
theorem nl_k24_2 (F_k32:B_k32) (x1 x2 x3 x4 x5 x6 x7 x8 x9 x10 x11 x12 x13 x14 x15 x16 x17 x18 x19 x20 x21 x22) {α:Type} (kn:LT_k24_2→LM_k24_2→Option α) (kr:LO_k24_2→Option α):ltree_k24_2 F_k32 x1 x2 x3 x4 x5 x6 x7 x8 x9 x10 x11 x12 x13 x14 x15 x16 x17 x18 x19 x20 x21 x22 kn kr = (ltree_k24_2 F_k32 x1 x2 x3 x4 x5 x6 x7 x8 x9 x10 x11 x12 x13 x14 x15 x16 x17 x18 x19 x20 x21 x22 (fun a b=>some (.inl (a,b))) fun r=>some (.inr r)).bind (Sum.elim (fun p:LT_k24_2×LM_k24_2=>kn p.1 p.2) kr):=by simp only [ltree_k24_2,bind_cond,bind_none',bind_some',bind_bind',bind_sum,Sum.elim_inl,Sum.elim_inr]
theorem Le_k24_2 (x1 x2 x3 x4 x5 x6 x7 x8 x9 x10 x11 x12 x13 x14 x15 x16 x17 x18 x19 x20 x21 x22):L_k24_2 (x1,x2,x3,x4,()) ((x5,x6,x7,()),(x8,x9,x10,()),(),x11,x12,x13,x14,x15,x16,x17,(x18,()),x19,x20,(x21,x22,()),()) = ltree_k24_2 F_k32 x1 x2 x3 x4 x5 x6 x7 x8 x9 x10 x11 x12 x13 x14 x15 x16 x17 x18 x19 x20 x21 x22 L_k24_2 some:=runL_tree (A:=LT_k24_2) (B:=LM_k24_2) (R:=LO_k24_2) (fun a b kn kr=>ltree_k24_2 F_k32 a.1 a.2.1 a.2.2.1 a.2.2.2.1 b.1.1 b.1.2.1 b.1.2.2.1 b.2.1.1 b.2.1.2.1 b.2.1.2.2.1 b.2.2.2.1 b.2.2.2.2.1 b.2.2.2.2.2.1 b.2.2.2.2.2.2.1 b.2.2.2.2.2.2.2.1 b.2.2.2.2.2.2.2.2.1 b.2.2.2.2.2.2.2.2.2.1 b.2.2.2.2.2.2.2.2.2.2.1.1 b.2.2.2.2.2.2.2.2.2.2.2.1 b.2.2.2.2.2.2.2.2.2.2.2.2.1 b.2.2.2.2.2.2.2.2.2.2.2.2.2.1.1 b.2.2.2.2.2.2.2.2.2.2.2.2.2.1.2.1 kn kr) (fun a b kn kr=>nl_k24_2 F_k32 a.1 a.2.1 a.2.2.1 a.2.2.2.1 b.1.1 b.1.2.1 b.1.2.2.1 b.2.1.1 b.2.1.2.1 b.2.1.2.2.1 b.2.2.2.1 b.2.2.2.2.1 b.2.2.2.2.2.1 b.2.2.2.2.2.2.1 b.2.2.2.2.2.2.2.1 b.2.2.2.2.2.2.2.2.1 b.2.2.2.2.2.2.2.2.2.1 b.2.2.2.2.2.2.2.2.2.2.1.1 b.2.2.2.2.2.2.2.2.2.2.2.1 b.2.2.2.2.2.2.2.2.2.2.2.2.1 b.2.2.2.2.2.2.2.2.2.2.2.2.2.1.1 b.2.2.2.2.2.2.2.2.2.2.2.2.2.1.2.1 kn kr) (x1,x2,x3,x4,()) ((x5,x6,x7,()),(x8,x9,x10,()),(),x11,x12,x13,x14,x15,x16,x17,(x18,()),x19,x20,(x21,x22,()),())
def tree_k24 (F_k32:B_k32) (F_k54:B_k54) (F_k44:B_k44) (L_k24_2:LT_k24_2→LM_k24_2→Option LO_k24_2) {α:Type} (x1:Int) (x2:ByteArray) (x3:List Int) (x4:Int) (x5:Int) (x6:Int) (x7:List Int) (x8:Int) (x9:Bool) (x10:Y1) (x11:Y1) (x12:Y2) (x13:Y3) (x14:Y4) (x15:Y5) (x16:Yb) (x17:Int) (x18:Yb) (x19:Y6) (K:O_k24→Option α):Option α :=
 (L_k24_2 (x1,x3,(↑x3.length:Int),0,()) ((x4,x5,x6,()),(x7,x8,x9,()),(),x10,x11,x12,x13,x14,x15,x16,(x17,()),x18,x19,(x2,x3,()),())).bind fun r1 =>
 (F_k54 (r1.2.2.2.2.2.2.2.2.2.2.2.2.2.2.1.1,()) ()).bind fun r2 =>
 cond (r2.1.2.1)
 ((F_k32 (r2.1.1.2.2.1,()) ((r1.2.2.1.1,r1.2.2.1.2.1,r1.2.2.1.2.2.1,()),r1.2.2.2.2.1,r1.2.2.2.2.2.1,r1.2.2.2.2.2.2.1,r1.2.2.2.2.2.2.2.1,r1.2.2.2.2.2.2.2.2.1,r1.2.2.2.2.2.2.2.2.2.1,r1.2.2.2.2.2.2.2.2.2.2.1,())).bind fun r3 =>
 (F_k32 (r2.1.1.2.2.2.1,()) ((r3.2.1.1,r3.2.1.2.1,r3.2.1.2.2.1,()),r3.2.2.1,r3.2.2.2.1,r3.2.2.2.2.1,r3.2.2.2.2.2.1,r3.2.2.2.2.2.2.1,r3.2.2.2.2.2.2.2.1,r3.2.2.2.2.2.2.2.2.1,())).bind fun r4 =>
 cond ((↑r1.2.2.2.2.2.2.2.2.2.2.2.2.2.2.1.2.1.length:Int) != r1.2.1.2.2.1)
 (K ((0,false,()),(r1.2.1.1,r1.2.1.2.1,r1.2.1.2.2.1,()),(r4.2.1.1,r4.2.1.2.1,r4.2.1.2.2.1,()),(),r4.2.2.1,r4.2.2.2.1,r4.2.2.2.2.1,r4.2.2.2.2.2.1,r4.2.2.2.2.2.2.1,r4.2.2.2.2.2.2.2.1,r4.2.2.2.2.2.2.2.2.1,(r1.2.2.2.2.2.2.2.2.2.2.2.1.1,()),r1.2.2.2.2.2.2.2.2.2.2.2.2.1,r1.2.2.2.2.2.2.2.2.2.2.2.2.2.1,()))
 ((F_k44 (r1.2.2.2.2.2.2.2.2.2.2.2.2.2.2.1.1,IntKind.i64.wrap r1.1.1,r1.2.2.2.2.2.2.2.2.2.2.2.2.2.2.1.2.1,()) ((r4.2.1.1,r4.2.1.2.1,r4.2.1.2.2.1,()),r4.2.2.1,r4.2.2.2.1,r4.2.2.2.2.1,r4.2.2.2.2.2.1,r4.2.2.2.2.2.2.1,r4.2.2.2.2.2.2.2.1,r4.2.2.2.2.2.2.2.2.1,())).bind fun r5 =>
 K ((r5.1.1,r5.1.2.1,()),(r1.2.1.1,r1.2.1.2.1,r1.2.1.2.2.1,()),(r5.2.1.1,r5.2.1.2.1,r5.2.1.2.2.1,()),(),r5.2.2.1,r5.2.2.2.1,r5.2.2.2.2.1,r5.2.2.2.2.2.1,r5.2.2.2.2.2.2.1,r5.2.2.2.2.2.2.2.1,r5.2.2.2.2.2.2.2.2.1,(r1.2.2.2.2.2.2.2.2.2.2.2.1.1,()),r1.2.2.2.2.2.2.2.2.2.2.2.2.1,r1.2.2.2.2.2.2.2.2.2.2.2.2.2.1,())))
 (cond ((↑r1.2.2.2.2.2.2.2.2.2.2.2.2.2.2.1.2.1.length:Int) != r1.2.1.2.2.1)
 (K ((0,false,()),(r1.2.1.1,r1.2.1.2.1,r1.2.1.2.2.1,()),(r1.2.2.1.1,r1.2.2.1.2.1,r1.2.2.1.2.2.1,()),(),r1.2.2.2.2.1,r1.2.2.2.2.2.1,r1.2.2.2.2.2.2.1,r1.2.2.2.2.2.2.2.1,r1.2.2.2.2.2.2.2.2.1,r1.2.2.2.2.2.2.2.2.2.1,r1.2.2.2.2.2.2.2.2.2.2.1,(r1.2.2.2.2.2.2.2.2.2.2.2.1.1,()),r1.2.2.2.2.2.2.2.2.2.2.2.2.1,r1.2.2.2.2.2.2.2.2.2.2.2.2.2.1,()))
 ((F_k44 (r1.2.2.2.2.2.2.2.2.2.2.2.2.2.2.1.1,IntKind.i64.wrap r1.1.1,r1.2.2.2.2.2.2.2.2.2.2.2.2.2.2.1.2.1,()) ((r1.2.2.1.1,r1.2.2.1.2.1,r1.2.2.1.2.2.1,()),r1.2.2.2.2.1,r1.2.2.2.2.2.1,r1.2.2.2.2.2.2.1,r1.2.2.2.2.2.2.2.1,r1.2.2.2.2.2.2.2.2.1,r1.2.2.2.2.2.2.2.2.2.1,r1.2.2.2.2.2.2.2.2.2.2.1,())).bind fun r6 =>
 K ((r6.1.1,r6.1.2.1,()),(r1.2.1.1,r1.2.1.2.1,r1.2.1.2.2.1,()),(r6.2.1.1,r6.2.1.2.1,r6.2.1.2.2.1,()),(),r6.2.2.1,r6.2.2.2.1,r6.2.2.2.2.1,r6.2.2.2.2.2.1,r6.2.2.2.2.2.2.1,r6.2.2.2.2.2.2.2.1,r6.2.2.2.2.2.2.2.2.1,(r1.2.2.2.2.2.2.2.2.2.2.2.1.1,()),r1.2.2.2.2.2.2.2.2.2.2.2.2.1,r1.2.2.2.2.2.2.2.2.2.2.2.2.2.1,())))
noncomputable def F_k24:A_k24→M_k24→Option O_k24:=fun a b=>tree_k24 F_k32 F_k54 F_k44 L_k24_2 a.1 a.2.1.1 a.2.1.2.1 b.1.1 b.1.2.1 b.1.2.2.1 b.2.1.1 b.2.1.2.1 b.2.1.2.2.1 b.2.2.2.1 b.2.2.2.2.1 b.2.2.2.2.2.1 b.2.2.2.2.2.2.1 b.2.2.2.2.2.2.2.1 b.2.2.2.2.2.2.2.2.1 b.2.2.2.2.2.2.2.2.2.1 b.2.2.2.2.2.2.2.2.2.2.1.1 b.2.2.2.2.2.2.2.2.2.2.2.1 b.2.2.2.2.2.2.2.2.2.2.2.2.1 some
theorem n_k24 (F_k32:B_k32) (F_k54:B_k54) (F_k44:B_k44) (L_k24_2:LT_k24_2→LM_k24_2→Option LO_k24_2) (x1 x2 x3 x4 x5 x6 x7 x8 x9 x10 x11 x12 x13 x14 x15 x16 x17 x18 x19) {α:Type} (K:O_k24→Option α):tree_k24 F_k32 F_k54 F_k44 L_k24_2 x1 x2 x3 x4 x5 x6 x7 x8 x9 x10 x11 x12 x13 x14 x15 x16 x17 x18 x19 K = (tree_k24 F_k32 F_k54 F_k44 L_k24_2 x1 x2 x3 x4 x5 x6 x7 x8 x9 x10 x11 x12 x13 x14 x15 x16 x17 x18 x19 some).bind K:=by simp only [tree_k24,bind_cond,bind_none',bind_some',bind_bind',bind_sum]
def args_k15:SkL:=(.cons (cP 0) (.cons lU (.cons (.agg (.cons lS (.cons lL .nil))) .nil)))
def mem_k15:MSk:=[(0,.cells (.cons (cP 1) (.cons (cP 2) (.cons lU (.cons lU (.cons lI .nil)))))),(1,.cells (.cons lL (.cons lI (.cons lB (.cons (cM 3) (.cons (cM 4) (.cons (cM 5) (.cons (cM 6) (.cons (cM 7) (.cons (cM 8) (.cons (cW 9) .nil))))))))))),(2,.cells (.cons (cP 10) .nil)),(3,qa),(4,qa),(5,qb),(6,qc),(7,qd),(8,qe),(9,qf),(10,.cells (.cons lI (.cons (cW 11) (.cons (cW 12) .nil)))),(11,qf),(12,qg)]
def outs_k15:List OutC:=[⟨(.tup (.cons lS (.cons lI .nil))),[(0,.cells (.cons (cP 1) (.cons (cP 2) (.cons lU (.cons lU (.cons lI .nil)))))),(1,.cells (.cons lL (.cons lI (.cons lB (.cons (cM 3) (.cons (cM 4) (.cons (cM 5) (.cons (cM 6) (.cons (cM 7) (.cons (cM 8) (.cons (cW 9) .nil))))))))))),(2,.cells (.cons (cP 10) .nil)),(3,qa),(4,qa),(5,qb),(6,qc),(7,qd),(8,qe),(9,qf),(10,.cells (.cons lI (.cons (cW 11) (.cons (cW 12) .nil)))),(11,qf),(12,qg)]⟩]
abbrev A_k15:Type:=(Int×(ByteArray×List Int×Unit)×Unit)
abbrev M_k15:Type:=((Int×Int×Int×Unit)×Yd×Unit×Y1×Y1×Y2×Y3×Y4×Y5×Yb×(Int×Unit)×Yb×Y6×Unit)
abbrev O_k15:Type:=(ByteArray×Int×Unit)×((Int×Int×Int×Unit)×Yd×Unit×Y1×Y1×Y2×Y3×Y4×Y5×Yb×(Int×Unit)×Yb×Y6×Unit)
abbrev B_k15:=A_k15→M_k15→Option O_k15
def tree_k15 (F_k21:B_k21) (F_k24:B_k24) (F_k54:B_k54) (F_k56:B_k56) {α:Type} (x1:Int) (x2:ByteArray) (x3:List Int) (x4:Int) (x5:Int) (x6:Int) (x7:List Int) (x8:Int) (x9:Bool) (x10:Y1) (x11:Y1) (x12:Y2) (x13:Y3) (x14:Y4) (x15:Y5) (x16:Yb) (x17:Int) (x18:Yb) (x19:Y6) (K:O_k15→Option α):Option α :=
 (F_k21 (x1,()) ((x4,x5,x6,()),(x7,x8,x9,()),(),x10,x11,x12,x13,x14,x15,x16,(x17,()),x18,x19,())).bind fun r1 =>
 cond (r1.1.2.1 != 0)
 (K ((ByteArray.empty,r1.1.2.1,()),(x4,x5,x6,()),(x7,x8,x9,()),(),x10,x11,x12,x13,x14,x15,x16,(x17,()),x18,x19,()))
 ((F_k24 (x1,(x2,x3,()),()) ((x4,x5,x6,()),(x7,x8,x9,()),(),x10,x11,x12,x13,x14,x15,x16,(x17,()),x18,x19,())).bind fun r2 =>
 cond (!r2.1.2.1)
 (K ((ByteArray.empty,232,()),(r2.2.1.1,r2.2.1.2.1,r2.2.1.2.2.1,()),(r2.2.2.1.1,r2.2.2.1.2.1,r2.2.2.1.2.2.1,()),(),r2.2.2.2.2.1,r2.2.2.2.2.2.1,r2.2.2.2.2.2.2.1,r2.2.2.2.2.2.2.2.1,r2.2.2.2.2.2.2.2.2.1,r2.2.2.2.2.2.2.2.2.2.1,r2.2.2.2.2.2.2.2.2.2.2.1,(r2.2.2.2.2.2.2.2.2.2.2.2.1.1,()),r2.2.2.2.2.2.2.2.2.2.2.2.2.1,r2.2.2.2.2.2.2.2.2.2.2.2.2.2.1,()))
 (cond (r2.1.1 != r1.1.1.1)
 (K ((ByteArray.empty,232,()),(r2.2.1.1,r2.2.1.2.1,r2.2.1.2.2.1,()),(r2.2.2.1.1,r2.2.2.1.2.1,r2.2.2.1.2.2.1,()),(),r2.2.2.2.2.1,r2.2.2.2.2.2.1,r2.2.2.2.2.2.2.1,r2.2.2.2.2.2.2.2.1,r2.2.2.2.2.2.2.2.2.1,r2.2.2.2.2.2.2.2.2.2.1,r2.2.2.2.2.2.2.2.2.2.2.1,(r2.2.2.2.2.2.2.2.2.2.2.2.1.1,()),r2.2.2.2.2.2.2.2.2.2.2.2.2.1,r2.2.2.2.2.2.2.2.2.2.2.2.2.2.1,()))
 (cond (x2.toList == ByteArray.empty.toList)
 (K ((ByteArray.empty,0,()),(r2.2.1.1,r2.2.1.2.1,r2.2.1.2.2.1,()),(r2.2.2.1.1,r2.2.2.1.2.1,r2.2.2.1.2.2.1,()),(),r2.2.2.2.2.1,r2.2.2.2.2.2.1,r2.2.2.2.2.2.2.1,r2.2.2.2.2.2.2.2.1,r2.2.2.2.2.2.2.2.2.1,r2.2.2.2.2.2.2.2.2.2.1,r2.2.2.2.2.2.2.2.2.2.2.1,(r2.2.2.2.2.2.2.2.2.2.2.2.1.1,()),r2.2.2.2.2.2.2.2.2.2.2.2.2.1,r2.2.2.2.2.2.2.2.2.2.2.2.2.2.1,()))
 ((F_k54 (x2,()) ()).bind fun r3 =>
 cond (!r3.1.2.1)
 (K ((ByteArray.empty,233,()),(r2.2.1.1,r2.2.1.2.1,r2.2.1.2.2.1,()),(r2.2.2.1.1,r2.2.2.1.2.1,r2.2.2.1.2.2.1,()),(),r2.2.2.2.2.1,r2.2.2.2.2.2.1,r2.2.2.2.2.2.2.1,r2.2.2.2.2.2.2.2.1,r2.2.2.2.2.2.2.2.2.1,r2.2.2.2.2.2.2.2.2.2.1,r2.2.2.2.2.2.2.2.2.2.2.1,(r2.2.2.2.2.2.2.2.2.2.2.2.1.1,()),r2.2.2.2.2.2.2.2.2.2.2.2.2.1,r2.2.2.2.2.2.2.2.2.2.2.2.2.2.1,()))
 ((F_k56 (r2.2.1.1,r2.2.1.2.1,x1,(r3.1.1.1,r3.1.1.2.1,r3.1.1.2.2.1,r3.1.1.2.2.2.1,()),()) ((r2.2.2.1.1,r2.2.2.1.2.1,r2.2.2.1.2.2.1,()),r2.2.2.2.2.1,r2.2.2.2.2.2.1,r2.2.2.2.2.2.2.1,r2.2.2.2.2.2.2.2.1,r2.2.2.2.2.2.2.2.2.1,r2.2.2.2.2.2.2.2.2.2.1,r2.2.2.2.2.2.2.2.2.2.2.1,())).bind fun r4 =>
 cond (!r4.1.2.1)
 (K ((ByteArray.empty,233,()),(r2.2.1.1,r2.2.1.2.1,r2.2.1.2.2.1,()),(r4.2.1.1,r4.2.1.2.1,r4.2.1.2.2.1,()),(),r4.2.2.1,r4.2.2.2.1,r4.2.2.2.2.1,r4.2.2.2.2.2.1,r4.2.2.2.2.2.2.1,r4.2.2.2.2.2.2.2.1,r4.2.2.2.2.2.2.2.2.1,(r2.2.2.2.2.2.2.2.2.2.2.2.1.1,()),r2.2.2.2.2.2.2.2.2.2.2.2.2.1,r2.2.2.2.2.2.2.2.2.2.2.2.2.2.1,()))
 (K ((r4.1.1,0,()),(r2.2.1.1,r2.2.1.2.1,r2.2.1.2.2.1,()),(r4.2.1.1,r4.2.1.2.1,r4.2.1.2.2.1,()),(),r4.2.2.1,r4.2.2.2.1,r4.2.2.2.2.1,r4.2.2.2.2.2.1,r4.2.2.2.2.2.2.1,r4.2.2.2.2.2.2.2.1,r4.2.2.2.2.2.2.2.2.1,(r2.2.2.2.2.2.2.2.2.2.2.2.1.1,()),r2.2.2.2.2.2.2.2.2.2.2.2.2.1,r2.2.2.2.2.2.2.2.2.2.2.2.2.2.1,())))))))
noncomputable def F_k15:A_k15→M_k15→Option O_k15:=fun a b=>tree_k15 F_k21 F_k24 F_k54 F_k56 a.1 a.2.1.1 a.2.1.2.1 b.1.1 b.1.2.1 b.1.2.2.1 b.2.1.1 b.2.1.2.1 b.2.1.2.2.1 b.2.2.2.1 b.2.2.2.2.1 b.2.2.2.2.2.1 b.2.2.2.2.2.2.1 b.2.2.2.2.2.2.2.1 b.2.2.2.2.2.2.2.2.1 b.2.2.2.2.2.2.2.2.2.1 b.2.2.2.2.2.2.2.2.2.2.1.1 b.2.2.2.2.2.2.2.2.2.2.2.1 b.2.2.2.2.2.2.2.2.2.2.2.2.1 some
theorem n_k15 (F_k21:B_k21) (F_k24:B_k24) (F_k54:B_k54) (F_k56:B_k56) (x1 x2 x3 x4 x5 x6 x7 x8 x9 x10 x11 x12 x13 x14 x15 x16 x17 x18 x19) {α:Type} (K:O_k15→Option α):tree_k15 F_k21 F_k24 F_k54 F_k56 x1 x2 x3 x4 x5 x6 x7 x8 x9 x10 x11 x12 x13 x14 x15 x16 x17 x18 x19 K = (tree_k15 F_k21 F_k24 F_k54 F_k56 x1 x2 x3 x4 x5 x6 x7 x8 x9 x10 x11 x12 x13 x14 x15 x16 x17 x18 x19 some).bind K:=by simp only [tree_k15,bind_cond,bind_none',bind_some',bind_bind',bind_sum]
def args_k20:SkL:=(.cons lU (.cons (cP 0) (.cons (cP 1) (.cons (cP 2) (.cons (cP 3) .nil)))))
def mem_k20:MSk:=[(0,.cells (.cons (cP 4) .nil)),(1,.cells (.cons lU .nil)),(2,.cells (.cons lU .nil)),(3,.cells (.cons lS .nil)),(4,.cells (.cons (cP 5) (.cons (cP 6) (.cons lU (.cons lU (.cons lI .nil)))))),(5,.cells (.cons lL (.cons lI (.cons lB (.cons (cM 7) (.cons (cM 8) (.cons (cM 9) (.cons (cM 10) (.cons (cM 11) (.cons (cM 12) (.cons (cW 13) .nil))))))))))),(6,.cells (.cons (cP 14) .nil)),(7,qa),(8,qa),(9,qb),(10,qc),(11,qd),(12,qe),(13,qf),(14,.cells (.cons lI (.cons (cW 15) (.cons (cW 16) .nil)))),(15,qf),(16,qg)]
def outs_k20:List OutC:=[⟨lS,[(0,.cells (.cons (cP 4) .nil)),(1,.cells (.cons lU .nil)),(2,.cells (.cons lU .nil)),(3,.cells (.cons lS .nil)),(4,.cells (.cons (cP 5) (.cons (cP 6) (.cons lU (.cons lU (.cons lI .nil)))))),(5,.cells (.cons lL (.cons lI (.cons lB (.cons (cM 7) (.cons (cM 8) (.cons (cM 9) (.cons (cM 10) (.cons (cM 11) (.cons (cM 12) (.cons (cW 17) .nil))))))))))),(6,.cells (.cons (cP 14) .nil)),(7,qa),(8,qa),(9,qb),(10,qc),(11,qd),(12,qe),(13,.gone),(14,.cells (.cons lI (.cons (cW 15) (.cons (cW 16) .nil)))),(15,qf),(16,qg),(17,qf)]⟩]
abbrev A_k20:Type:=(Int×Unit)
abbrev M_k20:Type:=(Unit×(Int×Unit)×(Int×Unit)×(ByteArray×Unit)×(Int×Int×Int×Unit)×Yd×Unit×Y1×Y1×Y2×Y3×Y4×Y5×Yb×(Int×Unit)×Yb×Y6×Unit)
abbrev O_k20:Type:=ByteArray×(Unit×(Int×Unit)×(Int×Unit)×(ByteArray×Unit)×(Int×Int×Int×Unit)×Yd×Unit×Y1×Y1×Y2×Y3×Y4×Y5×Unit×(Int×Unit)×Yb×Y6×Yb×Unit)
abbrev B_k20:=A_k20→M_k20→Option O_k20
def tree_k20 (F_k53:B_k53) (F_k55:B_k55) {α:Type} (x1:Int) (x2:Int) (x3:Int) (x4:ByteArray) (x5:Int) (x6:Int) (x7:Int) (x8:List Int) (x9:Int) (x10:Bool) (x11:Y1) (x12:Y1) (x13:Y2) (x14:Y3) (x15:Y4) (x16:Y5) (x17:Yb) (x18:Int) (x19:Yb) (x20:Y6) (K:O_k20→Option α):Option α :=
 (F_k53 (x5,x6,x2,x1,x3,x4,()) ((x8,x9,x10,()),x11,x12,x13,x14,x15,x16,x17,())).bind fun r1 =>
 (F_k55 ((r1.1.1,r1.1.2.1,r1.1.2.2.1,r1.1.2.2.2.1,()),()) ()).bind fun r2 =>
 K (r2.1,(),(x2,()),(x3,()),(x4,()),(x5,x6,x7,()),(r1.2.1.1,r1.2.1.2.1,r1.2.1.2.2.1,()),(),r1.2.2.1,r1.2.2.2.1,r1.2.2.2.2.1,r1.2.2.2.2.2.1,r1.2.2.2.2.2.2.1,r1.2.2.2.2.2.2.2.1,(),(x18,()),x19,x20,r1.2.2.2.2.2.2.2.2.2.1,())
noncomputable def F_k20:A_k20→M_k20→Option O_k20:=fun a b=>tree_k20 F_k53 F_k55 a.1 b.2.1.1 b.2.2.1.1 b.2.2.2.1.1 b.2.2.2.2.1.1 b.2.2.2.2.1.2.1 b.2.2.2.2.1.2.2.1 b.2.2.2.2.2.1.1 b.2.2.2.2.2.1.2.1 b.2.2.2.2.2.1.2.2.1 b.2.2.2.2.2.2.2.1 b.2.2.2.2.2.2.2.2.1 b.2.2.2.2.2.2.2.2.2.1 b.2.2.2.2.2.2.2.2.2.2.1 b.2.2.2.2.2.2.2.2.2.2.2.1 b.2.2.2.2.2.2.2.2.2.2.2.2.1 b.2.2.2.2.2.2.2.2.2.2.2.2.2.1 b.2.2.2.2.2.2.2.2.2.2.2.2.2.2.1.1 b.2.2.2.2.2.2.2.2.2.2.2.2.2.2.2.1 b.2.2.2.2.2.2.2.2.2.2.2.2.2.2.2.2.1 some
theorem n_k20 (F_k53:B_k53) (F_k55:B_k55) (x1 x2 x3 x4 x5 x6 x7 x8 x9 x10 x11 x12 x13 x14 x15 x16 x17 x18 x19 x20) {α:Type} (K:O_k20→Option α):tree_k20 F_k53 F_k55 x1 x2 x3 x4 x5 x6 x7 x8 x9 x10 x11 x12 x13 x14 x15 x16 x17 x18 x19 x20 K = (tree_k20 F_k53 F_k55 x1 x2 x3 x4 x5 x6 x7 x8 x9 x10 x11 x12 x13 x14 x15 x16 x17 x18 x19 x20 some).bind K:=by simp only [tree_k20,bind_cond,bind_none',bind_some',bind_bind',bind_sum]
def args_k18:SkL:=(.cons lU .nil)
def mem_k18:MSk:=[]
def outs_k18:List OutC:=[⟨lS,[]⟩]
abbrev A_k18:Type:=(Int×Unit)
abbrev M_k18:Type:=Unit
abbrev O_k18:Type:=ByteArray×Unit
abbrev B_k18:=A_k18→M_k18→Option O_k18
def tree_k18 {α:Type} (x1:Int) (K:O_k18→Option α):Option α :=
 K (ByteArray.empty,())
noncomputable def F_k18:A_k18→M_k18→Option O_k18:=fun a b=>tree_k18 a.1 some
theorem n_k18 (x1) {α:Type} (K:O_k18→Option α):tree_k18 x1 K = (tree_k18 x1 some).bind K:=by simp only [tree_k18,bind_cond,bind_none',bind_some',bind_bind',bind_sum]
def args_k22:SkL:=(.cons (cP 0) (.cons lU (.cons (.agg (.cons lS (.cons lL .nil))) (.cons (.fn 64 (.cons (cP 1) (.cons (cP 2) (.cons (cP 3) (.cons (cP 4) .nil))))) .nil))))
def mem_k22:MSk:=[(0,.cells (.cons (cP 5) (.cons (cP 6) (.cons lU (.cons lU (.cons lI .nil)))))),(1,.cells (.cons (cP 0) .nil)),(2,.cells (.cons lU .nil)),(3,.cells (.cons lU .nil)),(4,.cells (.cons lS .nil)),(5,.cells (.cons lL (.cons lI (.cons lB (.cons (cM 7) (.cons (cM 8) (.cons (cM 9) (.cons (cM 10) (.cons (cM 11) (.cons (cM 12) (.cons (cW 13) .nil))))))))))),(6,.cells (.cons (cP 14) .nil)),(7,qa),(8,qa),(9,qb),(10,qc),(11,qd),(12,qe),(13,qf),(14,.cells (.cons lI (.cons (cW 15) (.cons (cW 16) .nil)))),(15,qf),(16,qg)]
def outs_k22:List OutC:=[⟨(.tup (.cons lS (.cons lI .nil))),[(0,.cells (.cons (cP 5) (.cons (cP 6) (.cons lU (.cons lU (.cons lI .nil)))))),(1,.cells (.cons (cP 0) .nil)),(2,.cells (.cons lU .nil)),(3,.cells (.cons lU .nil)),(4,.cells (.cons lS .nil)),(5,.cells (.cons lL (.cons lI (.cons lB (.cons (cM 7) (.cons (cM 8) (.cons (cM 9) (.cons (cM 10) (.cons (cM 11) (.cons (cM 12) (.cons (cW 17) .nil))))))))))),(6,.cells (.cons (cP 14) .nil)),(7,qa),(8,qa),(9,qb),(10,qc),(11,qd),(12,qe),(13,.gone),(14,.cells (.cons lI (.cons (cW 15) (.cons (cW 18) .nil)))),(15,qf),(16,.gone),(17,qf),(18,qg)]⟩]
abbrev A_k22:Type:=(Int×(ByteArray×List Int×Unit)×Unit×Unit)
abbrev M_k22:Type:=((Int×Int×Int×Unit)×Unit×(Int×Unit)×(Int×Unit)×(ByteArray×Unit)×Yd×Unit×Y1×Y1×Y2×Y3×Y4×Y5×Yb×(Int×Unit)×Yb×Y6×Unit)
abbrev O_k22:Type:=(ByteArray×Int×Unit)×((Int×Int×Int×Unit)×Unit×(Int×Unit)×(Int×Unit)×(ByteArray×Unit)×Yd×Unit×Y1×Y1×Y2×Y3×Y4×Y5×Unit×(Int×Unit)×Yb×Unit×Yb×Y6×Unit)
abbrev B_k22:=A_k22→M_k22→Option O_k22
def tree_k22 (F_k21:B_k21) (F_k24:B_k24) (F_k44:B_k44) (F_k69:B_k69) (F_k20:B_k20) {α:Type} (x1:Int) (x2:ByteArray) (x3:List Int) (x4:Int) (x5:Int) (x6:Int) (x7:Int) (x8:Int) (x9:ByteArray) (x10:List Int) (x11:Int) (x12:Bool) (x13:Y1) (x14:Y1) (x15:Y2) (x16:Y3) (x17:Y4) (x18:Y5) (x19:Yb) (x20:Int) (x21:Yb) (x22:Y6) (K:O_k22→Option α):Option α :=
 (F_k21 (x1,()) ((x4,x5,x6,()),(x10,x11,x12,()),(),x13,x14,x15,x16,x17,x18,x19,(x20,()),x21,x22,())).bind fun r1 =>
 cond (r1.1.2.1 != 0)
 (K ((ByteArray.empty,r1.1.2.1,()),(x4,x5,x6,()),(),(x7,()),(x8,()),(x9,()),(x10,x11,x12,()),(),x13,x14,x15,x16,x17,x18,(),(x20,()),x21,(),x19,x22,()))
 ((F_k24 (x1,(x2,x3,()),()) ((x4,x5,x6,()),(x10,x11,x12,()),(),x13,x14,x15,x16,x17,x18,x19,(x20,()),x21,x22,())).bind fun r2 =>
 cond (!r2.1.2.1)
 (K ((ByteArray.empty,232,()),(r2.2.1.1,r2.2.1.2.1,r2.2.1.2.2.1,()),(),(x7,()),(x8,()),(x9,()),(r2.2.2.1.1,r2.2.2.1.2.1,r2.2.2.1.2.2.1,()),(),r2.2.2.2.2.1,r2.2.2.2.2.2.1,r2.2.2.2.2.2.2.1,r2.2.2.2.2.2.2.2.1,r2.2.2.2.2.2.2.2.2.1,r2.2.2.2.2.2.2.2.2.2.1,(),(r2.2.2.2.2.2.2.2.2.2.2.2.1.1,()),r2.2.2.2.2.2.2.2.2.2.2.2.2.1,(),r2.2.2.2.2.2.2.2.2.2.2.1,r2.2.2.2.2.2.2.2.2.2.2.2.2.2.1,()))
 (cond (r2.1.1 != r1.1.1.1)
 (K ((ByteArray.empty,232,()),(r2.2.1.1,r2.2.1.2.1,r2.2.1.2.2.1,()),(),(x7,()),(x8,()),(x9,()),(r2.2.2.1.1,r2.2.2.1.2.1,r2.2.2.1.2.2.1,()),(),r2.2.2.2.2.1,r2.2.2.2.2.2.1,r2.2.2.2.2.2.2.1,r2.2.2.2.2.2.2.2.1,r2.2.2.2.2.2.2.2.2.1,r2.2.2.2.2.2.2.2.2.2.1,(),(r2.2.2.2.2.2.2.2.2.2.2.2.1.1,()),r2.2.2.2.2.2.2.2.2.2.2.2.2.1,(),r2.2.2.2.2.2.2.2.2.2.2.1,r2.2.2.2.2.2.2.2.2.2.2.2.2.2.1,()))
 ((F_k20 (IntKind.u64.wrap (r1.1.1.2.1 + 1),()) ((),(x7,()),(x8,()),(x9,()),(r2.2.1.1,r2.2.1.2.1,r2.2.1.2.2.1,()),(r2.2.2.1.1,r2.2.2.1.2.1,r2.2.2.1.2.2.1,()),(),r2.2.2.2.2.1,r2.2.2.2.2.2.1,r2.2.2.2.2.2.2.1,r2.2.2.2.2.2.2.2.1,r2.2.2.2.2.2.2.2.2.1,r2.2.2.2.2.2.2.2.2.2.1,r2.2.2.2.2.2.2.2.2.2.2.1,(r2.2.2.2.2.2.2.2.2.2.2.2.1.1,()),r2.2.2.2.2.2.2.2.2.2.2.2.2.1,r2.2.2.2.2.2.2.2.2.2.2.2.2.2.1,())).bind fun r3 =>
 (F_k44 (r3.1,IntKind.i64.wrap x1,x3,()) ((r3.2.2.2.2.2.2.1.1,r3.2.2.2.2.2.2.1.2.1,r3.2.2.2.2.2.2.1.2.2.1,()),r3.2.2.2.2.2.2.2.2.1,r3.2.2.2.2.2.2.2.2.2.1,r3.2.2.2.2.2.2.2.2.2.2.1,r3.2.2.2.2.2.2.2.2.2.2.2.1,r3.2.2.2.2.2.2.2.2.2.2.2.2.1,r3.2.2.2.2.2.2.2.2.2.2.2.2.2.1,r3.2.2.2.2.2.2.2.2.2.2.2.2.2.2.2.2.2.2.1,())).bind fun r4 =>
 (F_k69 (x1,r3.1,r4.1.1,()) ((),(r3.2.2.2.2.2.2.2.2.2.2.2.2.2.2.2.1.1,()),r3.2.2.2.2.2.2.2.2.2.2.2.2.2.2.2.2.1,r3.2.2.2.2.2.2.2.2.2.2.2.2.2.2.2.2.2.1,())).bind fun r5 =>
 cond (!r5.1)
 (K ((ByteArray.empty,235,()),(r3.2.2.2.2.2.1.1,r3.2.2.2.2.2.1.2.1,r3.2.2.2.2.2.1.2.2.1,()),(),(r3.2.2.1.1,()),(r3.2.2.2.1.1,()),(r3.2.2.2.2.1.1,()),(r4.2.1.1,r4.2.1.2.1,r4.2.1.2.2.1,()),(),r4.2.2.1,r4.2.2.2.1,r4.2.2.2.2.1,r4.2.2.2.2.2.1,r4.2.2.2.2.2.2.1,r4.2.2.2.2.2.2.2.1,(),(r5.2.2.1.1,()),r5.2.2.2.1,(),r4.2.2.2.2.2.2.2.2.1,r5.2.2.2.2.2.1,()))
 (K ((r3.1,0,()),(r3.2.2.2.2.2.1.1,r3.2.2.2.2.2.1.2.1,r3.2.2.2.2.2.1.2.2.1,()),(),(r3.2.2.1.1,()),(r3.2.2.2.1.1,()),(r3.2.2.2.2.1.1,()),(r4.2.1.1,r4.2.1.2.1,r4.2.1.2.2.1,()),(),r4.2.2.1,r4.2.2.2.1,r4.2.2.2.2.1,r4.2.2.2.2.2.1,r4.2.2.2.2.2.2.1,r4.2.2.2.2.2.2.2.1,(),(r5.2.2.1.1,()),r5.2.2.2.1,(),r4.2.2.2.2.2.2.2.2.1,r5.2.2.2.2.2.1,())))))
noncomputable def F_k22:A_k22→M_k22→Option O_k22:=fun a b=>tree_k22 F_k21 F_k24 F_k44 F_k69 F_k20 a.1 a.2.1.1 a.2.1.2.1 b.1.1 b.1.2.1 b.1.2.2.1 b.2.2.1.1 b.2.2.2.1.1 b.2.2.2.2.1.1 b.2.2.2.2.2.1.1 b.2.2.2.2.2.1.2.1 b.2.2.2.2.2.1.2.2.1 b.2.2.2.2.2.2.2.1 b.2.2.2.2.2.2.2.2.1 b.2.2.2.2.2.2.2.2.2.1 b.2.2.2.2.2.2.2.2.2.2.1 b.2.2.2.2.2.2.2.2.2.2.2.1 b.2.2.2.2.2.2.2.2.2.2.2.2.1 b.2.2.2.2.2.2.2.2.2.2.2.2.2.1 b.2.2.2.2.2.2.2.2.2.2.2.2.2.2.1.1 b.2.2.2.2.2.2.2.2.2.2.2.2.2.2.2.1 b.2.2.2.2.2.2.2.2.2.2.2.2.2.2.2.2.1 some
theorem n_k22 (F_k21:B_k21) (F_k24:B_k24) (F_k44:B_k44) (F_k69:B_k69) (F_k20:B_k20) (x1 x2 x3 x4 x5 x6 x7 x8 x9 x10 x11 x12 x13 x14 x15 x16 x17 x18 x19 x20 x21 x22) {α:Type} (K:O_k22→Option α):tree_k22 F_k21 F_k24 F_k44 F_k69 F_k20 x1 x2 x3 x4 x5 x6 x7 x8 x9 x10 x11 x12 x13 x14 x15 x16 x17 x18 x19 x20 x21 x22 K = (tree_k22 F_k21 F_k24 F_k44 F_k69 F_k20 x1 x2 x3 x4 x5 x6 x7 x8 x9 x10 x11 x12 x13 x14 x15 x16 x17 x18 x19 x20 x21 x22 some).bind K:=by simp only [tree_k22,bind_cond,bind_none',bind_some',bind_bind',bind_sum]
def args_k23:SkL:=(.cons (cP 0) (.cons lU (.cons (.agg (.cons lS (.cons lL .nil))) (.cons (.const (.fn 77 [])) .nil))))
def mem_k23:MSk:=[(0,.cells (.cons (cP 1) (.cons (cP 2) (.cons lU (.cons lU (.cons lI .nil)))))),(1,.cells (.cons lL (.cons lI (.cons lB (.cons (cM 3) (.cons (cM 4) (.cons (cM 5) (.cons (cM 6) (.cons (cM 7) (.cons (cM 8) (.cons (cW 9) .nil))))))))))),(2,.cells (.cons (cP 10) .nil)),(3,qa),(4,qa),(5,qb),(6,qc),(7,qd),(8,qe),(9,qf),(10,.cells (.cons lI (.cons (cW 11) (.cons (cW 12) .nil)))),(11,qf),(12,qg)]
def outs_k23:List OutC:=[⟨(.tup (.cons lS (.cons lI .nil))),[(0,.cells (.cons (cP 1) (.cons (cP 2) (.cons lU (.cons lU (.cons lI .nil)))))),(1,.cells (.cons lL (.cons lI (.cons lB (.cons (cM 3) (.cons (cM 4) (.cons (cM 5) (.cons (cM 6) (.cons (cM 7) (.cons (cM 8) (.cons (cW 13) .nil))))))))))),(2,.cells (.cons (cP 10) .nil)),(3,qa),(4,qa),(5,qb),(6,qc),(7,qd),(8,qe),(9,.gone),(10,.cells (.cons lI (.cons (cW 11) (.cons (cW 14) .nil)))),(11,qf),(12,.gone),(13,qf),(14,qg)]⟩]
abbrev A_k23:Type:=(Int×(ByteArray×List Int×Unit)×Unit)
abbrev M_k23:Type:=((Int×Int×Int×Unit)×Yd×Unit×Y1×Y1×Y2×Y3×Y4×Y5×Yb×(Int×Unit)×Yb×Y6×Unit)
abbrev O_k23:Type:=(ByteArray×Int×Unit)×((Int×Int×Int×Unit)×Yd×Unit×Y1×Y1×Y2×Y3×Y4×Y5×Unit×(Int×Unit)×Yb×Unit×Yb×Y6×Unit)
abbrev B_k23:=A_k23→M_k23→Option O_k23
def tree_k23 (F_k21:B_k21) (F_k24:B_k24) (F_k44:B_k44) (F_k69:B_k69) (F_k18:B_k18) {α:Type} (x1:Int) (x2:ByteArray) (x3:List Int) (x4:Int) (x5:Int) (x6:Int) (x7:List Int) (x8:Int) (x9:Bool) (x10:Y1) (x11:Y1) (x12:Y2) (x13:Y3) (x14:Y4) (x15:Y5) (x16:Yb) (x17:Int) (x18:Yb) (x19:Y6) (K:O_k23→Option α):Option α :=
 (F_k21 (x1,()) ((x4,x5,x6,()),(x7,x8,x9,()),(),x10,x11,x12,x13,x14,x15,x16,(x17,()),x18,x19,())).bind fun r1 =>
 cond (r1.1.2.1 != 0)
 (K ((ByteArray.empty,r1.1.2.1,()),(x4,x5,x6,()),(x7,x8,x9,()),(),x10,x11,x12,x13,x14,x15,(),(x17,()),x18,(),x16,x19,()))
 ((F_k24 (x1,(x2,x3,()),()) ((x4,x5,x6,()),(x7,x8,x9,()),(),x10,x11,x12,x13,x14,x15,x16,(x17,()),x18,x19,())).bind fun r2 =>
 cond (!r2.1.2.1)
 (K ((ByteArray.empty,232,()),(r2.2.1.1,r2.2.1.2.1,r2.2.1.2.2.1,()),(r2.2.2.1.1,r2.2.2.1.2.1,r2.2.2.1.2.2.1,()),(),r2.2.2.2.2.1,r2.2.2.2.2.2.1,r2.2.2.2.2.2.2.1,r2.2.2.2.2.2.2.2.1,r2.2.2.2.2.2.2.2.2.1,r2.2.2.2.2.2.2.2.2.2.1,(),(r2.2.2.2.2.2.2.2.2.2.2.2.1.1,()),r2.2.2.2.2.2.2.2.2.2.2.2.2.1,(),r2.2.2.2.2.2.2.2.2.2.2.1,r2.2.2.2.2.2.2.2.2.2.2.2.2.2.1,()))
 (cond (r2.1.1 != r1.1.1.1)
 (K ((ByteArray.empty,232,()),(r2.2.1.1,r2.2.1.2.1,r2.2.1.2.2.1,()),(r2.2.2.1.1,r2.2.2.1.2.1,r2.2.2.1.2.2.1,()),(),r2.2.2.2.2.1,r2.2.2.2.2.2.1,r2.2.2.2.2.2.2.1,r2.2.2.2.2.2.2.2.1,r2.2.2.2.2.2.2.2.2.1,r2.2.2.2.2.2.2.2.2.2.1,(),(r2.2.2.2.2.2.2.2.2.2.2.2.1.1,()),r2.2.2.2.2.2.2.2.2.2.2.2.2.1,(),r2.2.2.2.2.2.2.2.2.2.2.1,r2.2.2.2.2.2.2.2.2.2.2.2.2.2.1,()))
 ((F_k18 (IntKind.u64.wrap (r1.1.1.2.1 + 1),()) ()).bind fun r3 =>
 (F_k44 (r3.1,IntKind.i64.wrap x1,x3,()) ((r2.2.2.1.1,r2.2.2.1.2.1,r2.2.2.1.2.2.1,()),r2.2.2.2.2.1,r2.2.2.2.2.2.1,r2.2.2.2.2.2.2.1,r2.2.2.2.2.2.2.2.1,r2.2.2.2.2.2.2.2.2.1,r2.2.2.2.2.2.2.2.2.2.1,r2.2.2.2.2.2.2.2.2.2.2.1,())).bind fun r4 =>
 (F_k69 (x1,r3.1,r4.1.1,()) ((),(r2.2.2.2.2.2.2.2.2.2.2.2.1.1,()),r2.2.2.2.2.2.2.2.2.2.2.2.2.1,r2.2.2.2.2.2.2.2.2.2.2.2.2.2.1,())).bind fun r5 =>
 cond (!r5.1)
 (K ((ByteArray.empty,235,()),(r2.2.1.1,r2.2.1.2.1,r2.2.1.2.2.1,()),(r4.2.1.1,r4.2.1.2.1,r4.2.1.2.2.1,()),(),r4.2.2.1,r4.2.2.2.1,r4.2.2.2.2.1,r4.2.2.2.2.2.1,r4.2.2.2.2.2.2.1,r4.2.2.2.2.2.2.2.1,(),(r5.2.2.1.1,()),r5.2.2.2.1,(),r4.2.2.2.2.2.2.2.2.1,r5.2.2.2.2.2.1,()))
 (K ((r3.1,0,()),(r2.2.1.1,r2.2.1.2.1,r2.2.1.2.2.1,()),(r4.2.1.1,r4.2.1.2.1,r4.2.1.2.2.1,()),(),r4.2.2.1,r4.2.2.2.1,r4.2.2.2.2.1,r4.2.2.2.2.2.1,r4.2.2.2.2.2.2.1,r4.2.2.2.2.2.2.2.1,(),(r5.2.2.1.1,()),r5.2.2.2.1,(),r4.2.2.2.2.2.2.2.2.1,r5.2.2.2.2.2.1,())))))
noncomputable def F_k23:A_k23→M_k23→Option O_k23:=fun a b=>tree_k23 F_k21 F_k24 F_k44 F_k69 F_k18 a.1 a.2.1.1 a.2.1.2.1 b.1.1 b.1.2.1 b.1.2.2.1 b.2.1.1 b.2.1.2.1 b.2.1.2.2.1 b.2.2.2.1 b.2.2.2.2.1 b.2.2.2.2.2.1 b.2.2.2.2.2.2.1 b.2.2.2.2.2.2.2.1 b.2.2.2.2.2.2.2.2.1 b.2.2.2.2.2.2.2.2.2.1 b.2.2.2.2.2.2.2.2.2.2.1.1 b.2.2.2.2.2.2.2.2.2.2.2.1 b.2.2.2.2.2.2.2.2.2.2.2.2.1 some
theorem n_k23 (F_k21:B_k21) (F_k24:B_k24) (F_k44:B_k44) (F_k69:B_k69) (F_k18:B_k18) (x1 x2 x3 x4 x5 x6 x7 x8 x9 x10 x11 x12 x13 x14 x15 x16 x17 x18 x19) {α:Type} (K:O_k23→Option α):tree_k23 F_k21 F_k24 F_k44 F_k69 F_k18 x1 x2 x3 x4 x5 x6 x7 x8 x9 x10 x11 x12 x13 x14 x15 x16 x17 x18 x19 K = (tree_k23 F_k21 F_k24 F_k44 F_k69 F_k18 x1 x2 x3 x4 x5 x6 x7 x8 x9 x10 x11 x12 x13 x14 x15 x16 x17 x18 x19 some).bind K:=by simp only [tree_k23,bind_cond,bind_none',bind_some',bind_bind',bind_sum]
def args_k19:SkL:=(.cons (cP 0) (.cons lU (.cons lU (.cons lS (.cons (.agg (.cons lS (.cons lL .nil))) .nil)))))
def mem_k19:MSk:=[(0,.cells (.cons (cP 1) (.cons (cP 2) (.cons lU (.cons lU (.cons lI .nil)))))),(1,.cells (.cons lL (.cons lI (.cons lB (.cons (cM 3) (.cons (cM 4) (.cons (cM 5) (.cons (cM 6) (.cons (cM 7) (.cons (cM 8) (.cons (cW 9) .nil))))))))))),(2,.cells (.cons (cP 10) .nil)),(3,qa),(4,qa),(5,qb),(6,qc),(7,qd),(8,qe),(9,qf),(10,.cells (.cons lI (.cons (cW 11) (.cons (cW 12) .nil)))),(11,qf),(12,qg)]
def outs_k19:List OutC:=[⟨(.tup (.cons lS (.cons lI .nil))),[(0,.cells (.cons (cP 1) (.cons (cP 2) (.cons lU (.cons lU (.cons lI .nil)))))),(1,.cells (.cons lL (.cons lI (.cons lB (.cons (cM 3) (.cons (cM 4) (.cons (cM 5) (.cons (cM 6) (.cons (cM 7) (.cons (cM 8) (.cons (cW 13) .nil))))))))))),(2,.cells (.cons (cP 10) .nil)),(3,qa),(4,qa),(5,qb),(6,qc),(7,qd),(8,qe),(9,.gone),(10,.cells (.cons lI (.cons (cW 11) (.cons (cW 14) .nil)))),(11,qf),(12,.gone),(13,qf),(14,qg)]⟩]
abbrev A_k19:Type:=(Int×Int×ByteArray×(ByteArray×List Int×Unit)×Unit)
abbrev M_k19:Type:=((Int×Int×Int×Unit)×Yd×Unit×Y1×Y1×Y2×Y3×Y4×Y5×Yb×(Int×Unit)×Yb×Y6×Unit)
abbrev O_k19:Type:=(ByteArray×Int×Unit)×((Int×Int×Int×Unit)×Yd×Unit×Y1×Y1×Y2×Y3×Y4×Y5×Unit×(Int×Unit)×Yb×Unit×Yb×Y6×Unit)
abbrev B_k19:=A_k19→M_k19→Option O_k19
def tree_k19 (F_k21:B_k21) (F_k22:B_k22) {α:Type} (x1:Int) (x2:Int) (x3:ByteArray) (x4:ByteArray) (x5:List Int) (x6:Int) (x7:Int) (x8:Int) (x9:List Int) (x10:Int) (x11:Bool) (x12:Y1) (x13:Y1) (x14:Y2) (x15:Y3) (x16:Y4) (x17:Y5) (x18:Yb) (x19:Int) (x20:Yb) (x21:Y6) (K:O_k19→Option α):Option α :=
 (F_k21 (x1,()) ((x6,x7,x8,()),(x9,x10,x11,()),(),x12,x13,x14,x15,x16,x17,x18,(x19,()),x20,x21,())).bind fun r1 =>
 cond (r1.1.2.1 == 0)
 (cond (decide ((↑x3.size:Int) > 4096))
 (K ((ByteArray.empty,231,()),(x6,x7,x8,()),(x9,x10,x11,()),(),x12,x13,x14,x15,x16,x17,(),(x19,()),x20,(),x18,x21,()))
 ((F_k22 (x1,(x4,x5,()),(),()) ((x6,x7,x8,()),(),(x1,()),(x2,()),(x3,()),(x9,x10,x11,()),(),x12,x13,x14,x15,x16,x17,x18,(x19,()),x20,x21,())).bind fun r2 =>
 K ((r2.1.1,r2.1.2.1,()),(r2.2.1.1,r2.2.1.2.1,r2.2.1.2.2.1,()),(r2.2.2.2.2.2.2.1.1,r2.2.2.2.2.2.2.1.2.1,r2.2.2.2.2.2.2.1.2.2.1,()),(),r2.2.2.2.2.2.2.2.2.1,r2.2.2.2.2.2.2.2.2.2.1,r2.2.2.2.2.2.2.2.2.2.2.1,r2.2.2.2.2.2.2.2.2.2.2.2.1,r2.2.2.2.2.2.2.2.2.2.2.2.2.1,r2.2.2.2.2.2.2.2.2.2.2.2.2.2.1,(),(r2.2.2.2.2.2.2.2.2.2.2.2.2.2.2.2.1.1,()),r2.2.2.2.2.2.2.2.2.2.2.2.2.2.2.2.2.1,(),r2.2.2.2.2.2.2.2.2.2.2.2.2.2.2.2.2.2.2.1,r2.2.2.2.2.2.2.2.2.2.2.2.2.2.2.2.2.2.2.2.1,())))
 ((F_k22 (x1,(x4,x5,()),(),()) ((x6,x7,x8,()),(),(x1,()),(x2,()),(x3,()),(x9,x10,x11,()),(),x12,x13,x14,x15,x16,x17,x18,(x19,()),x20,x21,())).bind fun r3 =>
 K ((r3.1.1,r3.1.2.1,()),(r3.2.1.1,r3.2.1.2.1,r3.2.1.2.2.1,()),(r3.2.2.2.2.2.2.1.1,r3.2.2.2.2.2.2.1.2.1,r3.2.2.2.2.2.2.1.2.2.1,()),(),r3.2.2.2.2.2.2.2.2.1,r3.2.2.2.2.2.2.2.2.2.1,r3.2.2.2.2.2.2.2.2.2.2.1,r3.2.2.2.2.2.2.2.2.2.2.2.1,r3.2.2.2.2.2.2.2.2.2.2.2.2.1,r3.2.2.2.2.2.2.2.2.2.2.2.2.2.1,(),(r3.2.2.2.2.2.2.2.2.2.2.2.2.2.2.2.1.1,()),r3.2.2.2.2.2.2.2.2.2.2.2.2.2.2.2.2.1,(),r3.2.2.2.2.2.2.2.2.2.2.2.2.2.2.2.2.2.2.1,r3.2.2.2.2.2.2.2.2.2.2.2.2.2.2.2.2.2.2.2.1,()))
noncomputable def F_k19:A_k19→M_k19→Option O_k19:=fun a b=>tree_k19 F_k21 F_k22 a.1 a.2.1 a.2.2.1 a.2.2.2.1.1 a.2.2.2.1.2.1 b.1.1 b.1.2.1 b.1.2.2.1 b.2.1.1 b.2.1.2.1 b.2.1.2.2.1 b.2.2.2.1 b.2.2.2.2.1 b.2.2.2.2.2.1 b.2.2.2.2.2.2.1 b.2.2.2.2.2.2.2.1 b.2.2.2.2.2.2.2.2.1 b.2.2.2.2.2.2.2.2.2.1 b.2.2.2.2.2.2.2.2.2.2.1.1 b.2.2.2.2.2.2.2.2.2.2.2.1 b.2.2.2.2.2.2.2.2.2.2.2.2.1 some
theorem n_k19 (F_k21:B_k21) (F_k22:B_k22) (x1 x2 x3 x4 x5 x6 x7 x8 x9 x10 x11 x12 x13 x14 x15 x16 x17 x18 x19 x20 x21) {α:Type} (K:O_k19→Option α):tree_k19 F_k21 F_k22 x1 x2 x3 x4 x5 x6 x7 x8 x9 x10 x11 x12 x13 x14 x15 x16 x17 x18 x19 x20 x21 K = (tree_k19 F_k21 F_k22 x1 x2 x3 x4 x5 x6 x7 x8 x9 x10 x11 x12 x13 x14 x15 x16 x17 x18 x19 x20 x21 some).bind K:=by simp only [tree_k19,bind_cond,bind_none',bind_some',bind_bind',bind_sum]
def args_k17:SkL:=(.cons (cP 0) (.cons lU (.cons (.agg (.cons lS (.cons lL .nil))) .nil)))
def mem_k17:MSk:=[(0,.cells (.cons (cP 1) (.cons (cP 2) (.cons lU (.cons lU (.cons lI .nil)))))),(1,.cells (.cons lL (.cons lI (.cons lB (.cons (cM 3) (.cons (cM 4) (.cons (cM 5) (.cons (cM 6) (.cons (cM 7) (.cons (cM 8) (.cons (cW 9) .nil))))))))))),(2,.cells (.cons (cP 10) .nil)),(3,qa),(4,qa),(5,qb),(6,qc),(7,qd),(8,qe),(9,qf),(10,.cells (.cons lI (.cons (cW 11) (.cons (cW 12) .nil)))),(11,qf),(12,qg)]
def outs_k17:List OutC:=[⟨lI,[(0,.cells (.cons (cP 1) (.cons (cP 2) (.cons lU (.cons lU (.cons lI .nil)))))),(1,.cells (.cons lL (.cons lI (.cons lB (.cons (cM 3) (.cons (cM 4) (.cons (cM 5) (.cons (cM 6) (.cons (cM 7) (.cons (cM 8) (.cons (cW 13) .nil))))))))))),(2,.cells (.cons (cP 10) .nil)),(3,qa),(4,qa),(5,qb),(6,qc),(7,qd),(8,qe),(9,.gone),(10,.cells (.cons lI (.cons (cW 11) (.cons (cW 14) .nil)))),(11,qf),(12,.gone),(13,qf),(14,qg)]⟩]
abbrev A_k17:Type:=(Int×(ByteArray×List Int×Unit)×Unit)
abbrev M_k17:Type:=((Int×Int×Int×Unit)×Yd×Unit×Y1×Y1×Y2×Y3×Y4×Y5×Yb×(Int×Unit)×Yb×Y6×Unit)
abbrev O_k17:Type:=Int×((Int×Int×Int×Unit)×Yd×Unit×Y1×Y1×Y2×Y3×Y4×Y5×Unit×(Int×Unit)×Yb×Unit×Yb×Y6×Unit)
abbrev B_k17:=A_k17→M_k17→Option O_k17
def tree_k17 (F_k23:B_k23) {α:Type} (x1:Int) (x2:ByteArray) (x3:List Int) (x4:Int) (x5:Int) (x6:Int) (x7:List Int) (x8:Int) (x9:Bool) (x10:Y1) (x11:Y1) (x12:Y2) (x13:Y3) (x14:Y4) (x15:Y5) (x16:Yb) (x17:Int) (x18:Yb) (x19:Y6) (K:O_k17→Option α):Option α :=
 (F_k23 (x1,(x2,x3,()),()) ((x4,x5,x6,()),(x7,x8,x9,()),(),x10,x11,x12,x13,x14,x15,x16,(x17,()),x18,x19,())).bind fun r1 =>
 K (r1.1.2.1,(r1.2.1.1,r1.2.1.2.1,r1.2.1.2.2.1,()),(r1.2.2.1.1,r1.2.2.1.2.1,r1.2.2.1.2.2.1,()),(),r1.2.2.2.2.1,r1.2.2.2.2.2.1,r1.2.2.2.2.2.2.1,r1.2.2.2.2.2.2.2.1,r1.2.2.2.2.2.2.2.2.1,r1.2.2.2.2.2.2.2.2.2.1,(),(r1.2.2.2.2.2.2.2.2.2.2.2.1.1,()),r1.2.2.2.2.2.2.2.2.2.2.2.2.1,(),r1.2.2.2.2.2.2.2.2.2.2.2.2.2.2.1,r1.2.2.2.2.2.2.2.2.2.2.2.2.2.2.2.1,())
noncomputable def F_k17:A_k17→M_k17→Option O_k17:=fun a b=>tree_k17 F_k23 a.1 a.2.1.1 a.2.1.2.1 b.1.1 b.1.2.1 b.1.2.2.1 b.2.1.1 b.2.1.2.1 b.2.1.2.2.1 b.2.2.2.1 b.2.2.2.2.1 b.2.2.2.2.2.1 b.2.2.2.2.2.2.1 b.2.2.2.2.2.2.2.1 b.2.2.2.2.2.2.2.2.1 b.2.2.2.2.2.2.2.2.2.1 b.2.2.2.2.2.2.2.2.2.2.1.1 b.2.2.2.2.2.2.2.2.2.2.2.1 b.2.2.2.2.2.2.2.2.2.2.2.2.1 some
theorem n_k17 (F_k23:B_k23) (x1 x2 x3 x4 x5 x6 x7 x8 x9 x10 x11 x12 x13 x14 x15 x16 x17 x18 x19) {α:Type} (K:O_k17→Option α):tree_k17 F_k23 x1 x2 x3 x4 x5 x6 x7 x8 x9 x10 x11 x12 x13 x14 x15 x16 x17 x18 x19 K = (tree_k17 F_k23 x1 x2 x3 x4 x5 x6 x7 x8 x9 x10 x11 x12 x13 x14 x15 x16 x17 x18 x19 some).bind K:=by simp only [tree_k17,bind_cond,bind_none',bind_some',bind_bind',bind_sum]
def args_k14:SkL:=(.cons (cP 0) .nil)
def mem_k14:MSk:=[(0,.cells (.cons (cP 1) (.cons (cP 2) (.cons lU (.cons lU (.cons lI .nil)))))),(1,.cells (.cons lL (.cons lI (.cons lB (.cons (cM 3) (.cons (cM 4) (.cons (cM 5) (.cons (cM 6) (.cons (cM 7) (.cons (cM 8) (.cons (cW 9) .nil))))))))))),(2,.cells (.cons (cP 10) .nil)),(3,qa),(4,qa),(5,qb),(6,qc),(7,qd),(8,qe),(9,qf),(10,.cells (.cons lI (.cons (cW 11) (.cons (cW 12) .nil)))),(11,qf),(12,qg)]
def outs_k14:List OutC:=[⟨lB,[(0,.cells (.cons (cP 1) (.cons (cP 2) (.cons lU (.cons lU (.cons lI .nil)))))),(1,.cells (.cons lL (.cons lI (.cons lB (.cons (cM 3) (.cons (cM 4) (.cons (cM 5) (.cons (cM 6) (.cons (cM 7) (.cons (cM 8) (.cons (cW 9) .nil))))))))))),(2,.cells (.cons (cP 10) .nil)),(3,qa),(4,qa),(5,qb),(6,qc),(7,qd),(8,qe),(9,qf),(10,.cells (.cons lI (.cons (cW 11) (.cons (cW 13) .nil)))),(11,qf),(12,.gone),(13,qg)]⟩]
abbrev A_k14:Type:=Unit
abbrev M_k14:Type:=((Int×Int×Int×Unit)×Yd×Unit×Y1×Y1×Y2×Y3×Y4×Y5×Yb×(Int×Unit)×Yb×Y6×Unit)
abbrev O_k14:Type:=Bool×((Int×Int×Int×Unit)×Yd×Unit×Y1×Y1×Y2×Y3×Y4×Y5×Yb×(Int×Unit)×Yb×Unit×Y6×Unit)
abbrev B_k14:=A_k14→M_k14→Option O_k14
def tree_k14 (F_k43:B_k43) (F_k70:B_k70) {α:Type} (x1:Int) (x2:Int) (x3:Int) (x4:List Int) (x5:Int) (x6:Bool) (x7:Y1) (x8:Y1) (x9:Y2) (x10:Y3) (x11:Y4) (x12:Y5) (x13:Yb) (x14:Int) (x15:Yb) (x16:Y6) (K:O_k14→Option α):Option α :=
 (F_k43 (x3,[],()) ((x4,x5,x6,()),x7,x8,x9,x10,x11,x12,x13,())).bind fun r1 =>
 cond (r1.1.2.1)
 (cond (decide (0≤x3))
 (cond (decide (x3 < (↑r1.1.1.length:Int)))
 (cond (decide (0 < (↑(r1.1.1.getD x3.toNat []).length:Int)))
 ((F_k70 ((r1.1.1.getD x3.toNat []).getD 0 0,()) ((),(x14,()),x15,x16,())).bind fun r2 =>
 K (r2.1,(x1,x2,x3,()),(r1.2.1.1,r1.2.1.2.1,r1.2.1.2.2.1,()),(),r1.2.2.1,r1.2.2.2.1,r1.2.2.2.2.1,r1.2.2.2.2.2.1,r1.2.2.2.2.2.2.1,r1.2.2.2.2.2.2.2.1,r1.2.2.2.2.2.2.2.2.1,(r2.2.2.1.1,()),r2.2.2.2.1,(),r2.2.2.2.2.2.1,()))
 (none))
 (none))
 (none))
 (K (false,(x1,x2,x3,()),(r1.2.1.1,r1.2.1.2.1,r1.2.1.2.2.1,()),(),r1.2.2.1,r1.2.2.2.1,r1.2.2.2.2.1,r1.2.2.2.2.2.1,r1.2.2.2.2.2.2.1,r1.2.2.2.2.2.2.2.1,r1.2.2.2.2.2.2.2.2.1,(x14,()),x15,(),x16,()))
noncomputable def F_k14:A_k14→M_k14→Option O_k14:=fun a b=>tree_k14 F_k43 F_k70 b.1.1 b.1.2.1 b.1.2.2.1 b.2.1.1 b.2.1.2.1 b.2.1.2.2.1 b.2.2.2.1 b.2.2.2.2.1 b.2.2.2.2.2.1 b.2.2.2.2.2.2.1 b.2.2.2.2.2.2.2.1 b.2.2.2.2.2.2.2.2.1 b.2.2.2.2.2.2.2.2.2.1 b.2.2.2.2.2.2.2.2.2.2.1.1 b.2.2.2.2.2.2.2.2.2.2.2.1 b.2.2.2.2.2.2.2.2.2.2.2.2.1 some
theorem n_k14 (F_k43:B_k43) (F_k70:B_k70) (x1 x2 x3 x4 x5 x6 x7 x8 x9 x10 x11 x12 x13 x14 x15 x16) {α:Type} (K:O_k14→Option α):tree_k14 F_k43 F_k70 x1 x2 x3 x4 x5 x6 x7 x8 x9 x10 x11 x12 x13 x14 x15 x16 K = (tree_k14 F_k43 F_k70 x1 x2 x3 x4 x5 x6 x7 x8 x9 x10 x11 x12 x13 x14 x15 x16 some).bind K:=by simp only [tree_k14,bind_cond,bind_none',bind_some',bind_bind',bind_sum]
def args_k16:SkL:=(.cons (cP 0) (.cons (.agg (.cons lS (.cons lL .nil))) .nil))
def mem_k16:MSk:=[(0,.cells (.cons (cP 1) (.cons (cP 2) (.cons lU (.cons lU (.cons lI .nil)))))),(1,.cells (.cons lL (.cons lI (.cons lB (.cons (cM 3) (.cons (cM 4) (.cons (cM 5) (.cons (cM 6) (.cons (cM 7) (.cons (cM 8) (.cons (cW 9) .nil))))))))))),(2,.cells (.cons (cP 10) .nil)),(3,qa),(4,qa),(5,qb),(6,qc),(7,qd),(8,qe),(9,qf),(10,.cells (.cons lI (.cons (cW 11) (.cons (cW 12) .nil)))),(11,qf),(12,qg)]
def outs_k16:List OutC:=[⟨(.tup (.cons lB (.cons lI .nil))),[(0,.cells (.cons (cP 1) (.cons (cP 2) (.cons lU (.cons lU (.cons lI .nil)))))),(1,.cells (.cons lL (.cons lI (.cons lB (.cons (cM 3) (.cons (cM 4) (.cons (cM 5) (.cons (cM 6) (.cons (cM 7) (.cons (cM 8) (.cons (cW 9) .nil))))))))))),(2,.cells (.cons (cP 10) .nil)),(3,qa),(4,qa),(5,qb),(6,qc),(7,qd),(8,qe),(9,qf),(10,.cells (.cons lI (.cons (cW 11) (.cons (cW 13) .nil)))),(11,qf),(12,.gone),(13,qg)]⟩]
abbrev A_k16:Type:=((ByteArray×List Int×Unit)×Unit)
abbrev M_k16:Type:=((Int×Int×Int×Unit)×Yd×Unit×Y1×Y1×Y2×Y3×Y4×Y5×Yb×(Int×Unit)×Yb×Y6×Unit)
abbrev O_k16:Type:=(Bool×Int×Unit)×((Int×Int×Int×Unit)×Yd×Unit×Y1×Y1×Y2×Y3×Y4×Y5×Yb×(Int×Unit)×Yb×Unit×Y6×Unit)
abbrev B_k16:=A_k16→M_k16→Option O_k16
def tree_k16 (F_k25:B_k25) (F_k24:B_k24) (F_k26:B_k26) {α:Type} (x1:ByteArray) (x2:List Int) (x3:Int) (x4:Int) (x5:Int) (x6:List Int) (x7:Int) (x8:Bool) (x9:Y1) (x10:Y1) (x11:Y2) (x12:Y3) (x13:Y4) (x14:Y5) (x15:Yb) (x16:Int) (x17:Yb) (x18:Y6) (K:O_k16→Option α):Option α :=
 (F_k25 () ((x3,x4,x5,()),(x6,x7,x8,()),(),x9,x10,x11,x12,x13,x14,x15,(x16,()),x17,x18,())).bind fun r1 =>
 cond (r1.1.2.1 != 0)
 (K ((false,r1.1.2.1,()),(x3,x4,x5,()),(x6,x7,x8,()),(),x9,x10,x11,x12,x13,x14,x15,(x16,()),x17,(),x18,()))
 ((F_k24 (r1.1.1.2.2.2.1,(x1,x2,()),()) ((x3,x4,x5,()),(x6,x7,x8,()),(),x9,x10,x11,x12,x13,x14,x15,(x16,()),x17,x18,())).bind fun r2 =>
 cond (!r2.1.2.1)
 (K ((false,232,()),(r2.2.1.1,r2.2.1.2.1,r2.2.1.2.2.1,()),(r2.2.2.1.1,r2.2.2.1.2.1,r2.2.2.1.2.2.1,()),(),r2.2.2.2.2.1,r2.2.2.2.2.2.1,r2.2.2.2.2.2.2.1,r2.2.2.2.2.2.2.2.1,r2.2.2.2.2.2.2.2.2.1,r2.2.2.2.2.2.2.2.2.2.1,r2.2.2.2.2.2.2.2.2.2.2.1,(r2.2.2.2.2.2.2.2.2.2.2.2.1.1,()),r2.2.2.2.2.2.2.2.2.2.2.2.2.1,(),r2.2.2.2.2.2.2.2.2.2.2.2.2.2.1,()))
 (cond (r2.1.1 != r1.1.1.2.2.2.2.1)
 (cond (r2.1.1 != r1.1.1.1)
 (K ((false,232,()),(r2.2.1.1,r2.2.1.2.1,r2.2.1.2.2.1,()),(r2.2.2.1.1,r2.2.2.1.2.1,r2.2.2.1.2.2.1,()),(),r2.2.2.2.2.1,r2.2.2.2.2.2.1,r2.2.2.2.2.2.2.1,r2.2.2.2.2.2.2.2.1,r2.2.2.2.2.2.2.2.2.1,r2.2.2.2.2.2.2.2.2.2.1,r2.2.2.2.2.2.2.2.2.2.2.1,(r2.2.2.2.2.2.2.2.2.2.2.2.1.1,()),r2.2.2.2.2.2.2.2.2.2.2.2.2.1,(),r2.2.2.2.2.2.2.2.2.2.2.2.2.2.1,()))
 ((F_k26 (r2.1.1 == r1.1.1.2.2.2.2.1,()) ((r2.2.1.1,r2.2.1.2.1,r2.2.1.2.2.1,()),(r2.2.2.1.1,r2.2.2.1.2.1,r2.2.2.1.2.2.1,()),(),r2.2.2.2.2.1,r2.2.2.2.2.2.1,r2.2.2.2.2.2.2.1,r2.2.2.2.2.2.2.2.1,r2.2.2.2.2.2.2.2.2.1,r2.2.2.2.2.2.2.2.2.2.1,r2.2.2.2.2.2.2.2.2.2.2.1,(r2.2.2.2.2.2.2.2.2.2.2.2.1.1,()),r2.2.2.2.2.2.2.2.2.2.2.2.2.1,r2.2.2.2.2.2.2.2.2.2.2.2.2.2.1,())).bind fun r3 =>
 cond (r3.1 != 0)
 (K ((false,r3.1,()),(r3.2.1.1,r3.2.1.2.1,r3.2.1.2.2.1,()),(r3.2.2.1.1,r3.2.2.1.2.1,r3.2.2.1.2.2.1,()),(),r3.2.2.2.2.1,r3.2.2.2.2.2.1,r3.2.2.2.2.2.2.1,r3.2.2.2.2.2.2.2.1,r3.2.2.2.2.2.2.2.2.1,r3.2.2.2.2.2.2.2.2.2.1,r3.2.2.2.2.2.2.2.2.2.2.1,(r3.2.2.2.2.2.2.2.2.2.2.2.1.1,()),r3.2.2.2.2.2.2.2.2.2.2.2.2.1,(),r3.2.2.2.2.2.2.2.2.2.2.2.2.2.2.1,()))
 (K ((r2.1.1 == r1.1.1.2.2.2.2.1,0,()),(r3.2.1.1,r3.2.1.2.1,r3.2.1.2.2.1,()),(r3.2.2.1.1,r3.2.2.1.2.1,r3.2.2.1.2.2.1,()),(),r3.2.2.2.2.1,r3.2.2.2.2.2.1,r3.2.2.2.2.2.2.1,r3.2.2.2.2.2.2.2.1,r3.2.2.2.2.2.2.2.2.1,r3.2.2.2.2.2.2.2.2.2.1,r3.2.2.2.2.2.2.2.2.2.2.1,(r3.2.2.2.2.2.2.2.2.2.2.2.1.1,()),r3.2.2.2.2.2.2.2.2.2.2.2.2.1,(),r3.2.2.2.2.2.2.2.2.2.2.2.2.2.2.1,()))))
 ((F_k26 (r2.1.1 == r1.1.1.2.2.2.2.1,()) ((r2.2.1.1,r2.2.1.2.1,r2.2.1.2.2.1,()),(r2.2.2.1.1,r2.2.2.1.2.1,r2.2.2.1.2.2.1,()),(),r2.2.2.2.2.1,r2.2.2.2.2.2.1,r2.2.2.2.2.2.2.1,r2.2.2.2.2.2.2.2.1,r2.2.2.2.2.2.2.2.2.1,r2.2.2.2.2.2.2.2.2.2.1,r2.2.2.2.2.2.2.2.2.2.2.1,(r2.2.2.2.2.2.2.2.2.2.2.2.1.1,()),r2.2.2.2.2.2.2.2.2.2.2.2.2.1,r2.2.2.2.2.2.2.2.2.2.2.2.2.2.1,())).bind fun r4 =>
 cond (r4.1 != 0)
 (K ((false,r4.1,()),(r4.2.1.1,r4.2.1.2.1,r4.2.1.2.2.1,()),(r4.2.2.1.1,r4.2.2.1.2.1,r4.2.2.1.2.2.1,()),(),r4.2.2.2.2.1,r4.2.2.2.2.2.1,r4.2.2.2.2.2.2.1,r4.2.2.2.2.2.2.2.1,r4.2.2.2.2.2.2.2.2.1,r4.2.2.2.2.2.2.2.2.2.1,r4.2.2.2.2.2.2.2.2.2.2.1,(r4.2.2.2.2.2.2.2.2.2.2.2.1.1,()),r4.2.2.2.2.2.2.2.2.2.2.2.2.1,(),r4.2.2.2.2.2.2.2.2.2.2.2.2.2.2.1,()))
 (K ((r2.1.1 == r1.1.1.2.2.2.2.1,0,()),(r4.2.1.1,r4.2.1.2.1,r4.2.1.2.2.1,()),(r4.2.2.1.1,r4.2.2.1.2.1,r4.2.2.1.2.2.1,()),(),r4.2.2.2.2.1,r4.2.2.2.2.2.1,r4.2.2.2.2.2.2.1,r4.2.2.2.2.2.2.2.1,r4.2.2.2.2.2.2.2.2.1,r4.2.2.2.2.2.2.2.2.2.1,r4.2.2.2.2.2.2.2.2.2.2.1,(r4.2.2.2.2.2.2.2.2.2.2.2.1.1,()),r4.2.2.2.2.2.2.2.2.2.2.2.2.1,(),r4.2.2.2.2.2.2.2.2.2.2.2.2.2.2.1,())))))
noncomputable def F_k16:A_k16→M_k16→Option O_k16:=fun a b=>tree_k16 F_k25 F_k24 F_k26 a.1.1 a.1.2.1 b.1.1 b.1.2.1 b.1.2.2.1 b.2.1.1 b.2.1.2.1 b.2.1.2.2.1 b.2.2.2.1 b.2.2.2.2.1 b.2.2.2.2.2.1 b.2.2.2.2.2.2.1 b.2.2.2.2.2.2.2.1 b.2.2.2.2.2.2.2.2.1 b.2.2.2.2.2.2.2.2.2.1 b.2.2.2.2.2.2.2.2.2.2.1.1 b.2.2.2.2.2.2.2.2.2.2.2.1 b.2.2.2.2.2.2.2.2.2.2.2.2.1 some
theorem n_k16 (F_k25:B_k25) (F_k24:B_k24) (F_k26:B_k26) (x1 x2 x3 x4 x5 x6 x7 x8 x9 x10 x11 x12 x13 x14 x15 x16 x17 x18) {α:Type} (K:O_k16→Option α):tree_k16 F_k25 F_k24 F_k26 x1 x2 x3 x4 x5 x6 x7 x8 x9 x10 x11 x12 x13 x14 x15 x16 x17 x18 K = (tree_k16 F_k25 F_k24 F_k26 x1 x2 x3 x4 x5 x6 x7 x8 x9 x10 x11 x12 x13 x14 x15 x16 x17 x18 some).bind K:=by simp only [tree_k16,bind_cond,bind_none',bind_some',bind_bind',bind_sum]
end Go.Proofs.Ytljfdfghagiblaa.S2
