/- Plain forms of the program's functions,by program. -/
import Derived.Test.YtljfdfghagiblaaGgate
set_option maxRecDepth 100000
set_option maxHeartbeats 0
set_option linter.unusedVariables false
set_option linter.unusedSimpArgs false
namespace Go.Proofs.Ytljfdfghagiblaa.S2
open Go
def args_k35:SkL:=(.cons (cP 0) (.cons lI .nil))
def mem_k35:MSk:=[(0,.cells (.cons lL (.cons lI (.cons lB (.cons (cM 1) (.cons (cM 2) (.cons (cM 3) (.cons (cM 4) (.cons (cM 5) (.cons (cM 6) (.cons (cW 7) .nil))))))))))),(1,qa),(2,qa),(3,qb),(4,qc),(5,qd),(6,qe),(7,qf)]
def outs_k35:List OutC:=[⟨(.tup (.cons (cP 8) (.cons (cP 9) (.cons (cP 10) (.cons lB .nil))))),[(0,.cells (.cons lL (.cons lI (.cons lB (.cons (cM 1) (.cons (cM 2) (.cons (cM 3) (.cons (cM 4) (.cons (cM 5) (.cons (cM 6) (.cons (cW 7) .nil))))))))))),(1,qa),(2,qa),(3,qb),(4,qc),(5,qd),(6,qe),(7,qf),(8,.cells (.cons (cP 0) (.cons (cP 9) (.cons lU (.cons lU (.cons lI .nil)))))),(9,.cells (.cons (cP 10) .nil)),(10,.cells (.cons lI (.cons (cW 11) (.cons (cW 12) .nil)))),(11,qf),(12,qg)]⟩,⟨(.tup (.cons (.const .nilp) (.cons (.const .nilp) (.cons (.const .nilp) (.cons (.const (.bool Bool.false)) .nil))))),[(0,.cells (.cons lL (.cons lI (.cons lB (.cons (cM 1) (.cons (cM 2) (.cons (cM 3) (.cons (cM 4) (.cons (cM 5) (.cons (cM 6) (.cons (cW 7) .nil))))))))))),(1,qa),(2,qa),(3,qb),(4,qc),(5,qd),(6,qe),(7,qf)]⟩]
abbrev A_k35:Type:=(Int×Unit)
abbrev M_k35:Type:=(Yd×Y1×Y1×Y2×Y3×Y4×Y5×Yb×Unit)
abbrev O_k35:Type:=((Bool×Unit)×(Yd×Y1×Y1×Y2×Y3×Y4×Y5×Yb×(Int×Int×Int×Unit)×Unit×(Int×Unit)×Yb×Y6×Unit)) ⊕ (Unit×(Yd×Y1×Y1×Y2×Y3×Y4×Y5×Yb×Unit))
abbrev B_k35:=A_k35→M_k35→Option O_k35
def tree_k35 (F_k11:B_k11) (F_k62:B_k62) (F_k25:B_k25) (F_k13:B_k13) {α:Type} (x1:Int) (x2:List Int) (x3:Int) (x4:Bool) (x5:Y1) (x6:Y1) (x7:Y2) (x8:Y3) (x9:Y4) (x10:Y5) (x11:Yb) (K:O_k35→Option α):Option α :=
 (F_k11 (2,256,()) ()).bind fun r1 =>
 Sum.elim (fun u2 =>
 K (.inr ((),(x2,x3,x4,()),x5,x6,x7,x8,x9,x10,x11,())))
 (fun u2 =>
 (F_k62 () ((u2.2.1.1,()),u2.2.2.1,u2.2.2.2.1,())).bind fun r3 =>
 Sum.elim (fun u4 =>
 K (.inr ((),(x2,x3,x4,()),x5,x6,x7,x8,x9,x10,x11,())))
 (fun u4 =>
 (F_k25 (3,5,x1,()) ((x2,x3,x4,()),(),x5,x6,x7,x8,x9,x10,x11,(u4.2.1.1,()),u4.2.2.1,u4.2.2.2.1,())).bind fun r5 =>
 Sum.elim (fun u6 =>
 K (.inr ((),(u6.2.1.1,u6.2.1.2.1,u6.2.1.2.2.1,()),u6.2.2.2.1,u6.2.2.2.2.1,u6.2.2.2.2.2.1,u6.2.2.2.2.2.2.1,u6.2.2.2.2.2.2.2.1,u6.2.2.2.2.2.2.2.2.1,u6.2.2.2.2.2.2.2.2.2.1,())))
 (fun u6 =>
 (F_k13 () ((u6.2.2.2.2.2.2.2.2.2.2.2.2.2.1.1,u6.2.2.2.2.2.2.2.2.2.2.2.2.2.1.2.1,u6.2.2.2.2.2.2.2.2.2.2.2.2.2.1.2.2.1,()),(u6.2.1.1,u6.2.1.2.1,u6.2.1.2.2.1,()),(),u6.2.2.2.1,u6.2.2.2.2.1,u6.2.2.2.2.2.1,u6.2.2.2.2.2.2.1,u6.2.2.2.2.2.2.2.1,u6.2.2.2.2.2.2.2.2.1,u6.2.2.2.2.2.2.2.2.2.1,(u6.2.2.2.2.2.2.2.2.2.2.1.1,()),u6.2.2.2.2.2.2.2.2.2.2.2.1,u6.2.2.2.2.2.2.2.2.2.2.2.2.1,())).bind fun r7 =>
 K (.inl ((r7.1,()),(r7.2.2.1.1,r7.2.2.1.2.1,r7.2.2.1.2.2.1,()),r7.2.2.2.2.1,r7.2.2.2.2.2.1,r7.2.2.2.2.2.2.1,r7.2.2.2.2.2.2.2.1,r7.2.2.2.2.2.2.2.2.1,r7.2.2.2.2.2.2.2.2.2.1,r7.2.2.2.2.2.2.2.2.2.2.1,(r7.2.1.1,r7.2.1.2.1,r7.2.1.2.2.1,()),(),(r7.2.2.2.2.2.2.2.2.2.2.2.1.1,()),r7.2.2.2.2.2.2.2.2.2.2.2.2.1,r7.2.2.2.2.2.2.2.2.2.2.2.2.2.2.1,()))) (r5)) (r3)) (r1)
noncomputable def F_k35:A_k35→M_k35→Option O_k35:=fun a b=>tree_k35 F_k11 F_k62 F_k25 F_k13 a.1 b.1.1 b.1.2.1 b.1.2.2.1 b.2.1 b.2.2.1 b.2.2.2.1 b.2.2.2.2.1 b.2.2.2.2.2.1 b.2.2.2.2.2.2.1 b.2.2.2.2.2.2.2.1 some
theorem n_k35 (F_k11:B_k11) (F_k62:B_k62) (F_k25:B_k25) (F_k13:B_k13) (x1 x2 x3 x4 x5 x6 x7 x8 x9 x10 x11) {α:Type} (K:O_k35→Option α):tree_k35 F_k11 F_k62 F_k25 F_k13 x1 x2 x3 x4 x5 x6 x7 x8 x9 x10 x11 K = (tree_k35 F_k11 F_k62 F_k25 F_k13 x1 x2 x3 x4 x5 x6 x7 x8 x9 x10 x11 some).bind K:=by simp only [tree_k35,bind_cond,bind_none',bind_some',bind_bind',bind_sum]
def args_k34:SkL:=.nil
def mem_k34:MSk:=[]
def outs_k34:List OutC:=[⟨lB,[]⟩]
abbrev A_k34:Type:=Unit
abbrev M_k34:Type:=Unit
abbrev O_k34:Type:=Bool×Unit
abbrev B_k34:=A_k34→M_k34→Option O_k34
def tree_k34 (F_k26:B_k26) (F_k35:B_k35) (F_k38:B_k38) (F_k42:B_k42) (F_k14:B_k14) (F_k17:B_k17) (F_k12:B_k12) {α:Type} (K:O_k34→Option α):Option α :=
 (F_k26 ([],()) ()).bind fun r1 =>
 (F_k35 (1,()) ((r1.2.1.1,r1.2.1.2.1,r1.2.1.2.2.1,()),r1.2.2.1,r1.2.2.2.1,r1.2.2.2.2.1,r1.2.2.2.2.2.1,r1.2.2.2.2.2.2.1,r1.2.2.2.2.2.2.2.1,r1.2.2.2.2.2.2.2.2.1,())).bind fun r2 =>
 Sum.elim (fun u3 =>
 cond (!u3.1.1)
 (K (false,()))
 ((F_k38 (1,[],()) ((u3.2.1.1,u3.2.1.2.1,u3.2.1.2.2.1,()),u3.2.2.1,u3.2.2.2.1,u3.2.2.2.2.1,u3.2.2.2.2.2.1,u3.2.2.2.2.2.2.1,u3.2.2.2.2.2.2.2.1,u3.2.2.2.2.2.2.2.2.1,())).bind fun r4 =>
 (F_k42 (r4.1.1,0,()) ()).bind fun r5 =>
 (F_k14 (0,(ByteArray.empty,r5.1.1,()),()) ((u3.2.2.2.2.2.2.2.2.2.1.1,u3.2.2.2.2.2.2.2.2.2.1.2.1,u3.2.2.2.2.2.2.2.2.2.1.2.2.1,()),(r4.2.1.1,r4.2.1.2.1,r4.2.1.2.2.1,()),(),r4.2.2.1,r4.2.2.2.1,r4.2.2.2.2.1,r4.2.2.2.2.2.1,r4.2.2.2.2.2.2.1,r4.2.2.2.2.2.2.2.1,r4.2.2.2.2.2.2.2.2.1,(u3.2.2.2.2.2.2.2.2.2.2.2.1.1,()),u3.2.2.2.2.2.2.2.2.2.2.2.2.1,u3.2.2.2.2.2.2.2.2.2.2.2.2.2.1,())).bind fun r6 =>
 (F_k14 (0,(ByteArray.empty,[] ++ [1],()),()) ((r6.2.1.1,r6.2.1.2.1,r6.2.1.2.2.1,()),(r6.2.2.1.1,r6.2.2.1.2.1,r6.2.2.1.2.2.1,()),(),r6.2.2.2.2.1,r6.2.2.2.2.2.1,r6.2.2.2.2.2.2.1,r6.2.2.2.2.2.2.2.1,r6.2.2.2.2.2.2.2.2.1,r6.2.2.2.2.2.2.2.2.2.1,r6.2.2.2.2.2.2.2.2.2.2.1,(r6.2.2.2.2.2.2.2.2.2.2.2.1.1,()),r6.2.2.2.2.2.2.2.2.2.2.2.2.1,r6.2.2.2.2.2.2.2.2.2.2.2.2.2.1,())).bind fun r7 =>
 (F_k14 (2,(ByteArray.empty,r5.1.1,()),()) ((r7.2.1.1,r7.2.1.2.1,r7.2.1.2.2.1,()),(r7.2.2.1.1,r7.2.2.1.2.1,r7.2.2.1.2.2.1,()),(),r7.2.2.2.2.1,r7.2.2.2.2.2.1,r7.2.2.2.2.2.2.1,r7.2.2.2.2.2.2.2.1,r7.2.2.2.2.2.2.2.2.1,r7.2.2.2.2.2.2.2.2.2.1,r7.2.2.2.2.2.2.2.2.2.2.1,(r7.2.2.2.2.2.2.2.2.2.2.2.1.1,()),r7.2.2.2.2.2.2.2.2.2.2.2.2.1,r7.2.2.2.2.2.2.2.2.2.2.2.2.2.1,())).bind fun r8 =>
 (F_k17 (0,0,(ByteArray.mk #[104,105]),(ByteArray.empty,r5.1.1,()),()) ((r8.2.1.1,r8.2.1.2.1,r8.2.1.2.2.1,()),(r8.2.2.1.1,r8.2.2.1.2.1,r8.2.2.1.2.2.1,()),(),r8.2.2.2.2.1,r8.2.2.2.2.2.1,r8.2.2.2.2.2.2.1,r8.2.2.2.2.2.2.2.1,r8.2.2.2.2.2.2.2.2.1,r8.2.2.2.2.2.2.2.2.2.1,r8.2.2.2.2.2.2.2.2.2.2.1,(r8.2.2.2.2.2.2.2.2.2.2.2.1.1,()),r8.2.2.2.2.2.2.2.2.2.2.2.2.1,r8.2.2.2.2.2.2.2.2.2.2.2.2.2.1,())).bind fun r9 =>
 (F_k14 (0,(ByteArray.empty,r5.1.1,()),()) ((r9.2.1.1,r9.2.1.2.1,r9.2.1.2.2.1,()),(r9.2.2.1.1,r9.2.2.1.2.1,r9.2.2.1.2.2.1,()),(),r9.2.2.2.2.1,r9.2.2.2.2.2.1,r9.2.2.2.2.2.2.1,r9.2.2.2.2.2.2.2.1,r9.2.2.2.2.2.2.2.2.1,r9.2.2.2.2.2.2.2.2.2.1,r9.2.2.2.2.2.2.2.2.2.2.2.2.2.2.1,(r9.2.2.2.2.2.2.2.2.2.2.2.1.1,()),r9.2.2.2.2.2.2.2.2.2.2.2.2.1,r9.2.2.2.2.2.2.2.2.2.2.2.2.2.2.2.1,())).bind fun r10 =>
 (F_k12 () ((r10.2.1.1,r10.2.1.2.1,r10.2.1.2.2.1,()),(r10.2.2.1.1,r10.2.2.1.2.1,r10.2.2.1.2.2.1,()),(),r10.2.2.2.2.1,r10.2.2.2.2.2.1,r10.2.2.2.2.2.2.1,r10.2.2.2.2.2.2.2.1,r10.2.2.2.2.2.2.2.2.1,r10.2.2.2.2.2.2.2.2.2.1,r10.2.2.2.2.2.2.2.2.2.2.1,(r10.2.2.2.2.2.2.2.2.2.2.2.1.1,()),r10.2.2.2.2.2.2.2.2.2.2.2.2.1,r10.2.2.2.2.2.2.2.2.2.2.2.2.2.1,())).bind fun r11 =>
 (F_k14 (0,(r9.1.1,r5.1.1,()),()) ((r11.2.1.1,r11.2.1.2.1,r11.2.1.2.2.1,()),(r11.2.2.1.1,r11.2.2.1.2.1,r11.2.2.1.2.2.1,()),(),r11.2.2.2.2.1,r11.2.2.2.2.2.1,r11.2.2.2.2.2.2.1,r11.2.2.2.2.2.2.2.1,r11.2.2.2.2.2.2.2.2.1,r11.2.2.2.2.2.2.2.2.2.1,r11.2.2.2.2.2.2.2.2.2.2.1,(r11.2.2.2.2.2.2.2.2.2.2.2.1.1,()),r11.2.2.2.2.2.2.2.2.2.2.2.2.1,r11.2.2.2.2.2.2.2.2.2.2.2.2.2.2.1,())).bind fun r12 =>
 cond (r5.1.2.1)
 (cond (r6.1.1.toList == ByteArray.empty.toList)
 (cond (r6.1.2.1 == 0)
 (cond (r7.1.2.1 == 232)
 (cond (r8.1.2.1 == 230)
 (cond (r9.1.2.1 == 0)
 (cond (r10.1.2.1 == 234)
 (cond (r11.1 == 0)
 (cond (r12.1.1.toList == (ByteArray.mk #[104,105]).toList)
 (K (r12.1.2.1 == 0,()))
 (K (false,())))
 (K (false,())))
 (K (false,())))
 (K (false,())))
 (K (false,())))
 (K (false,())))
 (K (false,())))
 (K (false,())))
 (K (false,()))))
 (fun u3 =>
 K (false,())) (r2)
noncomputable def F_k34:A_k34→M_k34→Option O_k34:=fun a b=>tree_k34 F_k26 F_k35 F_k38 F_k42 F_k14 F_k17 F_k12 some
theorem n_k34 (F_k26:B_k26) (F_k35:B_k35) (F_k38:B_k38) (F_k42:B_k42) (F_k14:B_k14) (F_k17:B_k17) (F_k12:B_k12) {α:Type} (K:O_k34→Option α):tree_k34 F_k26 F_k35 F_k38 F_k42 F_k14 F_k17 F_k12 K = (tree_k34 F_k26 F_k35 F_k38 F_k42 F_k14 F_k17 F_k12 some).bind K:=by simp only [tree_k34,bind_cond,bind_none',bind_some',bind_bind',bind_sum]
def args_k37:SkL:=(.cons (cP 0) (.cons (cP 1) (.cons (.agg (.cons lI (.cons lI (.cons lI (.cons lU (.cons lU (.cons lS (.cons lS (.cons lL (.cons (.leaf (.slc 3 (.cons (.int .i64) .nil))) .nil)))))))))) .nil)))
def mem_k37:MSk:=[(0,.cells (.cons lI (.cons (.leaf (.slc 9 (.cons .str .nil))) (.cons (cW 2) .nil)))),(1,.cells (.cons lL (.cons lI (.cons lB (.cons (cM 3) (.cons (cM 4) (.cons (cM 5) (.cons (cM 6) (.cons (cM 7) (.cons (cM 8) (.cons (cW 9) .nil))))))))))),(2,.row 23 (.cons (.slc 9 (.cons .str .nil)) .nil)),(3,qa),(4,qa),(5,qb),(6,qc),(7,qd),(8,qe),(9,qf)]
def outs_k37:List OutC:=[⟨(.agg (.cons lS (.cons lL .nil))),[(0,.cells (.cons lI (.cons (.leaf (.slc 9 (.cons .str .nil))) (.cons (cW 2) .nil)))),(1,.cells (.cons lL (.cons lI (.cons lB (.cons (cM 3) (.cons (cM 4) (.cons (cM 5) (.cons (cM 6) (.cons (cM 7) (.cons (cM 8) (.cons (cW 10) .nil))))))))))),(2,.row 23 (.cons (.slc 9 (.cons .str .nil)) .nil)),(3,qa),(4,qa),(5,qb),(6,qc),(7,qd),(8,qe),(9,.gone),(10,qf)]⟩]
abbrev A_k37:Type:=((Int×Int×Int×Int×Int×ByteArray×ByteArray×List Int×List Int×Unit)×Unit)
abbrev M_k37:Type:=((Int×Yb×Unit)×Yd×Yl×Y1×Y1×Y2×Y3×Y4×Y5×Yb×Unit)
abbrev O_k37:Type:=(ByteArray×List Int×Unit)×((Int×Yb×Unit)×Yd×Yl×Y1×Y1×Y2×Y3×Y4×Y5×Unit×Yb×Unit)
abbrev B_k37:=A_k37→M_k37→Option O_k37
def tree_k37 (F_k38:B_k38) (F_k42:B_k42) {α:Type} (x1:Int) (x2:Int) (x3:Int) (x4:Int) (x5:Int) (x6:ByteArray) (x7:ByteArray) (x8:List Int) (x9:List Int) (x10:Int) (x11:Yb) (x12:List Int) (x13:Int) (x14:Bool) (x15:Yl) (x16:Y1) (x17:Y1) (x18:Y2) (x19:Y3) (x20:Y4) (x21:Y5) (x22:Yb) (K:O_k37→Option α):Option α :=
 cond (decide (x2 < 0))
 (K ((x7,x8,()),(x10,x11,()),(x12,x13,x14,()),x15,x16,x17,x18,x19,x20,x21,(),x22,()))
 (cond (decide (x2 > 2))
 (K ((x7,x8,()),(x10,x11,()),(x12,x13,x14,()),x15,x16,x17,x18,x19,x20,x21,(),x22,()))
 (cond (x2 == 1)
 (cond (decide ((↑x15.length:Int) > 0))
 (cond (!decide ((↑x15.length:Int) = 0))
 (cond (!decide ((↑x15.length:Int) = 0))
 (cond (decide (0≤(IntKind.i64.wrap (x3.tmod (↑x15.length:Int) + (↑x15.length:Int))).tmod (↑x15.length:Int)))
 (cond (decide ((IntKind.i64.wrap (x3.tmod (↑x15.length:Int) + (↑x15.length:Int))).tmod (↑x15.length:Int) < (↑x15.length:Int)))
 (cond (!decide (IntKind.u64.wrap (↑(x15.getD (0 + ((IntKind.i64.wrap (x3.tmod (↑x15.length:Int) + (↑x15.length:Int))).tmod (↑x15.length:Int)).toNat) []).length:Int) = 0))
 (cond (x2 == 2)
 (cond (!decide ((↑(x15.getD (0 + ((IntKind.i64.wrap (x3.tmod (↑x15.length:Int) + (↑x15.length:Int))).tmod (↑x15.length:Int)).toNat) []).length:Int) = 0))
 ((F_k38 (x10,x15.getD (0 + ((IntKind.i64.wrap (x3.tmod (↑x15.length:Int) + (↑x15.length:Int))).tmod (↑x15.length:Int)).toNat) [],()) ((x12,x13,x14,()),x16,x17,x18,x19,x20,x21,x22,())).bind fun r1 =>
 cond (!r1.1.2.1)
 (K ((x7,x8,()),(x10,x11,()),(r1.2.1.1,r1.2.1.2.1,r1.2.1.2.2.1,()),x15,r1.2.2.1,r1.2.2.2.1,r1.2.2.2.2.1,r1.2.2.2.2.2.1,r1.2.2.2.2.2.2.1,r1.2.2.2.2.2.2.2.1,(),r1.2.2.2.2.2.2.2.2.1,()))
 ((F_k42 (r1.1.1,(IntKind.i64.wrap (IntKind.i64.wrap (x4.tmod (IntKind.u64.wrap (↑(x15.getD (0 + ((IntKind.i64.wrap (x3.tmod (↑x15.length:Int) + (↑x15.length:Int))).tmod (↑x15.length:Int)).toNat) []).length:Int))) + 1)).tmod (↑(x15.getD (0 + ((IntKind.i64.wrap (x3.tmod (↑x15.length:Int) + (↑x15.length:Int))).tmod (↑x15.length:Int)).toNat) []).length:Int),()) ()).bind fun r2 =>
 cond (decide (0≤(IntKind.i64.wrap (IntKind.i64.wrap (x4.tmod (IntKind.u64.wrap (↑(x15.getD (0 + ((IntKind.i64.wrap (x3.tmod (↑x15.length:Int) + (↑x15.length:Int))).tmod (↑x15.length:Int)).toNat) []).length:Int))) + 1)).tmod (↑(x15.getD (0 + ((IntKind.i64.wrap (x3.tmod (↑x15.length:Int) + (↑x15.length:Int))).tmod (↑x15.length:Int)).toNat) []).length:Int)))
 (cond (decide ((IntKind.i64.wrap (IntKind.i64.wrap (x4.tmod (IntKind.u64.wrap (↑(x15.getD (0 + ((IntKind.i64.wrap (x3.tmod (↑x15.length:Int) + (↑x15.length:Int))).tmod (↑x15.length:Int)).toNat) []).length:Int))) + 1)).tmod (↑(x15.getD (0 + ((IntKind.i64.wrap (x3.tmod (↑x15.length:Int) + (↑x15.length:Int))).tmod (↑x15.length:Int)).toNat) []).length:Int) < (↑(x15.getD (0 + ((IntKind.i64.wrap (x3.tmod (↑x15.length:Int) + (↑x15.length:Int))).tmod (↑x15.length:Int)).toNat) []).length:Int)))
 (K (((x15.getD (0 + ((IntKind.i64.wrap (x3.tmod (↑x15.length:Int) + (↑x15.length:Int))).tmod (↑x15.length:Int)).toNat) []).getD ((IntKind.i64.wrap (IntKind.i64.wrap (x4.tmod (IntKind.u64.wrap (↑(x15.getD (0 + ((IntKind.i64.wrap (x3.tmod (↑x15.length:Int) + (↑x15.length:Int))).tmod (↑x15.length:Int)).toNat) []).length:Int))) + 1)).tmod (↑(x15.getD (0 + ((IntKind.i64.wrap (x3.tmod (↑x15.length:Int) + (↑x15.length:Int))).tmod (↑x15.length:Int)).toNat) []).length:Int)).toNat ByteArray.empty,r2.1.1,()),(x10,x11,()),(r1.2.1.1,r1.2.1.2.1,r1.2.1.2.2.1,()),x15,r1.2.2.1,r1.2.2.2.1,r1.2.2.2.2.1,r1.2.2.2.2.2.1,r1.2.2.2.2.2.2.1,r1.2.2.2.2.2.2.2.1,(),r1.2.2.2.2.2.2.2.2.1,()))
 (none))
 (none)))
 (none))
 ((F_k38 (x10,x15.getD (0 + ((IntKind.i64.wrap (x3.tmod (↑x15.length:Int) + (↑x15.length:Int))).tmod (↑x15.length:Int)).toNat) [],()) ((x12,x13,x14,()),x16,x17,x18,x19,x20,x21,x22,())).bind fun r3 =>
 cond (!r3.1.2.1)
 (K ((x7,x8,()),(x10,x11,()),(r3.2.1.1,r3.2.1.2.1,r3.2.1.2.2.1,()),x15,r3.2.2.1,r3.2.2.2.1,r3.2.2.2.2.1,r3.2.2.2.2.2.1,r3.2.2.2.2.2.2.1,r3.2.2.2.2.2.2.2.1,(),r3.2.2.2.2.2.2.2.2.1,()))
 ((F_k42 (r3.1.1,IntKind.i64.wrap (x4.tmod (IntKind.u64.wrap (↑(x15.getD (0 + ((IntKind.i64.wrap (x3.tmod (↑x15.length:Int) + (↑x15.length:Int))).tmod (↑x15.length:Int)).toNat) []).length:Int))),()) ()).bind fun r4 =>
 cond (decide (0≤IntKind.i64.wrap (x4.tmod (IntKind.u64.wrap (↑(x15.getD (0 + ((IntKind.i64.wrap (x3.tmod (↑x15.length:Int) + (↑x15.length:Int))).tmod (↑x15.length:Int)).toNat) []).length:Int)))))
 (cond (decide (IntKind.i64.wrap (x4.tmod (IntKind.u64.wrap (↑(x15.getD (0 + ((IntKind.i64.wrap (x3.tmod (↑x15.length:Int) + (↑x15.length:Int))).tmod (↑x15.length:Int)).toNat) []).length:Int))) < (↑(x15.getD (0 + ((IntKind.i64.wrap (x3.tmod (↑x15.length:Int) + (↑x15.length:Int))).tmod (↑x15.length:Int)).toNat) []).length:Int)))
 (K (((x15.getD (0 + ((IntKind.i64.wrap (x3.tmod (↑x15.length:Int) + (↑x15.length:Int))).tmod (↑x15.length:Int)).toNat) []).getD (IntKind.i64.wrap (x4.tmod (IntKind.u64.wrap (↑(x15.getD (0 + ((IntKind.i64.wrap (x3.tmod (↑x15.length:Int) + (↑x15.length:Int))).tmod (↑x15.length:Int)).toNat) []).length:Int)))).toNat ByteArray.empty,r4.1.1,()),(x10,x11,()),(r3.2.1.1,r3.2.1.2.1,r3.2.1.2.2.1,()),x15,r3.2.2.1,r3.2.2.2.1,r3.2.2.2.2.1,r3.2.2.2.2.2.1,r3.2.2.2.2.2.2.1,r3.2.2.2.2.2.2.2.1,(),r3.2.2.2.2.2.2.2.2.1,()))
 (none))
 (none))))
 (none))
 (none))
 (none))
 (none))
 (none))
 (cond (!decide (IntKind.u64.wrap (↑x11.length:Int) = 0))
 (cond (x2 == 2)
 (cond (!decide ((↑x11.length:Int) = 0))
 ((F_k38 (x10,x11,()) ((x12,x13,x14,()),x16,x17,x18,x19,x20,x21,x22,())).bind fun r5 =>
 cond (!r5.1.2.1)
 (K ((x7,x8,()),(x10,x11,()),(r5.2.1.1,r5.2.1.2.1,r5.2.1.2.2.1,()),x15,r5.2.2.1,r5.2.2.2.1,r5.2.2.2.2.1,r5.2.2.2.2.2.1,r5.2.2.2.2.2.2.1,r5.2.2.2.2.2.2.2.1,(),r5.2.2.2.2.2.2.2.2.1,()))
 ((F_k42 (r5.1.1,(IntKind.i64.wrap (IntKind.i64.wrap (x4.tmod (IntKind.u64.wrap (↑x11.length:Int))) + 1)).tmod (↑x11.length:Int),()) ()).bind fun r6 =>
 cond (decide (0≤(IntKind.i64.wrap (IntKind.i64.wrap (x4.tmod (IntKind.u64.wrap (↑x11.length:Int))) + 1)).tmod (↑x11.length:Int)))
 (cond (decide ((IntKind.i64.wrap (IntKind.i64.wrap (x4.tmod (IntKind.u64.wrap (↑x11.length:Int))) + 1)).tmod (↑x11.length:Int) < (↑x11.length:Int)))
 (K ((x11.getD ((IntKind.i64.wrap (IntKind.i64.wrap (x4.tmod (IntKind.u64.wrap (↑x11.length:Int))) + 1)).tmod (↑x11.length:Int)).toNat ByteArray.empty,r6.1.1,()),(x10,x11,()),(r5.2.1.1,r5.2.1.2.1,r5.2.1.2.2.1,()),x15,r5.2.2.1,r5.2.2.2.1,r5.2.2.2.2.1,r5.2.2.2.2.2.1,r5.2.2.2.2.2.2.1,r5.2.2.2.2.2.2.2.1,(),r5.2.2.2.2.2.2.2.2.1,()))
 (none))
 (none)))
 (none))
 ((F_k38 (x10,x11,()) ((x12,x13,x14,()),x16,x17,x18,x19,x20,x21,x22,())).bind fun r7 =>
 cond (!r7.1.2.1)
 (K ((x7,x8,()),(x10,x11,()),(r7.2.1.1,r7.2.1.2.1,r7.2.1.2.2.1,()),x15,r7.2.2.1,r7.2.2.2.1,r7.2.2.2.2.1,r7.2.2.2.2.2.1,r7.2.2.2.2.2.2.1,r7.2.2.2.2.2.2.2.1,(),r7.2.2.2.2.2.2.2.2.1,()))
 ((F_k42 (r7.1.1,IntKind.i64.wrap (x4.tmod (IntKind.u64.wrap (↑x11.length:Int))),()) ()).bind fun r8 =>
 cond (decide (0≤IntKind.i64.wrap (x4.tmod (IntKind.u64.wrap (↑x11.length:Int)))))
 (cond (decide (IntKind.i64.wrap (x4.tmod (IntKind.u64.wrap (↑x11.length:Int))) < (↑x11.length:Int)))
 (K ((x11.getD (IntKind.i64.wrap (x4.tmod (IntKind.u64.wrap (↑x11.length:Int)))).toNat ByteArray.empty,r8.1.1,()),(x10,x11,()),(r7.2.1.1,r7.2.1.2.1,r7.2.1.2.2.1,()),x15,r7.2.2.1,r7.2.2.2.1,r7.2.2.2.2.1,r7.2.2.2.2.2.1,r7.2.2.2.2.2.2.1,r7.2.2.2.2.2.2.2.1,(),r7.2.2.2.2.2.2.2.2.1,()))
 (none))
 (none))))
 (none)))
 (cond (!decide (IntKind.u64.wrap (↑x11.length:Int) = 0))
 (cond (x2 == 2)
 (cond (!decide ((↑x11.length:Int) = 0))
 ((F_k38 (x10,x11,()) ((x12,x13,x14,()),x16,x17,x18,x19,x20,x21,x22,())).bind fun r9 =>
 cond (!r9.1.2.1)
 (K ((x7,x8,()),(x10,x11,()),(r9.2.1.1,r9.2.1.2.1,r9.2.1.2.2.1,()),x15,r9.2.2.1,r9.2.2.2.1,r9.2.2.2.2.1,r9.2.2.2.2.2.1,r9.2.2.2.2.2.2.1,r9.2.2.2.2.2.2.2.1,(),r9.2.2.2.2.2.2.2.2.1,()))
 ((F_k42 (r9.1.1,(IntKind.i64.wrap (IntKind.i64.wrap (x4.tmod (IntKind.u64.wrap (↑x11.length:Int))) + 1)).tmod (↑x11.length:Int),()) ()).bind fun r10 =>
 cond (decide (0≤(IntKind.i64.wrap (IntKind.i64.wrap (x4.tmod (IntKind.u64.wrap (↑x11.length:Int))) + 1)).tmod (↑x11.length:Int)))
 (cond (decide ((IntKind.i64.wrap (IntKind.i64.wrap (x4.tmod (IntKind.u64.wrap (↑x11.length:Int))) + 1)).tmod (↑x11.length:Int) < (↑x11.length:Int)))
 (K ((x11.getD ((IntKind.i64.wrap (IntKind.i64.wrap (x4.tmod (IntKind.u64.wrap (↑x11.length:Int))) + 1)).tmod (↑x11.length:Int)).toNat ByteArray.empty,r10.1.1,()),(x10,x11,()),(r9.2.1.1,r9.2.1.2.1,r9.2.1.2.2.1,()),x15,r9.2.2.1,r9.2.2.2.1,r9.2.2.2.2.1,r9.2.2.2.2.2.1,r9.2.2.2.2.2.2.1,r9.2.2.2.2.2.2.2.1,(),r9.2.2.2.2.2.2.2.2.1,()))
 (none))
 (none)))
 (none))
 ((F_k38 (x10,x11,()) ((x12,x13,x14,()),x16,x17,x18,x19,x20,x21,x22,())).bind fun r11 =>
 cond (!r11.1.2.1)
 (K ((x7,x8,()),(x10,x11,()),(r11.2.1.1,r11.2.1.2.1,r11.2.1.2.2.1,()),x15,r11.2.2.1,r11.2.2.2.1,r11.2.2.2.2.1,r11.2.2.2.2.2.1,r11.2.2.2.2.2.2.1,r11.2.2.2.2.2.2.2.1,(),r11.2.2.2.2.2.2.2.2.1,()))
 ((F_k42 (r11.1.1,IntKind.i64.wrap (x4.tmod (IntKind.u64.wrap (↑x11.length:Int))),()) ()).bind fun r12 =>
 cond (decide (0≤IntKind.i64.wrap (x4.tmod (IntKind.u64.wrap (↑x11.length:Int)))))
 (cond (decide (IntKind.i64.wrap (x4.tmod (IntKind.u64.wrap (↑x11.length:Int))) < (↑x11.length:Int)))
 (K ((x11.getD (IntKind.i64.wrap (x4.tmod (IntKind.u64.wrap (↑x11.length:Int)))).toNat ByteArray.empty,r12.1.1,()),(x10,x11,()),(r11.2.1.1,r11.2.1.2.1,r11.2.1.2.2.1,()),x15,r11.2.2.1,r11.2.2.2.1,r11.2.2.2.2.1,r11.2.2.2.2.2.1,r11.2.2.2.2.2.2.1,r11.2.2.2.2.2.2.2.1,(),r11.2.2.2.2.2.2.2.2.1,()))
 (none))
 (none))))
 (none))))
noncomputable def F_k37:A_k37→M_k37→Option O_k37:=fun a b=>tree_k37 F_k38 F_k42 a.1.1 a.1.2.1 a.1.2.2.1 a.1.2.2.2.1 a.1.2.2.2.2.1 a.1.2.2.2.2.2.1 a.1.2.2.2.2.2.2.1 a.1.2.2.2.2.2.2.2.1 a.1.2.2.2.2.2.2.2.2.1 b.1.1 b.1.2.1 b.2.1.1 b.2.1.2.1 b.2.1.2.2.1 b.2.2.1 b.2.2.2.1 b.2.2.2.2.1 b.2.2.2.2.2.1 b.2.2.2.2.2.2.1 b.2.2.2.2.2.2.2.1 b.2.2.2.2.2.2.2.2.1 b.2.2.2.2.2.2.2.2.2.1 some
theorem n_k37 (F_k38:B_k38) (F_k42:B_k42) (x1 x2 x3 x4 x5 x6 x7 x8 x9 x10 x11 x12 x13 x14 x15 x16 x17 x18 x19 x20 x21 x22) {α:Type} (K:O_k37→Option α):tree_k37 F_k38 F_k42 x1 x2 x3 x4 x5 x6 x7 x8 x9 x10 x11 x12 x13 x14 x15 x16 x17 x18 x19 x20 x21 x22 K = (tree_k37 F_k38 F_k42 x1 x2 x3 x4 x5 x6 x7 x8 x9 x10 x11 x12 x13 x14 x15 x16 x17 x18 x19 x20 x21 x22 some).bind K:=by simp only [tree_k37,bind_cond,bind_none',bind_some',bind_bind',bind_sum]
def args_k36:SkL:=(.cons (cP 0) (.cons lU (.cons lS .nil)))
def mem_k36:MSk:=[(0,.cells (.cons lI (.cons (.leaf (.slc 9 (.cons .str .nil))) (.cons (cW 1) .nil)))),(1,.row 23 (.cons (.slc 9 (.cons .str .nil)) .nil))]
def outs_k36:List OutC:=[⟨(.tup .nil),[(0,.cells (.cons lI (.cons (.leaf (.slc 9 (.cons .str .nil))) (.cons (cW 2) .nil)))),(1,.gone),(2,.row 23 (.cons (.slc 9 (.cons .str .nil)) .nil))]⟩]
abbrev A_k36:Type:=(Int×ByteArray×Unit)
abbrev M_k36:Type:=((Int×Yb×Unit)×Yl×Unit)
abbrev O_k36:Type:=Unit×((Int×Yb×Unit)×Unit×Yl×Unit)
abbrev B_k36:=A_k36→M_k36→Option O_k36
def tree_k36 {α:Type} (x1:Int) (x2:ByteArray) (x3:Int) (x4:Yb) (x5:Yl) (K:O_k36→Option α):Option α :=
 cond (decide ((x5.length + 1) * 24≤140737488355328))
 (cond (decide ((0 + x4.length) * 16≤140737488355328))
 (cond (decide (0≤IntKind.i64.wrap x1))
 (cond (decide (IntKind.i64.wrap x1 < (↑([] ++ x4).length:Int)))
 (K ((),(x3,([] ++ x4).set (0 + (IntKind.i64.wrap x1).toNat) x2,()),(),x5 ++ ([] ++ [x4]),()))
 (none))
 (none))
 (none))
 (none)
noncomputable def F_k36:A_k36→M_k36→Option O_k36:=fun a b=>tree_k36 a.1 a.2.1 b.1.1 b.1.2.1 b.2.1 some
theorem n_k36 (x1 x2 x3 x4 x5) {α:Type} (K:O_k36→Option α):tree_k36 x1 x2 x3 x4 x5 K = (tree_k36 x1 x2 x3 x4 x5 some).bind K:=by simp only [tree_k36,bind_cond,bind_none',bind_some',bind_bind',bind_sum]
theorem Fe_k36 (x1 x2 x3 x4 x5):F_k36 (x1,x2,()) ((x3,x4,()),x5,()) = tree_k36 x1 x2 x3 x4 x5 some:=rfl
end Go.Proofs.Ytljfdfghagiblaa.S2
