/- Plain forms of the program's functions,by program. -/
import Derived.Test.YtljfdfghagiblaaGgate
set_option maxRecDepth 100000
set_option maxHeartbeats 0
set_option linter.unusedVariables false
set_option linter.unusedSimpArgs false
namespace Go.Proofs.Ytljfdfghagiblaa.S2
open Go
def args_k38:SkL:=(.cons (cP 0) (.cons lI .nil))
def mem_k38:MSk:=[(0,.cells (.cons lL (.cons lI (.cons lB (.cons (cM 1) (.cons (cM 2) (.cons (cM 3) (.cons (cM 4) (.cons (cM 5) (.cons (cM 6) (.cons (cW 7) .nil))))))))))),(1,qa),(2,qa),(3,qb),(4,qc),(5,qd),(6,qe),(7,qf)]
def outs_k38:List OutC:=[⟨(.tup (.cons (cP 8) (.cons (cP 9) (.cons (cP 10) (.cons lB .nil))))),[(0,.cells (.cons lL (.cons lI (.cons lB (.cons (cM 1) (.cons (cM 2) (.cons (cM 3) (.cons (cM 4) (.cons (cM 5) (.cons (cM 6) (.cons (cW 7) .nil))))))))))),(1,qa),(2,qa),(3,qb),(4,qc),(5,qd),(6,qe),(7,qf),(8,.cells (.cons (cP 0) (.cons (cP 9) (.cons lU (.cons lU (.cons lI .nil)))))),(9,.cells (.cons (cP 10) .nil)),(10,.cells (.cons lI (.cons (cW 11) (.cons (cW 12) .nil)))),(11,qf),(12,qg)]⟩,⟨(.tup (.cons (.const .nilp) (.cons (.const .nilp) (.cons (.const .nilp) (.cons (.const (.bool Bool.false)) .nil))))),[(0,.cells (.cons lL (.cons lI (.cons lB (.cons (cM 1) (.cons (cM 2) (.cons (cM 3) (.cons (cM 4) (.cons (cM 5) (.cons (cM 6) (.cons (cW 7) .nil))))))))))),(1,qa),(2,qa),(3,qb),(4,qc),(5,qd),(6,qe),(7,qf)]⟩]
abbrev A_k38:Type:=(Int×Unit)
abbrev M_k38:Type:=(Yd×Y1×Y1×Y2×Y3×Y4×Y5×Yb×Unit)
abbrev O_k38:Type:=((Bool×Unit)×(Yd×Y1×Y1×Y2×Y3×Y4×Y5×Yb×(Int×Int×Int×Unit)×Unit×(Int×Unit)×Yb×Y6×Unit)) ⊕ (Unit×(Yd×Y1×Y1×Y2×Y3×Y4×Y5×Yb×Unit))
abbrev B_k38:=A_k38→M_k38→Option O_k38
def tree_k38 (F_k12:B_k12) (F_k67:B_k67) (F_k27:B_k27) (F_k14:B_k14) {α:Type} (x1:Int) (x2:List Int) (x3:Int) (x4:Bool) (x5:Y1) (x6:Y1) (x7:Y2) (x8:Y3) (x9:Y4) (x10:Y5) (x11:Yb) (K:O_k38→Option α):Option α :=
 (F_k12 (2,256,()) ()).bind fun r1 =>
 Sum.elim (fun u2 =>
 K (.inr ((),(x2,x3,x4,()),x5,x6,x7,x8,x9,x10,x11,())))
 (fun u2 =>
 (F_k67 () ((u2.2.1.1,()),u2.2.2.1,u2.2.2.2.1,())).bind fun r3 =>
 Sum.elim (fun u4 =>
 K (.inr ((),(x2,x3,x4,()),x5,x6,x7,x8,x9,x10,x11,())))
 (fun u4 =>
 (F_k27 (3,5,x1,()) ((x2,x3,x4,()),(),x5,x6,x7,x8,x9,x10,x11,(u4.2.1.1,()),u4.2.2.1,u4.2.2.2.1,())).bind fun r5 =>
 Sum.elim (fun u6 =>
 K (.inr ((),(u6.2.1.1,u6.2.1.2.1,u6.2.1.2.2.1,()),u6.2.2.2.1,u6.2.2.2.2.1,u6.2.2.2.2.2.1,u6.2.2.2.2.2.2.1,u6.2.2.2.2.2.2.2.1,u6.2.2.2.2.2.2.2.2.1,u6.2.2.2.2.2.2.2.2.2.1,())))
 (fun u6 =>
 (F_k14 () ((u6.2.2.2.2.2.2.2.2.2.2.2.2.2.1.1,u6.2.2.2.2.2.2.2.2.2.2.2.2.2.1.2.1,u6.2.2.2.2.2.2.2.2.2.2.2.2.2.1.2.2.1,()),(u6.2.1.1,u6.2.1.2.1,u6.2.1.2.2.1,()),(),u6.2.2.2.1,u6.2.2.2.2.1,u6.2.2.2.2.2.1,u6.2.2.2.2.2.2.1,u6.2.2.2.2.2.2.2.1,u6.2.2.2.2.2.2.2.2.1,u6.2.2.2.2.2.2.2.2.2.1,(u6.2.2.2.2.2.2.2.2.2.2.1.1,()),u6.2.2.2.2.2.2.2.2.2.2.2.1,u6.2.2.2.2.2.2.2.2.2.2.2.2.1,())).bind fun r7 =>
 K (.inl ((r7.1,()),(r7.2.2.1.1,r7.2.2.1.2.1,r7.2.2.1.2.2.1,()),r7.2.2.2.2.1,r7.2.2.2.2.2.1,r7.2.2.2.2.2.2.1,r7.2.2.2.2.2.2.2.1,r7.2.2.2.2.2.2.2.2.1,r7.2.2.2.2.2.2.2.2.2.1,r7.2.2.2.2.2.2.2.2.2.2.1,(r7.2.1.1,r7.2.1.2.1,r7.2.1.2.2.1,()),(),(r7.2.2.2.2.2.2.2.2.2.2.2.1.1,()),r7.2.2.2.2.2.2.2.2.2.2.2.2.1,r7.2.2.2.2.2.2.2.2.2.2.2.2.2.2.1,()))) (r5)) (r3)) (r1)
noncomputable def F_k38:A_k38→M_k38→Option O_k38:=fun a b=>tree_k38 F_k12 F_k67 F_k27 F_k14 a.1 b.1.1 b.1.2.1 b.1.2.2.1 b.2.1 b.2.2.1 b.2.2.2.1 b.2.2.2.2.1 b.2.2.2.2.2.1 b.2.2.2.2.2.2.1 b.2.2.2.2.2.2.2.1 some
theorem n_k38 (F_k12:B_k12) (F_k67:B_k67) (F_k27:B_k27) (F_k14:B_k14) (x1 x2 x3 x4 x5 x6 x7 x8 x9 x10 x11) {α:Type} (K:O_k38→Option α):tree_k38 F_k12 F_k67 F_k27 F_k14 x1 x2 x3 x4 x5 x6 x7 x8 x9 x10 x11 K = (tree_k38 F_k12 F_k67 F_k27 F_k14 x1 x2 x3 x4 x5 x6 x7 x8 x9 x10 x11 some).bind K:=by simp only [tree_k38,bind_cond,bind_none',bind_some',bind_bind',bind_sum]
def args_k37:SkL:=.nil
def mem_k37:MSk:=[]
def outs_k37:List OutC:=[⟨lB,[]⟩]
abbrev A_k37:Type:=Unit
abbrev M_k37:Type:=Unit
abbrev O_k37:Type:=Bool×Unit
abbrev B_k37:=A_k37→M_k37→Option O_k37
def tree_k37 (F_k28:B_k28) (F_k38:B_k38) (F_k43:B_k43) (F_k47:B_k47) (F_k15:B_k15) (F_k19:B_k19) (F_k13:B_k13) {α:Type} (K:O_k37→Option α):Option α :=
 (F_k28 ([],()) ()).bind fun r1 =>
 (F_k38 (1,()) ((r1.2.1.1,r1.2.1.2.1,r1.2.1.2.2.1,()),r1.2.2.1,r1.2.2.2.1,r1.2.2.2.2.1,r1.2.2.2.2.2.1,r1.2.2.2.2.2.2.1,r1.2.2.2.2.2.2.2.1,r1.2.2.2.2.2.2.2.2.1,())).bind fun r2 =>
 Sum.elim (fun u3 =>
 cond (!u3.1.1)
 (K (false,()))
 ((F_k43 (1,[],()) ((u3.2.1.1,u3.2.1.2.1,u3.2.1.2.2.1,()),u3.2.2.1,u3.2.2.2.1,u3.2.2.2.2.1,u3.2.2.2.2.2.1,u3.2.2.2.2.2.2.1,u3.2.2.2.2.2.2.2.1,u3.2.2.2.2.2.2.2.2.1,())).bind fun r4 =>
 (F_k47 (r4.1.1,0,()) ()).bind fun r5 =>
 (F_k15 (0,(ByteArray.empty,r5.1.1,()),()) ((u3.2.2.2.2.2.2.2.2.2.1.1,u3.2.2.2.2.2.2.2.2.2.1.2.1,u3.2.2.2.2.2.2.2.2.2.1.2.2.1,()),(r4.2.1.1,r4.2.1.2.1,r4.2.1.2.2.1,()),(),r4.2.2.1,r4.2.2.2.1,r4.2.2.2.2.1,r4.2.2.2.2.2.1,r4.2.2.2.2.2.2.1,r4.2.2.2.2.2.2.2.1,r4.2.2.2.2.2.2.2.2.1,(u3.2.2.2.2.2.2.2.2.2.2.2.1.1,()),u3.2.2.2.2.2.2.2.2.2.2.2.2.1,u3.2.2.2.2.2.2.2.2.2.2.2.2.2.1,())).bind fun r6 =>
 (F_k15 (0,(ByteArray.empty,[] ++ [1],()),()) ((r6.2.1.1,r6.2.1.2.1,r6.2.1.2.2.1,()),(r6.2.2.1.1,r6.2.2.1.2.1,r6.2.2.1.2.2.1,()),(),r6.2.2.2.2.1,r6.2.2.2.2.2.1,r6.2.2.2.2.2.2.1,r6.2.2.2.2.2.2.2.1,r6.2.2.2.2.2.2.2.2.1,r6.2.2.2.2.2.2.2.2.2.1,r6.2.2.2.2.2.2.2.2.2.2.1,(r6.2.2.2.2.2.2.2.2.2.2.2.1.1,()),r6.2.2.2.2.2.2.2.2.2.2.2.2.1,r6.2.2.2.2.2.2.2.2.2.2.2.2.2.1,())).bind fun r7 =>
 (F_k15 (2,(ByteArray.empty,r5.1.1,()),()) ((r7.2.1.1,r7.2.1.2.1,r7.2.1.2.2.1,()),(r7.2.2.1.1,r7.2.2.1.2.1,r7.2.2.1.2.2.1,()),(),r7.2.2.2.2.1,r7.2.2.2.2.2.1,r7.2.2.2.2.2.2.1,r7.2.2.2.2.2.2.2.1,r7.2.2.2.2.2.2.2.2.1,r7.2.2.2.2.2.2.2.2.2.1,r7.2.2.2.2.2.2.2.2.2.2.1,(r7.2.2.2.2.2.2.2.2.2.2.2.1.1,()),r7.2.2.2.2.2.2.2.2.2.2.2.2.1,r7.2.2.2.2.2.2.2.2.2.2.2.2.2.1,())).bind fun r8 =>
 (F_k19 (0,0,(ByteArray.mk #[104,105]),(ByteArray.empty,r5.1.1,()),()) ((r8.2.1.1,r8.2.1.2.1,r8.2.1.2.2.1,()),(r8.2.2.1.1,r8.2.2.1.2.1,r8.2.2.1.2.2.1,()),(),r8.2.2.2.2.1,r8.2.2.2.2.2.1,r8.2.2.2.2.2.2.1,r8.2.2.2.2.2.2.2.1,r8.2.2.2.2.2.2.2.2.1,r8.2.2.2.2.2.2.2.2.2.1,r8.2.2.2.2.2.2.2.2.2.2.1,(r8.2.2.2.2.2.2.2.2.2.2.2.1.1,()),r8.2.2.2.2.2.2.2.2.2.2.2.2.1,r8.2.2.2.2.2.2.2.2.2.2.2.2.2.1,())).bind fun r9 =>
 (F_k15 (0,(ByteArray.empty,r5.1.1,()),()) ((r9.2.1.1,r9.2.1.2.1,r9.2.1.2.2.1,()),(r9.2.2.1.1,r9.2.2.1.2.1,r9.2.2.1.2.2.1,()),(),r9.2.2.2.2.1,r9.2.2.2.2.2.1,r9.2.2.2.2.2.2.1,r9.2.2.2.2.2.2.2.1,r9.2.2.2.2.2.2.2.2.1,r9.2.2.2.2.2.2.2.2.2.1,r9.2.2.2.2.2.2.2.2.2.2.2.2.2.2.1,(r9.2.2.2.2.2.2.2.2.2.2.2.1.1,()),r9.2.2.2.2.2.2.2.2.2.2.2.2.1,r9.2.2.2.2.2.2.2.2.2.2.2.2.2.2.2.1,())).bind fun r10 =>
 (F_k13 () ((r10.2.1.1,r10.2.1.2.1,r10.2.1.2.2.1,()),(r10.2.2.1.1,r10.2.2.1.2.1,r10.2.2.1.2.2.1,()),(),r10.2.2.2.2.1,r10.2.2.2.2.2.1,r10.2.2.2.2.2.2.1,r10.2.2.2.2.2.2.2.1,r10.2.2.2.2.2.2.2.2.1,r10.2.2.2.2.2.2.2.2.2.1,r10.2.2.2.2.2.2.2.2.2.2.1,(r10.2.2.2.2.2.2.2.2.2.2.2.1.1,()),r10.2.2.2.2.2.2.2.2.2.2.2.2.1,r10.2.2.2.2.2.2.2.2.2.2.2.2.2.1,())).bind fun r11 =>
 (F_k15 (0,(r9.1.1,r5.1.1,()),()) ((r11.2.1.1,r11.2.1.2.1,r11.2.1.2.2.1,()),(r11.2.2.1.1,r11.2.2.1.2.1,r11.2.2.1.2.2.1,()),(),r11.2.2.2.2.1,r11.2.2.2.2.2.1,r11.2.2.2.2.2.2.1,r11.2.2.2.2.2.2.2.1,r11.2.2.2.2.2.2.2.2.1,r11.2.2.2.2.2.2.2.2.2.1,r11.2.2.2.2.2.2.2.2.2.2.1,(r11.2.2.2.2.2.2.2.2.2.2.2.1.1,()),r11.2.2.2.2.2.2.2.2.2.2.2.2.1,r11.2.2.2.2.2.2.2.2.2.2.2.2.2.2.1,())).bind fun r12 =>
 cond (r5.1.2.1)
 (cond (r6.1.1.toList == ByteArray.empty.toList)
 (cond (r6.1.2.1 == 0)
 (cond (r7.1.2.1 == 232)
 (cond (r8.1.2.1 == 230)
 (cond (r9.1.2.1 == 0)
 (cond (r10.1.2.1 == 234)
 (cond (r11.1 == 0)
 (cond (r12.1.1.toList == (ByteArray.mk #[104,105]).toList)
 (K (r12.1.2.1 == 0,()))
 (K (false,())))
 (K (false,())))
 (K (false,())))
 (K (false,())))
 (K (false,())))
 (K (false,())))
 (K (false,())))
 (K (false,())))
 (K (false,()))))
 (fun u3 =>
 K (false,())) (r2)
noncomputable def F_k37:A_k37→M_k37→Option O_k37:=fun a b=>tree_k37 F_k28 F_k38 F_k43 F_k47 F_k15 F_k19 F_k13 some
theorem n_k37 (F_k28:B_k28) (F_k38:B_k38) (F_k43:B_k43) (F_k47:B_k47) (F_k15:B_k15) (F_k19:B_k19) (F_k13:B_k13) {α:Type} (K:O_k37→Option α):tree_k37 F_k28 F_k38 F_k43 F_k47 F_k15 F_k19 F_k13 K = (tree_k37 F_k28 F_k38 F_k43 F_k47 F_k15 F_k19 F_k13 some).bind K:=by simp only [tree_k37,bind_cond,bind_none',bind_some',bind_bind',bind_sum]
def args_k42:SkL:=(.cons (cP 0) (.cons (cP 1) (.cons (.agg (.cons lI (.cons lI (.cons lI (.cons lU (.cons lU (.cons lS (.cons lS (.cons lL (.cons (.leaf (.slc 3 (.cons (.int .i64) .nil))) .nil)))))))))) .nil)))
def mem_k42:MSk:=[(0,.cells (.cons lI (.cons (.leaf (.slc 9 (.cons .str .nil))) (.cons (cW 2) .nil)))),(1,.cells (.cons lL (.cons lI (.cons lB (.cons (cM 3) (.cons (cM 4) (.cons (cM 5) (.cons (cM 6) (.cons (cM 7) (.cons (cM 8) (.cons (cW 9) .nil))))))))))),(2,.row 23 (.cons (.slc 9 (.cons .str .nil)) .nil)),(3,qa),(4,qa),(5,qb),(6,qc),(7,qd),(8,qe),(9,qf)]
def outs_k42:List OutC:=[⟨(.agg (.cons lS (.cons lL .nil))),[(0,.cells (.cons lI (.cons (.leaf (.slc 9 (.cons .str .nil))) (.cons (cW 2) .nil)))),(1,.cells (.cons lL (.cons lI (.cons lB (.cons (cM 3) (.cons (cM 4) (.cons (cM 5) (.cons (cM 6) (.cons (cM 7) (.cons (cM 8) (.cons (cW 10) .nil))))))))))),(2,.row 23 (.cons (.slc 9 (.cons .str .nil)) .nil)),(3,qa),(4,qa),(5,qb),(6,qc),(7,qd),(8,qe),(9,.gone),(10,qf)]⟩]
abbrev A_k42:Type:=((Int×Int×Int×Int×Int×ByteArray×ByteArray×List Int×List Int×Unit)×Unit)
abbrev M_k42:Type:=((Int×Yb×Unit)×Yd×Yl×Y1×Y1×Y2×Y3×Y4×Y5×Yb×Unit)
abbrev O_k42:Type:=(ByteArray×List Int×Unit)×((Int×Yb×Unit)×Yd×Yl×Y1×Y1×Y2×Y3×Y4×Y5×Unit×Yb×Unit)
abbrev B_k42:=A_k42→M_k42→Option O_k42
def tree_k42 (F_k43:B_k43) (F_k47:B_k47) {α:Type} (x1:Int) (x2:Int) (x3:Int) (x4:Int) (x5:Int) (x6:ByteArray) (x7:ByteArray) (x8:List Int) (x9:List Int) (x10:Int) (x11:Yb) (x12:List Int) (x13:Int) (x14:Bool) (x15:Yl) (x16:Y1) (x17:Y1) (x18:Y2) (x19:Y3) (x20:Y4) (x21:Y5) (x22:Yb) (K:O_k42→Option α):Option α :=
 cond (decide (x2 < 0))
 (K ((x7,x8,()),(x10,x11,()),(x12,x13,x14,()),x15,x16,x17,x18,x19,x20,x21,(),x22,()))
 (cond (decide (x2 > 2))
 (K ((x7,x8,()),(x10,x11,()),(x12,x13,x14,()),x15,x16,x17,x18,x19,x20,x21,(),x22,()))
 (cond (x2 == 1)
 (cond (decide ((↑x15.length:Int) > 0))
 (cond (!decide ((↑x15.length:Int) = 0))
 (cond (!decide ((↑x15.length:Int) = 0))
 (cond (decide (0≤(IntKind.i64.wrap (x3.tmod (↑x15.length:Int) + (↑x15.length:Int))).tmod (↑x15.length:Int)))
 (cond (decide ((IntKind.i64.wrap (x3.tmod (↑x15.length:Int) + (↑x15.length:Int))).tmod (↑x15.length:Int) < (↑x15.length:Int)))
 (cond (!decide (IntKind.u64.wrap (↑(x15.getD (0 + ((IntKind.i64.wrap (x3.tmod (↑x15.length:Int) + (↑x15.length:Int))).tmod (↑x15.length:Int)).toNat) []).length:Int) = 0))
 (cond (x2 == 2)
 (cond (!decide ((↑(x15.getD (0 + ((IntKind.i64.wrap (x3.tmod (↑x15.length:Int) + (↑x15.length:Int))).tmod (↑x15.length:Int)).toNat) []).length:Int) = 0))
 ((F_k43 (x10,x15.getD (0 + ((IntKind.i64.wrap (x3.tmod (↑x15.length:Int) + (↑x15.length:Int))).tmod (↑x15.length:Int)).toNat) [],()) ((x12,x13,x14,()),x16,x17,x18,x19,x20,x21,x22,())).bind fun r1 =>
 cond (!r1.1.2.1)
 (K ((x7,x8,()),(x10,x11,()),(r1.2.1.1,r1.2.1.2.1,r1.2.1.2.2.1,()),x15,r1.2.2.1,r1.2.2.2.1,r1.2.2.2.2.1,r1.2.2.2.2.2.1,r1.2.2.2.2.2.2.1,r1.2.2.2.2.2.2.2.1,(),r1.2.2.2.2.2.2.2.2.1,()))
 ((F_k47 (r1.1.1,(IntKind.i64.wrap (IntKind.i64.wrap (x4.tmod (IntKind.u64.wrap (↑(x15.getD (0 + ((IntKind.i64.wrap (x3.tmod (↑x15.length:Int) + (↑x15.length:Int))).tmod (↑x15.length:Int)).toNat) []).length:Int))) + 1)).tmod (↑(x15.getD (0 + ((IntKind.i64.wrap (x3.tmod (↑x15.length:Int) + (↑x15.length:Int))).tmod (↑x15.length:Int)).toNat) []).length:Int),()) ()).bind fun r2 =>
 cond (decide (0≤(IntKind.i64.wrap (IntKind.i64.wrap (x4.tmod (IntKind.u64.wrap (↑(x15.getD (0 + ((IntKind.i64.wrap (x3.tmod (↑x15.length:Int) + (↑x15.length:Int))).tmod (↑x15.length:Int)).toNat) []).length:Int))) + 1)).tmod (↑(x15.getD (0 + ((IntKind.i64.wrap (x3.tmod (↑x15.length:Int) + (↑x15.length:Int))).tmod (↑x15.length:Int)).toNat) []).length:Int)))
 (cond (decide ((IntKind.i64.wrap (IntKind.i64.wrap (x4.tmod (IntKind.u64.wrap (↑(x15.getD (0 + ((IntKind.i64.wrap (x3.tmod (↑x15.length:Int) + (↑x15.length:Int))).tmod (↑x15.length:Int)).toNat) []).length:Int))) + 1)).tmod (↑(x15.getD (0 + ((IntKind.i64.wrap (x3.tmod (↑x15.length:Int) + (↑x15.length:Int))).tmod (↑x15.length:Int)).toNat) []).length:Int) < (↑(x15.getD (0 + ((IntKind.i64.wrap (x3.tmod (↑x15.length:Int) + (↑x15.length:Int))).tmod (↑x15.length:Int)).toNat) []).length:Int)))
 (K (((x15.getD (0 + ((IntKind.i64.wrap (x3.tmod (↑x15.length:Int) + (↑x15.length:Int))).tmod (↑x15.length:Int)).toNat) []).getD ((IntKind.i64.wrap (IntKind.i64.wrap (x4.tmod (IntKind.u64.wrap (↑(x15.getD (0 + ((IntKind.i64.wrap (x3.tmod (↑x15.length:Int) + (↑x15.length:Int))).tmod (↑x15.length:Int)).toNat) []).length:Int))) + 1)).tmod (↑(x15.getD (0 + ((IntKind.i64.wrap (x3.tmod (↑x15.length:Int) + (↑x15.length:Int))).tmod (↑x15.length:Int)).toNat) []).length:Int)).toNat ByteArray.empty,r2.1.1,()),(x10,x11,()),(r1.2.1.1,r1.2.1.2.1,r1.2.1.2.2.1,()),x15,r1.2.2.1,r1.2.2.2.1,r1.2.2.2.2.1,r1.2.2.2.2.2.1,r1.2.2.2.2.2.2.1,r1.2.2.2.2.2.2.2.1,(),r1.2.2.2.2.2.2.2.2.1,()))
 (none))
 (none)))
 (none))
 ((F_k43 (x10,x15.getD (0 + ((IntKind.i64.wrap (x3.tmod (↑x15.length:Int) + (↑x15.length:Int))).tmod (↑x15.length:Int)).toNat) [],()) ((x12,x13,x14,()),x16,x17,x18,x19,x20,x21,x22,())).bind fun r3 =>
 cond (!r3.1.2.1)
 (K ((x7,x8,()),(x10,x11,()),(r3.2.1.1,r3.2.1.2.1,r3.2.1.2.2.1,()),x15,r3.2.2.1,r3.2.2.2.1,r3.2.2.2.2.1,r3.2.2.2.2.2.1,r3.2.2.2.2.2.2.1,r3.2.2.2.2.2.2.2.1,(),r3.2.2.2.2.2.2.2.2.1,()))
 ((F_k47 (r3.1.1,IntKind.i64.wrap (x4.tmod (IntKind.u64.wrap (↑(x15.getD (0 + ((IntKind.i64.wrap (x3.tmod (↑x15.length:Int) + (↑x15.length:Int))).tmod (↑x15.length:Int)).toNat) []).length:Int))),()) ()).bind fun r4 =>
 cond (decide (0≤IntKind.i64.wrap (x4.tmod (IntKind.u64.wrap (↑(x15.getD (0 + ((IntKind.i64.wrap (x3.tmod (↑x15.length:Int) + (↑x15.length:Int))).tmod (↑x15.length:Int)).toNat) []).length:Int)))))
 (cond (decide (IntKind.i64.wrap (x4.tmod (IntKind.u64.wrap (↑(x15.getD (0 + ((IntKind.i64.wrap (x3.tmod (↑x15.length:Int) + (↑x15.length:Int))).tmod (↑x15.length:Int)).toNat) []).length:Int))) < (↑(x15.getD (0 + ((IntKind.i64.wrap (x3.tmod (↑x15.length:Int) + (↑x15.length:Int))).tmod (↑x15.length:Int)).toNat) []).length:Int)))
 (K (((x15.getD (0 + ((IntKind.i64.wrap (x3.tmod (↑x15.length:Int) + (↑x15.length:Int))).tmod (↑x15.length:Int)).toNat) []).getD (IntKind.i64.wrap (x4.tmod (IntKind.u64.wrap (↑(x15.getD (0 + ((IntKind.i64.wrap (x3.tmod (↑x15.length:Int) + (↑x15.length:Int))).tmod (↑x15.length:Int)).toNat) []).length:Int)))).toNat ByteArray.empty,r4.1.1,()),(x10,x11,()),(r3.2.1.1,r3.2.1.2.1,r3.2.1.2.2.1,()),x15,r3.2.2.1,r3.2.2.2.1,r3.2.2.2.2.1,r3.2.2.2.2.2.1,r3.2.2.2.2.2.2.1,r3.2.2.2.2.2.2.2.1,(),r3.2.2.2.2.2.2.2.2.1,()))
 (none))
 (none))))
 (none))
 (none))
 (none))
 (none))
 (none))
 (cond (!decide (IntKind.u64.wrap (↑x11.length:Int) = 0))
 (cond (x2 == 2)
 (cond (!decide ((↑x11.length:Int) = 0))
 ((F_k43 (x10,x11,()) ((x12,x13,x14,()),x16,x17,x18,x19,x20,x21,x22,())).bind fun r5 =>
 cond (!r5.1.2.1)
 (K ((x7,x8,()),(x10,x11,()),(r5.2.1.1,r5.2.1.2.1,r5.2.1.2.2.1,()),x15,r5.2.2.1,r5.2.2.2.1,r5.2.2.2.2.1,r5.2.2.2.2.2.1,r5.2.2.2.2.2.2.1,r5.2.2.2.2.2.2.2.1,(),r5.2.2.2.2.2.2.2.2.1,()))
 ((F_k47 (r5.1.1,(IntKind.i64.wrap (IntKind.i64.wrap (x4.tmod (IntKind.u64.wrap (↑x11.length:Int))) + 1)).tmod (↑x11.length:Int),()) ()).bind fun r6 =>
 cond (decide (0≤(IntKind.i64.wrap (IntKind.i64.wrap (x4.tmod (IntKind.u64.wrap (↑x11.length:Int))) + 1)).tmod (↑x11.length:Int)))
 (cond (decide ((IntKind.i64.wrap (IntKind.i64.wrap (x4.tmod (IntKind.u64.wrap (↑x11.length:Int))) + 1)).tmod (↑x11.length:Int) < (↑x11.length:Int)))
 (K ((x11.getD ((IntKind.i64.wrap (IntKind.i64.wrap (x4.tmod (IntKind.u64.wrap (↑x11.length:Int))) + 1)).tmod (↑x11.length:Int)).toNat ByteArray.empty,r6.1.1,()),(x10,x11,()),(r5.2.1.1,r5.2.1.2.1,r5.2.1.2.2.1,()),x15,r5.2.2.1,r5.2.2.2.1,r5.2.2.2.2.1,r5.2.2.2.2.2.1,r5.2.2.2.2.2.2.1,r5.2.2.2.2.2.2.2.1,(),r5.2.2.2.2.2.2.2.2.1,()))
 (none))
 (none)))
 (none))
 ((F_k43 (x10,x11,()) ((x12,x13,x14,()),x16,x17,x18,x19,x20,x21,x22,())).bind fun r7 =>
 cond (!r7.1.2.1)
 (K ((x7,x8,()),(x10,x11,()),(r7.2.1.1,r7.2.1.2.1,r7.2.1.2.2.1,()),x15,r7.2.2.1,r7.2.2.2.1,r7.2.2.2.2.1,r7.2.2.2.2.2.1,r7.2.2.2.2.2.2.1,r7.2.2.2.2.2.2.2.1,(),r7.2.2.2.2.2.2.2.2.1,()))
 ((F_k47 (r7.1.1,IntKind.i64.wrap (x4.tmod (IntKind.u64.wrap (↑x11.length:Int))),()) ()).bind fun r8 =>
 cond (decide (0≤IntKind.i64.wrap (x4.tmod (IntKind.u64.wrap (↑x11.length:Int)))))
 (cond (decide (IntKind.i64.wrap (x4.tmod (IntKind.u64.wrap (↑x11.length:Int))) < (↑x11.length:Int)))
 (K ((x11.getD (IntKind.i64.wrap (x4.tmod (IntKind.u64.wrap (↑x11.length:Int)))).toNat ByteArray.empty,r8.1.1,()),(x10,x11,()),(r7.2.1.1,r7.2.1.2.1,r7.2.1.2.2.1,()),x15,r7.2.2.1,r7.2.2.2.1,r7.2.2.2.2.1,r7.2.2.2.2.2.1,r7.2.2.2.2.2.2.1,r7.2.2.2.2.2.2.2.1,(),r7.2.2.2.2.2.2.2.2.1,()))
 (none))
 (none))))
 (none)))
 (cond (!decide (IntKind.u64.wrap (↑x11.length:Int) = 0))
 (cond (x2 == 2)
 (cond (!decide ((↑x11.length:Int) = 0))
 ((F_k43 (x10,x11,()) ((x12,x13,x14,()),x16,x17,x18,x19,x20,x21,x22,())).bind fun r9 =>
 cond (!r9.1.2.1)
 (K ((x7,x8,()),(x10,x11,()),(r9.2.1.1,r9.2.1.2.1,r9.2.1.2.2.1,()),x15,r9.2.2.1,r9.2.2.2.1,r9.2.2.2.2.1,r9.2.2.2.2.2.1,r9.2.2.2.2.2.2.1,r9.2.2.2.2.2.2.2.1,(),r9.2.2.2.2.2.2.2.2.1,()))
 ((F_k47 (r9.1.1,(IntKind.i64.wrap (IntKind.i64.wrap (x4.tmod (IntKind.u64.wrap (↑x11.length:Int))) + 1)).tmod (↑x11.length:Int),()) ()).bind fun r10 =>
 cond (decide (0≤(IntKind.i64.wrap (IntKind.i64.wrap (x4.tmod (IntKind.u64.wrap (↑x11.length:Int))) + 1)).tmod (↑x11.length:Int)))
 (cond (decide ((IntKind.i64.wrap (IntKind.i64.wrap (x4.tmod (IntKind.u64.wrap (↑x11.length:Int))) + 1)).tmod (↑x11.length:Int) < (↑x11.length:Int)))
 (K ((x11.getD ((IntKind.i64.wrap (IntKind.i64.wrap (x4.tmod (IntKind.u64.wrap (↑x11.length:Int))) + 1)).tmod (↑x11.length:Int)).toNat ByteArray.empty,r10.1.1,()),(x10,x11,()),(r9.2.1.1,r9.2.1.2.1,r9.2.1.2.2.1,()),x15,r9.2.2.1,r9.2.2.2.1,r9.2.2.2.2.1,r9.2.2.2.2.2.1,r9.2.2.2.2.2.2.1,r9.2.2.2.2.2.2.2.1,(),r9.2.2.2.2.2.2.2.2.1,()))
 (none))
 (none)))
 (none))
 ((F_k43 (x10,x11,()) ((x12,x13,x14,()),x16,x17,x18,x19,x20,x21,x22,())).bind fun r11 =>
 cond (!r11.1.2.1)
 (K ((x7,x8,()),(x10,x11,()),(r11.2.1.1,r11.2.1.2.1,r11.2.1.2.2.1,()),x15,r11.2.2.1,r11.2.2.2.1,r11.2.2.2.2.1,r11.2.2.2.2.2.1,r11.2.2.2.2.2.2.1,r11.2.2.2.2.2.2.2.1,(),r11.2.2.2.2.2.2.2.2.1,()))
 ((F_k47 (r11.1.1,IntKind.i64.wrap (x4.tmod (IntKind.u64.wrap (↑x11.length:Int))),()) ()).bind fun r12 =>
 cond (decide (0≤IntKind.i64.wrap (x4.tmod (IntKind.u64.wrap (↑x11.length:Int)))))
 (cond (decide (IntKind.i64.wrap (x4.tmod (IntKind.u64.wrap (↑x11.length:Int))) < (↑x11.length:Int)))
 (K ((x11.getD (IntKind.i64.wrap (x4.tmod (IntKind.u64.wrap (↑x11.length:Int)))).toNat ByteArray.empty,r12.1.1,()),(x10,x11,()),(r11.2.1.1,r11.2.1.2.1,r11.2.1.2.2.1,()),x15,r11.2.2.1,r11.2.2.2.1,r11.2.2.2.2.1,r11.2.2.2.2.2.1,r11.2.2.2.2.2.2.1,r11.2.2.2.2.2.2.2.1,(),r11.2.2.2.2.2.2.2.2.1,()))
 (none))
 (none))))
 (none))))
noncomputable def F_k42:A_k42→M_k42→Option O_k42:=fun a b=>tree_k42 F_k43 F_k47 a.1.1 a.1.2.1 a.1.2.2.1 a.1.2.2.2.1 a.1.2.2.2.2.1 a.1.2.2.2.2.2.1 a.1.2.2.2.2.2.2.1 a.1.2.2.2.2.2.2.2.1 a.1.2.2.2.2.2.2.2.2.1 b.1.1 b.1.2.1 b.2.1.1 b.2.1.2.1 b.2.1.2.2.1 b.2.2.1 b.2.2.2.1 b.2.2.2.2.1 b.2.2.2.2.2.1 b.2.2.2.2.2.2.1 b.2.2.2.2.2.2.2.1 b.2.2.2.2.2.2.2.2.1 b.2.2.2.2.2.2.2.2.2.1 some
theorem n_k42 (F_k43:B_k43) (F_k47:B_k47) (x1 x2 x3 x4 x5 x6 x7 x8 x9 x10 x11 x12 x13 x14 x15 x16 x17 x18 x19 x20 x21 x22) {α:Type} (K:O_k42→Option α):tree_k42 F_k43 F_k47 x1 x2 x3 x4 x5 x6 x7 x8 x9 x10 x11 x12 x13 x14 x15 x16 x17 x18 x19 x20 x21 x22 K = (tree_k42 F_k43 F_k47 x1 x2 x3 x4 x5 x6 x7 x8 x9 x10 x11 x12 x13 x14 x15 x16 x17 x18 x19 x20 x21 x22 some).bind K:=by simp only [tree_k42,bind_cond,bind_none',bind_some',bind_bind',bind_sum]
def args_k41:SkL:=(.cons (cP 0) (.cons lU (.cons lS .nil)))
def mem_k41:MSk:=[(0,.cells (.cons lI (.cons (.leaf (.slc 9 (.cons .str .nil))) (.cons (cW 1) .nil)))),(1,.row 23 (.cons (.slc 9 (.cons .str .nil)) .nil))]
def outs_k41:List OutC:=[⟨(.tup .nil),[(0,.cells (.cons lI (.cons (.leaf (.slc 9 (.cons .str .nil))) (.cons (cW 2) .nil)))),(1,.gone),(2,.row 23 (.cons (.slc 9 (.cons .str .nil)) .nil))]⟩]
abbrev A_k41:Type:=(Int×ByteArray×Unit)
abbrev M_k41:Type:=((Int×Yb×Unit)×Yl×Unit)
abbrev O_k41:Type:=Unit×((Int×Yb×Unit)×Unit×Yl×Unit)
abbrev B_k41:=A_k41→M_k41→Option O_k41
def tree_k41 {α:Type} (x1:Int) (x2:ByteArray) (x3:Int) (x4:Yb) (x5:Yl) (K:O_k41→Option α):Option α :=
 cond (decide ((x5.length + 1) * 24≤140737488355328))
 (cond (decide ((0 + x4.length) * 16≤140737488355328))
 (cond (decide (0≤IntKind.i64.wrap x1))
 (cond (decide (IntKind.i64.wrap x1 < (↑([] ++ x4).length:Int)))
 (K ((),(x3,([] ++ x4).set (0 + (IntKind.i64.wrap x1).toNat) x2,()),(),x5 ++ ([] ++ [x4]),()))
 (none))
 (none))
 (none))
 (none)
noncomputable def F_k41:A_k41→M_k41→Option O_k41:=fun a b=>tree_k41 a.1 a.2.1 b.1.1 b.1.2.1 b.2.1 some
theorem n_k41 (x1 x2 x3 x4 x5) {α:Type} (K:O_k41→Option α):tree_k41 x1 x2 x3 x4 x5 K = (tree_k41 x1 x2 x3 x4 x5 some).bind K:=by simp only [tree_k41,bind_cond,bind_none',bind_some',bind_bind',bind_sum]
theorem Fe_k41 (x1 x2 x3 x4 x5):F_k41 (x1,x2,()) ((x3,x4,()),x5,()) = tree_k41 x1 x2 x3 x4 x5 some:=rfl
def args_k39:SkL:=(.cons (cP 0) (.cons lU (.cons lS (.cons lS .nil))))
def mem_k39:MSk:=[(0,.cells (.cons (cW 1) (.cons lB (.cons lU (.cons lS (.cons lS .nil)))))),(1,qf)]
def outs_k39:List OutC:=[⟨lB,[(0,.cells (.cons (cW 1) (.cons lB (.cons lU (.cons lS (.cons lS .nil)))))),(1,qf)]⟩]
abbrev A_k39:Type:=(Int×ByteArray×ByteArray×Unit)
abbrev M_k39:Type:=((Bool×Int×ByteArray×ByteArray×Unit)×Yb×Unit)
abbrev O_k39:Type:=Bool×((Bool×Int×ByteArray×ByteArray×Unit)×Yb×Unit)
abbrev B_k39:=A_k39→M_k39→Option O_k39
def tree_k39 {α:Type} (x1:Int) (x2:ByteArray) (x3:ByteArray) (x4:Bool) (x5:Int) (x6:ByteArray) (x7:ByteArray) (x8:Yb) (K:O_k39→Option α):Option α :=
 cond (x4)
 (K (false,(x4,x5,x6,x7,()),x8,()))
 (cond (decide (x1≥IntKind.u64.wrap (↑x8.length:Int)))
 (K (false,(x4,x5,x6,x7,()),x8,()))
 (K (true,(true,x1,x2,x3,()),x8,())))
noncomputable def F_k39:A_k39→M_k39→Option O_k39:=fun a b=>tree_k39 a.1 a.2.1 a.2.2.1 b.1.1 b.1.2.1 b.1.2.2.1 b.1.2.2.2.1 b.2.1 some
theorem n_k39 (x1 x2 x3 x4 x5 x6 x7 x8) {α:Type} (K:O_k39→Option α):tree_k39 x1 x2 x3 x4 x5 x6 x7 x8 K = (tree_k39 x1 x2 x3 x4 x5 x6 x7 x8 some).bind K:=by simp only [tree_k39,bind_cond,bind_none',bind_some',bind_bind',bind_sum]
def args_k40:SkL:=(.cons (cP 0) (.cons (cP 1) (.cons lB .nil)))
def mem_k40:MSk:=[(0,.cells (.cons (cW 2) (.cons lB (.cons lU (.cons lS (.cons lS .nil)))))),(1,.cells (.cons lI (.cons (.leaf (.slc 9 (.cons .str .nil))) (.cons (cW 3) .nil)))),(2,qf),(3,.row 23 (.cons (.slc 9 (.cons .str .nil)) .nil))]
def outs_k40:List OutC:=[⟨lB,[(0,.cells (.cons (cW 2) (.cons lB (.cons lU (.cons lS (.cons lS .nil)))))),(1,.cells (.cons lI (.cons (.leaf (.slc 9 (.cons .str .nil))) (.cons (cW 4) .nil)))),(2,qf),(3,.gone),(4,.row 23 (.cons (.slc 9 (.cons .str .nil)) .nil))]⟩]
abbrev A_k40:Type:=(Bool×Unit)
abbrev M_k40:Type:=((Bool×Int×ByteArray×ByteArray×Unit)×(Int×Yb×Unit)×Yb×Yl×Unit)
abbrev O_k40:Type:=Bool×((Bool×Int×ByteArray×ByteArray×Unit)×(Int×Yb×Unit)×Yb×Unit×Yl×Unit)
abbrev B_k40:=A_k40→M_k40→Option O_k40
def tree_k40 (F_k41:B_k41) {α:Type} (x1:Bool) (x2:Bool) (x3:Int) (x4:ByteArray) (x5:ByteArray) (x6:Int) (x7:Yb) (x8:Yb) (x9:Yl) (K:O_k40→Option α):Option α :=
 cond (!x2)
 (K (false,(x2,x3,x4,x5,()),(x6,x7,()),x8,(),x9,()))
 (cond (x1)
 (cond (decide (0≤IntKind.i64.wrap x3))
 (cond (decide (IntKind.i64.wrap x3 < (↑x8.length:Int)))
 ((F_k41 (x3,x5,()) ((x6,x7,()),x9,())).bind fun r1 =>
 K (true,(false,x3,x4,x5,()),(r1.2.1.1,r1.2.1.2.1,()),x8.set (0 + (IntKind.i64.wrap x3).toNat) x4,(),r1.2.2.2.1,()))
 (none))
 (none))
 (K (true,(false,x3,x4,x5,()),(x6,x7,()),x8,(),x9,())))
noncomputable def F_k40:A_k40→M_k40→Option O_k40:=fun a b=>tree_k40 F_k41 a.1 b.1.1 b.1.2.1 b.1.2.2.1 b.1.2.2.2.1 b.2.1.1 b.2.1.2.1 b.2.2.1 b.2.2.2.1 some
theorem n_k40 (F_k41:B_k41) (x1 x2 x3 x4 x5 x6 x7 x8 x9) {α:Type} (K:O_k40→Option α):tree_k40 F_k41 x1 x2 x3 x4 x5 x6 x7 x8 x9 K = (tree_k40 F_k41 x1 x2 x3 x4 x5 x6 x7 x8 x9 some).bind K:=by simp only [tree_k40,bind_cond,bind_none',bind_some',bind_bind',bind_sum]
def args_k36:SkL:=(.cons (cP 0) (.cons (cP 1) (.cons (cP 2) (.cons (cP 3) (.cons (cP 4) (.cons (.agg (.cons lI (.cons lI (.cons lI (.cons lU (.cons lU (.cons lS (.cons lS (.cons lL (.cons (.leaf (.slc 3 (.cons (.int .i64) .nil))) .nil)))))))))) .nil))))))
def mem_k36:MSk:=[(0,.cells (.cons (cP 2) (.cons (cP 5) (.cons lU (.cons lU (.cons lI .nil)))))),(1,.cells (.cons lI (.cons (cW 6) (.cons (cW 7) .nil)))),(2,.cells (.cons lL (.cons lI (.cons lB (.cons (cM 8) (.cons (cM 9) (.cons (cM 10) (.cons (cM 11) (.cons (cM 12) (.cons (cM 13) (.cons (cW 14) .nil))))))))))),(3,.cells (.cons lI (.cons (.leaf (.slc 9 (.cons .str .nil))) (.cons (cW 15) .nil)))),(4,.cells (.cons (cW 16) (.cons lB (.cons lU (.cons lS (.cons lS .nil)))))),(5,.cells (.cons (cP 1) .nil)),(6,qf),(7,qg),(8,qa),(9,qa),(10,qb),(11,qc),(12,qd),(13,qe),(14,qf),(15,.row 23 (.cons (.slc 9 (.cons .str .nil)) .nil)),(16,qf)]
def outs_k36:List OutC:=[⟨lB,[(0,.cells (.cons (cP 2) (.cons (cP 5) (.cons lU (.cons lU (.cons lI .nil)))))),(1,.cells (.cons lI (.cons (cW 6) (.cons (cW 17) .nil)))),(2,.cells (.cons lL (.cons lI (.cons lB (.cons (cM 8) (.cons (cM 9) (.cons (cM 10) (.cons (cM 11) (.cons (cM 12) (.cons (cM 13) (.cons (cW 18) .nil))))))))))),(3,.cells (.cons lI (.cons (.leaf (.slc 9 (.cons .str .nil))) (.cons (cW 19) .nil)))),(4,.cells (.cons (cW 16) (.cons lB (.cons lU (.cons lS (.cons lS .nil)))))),(5,.cells (.cons (cP 1) .nil)),(6,qf),(7,.gone),(8,qa),(9,qa),(10,qb),(11,qc),(12,qd),(13,qe),(14,.gone),(15,.gone),(16,qf),(17,qg),(18,qf),(19,.row 23 (.cons (.slc 9 (.cons .str .nil)) .nil))]⟩]
abbrev A_k36:Type:=((Int×Int×Int×Int×Int×ByteArray×ByteArray×List Int×List Int×Unit)×Unit)
abbrev M_k36:Type:=((Int×Int×Int×Unit)×(Int×Unit)×Yd×(Int×Yb×Unit)×(Bool×Int×ByteArray×ByteArray×Unit)×Unit×Yb×Y6×Y1×Y1×Y2×Y3×Y4×Y5×Yb×Yl×Yb×Unit)
abbrev O_k36:Type:=Bool×((Int×Int×Int×Unit)×(Int×Unit)×Yd×(Int×Yb×Unit)×(Bool×Int×ByteArray×ByteArray×Unit)×Unit×Yb×Unit×Y1×Y1×Y2×Y3×Y4×Y5×Unit×Unit×Yb×Y6×Yb×Yl×Unit)
abbrev B_k36:=A_k36→M_k36→Option O_k36
def tree_k36 (F_k42:B_k42) (F_k15:B_k15) (F_k19:B_k19) (F_k39:B_k39) (F_k17:B_k17) (F_k13:B_k13) (F_k40:B_k40) (F_k16:B_k16) (F_k41:B_k41) (F_k0:B_k0) {α:Type} (x1:Int) (x2:Int) (x3:Int) (x4:Int) (x5:Int) (x6:ByteArray) (x7:ByteArray) (x8:List Int) (x9:List Int) (x10:Int) (x11:Int) (x12:Int) (x13:Int) (x14:List Int) (x15:Int) (x16:Bool) (x17:Int) (x18:Yb) (x19:Bool) (x20:Int) (x21:ByteArray) (x22:ByteArray) (x23:Yb) (x24:Y6) (x25:Y1) (x26:Y1) (x27:Y2) (x28:Y3) (x29:Y4) (x30:Y5) (x31:Yb) (x32:Yl) (x33:Yb) (K:O_k36→Option α):Option α :=
 cond (x1 == 0)
 ((F_k42 ((x1,x2,x3,x4,x5,x6,x7,x8,x9,()),()) ((x17,x18,()),(x14,x15,x16,()),x32,x25,x26,x27,x28,x29,x30,x31,())).bind fun r1 =>
 (F_k15 (x4,(r1.1.1,r1.1.2.1,()),()) ((x10,x11,x12,()),(r1.2.2.1.1,r1.2.2.1.2.1,r1.2.2.1.2.2.1,()),(),r1.2.2.2.2.1,r1.2.2.2.2.2.1,r1.2.2.2.2.2.2.1,r1.2.2.2.2.2.2.2.1,r1.2.2.2.2.2.2.2.2.1,r1.2.2.2.2.2.2.2.2.2.1,r1.2.2.2.2.2.2.2.2.2.2.2.1,(x13,()),x23,x24,())).bind fun r2 =>
 cond (r2.1.2.1 != 0)
 (cond (r2.1.1.toList == ByteArray.empty.toList)
 (K (true,(r2.2.1.1,r2.2.1.2.1,r2.2.1.2.2.1,()),(r2.2.2.2.2.2.2.2.2.2.2.2.1.1,()),(r2.2.2.1.1,r2.2.2.1.2.1,r2.2.2.1.2.2.1,()),(r1.2.1.1,r1.2.1.2.1,()),(x19,x20,x21,x22,()),(),r2.2.2.2.2.2.2.2.2.2.2.2.2.1,(),r2.2.2.2.2.1,r2.2.2.2.2.2.1,r2.2.2.2.2.2.2.1,r2.2.2.2.2.2.2.2.1,r2.2.2.2.2.2.2.2.2.1,r2.2.2.2.2.2.2.2.2.2.1,(),(),x33,r2.2.2.2.2.2.2.2.2.2.2.2.2.2.1,r2.2.2.2.2.2.2.2.2.2.2.1,r1.2.2.2.1,()))
 (cond (r2.1.2.1 == 0)
 (cond (!x19)
 (cond (decide (x4 < IntKind.u64.wrap (↑x33.length:Int)))
 (cond (decide (0≤IntKind.i64.wrap x4))
 (cond (decide (IntKind.i64.wrap x4 < (↑x33.length:Int)))
 (K (r2.1.1.toList == (x33.getD (0 + (IntKind.i64.wrap x4).toNat) ByteArray.empty).toList,(r2.2.1.1,r2.2.1.2.1,r2.2.1.2.2.1,()),(r2.2.2.2.2.2.2.2.2.2.2.2.1.1,()),(r2.2.2.1.1,r2.2.2.1.2.1,r2.2.2.1.2.2.1,()),(r1.2.1.1,r1.2.1.2.1,()),(x19,x20,x21,x22,()),(),r2.2.2.2.2.2.2.2.2.2.2.2.2.1,(),r2.2.2.2.2.1,r2.2.2.2.2.2.1,r2.2.2.2.2.2.2.1,r2.2.2.2.2.2.2.2.1,r2.2.2.2.2.2.2.2.2.1,r2.2.2.2.2.2.2.2.2.2.1,(),(),x33,r2.2.2.2.2.2.2.2.2.2.2.2.2.2.1,r2.2.2.2.2.2.2.2.2.2.2.1,r1.2.2.2.1,()))
 (none))
 (none))
 (K (false,(r2.2.1.1,r2.2.1.2.1,r2.2.1.2.2.1,()),(r2.2.2.2.2.2.2.2.2.2.2.2.1.1,()),(r2.2.2.1.1,r2.2.2.1.2.1,r2.2.2.1.2.2.1,()),(r1.2.1.1,r1.2.1.2.1,()),(x19,x20,x21,x22,()),(),r2.2.2.2.2.2.2.2.2.2.2.2.2.1,(),r2.2.2.2.2.1,r2.2.2.2.2.2.1,r2.2.2.2.2.2.2.1,r2.2.2.2.2.2.2.2.1,r2.2.2.2.2.2.2.2.2.1,r2.2.2.2.2.2.2.2.2.2.1,(),(),x33,r2.2.2.2.2.2.2.2.2.2.2.2.2.2.1,r2.2.2.2.2.2.2.2.2.2.2.1,r1.2.2.2.1,())))
 (K (false,(r2.2.1.1,r2.2.1.2.1,r2.2.1.2.2.1,()),(r2.2.2.2.2.2.2.2.2.2.2.2.1.1,()),(r2.2.2.1.1,r2.2.2.1.2.1,r2.2.2.1.2.2.1,()),(r1.2.1.1,r1.2.1.2.1,()),(x19,x20,x21,x22,()),(),r2.2.2.2.2.2.2.2.2.2.2.2.2.1,(),r2.2.2.2.2.1,r2.2.2.2.2.2.1,r2.2.2.2.2.2.2.1,r2.2.2.2.2.2.2.2.1,r2.2.2.2.2.2.2.2.2.1,r2.2.2.2.2.2.2.2.2.2.1,(),(),x33,r2.2.2.2.2.2.2.2.2.2.2.2.2.2.1,r2.2.2.2.2.2.2.2.2.2.2.1,r1.2.2.2.1,())))
 (K (false,(r2.2.1.1,r2.2.1.2.1,r2.2.1.2.2.1,()),(r2.2.2.2.2.2.2.2.2.2.2.2.1.1,()),(r2.2.2.1.1,r2.2.2.1.2.1,r2.2.2.1.2.2.1,()),(r1.2.1.1,r1.2.1.2.1,()),(x19,x20,x21,x22,()),(),r2.2.2.2.2.2.2.2.2.2.2.2.2.1,(),r2.2.2.2.2.1,r2.2.2.2.2.2.1,r2.2.2.2.2.2.2.1,r2.2.2.2.2.2.2.2.1,r2.2.2.2.2.2.2.2.2.1,r2.2.2.2.2.2.2.2.2.2.1,(),(),x33,r2.2.2.2.2.2.2.2.2.2.2.2.2.2.1,r2.2.2.2.2.2.2.2.2.2.2.1,r1.2.2.2.1,()))))
 (cond (r2.1.2.1 == 0)
 (cond (!x19)
 (cond (decide (x4 < IntKind.u64.wrap (↑x33.length:Int)))
 (cond (decide (0≤IntKind.i64.wrap x4))
 (cond (decide (IntKind.i64.wrap x4 < (↑x33.length:Int)))
 (K (r2.1.1.toList == (x33.getD (0 + (IntKind.i64.wrap x4).toNat) ByteArray.empty).toList,(r2.2.1.1,r2.2.1.2.1,r2.2.1.2.2.1,()),(r2.2.2.2.2.2.2.2.2.2.2.2.1.1,()),(r2.2.2.1.1,r2.2.2.1.2.1,r2.2.2.1.2.2.1,()),(r1.2.1.1,r1.2.1.2.1,()),(x19,x20,x21,x22,()),(),r2.2.2.2.2.2.2.2.2.2.2.2.2.1,(),r2.2.2.2.2.1,r2.2.2.2.2.2.1,r2.2.2.2.2.2.2.1,r2.2.2.2.2.2.2.2.1,r2.2.2.2.2.2.2.2.2.1,r2.2.2.2.2.2.2.2.2.2.1,(),(),x33,r2.2.2.2.2.2.2.2.2.2.2.2.2.2.1,r2.2.2.2.2.2.2.2.2.2.2.1,r1.2.2.2.1,()))
 (none))
 (none))
 (K (false,(r2.2.1.1,r2.2.1.2.1,r2.2.1.2.2.1,()),(r2.2.2.2.2.2.2.2.2.2.2.2.1.1,()),(r2.2.2.1.1,r2.2.2.1.2.1,r2.2.2.1.2.2.1,()),(r1.2.1.1,r1.2.1.2.1,()),(x19,x20,x21,x22,()),(),r2.2.2.2.2.2.2.2.2.2.2.2.2.1,(),r2.2.2.2.2.1,r2.2.2.2.2.2.1,r2.2.2.2.2.2.2.1,r2.2.2.2.2.2.2.2.1,r2.2.2.2.2.2.2.2.2.1,r2.2.2.2.2.2.2.2.2.2.1,(),(),x33,r2.2.2.2.2.2.2.2.2.2.2.2.2.2.1,r2.2.2.2.2.2.2.2.2.2.2.1,r1.2.2.2.1,())))
 (K (false,(r2.2.1.1,r2.2.1.2.1,r2.2.1.2.2.1,()),(r2.2.2.2.2.2.2.2.2.2.2.2.1.1,()),(r2.2.2.1.1,r2.2.2.1.2.1,r2.2.2.1.2.2.1,()),(r1.2.1.1,r1.2.1.2.1,()),(x19,x20,x21,x22,()),(),r2.2.2.2.2.2.2.2.2.2.2.2.2.1,(),r2.2.2.2.2.1,r2.2.2.2.2.2.1,r2.2.2.2.2.2.2.1,r2.2.2.2.2.2.2.2.1,r2.2.2.2.2.2.2.2.2.1,r2.2.2.2.2.2.2.2.2.2.1,(),(),x33,r2.2.2.2.2.2.2.2.2.2.2.2.2.2.1,r2.2.2.2.2.2.2.2.2.2.2.1,r1.2.2.2.1,())))
 (K (false,(r2.2.1.1,r2.2.1.2.1,r2.2.1.2.2.1,()),(r2.2.2.2.2.2.2.2.2.2.2.2.1.1,()),(r2.2.2.1.1,r2.2.2.1.2.1,r2.2.2.1.2.2.1,()),(r1.2.1.1,r1.2.1.2.1,()),(x19,x20,x21,x22,()),(),r2.2.2.2.2.2.2.2.2.2.2.2.2.1,(),r2.2.2.2.2.1,r2.2.2.2.2.2.1,r2.2.2.2.2.2.2.1,r2.2.2.2.2.2.2.2.1,r2.2.2.2.2.2.2.2.2.1,r2.2.2.2.2.2.2.2.2.2.1,(),(),x33,r2.2.2.2.2.2.2.2.2.2.2.2.2.2.1,r2.2.2.2.2.2.2.2.2.2.2.1,r1.2.2.2.1,()))))
 (cond (x1 == 1)
 ((F_k42 ((x1,x2,x3,x4,x5,x6,x7,x8,x9,()),()) ((x17,x18,()),(x14,x15,x16,()),x32,x25,x26,x27,x28,x29,x30,x31,())).bind fun r3 =>
 (F_k19 (x4,x5,x6,(r3.1.1,r3.1.2.1,()),()) ((x10,x11,x12,()),(r3.2.2.1.1,r3.2.2.1.2.1,r3.2.2.1.2.2.1,()),(),r3.2.2.2.2.1,r3.2.2.2.2.2.1,r3.2.2.2.2.2.2.1,r3.2.2.2.2.2.2.2.1,r3.2.2.2.2.2.2.2.2.1,r3.2.2.2.2.2.2.2.2.2.1,r3.2.2.2.2.2.2.2.2.2.2.2.1,(x13,()),x23,x24,())).bind fun r4 =>
 cond (r4.1.2.1 != 0)
 (K (r4.1.1.toList == ByteArray.empty.toList,(r4.2.1.1,r4.2.1.2.1,r4.2.1.2.2.1,()),(r4.2.2.2.2.2.2.2.2.2.2.2.1.1,()),(r4.2.2.1.1,r4.2.2.1.2.1,r4.2.2.1.2.2.1,()),(r3.2.1.1,r3.2.1.2.1,()),(x19,x20,x21,x22,()),(),r4.2.2.2.2.2.2.2.2.2.2.2.2.1,(),r4.2.2.2.2.1,r4.2.2.2.2.2.1,r4.2.2.2.2.2.2.1,r4.2.2.2.2.2.2.2.1,r4.2.2.2.2.2.2.2.2.1,r4.2.2.2.2.2.2.2.2.2.1,(),(),x33,r4.2.2.2.2.2.2.2.2.2.2.2.2.2.2.2.1,r4.2.2.2.2.2.2.2.2.2.2.2.2.2.2.1,r3.2.2.2.1,()))
 ((F_k39 (x4,x6,r4.1.1,()) ((x19,x20,x21,x22,()),x33,())).bind fun r5 =>
 K (r5.1,(r4.2.1.1,r4.2.1.2.1,r4.2.1.2.2.1,()),(r4.2.2.2.2.2.2.2.2.2.2.2.1.1,()),(r4.2.2.1.1,r4.2.2.1.2.1,r4.2.2.1.2.2.1,()),(r3.2.1.1,r3.2.1.2.1,()),(r5.2.1.1,r5.2.1.2.1,r5.2.1.2.2.1,r5.2.1.2.2.2.1,()),(),r4.2.2.2.2.2.2.2.2.2.2.2.2.1,(),r4.2.2.2.2.1,r4.2.2.2.2.2.1,r4.2.2.2.2.2.2.1,r4.2.2.2.2.2.2.2.1,r4.2.2.2.2.2.2.2.2.1,r4.2.2.2.2.2.2.2.2.2.1,(),(),r5.2.2.1,r4.2.2.2.2.2.2.2.2.2.2.2.2.2.2.2.1,r4.2.2.2.2.2.2.2.2.2.2.2.2.2.2.1,r3.2.2.2.1,())))
 (cond (x1 == 2)
 ((F_k42 ((x1,x2,x3,x4,x5,x6,x7,x8,x9,()),()) ((x17,x18,()),(x14,x15,x16,()),x32,x25,x26,x27,x28,x29,x30,x31,())).bind fun r6 =>
 (F_k17 (x4,(r6.1.1,r6.1.2.1,()),()) ((x10,x11,x12,()),(r6.2.2.1.1,r6.2.2.1.2.1,r6.2.2.1.2.2.1,()),(),r6.2.2.2.2.1,r6.2.2.2.2.2.1,r6.2.2.2.2.2.2.1,r6.2.2.2.2.2.2.2.1,r6.2.2.2.2.2.2.2.2.1,r6.2.2.2.2.2.2.2.2.2.1,r6.2.2.2.2.2.2.2.2.2.2.2.1,(x13,()),x23,x24,())).bind fun r7 =>
 cond (r7.1 != 0)
 (K (true,(r7.2.1.1,r7.2.1.2.1,r7.2.1.2.2.1,()),(r7.2.2.2.2.2.2.2.2.2.2.2.1.1,()),(r7.2.2.1.1,r7.2.2.1.2.1,r7.2.2.1.2.2.1,()),(r6.2.1.1,r6.2.1.2.1,()),(x19,x20,x21,x22,()),(),r7.2.2.2.2.2.2.2.2.2.2.2.2.1,(),r7.2.2.2.2.1,r7.2.2.2.2.2.1,r7.2.2.2.2.2.2.1,r7.2.2.2.2.2.2.2.1,r7.2.2.2.2.2.2.2.2.1,r7.2.2.2.2.2.2.2.2.2.1,(),(),x33,r7.2.2.2.2.2.2.2.2.2.2.2.2.2.2.2.1,r7.2.2.2.2.2.2.2.2.2.2.2.2.2.2.1,r6.2.2.2.1,()))
 ((F_k39 (x4,ByteArray.empty,ByteArray.empty,()) ((x19,x20,x21,x22,()),x33,())).bind fun r8 =>
 K (r8.1,(r7.2.1.1,r7.2.1.2.1,r7.2.1.2.2.1,()),(r7.2.2.2.2.2.2.2.2.2.2.2.1.1,()),(r7.2.2.1.1,r7.2.2.1.2.1,r7.2.2.1.2.2.1,()),(r6.2.1.1,r6.2.1.2.1,()),(r8.2.1.1,r8.2.1.2.1,r8.2.1.2.2.1,r8.2.1.2.2.2.1,()),(),r7.2.2.2.2.2.2.2.2.2.2.2.2.1,(),r7.2.2.2.2.1,r7.2.2.2.2.2.1,r7.2.2.2.2.2.2.1,r7.2.2.2.2.2.2.2.1,r7.2.2.2.2.2.2.2.2.1,r7.2.2.2.2.2.2.2.2.2.1,(),(),r8.2.2.1,r7.2.2.2.2.2.2.2.2.2.2.2.2.2.2.2.1,r7.2.2.2.2.2.2.2.2.2.2.2.2.2.2.1,r6.2.2.2.1,())))
 (cond (x1 == 3)
 ((F_k13 () ((x10,x11,x12,()),(x14,x15,x16,()),(),x25,x26,x27,x28,x29,x30,x31,(x13,()),x23,x24,())).bind fun r9 =>
 cond (r9.1 != 0)
 (K (!x19,(r9.2.1.1,r9.2.1.2.1,r9.2.1.2.2.1,()),(r9.2.2.2.2.2.2.2.2.2.2.2.1.1,()),(r9.2.2.1.1,r9.2.2.1.2.1,r9.2.2.1.2.2.1,()),(x17,x18,()),(x19,x20,x21,x22,()),(),r9.2.2.2.2.2.2.2.2.2.2.2.2.1,(),r9.2.2.2.2.1,r9.2.2.2.2.2.1,r9.2.2.2.2.2.2.1,r9.2.2.2.2.2.2.2.1,r9.2.2.2.2.2.2.2.2.1,r9.2.2.2.2.2.2.2.2.2.1,(),(),x33,r9.2.2.2.2.2.2.2.2.2.2.2.2.2.2.1,r9.2.2.2.2.2.2.2.2.2.2.1,x32,()))
 ((F_k40 (Bool.true,()) ((x19,x20,x21,x22,()),(x17,x18,()),x33,x32,())).bind fun r10 =>
 K (r10.1,(r9.2.1.1,r9.2.1.2.1,r9.2.1.2.2.1,()),(r9.2.2.2.2.2.2.2.2.2.2.2.1.1,()),(r9.2.2.1.1,r9.2.2.1.2.1,r9.2.2.1.2.2.1,()),(r10.2.2.1.1,r10.2.2.1.2.1,()),(r10.2.1.1,r10.2.1.2.1,r10.2.1.2.2.1,r10.2.1.2.2.2.1,()),(),r9.2.2.2.2.2.2.2.2.2.2.2.2.1,(),r9.2.2.2.2.1,r9.2.2.2.2.2.1,r9.2.2.2.2.2.2.1,r9.2.2.2.2.2.2.2.1,r9.2.2.2.2.2.2.2.2.1,r9.2.2.2.2.2.2.2.2.2.1,(),(),r10.2.2.2.1,r9.2.2.2.2.2.2.2.2.2.2.2.2.2.2.1,r9.2.2.2.2.2.2.2.2.2.2.1,r10.2.2.2.2.2.1,())))
 (cond (x1 == 4)
 ((F_k42 ((x1,x2,x3,x20,x5,x6,x7,x8,x9,()),()) ((x17,x18,()),(x14,x15,x16,()),x32,x25,x26,x27,x28,x29,x30,x31,())).bind fun r11 =>
 (F_k16 ((r11.1.1,r11.1.2.1,()),()) ((x10,x11,x12,()),(r11.2.2.1.1,r11.2.2.1.2.1,r11.2.2.1.2.2.1,()),(),r11.2.2.2.2.1,r11.2.2.2.2.2.1,r11.2.2.2.2.2.2.1,r11.2.2.2.2.2.2.2.1,r11.2.2.2.2.2.2.2.2.1,r11.2.2.2.2.2.2.2.2.2.1,r11.2.2.2.2.2.2.2.2.2.2.2.1,(x13,()),x23,x24,())).bind fun r12 =>
 cond (r12.1.2.1 != 0)
 (K (!r12.1.1,(r12.2.1.1,r12.2.1.2.1,r12.2.1.2.2.1,()),(r12.2.2.2.2.2.2.2.2.2.2.2.1.1,()),(r12.2.2.1.1,r12.2.2.1.2.1,r12.2.2.1.2.2.1,()),(r11.2.1.1,r11.2.1.2.1,()),(x19,x20,x21,x22,()),(),r12.2.2.2.2.2.2.2.2.2.2.2.2.1,(),r12.2.2.2.2.1,r12.2.2.2.2.2.1,r12.2.2.2.2.2.2.1,r12.2.2.2.2.2.2.2.1,r12.2.2.2.2.2.2.2.2.1,r12.2.2.2.2.2.2.2.2.2.1,(),(),x33,r12.2.2.2.2.2.2.2.2.2.2.2.2.2.2.1,r12.2.2.2.2.2.2.2.2.2.2.1,r11.2.2.2.1,()))
 ((F_k40 (r12.1.1,()) ((x19,x20,x21,x22,()),(r11.2.1.1,r11.2.1.2.1,()),x33,r11.2.2.2.1,())).bind fun r13 =>
 K (r13.1,(r12.2.1.1,r12.2.1.2.1,r12.2.1.2.2.1,()),(r12.2.2.2.2.2.2.2.2.2.2.2.1.1,()),(r12.2.2.1.1,r12.2.2.1.2.1,r12.2.2.1.2.2.1,()),(r13.2.2.1.1,r13.2.2.1.2.1,()),(r13.2.1.1,r13.2.1.2.1,r13.2.1.2.2.1,r13.2.1.2.2.2.1,()),(),r12.2.2.2.2.2.2.2.2.2.2.2.2.1,(),r12.2.2.2.2.1,r12.2.2.2.2.2.1,r12.2.2.2.2.2.2.1,r12.2.2.2.2.2.2.2.1,r12.2.2.2.2.2.2.2.2.1,r12.2.2.2.2.2.2.2.2.2.1,(),(),r13.2.2.2.1,r12.2.2.2.2.2.2.2.2.2.2.2.2.2.2.1,r12.2.2.2.2.2.2.2.2.2.2.1,r13.2.2.2.2.2.1,())))
 (cond (x1 == 5)
 (cond (x19)
 ((F_k41 (x20,x22,()) ((x17,x18,()),x32,())).bind fun r14 =>
 K (true,(x10,x11,x12,()),(x13,()),(x14,x15,x16,()),(r14.2.1.1,r14.2.1.2.1,()),(x19,x20,x21,x22,()),(),x23,(),x25,x26,x27,x28,x29,x30,(),(),x33,x24,x31,r14.2.2.2.1,()))
 (K (true,(x10,x11,x12,()),(x13,()),(x14,x15,x16,()),(x17,x18,()),(x19,x20,x21,x22,()),(),x23,(),x25,x26,x27,x28,x29,x30,(),(),x33,x24,x31,x32,())))
 (cond (x1 == 6)
 ((F_k0 (x9,()) ((x13,()),x23,x24,())).bind fun r15 =>
 K (true,(x10,x11,x12,()),(r15.2.1.1,()),(x14,x15,x16,()),(x17,x18,()),(x19,x20,x21,x22,()),(),r15.2.2.1,(),x25,x26,x27,x28,x29,x30,(),(),x33,r15.2.2.2.2.1,x31,x32,()))
 (K (true,(x10,x11,x12,()),(x13,()),(x14,x15,x16,()),(x17,x18,()),(x19,x20,x21,x22,()),(),x23,(),x25,x26,x27,x28,x29,x30,(),(),x33,x24,x31,x32,()))))))))
noncomputable def F_k36:A_k36→M_k36→Option O_k36:=fun a b=>tree_k36 F_k42 F_k15 F_k19 F_k39 F_k17 F_k13 F_k40 F_k16 F_k41 F_k0 a.1.1 a.1.2.1 a.1.2.2.1 a.1.2.2.2.1 a.1.2.2.2.2.1 a.1.2.2.2.2.2.1 a.1.2.2.2.2.2.2.1 a.1.2.2.2.2.2.2.2.1 a.1.2.2.2.2.2.2.2.2.1 b.1.1 b.1.2.1 b.1.2.2.1 b.2.1.1 b.2.2.1.1 b.2.2.1.2.1 b.2.2.1.2.2.1 b.2.2.2.1.1 b.2.2.2.1.2.1 b.2.2.2.2.1.1 b.2.2.2.2.1.2.1 b.2.2.2.2.1.2.2.1 b.2.2.2.2.1.2.2.2.1 b.2.2.2.2.2.2.1 b.2.2.2.2.2.2.2.1 b.2.2.2.2.2.2.2.2.1 b.2.2.2.2.2.2.2.2.2.1 b.2.2.2.2.2.2.2.2.2.2.1 b.2.2.2.2.2.2.2.2.2.2.2.1 b.2.2.2.2.2.2.2.2.2.2.2.2.1 b.2.2.2.2.2.2.2.2.2.2.2.2.2.1 b.2.2.2.2.2.2.2.2.2.2.2.2.2.2.1 b.2.2.2.2.2.2.2.2.2.2.2.2.2.2.2.1 b.2.2.2.2.2.2.2.2.2.2.2.2.2.2.2.2.1 some
theorem n_k36 (F_k42:B_k42) (F_k15:B_k15) (F_k19:B_k19) (F_k39:B_k39) (F_k17:B_k17) (F_k13:B_k13) (F_k40:B_k40) (F_k16:B_k16) (F_k41:B_k41) (F_k0:B_k0) (x1 x2 x3 x4 x5 x6 x7 x8 x9 x10 x11 x12 x13 x14 x15 x16 x17 x18 x19 x20 x21 x22 x23 x24 x25 x26 x27 x28 x29 x30 x31 x32 x33) {α:Type} (K:O_k36→Option α):tree_k36 F_k42 F_k15 F_k19 F_k39 F_k17 F_k13 F_k40 F_k16 F_k41 F_k0 x1 x2 x3 x4 x5 x6 x7 x8 x9 x10 x11 x12 x13 x14 x15 x16 x17 x18 x19 x20 x21 x22 x23 x24 x25 x26 x27 x28 x29 x30 x31 x32 x33 K = (tree_k36 F_k42 F_k15 F_k19 F_k39 F_k17 F_k13 F_k40 F_k16 F_k41 F_k0 x1 x2 x3 x4 x5 x6 x7 x8 x9 x10 x11 x12 x13 x14 x15 x16 x17 x18 x19 x20 x21 x22 x23 x24 x25 x26 x27 x28 x29 x30 x31 x32 x33 some).bind K:=by simp only [tree_k36,bind_cond,bind_none',bind_some',bind_bind',bind_sum]
end Go.Proofs.Ytljfdfghagiblaa.S2
