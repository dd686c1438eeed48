/- Plain forms of the program's functions,by program. -/
import Derived.Test.YtljfdfghagiblaaGlaw23
set_option maxRecDepth 100000
set_option maxHeartbeats 0
set_option linter.unusedVariables false
set_option linter.unusedSimpArgs false
namespace Go.Proofs.Ytljfdfghagiblaa.S2
open Go
def args_k35:SkL:=(.cons lL (.cons lI (.cons (.leaf (.slc 65 (.cons (.int .i64) (.cons (.int .i64) (.cons (.int .i64) (.cons (.int .u64) (.cons (.int .u64) (.cons .str (.cons .str (.cons (.slc 41 (.cons (.int .u64) .nil)) (.cons (.slc 3 (.cons (.int .i64) .nil)) .nil))))))))))) .nil)))
def mem_k35:MSk:=[]
def outs_k35:List OutC:=[⟨lB,[]⟩]
abbrev A_k35:Type:=(List Int×Int×(List (Int×Int×Int×Int×Int×ByteArray×ByteArray×List Int×List Int))×Unit)
abbrev M_k35:Type:=Unit
abbrev O_k35:Type:=Bool×Unit
abbrev B_k35:=A_k35→M_k35→Option O_k35
def ltmps_k35_9:SkL:=(dz 2 (.cons (.leaf (.slc 65 (.cons (.int .i64) (.cons (.int .i64) (.cons (.int .i64) (.cons (.int .u64) (.cons (.int .u64) (.cons .str (.cons .str (.cons (.slc 41 (.cons (.int .u64) .nil)) (.cons (.slc 3 (.cons (.int .i64) .nil)) .nil))))))))))) (dz 4 (.cons (cP 1641) (.cons (cP 1769) (.cons (cP 1770) (.cons (cP 1771) (dz 2 (.cons (cP 2344) (.cons (cP 2504) (.cons lI (dz 74 .nil))))))))))))
def lmem_k35_9:MSk:=[(600,qg),(700,qf),(701,.row 23 (.cons (.slc 9 (.cons .str .nil)) .nil)),(1641,.cells (.cons lL (.cons lI (.cons lB (.cons (cM 1642) (.cons (cM 1643) (.cons (cM 1644) (.cons (cM 1645) (.cons (cM 1646) (.cons (cM 1647) (.cons (cW 700) .nil))))))))))),(1642,qa),(1643,qa),(1644,qb),(1645,qc),(1646,qd),(1647,qe),(1769,.cells (.cons (cP 1641) (.cons (cP 1770) (.cons lU (.cons lU (.cons lI .nil)))))),(1770,.cells (.cons (cP 1771) .nil)),(1771,.cells (.cons lI (.cons (cW 1772) (.cons (cW 600) .nil)))),(1772,qf),(2280,qf),(2344,.cells (.cons (cW 2280) (.cons lB (.cons lU (.cons lS (.cons lS .nil)))))),(2504,.cells (.cons lI (.cons (.leaf (.slc 9 (.cons .str .nil))) (.cons (cW 701) .nil))))]
def louts_k35_9:List OutL:=[⟨.ret,(dz 6 (.cons lB (dz 2 (.cons (cP 1770) (dz 3 (.cons (cP 2344) (dz 76 .nil))))))),[(1770,.cells (.cons (cP 1771) .nil)),(1771,.cells (.cons lI (.cons (cW 1772) (.cons (cW 3177) .nil)))),(1772,qf),(2280,qf),(2344,.cells (.cons (cW 2280) (.cons lB (.cons lU (.cons lS (.cons lS .nil)))))),(3177,qg)]⟩,⟨(.exit 0),(dz 9 (.cons (cP 1770) (dz 3 (.cons (cP 2344) (dz 76 .nil))))),[(600,qg),(1770,.cells (.cons (cP 1771) .nil)),(1771,.cells (.cons lI (.cons (cW 1772) (.cons (cW 600) .nil)))),(1772,qf),(2280,qf),(2344,.cells (.cons (cW 2280) (.cons lB (.cons lU (.cons lS (.cons lS .nil))))))]⟩]
abbrev LT_k35_9:Type:=((List (Int×Int×Int×Int×Int×ByteArray×ByteArray×List Int×List Int))×Int×Unit)
abbrev LM_k35_9:Type:=(Y6×Yb×Yl×Yd×Y1×Y1×Y2×Y3×Y4×Y5×(Int×Int×Int×Unit)×Unit×(Int×Unit)×Yb×Yb×(Bool×Int×ByteArray×ByteArray×Unit)×(Int×Yb×Unit)×Unit)
abbrev LO_k35_9:Type:=((Bool×Unit)×(Unit×(Int×Unit)×Yb×Yb×(Bool×Int×ByteArray×ByteArray×Unit)×Y6×Unit)) ⊕ (Unit×(Y6×Unit×(Int×Unit)×Yb×Yb×(Bool×Int×ByteArray×ByteArray×Unit)×Unit))
def ltree_k35_9 (F_k36:B_k36) (F_k29:B_k29) {α:Type} (x1:List (Int×Int×Int×Int×Int×ByteArray×ByteArray×List Int×List Int)) (x2:Int) (x3:Y6) (x4:Yb) (x5:Yl) (x6:List Int) (x7:Int) (x8:Bool) (x9:Y1) (x10:Y1) (x11:Y2) (x12:Y3) (x13:Y4) (x14:Y5) (x15:Int) (x16:Int) (x17:Int) (x18:Int) (x19:Yb) (x20:Yb) (x21:Bool) (x22:Int) (x23:ByteArray) (x24:ByteArray) (x25:Int) (x26:Yb) (kn:LT_k35_9→LM_k35_9→Option α) (kr:LO_k35_9→Option α):Option α :=
 cond (decide (x2 < (↑x1.length:Int)))
 (cond (decide (x2 < 40))
 (cond (decide (0≤x2))
 (cond (decide (x2 < (↑x1.length:Int)))
 ((F_k36 (((x1.getD x2.toNat (0,0,0,0,0,ByteArray.empty,ByteArray.empty,[],[])).1,(x1.getD x2.toNat (0,0,0,0,0,ByteArray.empty,ByteArray.empty,[],[])).2.1,(x1.getD x2.toNat (0,0,0,0,0,ByteArray.empty,ByteArray.empty,[],[])).2.2.1,(x1.getD x2.toNat (0,0,0,0,0,ByteArray.empty,ByteArray.empty,[],[])).2.2.2.1,(x1.getD x2.toNat (0,0,0,0,0,ByteArray.empty,ByteArray.empty,[],[])).2.2.2.2.1,(x1.getD x2.toNat (0,0,0,0,0,ByteArray.empty,ByteArray.empty,[],[])).2.2.2.2.2.1,(x1.getD x2.toNat (0,0,0,0,0,ByteArray.empty,ByteArray.empty,[],[])).2.2.2.2.2.2.1,(x1.getD x2.toNat (0,0,0,0,0,ByteArray.empty,ByteArray.empty,[],[])).2.2.2.2.2.2.2.1,(x1.getD x2.toNat (0,0,0,0,0,ByteArray.empty,ByteArray.empty,[],[])).2.2.2.2.2.2.2.2,()),()) ((x15,x16,x17,()),(x18,()),(x6,x7,x8,()),(x25,x26,()),(x21,x22,x23,x24,()),(),x19,x3,x9,x10,x11,x12,x13,x14,x4,x5,x20,())).bind fun r1 =>
 cond (!r1.1)
 ((F_k29 () ((r1.2.2.2.1.1,r1.2.2.2.1.2.1,r1.2.2.2.1.2.2.1,()),r1.2.2.2.2.2.2.2.2.2.1,r1.2.2.2.2.2.2.2.2.2.2.1,r1.2.2.2.2.2.2.2.2.2.2.2.1,r1.2.2.2.2.2.2.2.2.2.2.2.2.1,r1.2.2.2.2.2.2.2.2.2.2.2.2.2.1,r1.2.2.2.2.2.2.2.2.2.2.2.2.2.2.1,r1.2.2.2.2.2.2.2.2.2.2.2.2.2.2.2.2.2.2.2.1,())).bind fun r2 =>
 kr (.inl ((r2.1,()),(),(r1.2.2.1.1,()),r1.2.2.2.2.2.2.2.1,r1.2.2.2.2.2.2.2.2.2.2.2.2.2.2.2.2.2.1,(r1.2.2.2.2.2.1.1,r1.2.2.2.2.2.1.2.1,r1.2.2.2.2.2.1.2.2.1,r1.2.2.2.2.2.1.2.2.2.1,()),r1.2.2.2.2.2.2.2.2.2.2.2.2.2.2.2.2.2.2.1,())))
 ((F_k29 () ((r1.2.2.2.1.1,r1.2.2.2.1.2.1,r1.2.2.2.1.2.2.1,()),r1.2.2.2.2.2.2.2.2.2.1,r1.2.2.2.2.2.2.2.2.2.2.1,r1.2.2.2.2.2.2.2.2.2.2.2.1,r1.2.2.2.2.2.2.2.2.2.2.2.2.1,r1.2.2.2.2.2.2.2.2.2.2.2.2.2.1,r1.2.2.2.2.2.2.2.2.2.2.2.2.2.2.1,r1.2.2.2.2.2.2.2.2.2.2.2.2.2.2.2.2.2.2.2.1,())).bind fun r3 =>
 cond (r3.1)
 (kr (.inl ((true,()),(),(r1.2.2.1.1,()),r1.2.2.2.2.2.2.2.1,r1.2.2.2.2.2.2.2.2.2.2.2.2.2.2.2.2.2.1,(r1.2.2.2.2.2.1.1,r1.2.2.2.2.2.1.2.1,r1.2.2.2.2.2.1.2.2.1,r1.2.2.2.2.2.1.2.2.2.1,()),r1.2.2.2.2.2.2.2.2.2.2.2.2.2.2.2.2.2.2.1,())))
 (kn (x1,IntKind.i64.wrap (x2 + 1),()) (r1.2.2.2.2.2.2.2.2.2.2.2.2.2.2.2.2.2.2.1,r1.2.2.2.2.2.2.2.2.2.2.2.2.2.2.2.2.2.2.2.1,r1.2.2.2.2.2.2.2.2.2.2.2.2.2.2.2.2.2.2.2.2.1,(r1.2.2.2.1.1,r1.2.2.2.1.2.1,r1.2.2.2.1.2.2.1,()),r1.2.2.2.2.2.2.2.2.2.1,r1.2.2.2.2.2.2.2.2.2.2.1,r1.2.2.2.2.2.2.2.2.2.2.2.1,r1.2.2.2.2.2.2.2.2.2.2.2.2.1,r1.2.2.2.2.2.2.2.2.2.2.2.2.2.1,r1.2.2.2.2.2.2.2.2.2.2.2.2.2.2.1,(r1.2.1.1,r1.2.1.2.1,r1.2.1.2.2.1,()),(),(r1.2.2.1.1,()),r1.2.2.2.2.2.2.2.1,r1.2.2.2.2.2.2.2.2.2.2.2.2.2.2.2.2.2.1,(r1.2.2.2.2.2.1.1,r1.2.2.2.2.2.1.2.1,r1.2.2.2.2.2.1.2.2.1,r1.2.2.2.2.2.1.2.2.2.1,()),(r1.2.2.2.2.1.1,r1.2.2.2.2.1.2.1,()),()))))
 (none))
 (none))
 (kr (.inr ((),x3,(),(x18,()),x19,x20,(x21,x22,x23,x24,()),()))))
 (kr (.inr ((),x3,(),(x18,()),x19,x20,(x21,x22,x23,x24,()),())))
noncomputable def L_k35_9:LT_k35_9→LM_k35_9→Option LO_k35_9:=fun x y=>runL (fun p=>(fun (a:LT_k35_9) (b:LM_k35_9)=>ltree_k35_9 F_k36 F_k29 a.1 a.2.1 b.1 b.2.1 b.2.2.1 b.2.2.2.1.1 b.2.2.2.1.2.1 b.2.2.2.1.2.2.1 b.2.2.2.2.1 b.2.2.2.2.2.1 b.2.2.2.2.2.2.1 b.2.2.2.2.2.2.2.1 b.2.2.2.2.2.2.2.2.1 b.2.2.2.2.2.2.2.2.2.1 b.2.2.2.2.2.2.2.2.2.2.1.1 b.2.2.2.2.2.2.2.2.2.2.1.2.1 b.2.2.2.2.2.2.2.2.2.2.1.2.2.1 b.2.2.2.2.2.2.2.2.2.2.2.2.1.1 b.2.2.2.2.2.2.2.2.2.2.2.2.2.1 b.2.2.2.2.2.2.2.2.2.2.2.2.2.2.1 b.2.2.2.2.2.2.2.2.2.2.2.2.2.2.2.1.1 b.2.2.2.2.2.2.2.2.2.2.2.2.2.2.2.1.2.1 b.2.2.2.2.2.2.2.2.2.2.2.2.2.2.2.1.2.2.1 b.2.2.2.2.2.2.2.2.2.2.2.2.2.2.2.1.2.2.2.1 b.2.2.2.2.2.2.2.2.2.2.2.2.2.2.2.2.1.1 b.2.2.2.2.2.2.2.2.2.2.2.2.2.2.2.2.1.2.1 (fun a' b'=>some (.inl (a',b'))) fun r=>some (.inr r)) p.1 p.2) (x,y)
theorem nl_k35_9 (F_k36:B_k36) (F_k29:B_k29) (x1 x2 x3 x4 x5 x6 x7 x8 x9 x10 x11 x12 x13 x14 x15 x16 x17 x18 x19 x20 x21 x22 x23 x24 x25 x26) {α:Type} (kn:LT_k35_9→LM_k35_9→Option α) (kr:LO_k35_9→Option α):ltree_k35_9 F_k36 F_k29 x1 x2 x3 x4 x5 x6 x7 x8 x9 x10 x11 x12 x13 x14 x15 x16 x17 x18 x19 x20 x21 x22 x23 x24 x25 x26 kn kr = (ltree_k35_9 F_k36 F_k29 x1 x2 x3 x4 x5 x6 x7 x8 x9 x10 x11 x12 x13 x14 x15 x16 x17 x18 x19 x20 x21 x22 x23 x24 x25 x26 (fun a b=>some (.inl (a,b))) fun r=>some (.inr r)).bind (Sum.elim (fun p:LT_k35_9×LM_k35_9=>kn p.1 p.2) kr):=by simp only [ltree_k35_9,bind_cond,bind_none',bind_some',bind_bind',bind_sum,Sum.elim_inl,Sum.elim_inr]
theorem Le_k35_9 (x1 x2 x3 x4 x5 x6 x7 x8 x9 x10 x11 x12 x13 x14 x15 x16 x17 x18 x19 x20 x21 x22 x23 x24 x25 x26):L_k35_9 (x1,x2,()) (x3,x4,x5,(x6,x7,x8,()),x9,x10,x11,x12,x13,x14,(x15,x16,x17,()),(),(x18,()),x19,x20,(x21,x22,x23,x24,()),(x25,x26,()),()) = ltree_k35_9 F_k36 F_k29 x1 x2 x3 x4 x5 x6 x7 x8 x9 x10 x11 x12 x13 x14 x15 x16 x17 x18 x19 x20 x21 x22 x23 x24 x25 x26 L_k35_9 some:=runL_tree (A:=LT_k35_9) (B:=LM_k35_9) (R:=LO_k35_9) (fun a b kn kr=>ltree_k35_9 F_k36 F_k29 a.1 a.2.1 b.1 b.2.1 b.2.2.1 b.2.2.2.1.1 b.2.2.2.1.2.1 b.2.2.2.1.2.2.1 b.2.2.2.2.1 b.2.2.2.2.2.1 b.2.2.2.2.2.2.1 b.2.2.2.2.2.2.2.1 b.2.2.2.2.2.2.2.2.1 b.2.2.2.2.2.2.2.2.2.1 b.2.2.2.2.2.2.2.2.2.2.1.1 b.2.2.2.2.2.2.2.2.2.2.1.2.1 b.2.2.2.2.2.2.2.2.2.2.1.2.2.1 b.2.2.2.2.2.2.2.2.2.2.2.2.1.1 b.2.2.2.2.2.2.2.2.2.2.2.2.2.1 b.2.2.2.2.2.2.2.2.2.2.2.2.2.2.1 b.2.2.2.2.2.2.2.2.2.2.2.2.2.2.2.1.1 b.2.2.2.2.2.2.2.2.2.2.2.2.2.2.2.1.2.1 b.2.2.2.2.2.2.2.2.2.2.2.2.2.2.2.1.2.2.1 b.2.2.2.2.2.2.2.2.2.2.2.2.2.2.2.1.2.2.2.1 b.2.2.2.2.2.2.2.2.2.2.2.2.2.2.2.2.1.1 b.2.2.2.2.2.2.2.2.2.2.2.2.2.2.2.2.1.2.1 kn kr) (fun a b kn kr=>nl_k35_9 F_k36 F_k29 a.1 a.2.1 b.1 b.2.1 b.2.2.1 b.2.2.2.1.1 b.2.2.2.1.2.1 b.2.2.2.1.2.2.1 b.2.2.2.2.1 b.2.2.2.2.2.1 b.2.2.2.2.2.2.1 b.2.2.2.2.2.2.2.1 b.2.2.2.2.2.2.2.2.1 b.2.2.2.2.2.2.2.2.2.1 b.2.2.2.2.2.2.2.2.2.2.1.1 b.2.2.2.2.2.2.2.2.2.2.1.2.1 b.2.2.2.2.2.2.2.2.2.2.1.2.2.1 b.2.2.2.2.2.2.2.2.2.2.2.2.1.1 b.2.2.2.2.2.2.2.2.2.2.2.2.2.1 b.2.2.2.2.2.2.2.2.2.2.2.2.2.2.1 b.2.2.2.2.2.2.2.2.2.2.2.2.2.2.2.1.1 b.2.2.2.2.2.2.2.2.2.2.2.2.2.2.2.1.2.1 b.2.2.2.2.2.2.2.2.2.2.2.2.2.2.2.1.2.2.1 b.2.2.2.2.2.2.2.2.2.2.2.2.2.2.2.1.2.2.2.1 b.2.2.2.2.2.2.2.2.2.2.2.2.2.2.2.2.1.1 b.2.2.2.2.2.2.2.2.2.2.2.2.2.2.2.2.1.2.1 kn kr) (x1,x2,()) (x3,x4,x5,(x6,x7,x8,()),x9,x10,x11,x12,x13,x14,(x15,x16,x17,()),(),(x18,()),x19,x20,(x21,x22,x23,x24,()),(x25,x26,()),())
def tree_k35 (F_k28:B_k28) (F_k38:B_k38) (F_k37:B_k37) (F_k72:B_k72) (L_k35_9:LT_k35_9→LM_k35_9→Option LO_k35_9) {α:Type} (x1:List Int) (x2:Int) (x3:List (Int×Int×Int×Int×Int×ByteArray×ByteArray×List Int×List Int)) (K:O_k35→Option α):Option α :=
 (F_k28 (x1,()) ()).bind fun r1 =>
 (F_k38 (x2,()) ((r1.2.1.1,r1.2.1.2.1,r1.2.1.2.2.1,()),r1.2.2.1,r1.2.2.2.1,r1.2.2.2.2.1,r1.2.2.2.2.2.1,r1.2.2.2.2.2.2.1,r1.2.2.2.2.2.2.2.1,r1.2.2.2.2.2.2.2.2.1,())).bind fun r2 =>
 Sum.elim (fun u3 =>
 (F_k37 () ()).bind fun r4 =>
 cond (!r4.1)
 ((F_k37 () ()).bind fun r5 =>
 K (r5.1,()))
 (cond (!u3.1.1)
 ((F_k37 () ()).bind fun r6 =>
 K (r6.1,()))
 (cond (decide (0≤IntKind.u64.wrap x2))
 (cond (decide (0≤IntKind.i64.wrap (1 * 2 ^ Min.min (IntKind.u64.wrap x2).toNat 64)))
 (cond (decide (IntKind.i64.wrap (1 * 2 ^ Min.min (IntKind.u64.wrap x2).toNat 64)≤IntKind.i64.wrap (1 * 2 ^ Min.min (IntKind.u64.wrap x2).toNat 64)))
 (cond (decide (IntKind.i64.wrap (1 * 2 ^ Min.min (IntKind.u64.wrap x2).toNat 64) * 16≤140737488355328))
 (cond (decide (0≤IntKind.i64.wrap (1 * 2 ^ Min.min (IntKind.u64.wrap x2).toNat 64)))
 (cond (decide (IntKind.i64.wrap (1 * 2 ^ Min.min (IntKind.u64.wrap x2).toNat 64)≤IntKind.i64.wrap (1 * 2 ^ Min.min (IntKind.u64.wrap x2).toNat 64)))
 (cond (decide (IntKind.i64.wrap (1 * 2 ^ Min.min (IntKind.u64.wrap x2).toNat 64) * 16≤140737488355328))
 ((L_k35_9 (x3,0,()) (u3.2.2.2.2.2.2.2.2.2.2.2.2.2.1,u3.2.2.2.2.2.2.2.2.1,[],(u3.2.1.1,u3.2.1.2.1,u3.2.1.2.2.1,()),u3.2.2.1,u3.2.2.2.1,u3.2.2.2.2.1,u3.2.2.2.2.2.1,u3.2.2.2.2.2.2.1,u3.2.2.2.2.2.2.2.1,(u3.2.2.2.2.2.2.2.2.2.1.1,u3.2.2.2.2.2.2.2.2.2.1.2.1,u3.2.2.2.2.2.2.2.2.2.1.2.2.1,()),(),(u3.2.2.2.2.2.2.2.2.2.2.2.1.1,()),u3.2.2.2.2.2.2.2.2.2.2.2.2.1,List.replicate (IntKind.i64.wrap (1 * 2 ^ Min.min (IntKind.u64.wrap x2).toNat 64)).toNat ByteArray.empty,(Bool.false,0,ByteArray.empty,ByteArray.empty,()),(x2,List.replicate (IntKind.i64.wrap (1 * 2 ^ Min.min (IntKind.u64.wrap x2).toNat 64)).toNat ByteArray.empty,()),())).bind fun r7 =>
 Sum.elim (fun u8 =>
 K (u8.1.1,()))
 (fun u8 =>
 (F_k72 () ((),(u8.2.2.2.1.1,()),u8.2.2.2.2.1,u8.2.1,())).bind fun r9 =>
 cond (r9.1.2.1)
 (K ((r9.1.1.2.2.1 == 1) == u8.2.2.2.2.2.2.1.1,()))
 (K (false,()))) (r7))
 (none))
 (none))
 (none))
 (none))
 (none))
 (none))
 (none))))
 (fun u3 =>
 (F_k37 () ()).bind fun r10 =>
 cond (!r10.1)
 ((F_k37 () ()).bind fun r11 =>
 K (r11.1,()))
 ((F_k37 () ()).bind fun r12 =>
 K (r12.1,()))) (r2)
noncomputable def F_k35:A_k35→M_k35→Option O_k35:=fun a b=>tree_k35 F_k28 F_k38 F_k37 F_k72 L_k35_9 a.1 a.2.1 a.2.2.1 some
theorem n_k35 (F_k28:B_k28) (F_k38:B_k38) (F_k37:B_k37) (F_k72:B_k72) (L_k35_9:LT_k35_9→LM_k35_9→Option LO_k35_9) (x1 x2 x3) {α:Type} (K:O_k35→Option α):tree_k35 F_k28 F_k38 F_k37 F_k72 L_k35_9 x1 x2 x3 K = (tree_k35 F_k28 F_k38 F_k37 F_k72 L_k35_9 x1 x2 x3 some).bind K:=by simp only [tree_k35,bind_cond,bind_none',bind_some',bind_bind',bind_sum]
end Go.Proofs.Ytljfdfghagiblaa.S2
