/- Plain forms of the program's functions,by program. -/
import Derived.Test.YtljfdfghagiblaaGmerkle0
set_option maxRecDepth 100000
set_option maxHeartbeats 0
set_option linter.unusedVariables false
set_option linter.unusedSimpArgs false
namespace Go.Proofs.Ytljfdfghagiblaa.S2
open Go
def args_k48:SkL:=(.cons (cP 0) (.cons lL .nil))
def mem_k48:MSk:=[(0,.cells (.cons lL (.cons lI (.cons lB (.cons (cM 1) (.cons (cM 2) (.cons (cM 3) (.cons (cM 4) (.cons (cM 5) (.cons (cM 6) (.cons (cW 7) .nil))))))))))),(1,qa),(2,qa),(3,qb),(4,qc),(5,qd),(6,qe),(7,qf)]
def outs_k48:List OutC:=[⟨lL,[(0,.cells (.cons lL (.cons lI (.cons lB (.cons (cM 1) (.cons (cM 2) (.cons (cM 3) (.cons (cM 4) (.cons (cM 5) (.cons (cM 6) (.cons (cW 7) .nil))))))))))),(1,qa),(2,qa),(3,qb),(4,qc),(5,qd),(6,qe),(7,qf)]⟩]
abbrev A_k48:Type:=(List Int×Unit)
abbrev M_k48:Type:=(Yd×Y1×Y1×Y2×Y3×Y4×Y5×Yb×Unit)
abbrev O_k48:Type:=List Int×(Yd×Y1×Y1×Y2×Y3×Y4×Y5×Yb×Unit)
abbrev B_k48:=A_k48→M_k48→Option O_k48
def foldA (N:A_k46→M_k46→Option O_k46):Y1→M_k46→List Int→Option O_k48
 | [],b,acc=>some (acc,b)
 | x :: l,b,acc=>(N (x.1,x.2,()) b).bind fun r=>foldA N l r.2 (acc ++ [r.1])
def pairsA (zs:List Int):Y1:=(List.range (zs.length / 2)).map fun k=>(zs.getD (2 * k) 0,zs.getD (2 * k + 1) 0)
def okA (zs:List Int) (d:Int):Bool:=decide (zs.length % 2 = 0) && decide (zs.length * 8≤140737488351232) && decide (0≤d) && decide (d≤4611686018427387904) && zs.all fun z=>decide (0≤z) && decide (z≤18446744073709551615)
noncomputable def F_k48:A_k48→M_k48→Option O_k48:=fun a b=>cond (okA a.1 b.1.2.1) (foldA F_k46 (pairsA a.1) b []) none
def args_k43:SkL:=(.cons (cP 0) (.cons lI (.cons (.leaf (.slc 9 (.cons .str .nil))) .nil)))
def mem_k43:MSk:=[(0,.cells (.cons lL (.cons lI (.cons lB (.cons (cM 1) (.cons (cM 2) (.cons (cM 3) (.cons (cM 4) (.cons (cM 5) (.cons (cM 6) (.cons (cW 7) .nil))))))))))),(1,qa),(2,qa),(3,qb),(4,qc),(5,qd),(6,qe),(7,qf)]
def outs_k43:List OutC:=[⟨(.tup (.cons (.leaf (.slc 22 (.cons (.slc 41 (.cons (.int .u64) .nil)) .nil))) (.cons lB .nil))),[(0,.cells (.cons lL (.cons lI (.cons lB (.cons (cM 1) (.cons (cM 2) (.cons (cM 3) (.cons (cM 4) (.cons (cM 5) (.cons (cM 6) (.cons (cW 7) .nil))))))))))),(1,qa),(2,qa),(3,qb),(4,qc),(5,qd),(6,qe),(7,qf)]⟩]
abbrev A_k43:Type:=(Int×Yb×Unit)
abbrev M_k43:Type:=(Yd×Y1×Y1×Y2×Y3×Y4×Y5×Yb×Unit)
abbrev O_k43:Type:=(List (List Int)×Bool×Unit)×(Yd×Y1×Y1×Y2×Y3×Y4×Y5×Yb×Unit)
abbrev B_k43:=A_k43→M_k43→Option O_k43
def ltmps_k43_5:SkL:=(.cons (cP 0) (.cons lI (.cons (.leaf (.slc 9 (.cons .str .nil))) (dz 5 (.cons (cW 508) (dz 17 (.cons lI (.cons lI (dz 31 .nil)))))))))
def lmem_k43_5:MSk:=[(0,.cells (.cons lL (.cons lI (.cons lB (.cons (cM 1) (.cons (cM 2) (.cons (cM 3) (.cons (cM 4) (.cons (cM 5) (.cons (cM 6) (.cons (cW 7) .nil))))))))))),(1,qa),(2,qa),(3,qb),(4,qc),(5,qd),(6,qe),(7,qf),(508,.row 41 (.cons (.int .u64) .nil))]
def louts_k43_5:List OutL:=[⟨(.exit 0),(.cons (cP 0) (.cons lI (dz 6 (.cons (cW 508) (dz 50 .nil))))),[(0,.cells (.cons lL (.cons lI (.cons lB (.cons (cM 1) (.cons (cM 2) (.cons (cM 3) (.cons (cM 4) (.cons (cM 5) (.cons (cM 6) (.cons (cW 7) .nil))))))))))),(1,qa),(2,qa),(3,qb),(4,qc),(5,qd),(6,qe),(7,qf),(508,.row 41 (.cons (.int .u64) .nil))]⟩]
abbrev LT_k43_5:Type:=(Int×Yb×Int×Int×Unit)
abbrev LM_k43_5:Type:=(Yd×Y1×Y1×Y2×Y3×Y4×Y5×Yb×List Int×Unit)
abbrev LO_k43_5:Type:=(Int×Unit)×(Yd×Y1×Y1×Y2×Y3×Y4×Y5×Yb×List Int×Unit)
def ltree_k43_5 (F_k45:B_k45) {α:Type} (x1:Int) (x2:Yb) (x3:Int) (x4:Int) (x5:List Int) (x6:Int) (x7:Bool) (x8:Y1) (x9:Y1) (x10:Y2) (x11:Y3) (x12:Y4) (x13:Y5) (x14:Yb) (x15:List Int) (kn:LT_k43_5→LM_k43_5→Option α) (kr:LO_k43_5→Option α):Option α :=
 cond (decide (x4 < x3))
 (cond (decide (x4 < (↑x2.length:Int)))
 (cond (decide (0≤x4))
 (cond (decide (x4 < (↑x2.length:Int)))
 ((F_k45 (x2.getD x4.toNat ByteArray.empty,()) ((x5,x6,x7,()),x8,x9,x10,x11,x12,x13,x14,())).bind fun r1 =>
 cond (decide ((x15.length + 1) * 8≤140737488355328))
 (kn (x1,x2,x3,IntKind.i64.wrap (x4 + 1),()) ((r1.2.1.1,r1.2.1.2.1,r1.2.1.2.2.1,()),r1.2.2.1,r1.2.2.2.1,r1.2.2.2.2.1,r1.2.2.2.2.2.1,r1.2.2.2.2.2.2.1,r1.2.2.2.2.2.2.2.1,r1.2.2.2.2.2.2.2.2.1,x15 ++ ([] ++ [r1.1]),()))
 (none))
 (none))
 (none))
 ((F_k45 (ByteArray.empty,()) ((x5,x6,x7,()),x8,x9,x10,x11,x12,x13,x14,())).bind fun r2 =>
 cond (decide ((x15.length + 1) * 8≤140737488355328))
 (kn (x1,x2,x3,IntKind.i64.wrap (x4 + 1),()) ((r2.2.1.1,r2.2.1.2.1,r2.2.1.2.2.1,()),r2.2.2.1,r2.2.2.2.1,r2.2.2.2.2.1,r2.2.2.2.2.2.1,r2.2.2.2.2.2.2.1,r2.2.2.2.2.2.2.2.1,r2.2.2.2.2.2.2.2.2.1,x15 ++ ([] ++ [r2.1]),()))
 (none)))
 (kr ((x1,()),(x5,x6,x7,()),x8,x9,x10,x11,x12,x13,x14,x15,()))
noncomputable def L_k43_5:LT_k43_5→LM_k43_5→Option LO_k43_5:=fun x y=>runL (fun p=>(fun (a:LT_k43_5) (b:LM_k43_5)=>ltree_k43_5 F_k45 a.1 a.2.1 a.2.2.1 a.2.2.2.1 b.1.1 b.1.2.1 b.1.2.2.1 b.2.1 b.2.2.1 b.2.2.2.1 b.2.2.2.2.1 b.2.2.2.2.2.1 b.2.2.2.2.2.2.1 b.2.2.2.2.2.2.2.1 b.2.2.2.2.2.2.2.2.1 (fun a' b'=>some (.inl (a',b'))) fun r=>some (.inr r)) p.1 p.2) (x,y)
theorem nl_k43_5 (F_k45:B_k45) (x1 x2 x3 x4 x5 x6 x7 x8 x9 x10 x11 x12 x13 x14 x15) {α:Type} (kn:LT_k43_5→LM_k43_5→Option α) (kr:LO_k43_5→Option α):ltree_k43_5 F_k45 x1 x2 x3 x4 x5 x6 x7 x8 x9 x10 x11 x12 x13 x14 x15 kn kr = (ltree_k43_5 F_k45 x1 x2 x3 x4 x5 x6 x7 x8 x9 x10 x11 x12 x13 x14 x15 (fun a b=>some (.inl (a,b))) fun r=>some (.inr r)).bind (Sum.elim (fun p:LT_k43_5×LM_k43_5=>kn p.1 p.2) kr):=by simp only [ltree_k43_5,bind_cond,bind_none',bind_some',bind_bind',bind_sum,Sum.elim_inl,Sum.elim_inr]
theorem Le_k43_5 (x1 x2 x3 x4 x5 x6 x7 x8 x9 x10 x11 x12 x13 x14 x15):L_k43_5 (x1,x2,x3,x4,()) ((x5,x6,x7,()),x8,x9,x10,x11,x12,x13,x14,x15,()) = ltree_k43_5 F_k45 x1 x2 x3 x4 x5 x6 x7 x8 x9 x10 x11 x12 x13 x14 x15 L_k43_5 some:=runL_tree (A:=LT_k43_5) (B:=LM_k43_5) (R:=LO_k43_5) (fun a b kn kr=>ltree_k43_5 F_k45 a.1 a.2.1 a.2.2.1 a.2.2.2.1 b.1.1 b.1.2.1 b.1.2.2.1 b.2.1 b.2.2.1 b.2.2.2.1 b.2.2.2.2.1 b.2.2.2.2.2.1 b.2.2.2.2.2.2.1 b.2.2.2.2.2.2.2.1 b.2.2.2.2.2.2.2.2.1 kn kr) (fun a b kn kr=>nl_k43_5 F_k45 a.1 a.2.1 a.2.2.1 a.2.2.2.1 b.1.1 b.1.2.1 b.1.2.2.1 b.2.1 b.2.2.1 b.2.2.2.1 b.2.2.2.2.1 b.2.2.2.2.2.1 b.2.2.2.2.2.2.1 b.2.2.2.2.2.2.2.1 b.2.2.2.2.2.2.2.2.1 kn kr) (x1,x2,x3,x4,()) ((x5,x6,x7,()),x8,x9,x10,x11,x12,x13,x14,x15,())
def ltmps_k43_14:SkL:=(.cons (cP 0) (dz 7 (.cons lL (dz 2 (.cons (cW 511) (dz 35 (.cons lI (.cons lI (dz 10 .nil)))))))))
def lmem_k43_14:MSk:=[(0,.cells (.cons lL (.cons lI (.cons lB (.cons (cM 1) (.cons (cM 2) (.cons (cM 3) (.cons (cM 4) (.cons (cM 5) (.cons (cM 6) (.cons (cW 7) .nil))))))))))),(1,qa),(2,qa),(3,qb),(4,qc),(5,qd),(6,qe),(7,qf),(511,.row 22 (.cons (.slc 41 (.cons (.int .u64) .nil)) .nil))]
def louts_k43_14:List OutL:=[⟨(.exit 2),(dz 11 (.cons (cW 511) (dz 47 .nil))),[(0,.cells (.cons lL (.cons lI (.cons lB (.cons (cM 1) (.cons (cM 2) (.cons (cM 3) (.cons (cM 4) (.cons (cM 5) (.cons (cM 6) (.cons (cW 7) .nil))))))))))),(1,qa),(2,qa),(3,qb),(4,qc),(5,qd),(6,qe),(7,qf),(511,.row 22 (.cons (.slc 41 (.cons (.int .u64) .nil)) .nil))]⟩]
abbrev LT_k43_14:Type:=(List Int×Int×Int×Unit)
abbrev LM_k43_14:Type:=(Yd×Y1×Y1×Y2×Y3×Y4×Y5×Yb×List (List Int)×Unit)
abbrev LO_k43_14:Type:=Unit×(Yd×Y1×Y1×Y2×Y3×Y4×Y5×Yb×List (List Int)×Unit)
def ltree_k43_14 (F_k48:B_k48) {α:Type} (x1:List Int) (x2:Int) (x3:Int) (x4:List Int) (x5:Int) (x6:Bool) (x7:Y1) (x8:Y1) (x9:Y2) (x10:Y3) (x11:Y4) (x12:Y5) (x13:Yb) (x14:List (List Int)) (kn:LT_k43_14→LM_k43_14→Option α) (kr:LO_k43_14→Option α):Option α :=
 cond (decide (x3 < x2))
 ((F_k48 (x1,()) ((x4,x5,x6,()),x7,x8,x9,x10,x11,x12,x13,())).bind fun r1 =>
 cond (decide ((x14.length + 1) * 24≤140737488355328))
 (kn (r1.1,x2,IntKind.i64.wrap (x3 + 1),()) ((r1.2.1.1,r1.2.1.2.1,r1.2.1.2.2.1,()),r1.2.2.1,r1.2.2.2.1,r1.2.2.2.2.1,r1.2.2.2.2.2.1,r1.2.2.2.2.2.2.1,r1.2.2.2.2.2.2.2.1,r1.2.2.2.2.2.2.2.2.1,x14 ++ ([] ++ [r1.1]),()))
 (none))
 (kr ((),(x4,x5,x6,()),x7,x8,x9,x10,x11,x12,x13,x14,()))
noncomputable def L_k43_14:LT_k43_14→LM_k43_14→Option LO_k43_14:=fun x y=>runL (fun p=>(fun (a:LT_k43_14) (b:LM_k43_14)=>ltree_k43_14 F_k48 a.1 a.2.1 a.2.2.1 b.1.1 b.1.2.1 b.1.2.2.1 b.2.1 b.2.2.1 b.2.2.2.1 b.2.2.2.2.1 b.2.2.2.2.2.1 b.2.2.2.2.2.2.1 b.2.2.2.2.2.2.2.1 b.2.2.2.2.2.2.2.2.1 (fun a' b'=>some (.inl (a',b'))) fun r=>some (.inr r)) p.1 p.2) (x,y)
theorem nl_k43_14 (F_k48:B_k48) (x1 x2 x3 x4 x5 x6 x7 x8 x9 x10 x11 x12 x13 x14) {α:Type} (kn:LT_k43_14→LM_k43_14→Option α) (kr:LO_k43_14→Option α):ltree_k43_14 F_k48 x1 x2 x3 x4 x5 x6 x7 x8 x9 x10 x11 x12 x13 x14 kn kr = (ltree_k43_14 F_k48 x1 x2 x3 x4 x5 x6 x7 x8 x9 x10 x11 x12 x13 x14 (fun a b=>some (.inl (a,b))) fun r=>some (.inr r)).bind (Sum.elim (fun p:LT_k43_14×LM_k43_14=>kn p.1 p.2) kr):=by simp only [ltree_k43_14,bind_cond,bind_none',bind_some',bind_bind',bind_sum,Sum.elim_inl,Sum.elim_inr]
theorem Le_k43_14 (x1 x2 x3 x4 x5 x6 x7 x8 x9 x10 x11 x12 x13 x14):L_k43_14 (x1,x2,x3,()) ((x4,x5,x6,()),x7,x8,x9,x10,x11,x12,x13,x14,()) = ltree_k43_14 F_k48 x1 x2 x3 x4 x5 x6 x7 x8 x9 x10 x11 x12 x13 x14 L_k43_14 some:=runL_tree (A:=LT_k43_14) (B:=LM_k43_14) (R:=LO_k43_14) (fun a b kn kr=>ltree_k43_14 F_k48 a.1 a.2.1 a.2.2.1 b.1.1 b.1.2.1 b.1.2.2.1 b.2.1 b.2.2.1 b.2.2.2.1 b.2.2.2.2.1 b.2.2.2.2.2.1 b.2.2.2.2.2.2.1 b.2.2.2.2.2.2.2.1 b.2.2.2.2.2.2.2.2.1 kn kr) (fun a b kn kr=>nl_k43_14 F_k48 a.1 a.2.1 a.2.2.1 b.1.1 b.1.2.1 b.1.2.2.1 b.2.1 b.2.2.1 b.2.2.2.1 b.2.2.2.2.1 b.2.2.2.2.2.1 b.2.2.2.2.2.2.1 b.2.2.2.2.2.2.2.1 b.2.2.2.2.2.2.2.2.1 kn kr) (x1,x2,x3,()) ((x4,x5,x6,()),x7,x8,x9,x10,x11,x12,x13,x14,())
def tree_k43 (L_k43_5:LT_k43_5→LM_k43_5→Option LO_k43_5) (L_k43_14:LT_k43_14→LM_k43_14→Option LO_k43_14) {α:Type} (x1:Int) (x2:Yb) (x3:List Int) (x4:Int) (x5:Bool) (x6:Y1) (x7:Y1) (x8:Y2) (x9:Y3) (x10:Y4) (x11:Y5) (x12:Yb) (K:O_k43→Option α):Option α :=
 cond (decide (x1 < 0))
 (K (([],false,()),(x3,x4,x5,()),x6,x7,x8,x9,x10,x11,x12,()))
 (cond (decide (x1 > 8))
 (K (([],false,()),(x3,x4,x5,()),x6,x7,x8,x9,x10,x11,x12,()))
 (cond (decide (0≤x1))
 (cond (decide ((↑x2.length:Int) > IntKind.i64.wrap (1 * 2 ^ Min.min x1.toNat 64)))
 (K (([],false,()),(x3,x4,x5,()),x6,x7,x8,x9,x10,x11,x12,()))
 (cond (decide (0≤x1))
 ((L_k43_5 (x1,x2,IntKind.i64.wrap (1 * 2 ^ Min.min x1.toNat 64),0,()) ((x3,x4,x5,()),x6,x7,x8,x9,x10,x11,x12,[],())).bind fun r1 =>
 (L_k43_14 (r1.2.2.2.2.2.2.2.2.2.1,r1.1.1,0,()) ((r1.2.1.1,r1.2.1.2.1,r1.2.1.2.2.1,()),r1.2.2.1,r1.2.2.2.1,r1.2.2.2.2.1,r1.2.2.2.2.2.1,r1.2.2.2.2.2.2.1,r1.2.2.2.2.2.2.2.1,r1.2.2.2.2.2.2.2.2.1,[] ++ [r1.2.2.2.2.2.2.2.2.2.1],())).bind fun r2 =>
 K ((r2.2.2.2.2.2.2.2.2.2.1,true,()),(r2.2.1.1,r2.2.1.2.1,r2.2.1.2.2.1,()),r2.2.2.1,r2.2.2.2.1,r2.2.2.2.2.1,r2.2.2.2.2.2.1,r2.2.2.2.2.2.2.1,r2.2.2.2.2.2.2.2.1,r2.2.2.2.2.2.2.2.2.1,()))
 (none)))
 (none)))
noncomputable def F_k43:A_k43→M_k43→Option O_k43:=fun a b=>tree_k43 L_k43_5 L_k43_14 a.1 a.2.1 b.1.1 b.1.2.1 b.1.2.2.1 b.2.1 b.2.2.1 b.2.2.2.1 b.2.2.2.2.1 b.2.2.2.2.2.1 b.2.2.2.2.2.2.1 b.2.2.2.2.2.2.2.1 some
theorem n_k43 (L_k43_5:LT_k43_5→LM_k43_5→Option LO_k43_5) (L_k43_14:LT_k43_14→LM_k43_14→Option LO_k43_14) (x1 x2 x3 x4 x5 x6 x7 x8 x9 x10 x11 x12) {α:Type} (K:O_k43→Option α):tree_k43 L_k43_5 L_k43_14 x1 x2 x3 x4 x5 x6 x7 x8 x9 x10 x11 x12 K = (tree_k43 L_k43_5 L_k43_14 x1 x2 x3 x4 x5 x6 x7 x8 x9 x10 x11 x12 some).bind K:=by simp only [tree_k43,bind_cond,bind_none',bind_some',bind_bind',bind_sum]
def args_k50:SkL:=(.cons (.leaf (.slc 22 (.cons (.slc 41 (.cons (.int .u64) .nil)) .nil))) .nil)
def mem_k50:MSk:=[]
def outs_k50:List OutC:=[⟨lB,[]⟩]
abbrev A_k50:Type:=(List (List Int)×Unit)
abbrev M_k50:Type:=Unit
abbrev O_k50:Type:=Bool×Unit
abbrev B_k50:=A_k50→M_k50→Option O_k50
def ltmps_k50_5:SkL:=(dz 3 (.cons lI (dz 11 (.cons (.leaf (.slc 22 (.cons (.slc 41 (.cons (.int .u64) .nil)) .nil))) (.cons lI (.cons lI (dz 12 .nil)))))))
def lmem_k50_5:MSk:=[]
def louts_k50_5:List OutL:=[⟨.ret,(dz 2 (.cons lB (dz 27 .nil))),[]⟩,⟨(.exit 0),(dz 30 .nil),[]⟩]
abbrev LT_k50_5:Type:=(Int×List (List Int)×Int×Int×Unit)
abbrev LM_k50_5:Type:=Unit
abbrev LO_k50_5:Type:=((Bool×Unit)×Unit) ⊕ (Unit×Unit)
def ltree_k50_5 {α:Type} (x1:Int) (x2:List (List Int)) (x3:Int) (x4:Int) (kn:LT_k50_5→LM_k50_5→Option α) (kr:LO_k50_5→Option α):Option α :=
 cond (decide (x4 < x3))
 (cond (decide (0≤x4))
 (cond (decide (x4 < (↑x2.length:Int)))
 (cond (decide (0≤IntKind.i64.wrap (x1 - x4)))
 (cond ((↑(x2.getD x4.toNat []).length:Int) != IntKind.i64.wrap (1 * 2 ^ Min.min (IntKind.i64.wrap (x1 - x4)).toNat 64))
 (kr (.inl ((false,()),())))
 (kn (x1,x2,x3,IntKind.i64.wrap (x4 + 1),()) ()))
 (none))
 (none))
 (none))
 (kr (.inr ((),())))
noncomputable def L_k50_5:LT_k50_5→LM_k50_5→Option LO_k50_5:=fun x y=>runL (fun p=>(fun (a:LT_k50_5) (b:LM_k50_5)=>ltree_k50_5 a.1 a.2.1 a.2.2.1 a.2.2.2.1 (fun a' b'=>some (.inl (a',b'))) fun r=>some (.inr r)) p.1 p.2) (x,y)
theorem nl_k50_5 (x1 x2 x3 x4) {α:Type} (kn:LT_k50_5→LM_k50_5→Option α) (kr:LO_k50_5→Option α):ltree_k50_5 x1 x2 x3 x4 kn kr = (ltree_k50_5 x1 x2 x3 x4 (fun a b=>some (.inl (a,b))) fun r=>some (.inr r)).bind (Sum.elim (fun p:LT_k50_5×LM_k50_5=>kn p.1 p.2) kr):=by simp only [ltree_k50_5,bind_cond,bind_none',bind_some',bind_bind',bind_sum,Sum.elim_inl,Sum.elim_inr]
theorem Le_k50_5 (x1 x2 x3 x4):L_k50_5 (x1,x2,x3,x4,()) () = ltree_k50_5 x1 x2 x3 x4 L_k50_5 some:=runL_tree (A:=LT_k50_5) (B:=LM_k50_5) (R:=LO_k50_5) (fun a b kn kr=>ltree_k50_5 a.1 a.2.1 a.2.2.1 a.2.2.2.1 kn kr) (fun a b kn kr=>nl_k50_5 a.1 a.2.1 a.2.2.1 a.2.2.2.1 kn kr) (x1,x2,x3,x4,()) ()
def tree_k50 (L_k50_5:LT_k50_5→LM_k50_5→Option LO_k50_5) {α:Type} (x1:List (List Int)) (K:O_k50→Option α):Option α :=
 cond (decide (IntKind.i64.wrap ((↑x1.length:Int) - 1) < 0))
 (K (false,()))
 (cond (decide (IntKind.i64.wrap ((↑x1.length:Int) - 1) > 8))
 (K (false,()))
 ((L_k50_5 (IntKind.i64.wrap ((↑x1.length:Int) - 1),x1,(↑x1.length:Int),0,()) ()).bind fun r1 =>
 Sum.elim (fun u2 =>
 K (u2.1.1,()))
 (fun u2 =>
 K (true,())) (r1)))
noncomputable def F_k50:A_k50→M_k50→Option O_k50:=fun a b=>tree_k50 L_k50_5 a.1 some
theorem n_k50 (L_k50_5:LT_k50_5→LM_k50_5→Option LO_k50_5) (x1) {α:Type} (K:O_k50→Option α):tree_k50 L_k50_5 x1 K = (tree_k50 L_k50_5 x1 some).bind K:=by simp only [tree_k50,bind_cond,bind_none',bind_some',bind_bind',bind_sum]
theorem Fe_k50 (x1):F_k50 (x1,()) () = tree_k50 L_k50_5 x1 some:=rfl
def args_k47:SkL:=(.cons (.leaf (.slc 22 (.cons (.slc 41 (.cons (.int .u64) .nil)) .nil))) (.cons lI .nil))
def mem_k47:MSk:=[]
def outs_k47:List OutC:=[⟨(.tup (.cons lL (.cons lB .nil))),[]⟩]
abbrev A_k47:Type:=(List (List Int)×Int×Unit)
abbrev M_k47:Type:=Unit
abbrev O_k47:Type:=(List Int×Bool×Unit)×Unit
abbrev B_k47:=A_k47→M_k47→Option O_k47
def ltmps_k47_5:SkL:=(.cons (.leaf (.slc 22 (.cons (.slc 41 (.cons (.int .u64) .nil)) .nil))) (.cons lI (dz 4 (.cons (cW 506) (dz 18 (.cons lI (.cons lI (dz 17 .nil))))))))
def lmem_k47_5:MSk:=[(506,.row 41 (.cons (.int .u64) .nil))]
def louts_k47_5:List OutL:=[⟨(.exit 0),(dz 6 (.cons (cW 506) (dz 37 .nil))),[(506,.row 41 (.cons (.int .u64) .nil))]⟩]
abbrev LT_k47_5:Type:=(List (List Int)×Int×Int×Int×Unit)
abbrev LM_k47_5:Type:=(List Int×Unit)
abbrev LO_k47_5:Type:=Unit×(List Int×Unit)
def ltree_k47_5 {α:Type} (x1:List (List Int)) (x2:Int) (x3:Int) (x4:Int) (x5:List Int) (kn:LT_k47_5→LM_k47_5→Option α) (kr:LO_k47_5→Option α):Option α :=
 cond (decide (x4 < x3))
 (cond (decide (0≤x4))
 (cond (decide (x4 < (↑x1.length:Int)))
 (cond (decide (0≤x4))
 (cond (decide (0≤IntKind.i64.wrap (↑(BitVec.ofInt 64 (x2.fdiv (2 ^ Min.min x4.toNat 64)) ^^^ BitVec.ofInt 64 1).toNat:Int)))
 (cond (decide (IntKind.i64.wrap (↑(BitVec.ofInt 64 (x2.fdiv (2 ^ Min.min x4.toNat 64)) ^^^ BitVec.ofInt 64 1).toNat:Int) < (↑(x1.getD x4.toNat []).length:Int)))
 (cond (decide ((x5.length + ([] ++ [(x1.getD x4.toNat []).getD (IntKind.i64.wrap (↑(BitVec.ofInt 64 (x2.fdiv (2 ^ Min.min x4.toNat 64)) ^^^ BitVec.ofInt 64 1).toNat:Int)).toNat 0]).length) * 8≤140737488355328))
 (kn (x1,x2,x3,IntKind.i64.wrap (x4 + 1),()) (x5 ++ ([] ++ [(x1.getD x4.toNat []).getD (IntKind.i64.wrap (↑(BitVec.ofInt 64 (x2.fdiv (2 ^ Min.min x4.toNat 64)) ^^^ BitVec.ofInt 64 1).toNat:Int)).toNat 0]),()))
 (none))
 (none))
 (none))
 (none))
 (none))
 (none))
 (kr ((),x5,()))
noncomputable def L_k47_5:LT_k47_5→LM_k47_5→Option LO_k47_5:=fun x y=>runL (fun p=>(fun (a:LT_k47_5) (b:LM_k47_5)=>ltree_k47_5 a.1 a.2.1 a.2.2.1 a.2.2.2.1 b.1 (fun a' b'=>some (.inl (a',b'))) fun r=>some (.inr r)) p.1 p.2) (x,y)
theorem nl_k47_5 (x1 x2 x3 x4 x5) {α:Type} (kn:LT_k47_5→LM_k47_5→Option α) (kr:LO_k47_5→Option α):ltree_k47_5 x1 x2 x3 x4 x5 kn kr = (ltree_k47_5 x1 x2 x3 x4 x5 (fun a b=>some (.inl (a,b))) fun r=>some (.inr r)).bind (Sum.elim (fun p:LT_k47_5×LM_k47_5=>kn p.1 p.2) kr):=by simp only [ltree_k47_5,bind_cond,bind_none',bind_some',bind_bind',bind_sum,Sum.elim_inl,Sum.elim_inr]
theorem Le_k47_5 (x1 x2 x3 x4 x5):L_k47_5 (x1,x2,x3,x4,()) (x5,()) = ltree_k47_5 x1 x2 x3 x4 x5 L_k47_5 some:=runL_tree (A:=LT_k47_5) (B:=LM_k47_5) (R:=LO_k47_5) (fun a b kn kr=>ltree_k47_5 a.1 a.2.1 a.2.2.1 a.2.2.2.1 b.1 kn kr) (fun a b kn kr=>nl_k47_5 a.1 a.2.1 a.2.2.1 a.2.2.2.1 b.1 kn kr) (x1,x2,x3,x4,()) (x5,())
def tree_k47 (F_k50:B_k50) (L_k47_5:LT_k47_5→LM_k47_5→Option LO_k47_5) {α:Type} (x1:List (List Int)) (x2:Int) (K:O_k47→Option α):Option α :=
 (F_k50 (x1,()) ()).bind fun r1 =>
 cond (!r1.1)
 (K (([],false,()),()))
 (cond (decide (x2 < 0))
 (K (([],false,()),()))
 (cond (decide (0 < (↑x1.length:Int)))
 (cond (decide (x2≥(↑(x1.getD 0 []).length:Int)))
 (K (([],false,()),()))
 ((L_k47_5 (x1,x2,IntKind.i64.wrap ((↑x1.length:Int) - 1),0,()) ([],())).bind fun r2 =>
 K ((r2.2.1,true,()),())))
 (none)))
noncomputable def F_k47:A_k47→M_k47→Option O_k47:=fun a b=>tree_k47 F_k50 L_k47_5 a.1 a.2.1 some
theorem n_k47 (F_k50:B_k50) (L_k47_5:LT_k47_5→LM_k47_5→Option LO_k47_5) (x1 x2) {α:Type} (K:O_k47→Option α):tree_k47 F_k50 L_k47_5 x1 x2 K = (tree_k47 F_k50 L_k47_5 x1 x2 some).bind K:=by simp only [tree_k47,bind_cond,bind_none',bind_some',bind_bind',bind_sum]
theorem Fe_k47 (x1 x2):F_k47 (x1,x2,()) () = tree_k47 F_k50 L_k47_5 x1 x2 some:=rfl
def args_k44:SkL:=(.cons (cP 0) (.cons lS (.cons lI (.cons lL .nil))))
def mem_k44:MSk:=[(0,.cells (.cons lL (.cons lI (.cons lB (.cons (cM 1) (.cons (cM 2) (.cons (cM 3) (.cons (cM 4) (.cons (cM 5) (.cons (cM 6) (.cons (cW 7) .nil))))))))))),(1,qa),(2,qa),(3,qb),(4,qc),(5,qd),(6,qe),(7,qf)]
def outs_k44:List OutC:=[⟨(.tup (.cons lU (.cons lB .nil))),[(0,.cells (.cons lL (.cons lI (.cons lB (.cons (cM 1) (.cons (cM 2) (.cons (cM 3) (.cons (cM 4) (.cons (cM 5) (.cons (cM 6) (.cons (cW 7) .nil))))))))))),(1,qa),(2,qa),(3,qb),(4,qc),(5,qd),(6,qe),(7,qf)]⟩]
abbrev A_k44:Type:=(ByteArray×Int×List Int×Unit)
abbrev M_k44:Type:=(Yd×Y1×Y1×Y2×Y3×Y4×Y5×Yb×Unit)
abbrev O_k44:Type:=(Int×Bool×Unit)×(Yd×Y1×Y1×Y2×Y3×Y4×Y5×Yb×Unit)
abbrev B_k44:=A_k44→M_k44→Option O_k44
def ltmps_k44_5:SkL:=(.cons (cP 0) (.cons (.const .dead) (.cons lI (dz 7 (.cons lU (dz 19 (.cons lL (.cons lI (.cons lI (dz 13 .nil))))))))))
def lmem_k44_5:MSk:=[(0,.cells (.cons lL (.cons lI (.cons lB (.cons (cM 1) (.cons (cM 2) (.cons (cM 3) (.cons (cM 4) (.cons (cM 5) (.cons (cM 6) (.cons (cW 7) .nil))))))))))),(1,qa),(2,qa),(3,qb),(4,qc),(5,qd),(6,qe),(7,qf)]
def louts_k44_5:List OutL:=[⟨(.exit 0),(dz 10 (.cons lU (dz 35 .nil))),[(0,.cells (.cons lL (.cons lI (.cons lB (.cons (cM 1) (.cons (cM 2) (.cons (cM 3) (.cons (cM 4) (.cons (cM 5) (.cons (cM 6) (.cons (cW 7) .nil))))))))))),(1,qa),(2,qa),(3,qb),(4,qc),(5,qd),(6,qe),(7,qf)]⟩]
abbrev LT_k44_5:Type:=(Int×Int×List Int×Int×Int×Unit)
abbrev LM_k44_5:Type:=(Yd×Y1×Y1×Y2×Y3×Y4×Y5×Yb×Unit)
abbrev LO_k44_5:Type:=(Int×Unit)×(Yd×Y1×Y1×Y2×Y3×Y4×Y5×Yb×Unit)
def ltree_k44_5 (F_k49:B_k49) {α:Type} (x1:Int) (x2:Int) (x3:List Int) (x4:Int) (x5:Int) (x6:List Int) (x7:Int) (x8:Bool) (x9:Y1) (x10:Y1) (x11:Y2) (x12:Y3) (x13:Y4) (x14:Y5) (x15:Yb) (kn:LT_k44_5→LM_k44_5→Option α) (kr:LO_k44_5→Option α):Option α :=
 cond (decide (x5 < x4))
 (cond (decide (0≤x5))
 (cond (decide (x5 < (↑x3.length:Int)))
 (cond (decide (0≤x5))
 ((F_k49 (x2,x3.getD x5.toNat 0,x1.fdiv (2 ^ Min.min x5.toNat 64),()) ((x6,x7,x8,()),x9,x10,x11,x12,x13,x14,x15,())).bind fun r1 =>
 kn (x1,r1.1,x3,x4,IntKind.i64.wrap (x5 + 1),()) ((r1.2.1.1,r1.2.1.2.1,r1.2.1.2.2.1,()),r1.2.2.1,r1.2.2.2.1,r1.2.2.2.2.1,r1.2.2.2.2.2.1,r1.2.2.2.2.2.2.1,r1.2.2.2.2.2.2.2.1,r1.2.2.2.2.2.2.2.2.1,()))
 (none))
 (none))
 (none))
 (kr ((x2,()),(x6,x7,x8,()),x9,x10,x11,x12,x13,x14,x15,()))
noncomputable def L_k44_5:LT_k44_5→LM_k44_5→Option LO_k44_5:=fun x y=>runL (fun p=>(fun (a:LT_k44_5) (b:LM_k44_5)=>ltree_k44_5 F_k49 a.1 a.2.1 a.2.2.1 a.2.2.2.1 a.2.2.2.2.1 b.1.1 b.1.2.1 b.1.2.2.1 b.2.1 b.2.2.1 b.2.2.2.1 b.2.2.2.2.1 b.2.2.2.2.2.1 b.2.2.2.2.2.2.1 b.2.2.2.2.2.2.2.1 (fun a' b'=>some (.inl (a',b'))) fun r=>some (.inr r)) p.1 p.2) (x,y)
theorem nl_k44_5 (F_k49:B_k49) (x1 x2 x3 x4 x5 x6 x7 x8 x9 x10 x11 x12 x13 x14 x15) {α:Type} (kn:LT_k44_5→LM_k44_5→Option α) (kr:LO_k44_5→Option α):ltree_k44_5 F_k49 x1 x2 x3 x4 x5 x6 x7 x8 x9 x10 x11 x12 x13 x14 x15 kn kr = (ltree_k44_5 F_k49 x1 x2 x3 x4 x5 x6 x7 x8 x9 x10 x11 x12 x13 x14 x15 (fun a b=>some (.inl (a,b))) fun r=>some (.inr r)).bind (Sum.elim (fun p:LT_k44_5×LM_k44_5=>kn p.1 p.2) kr):=by simp only [ltree_k44_5,bind_cond,bind_none',bind_some',bind_bind',bind_sum,Sum.elim_inl,Sum.elim_inr]
theorem Le_k44_5 (x1 x2 x3 x4 x5 x6 x7 x8 x9 x10 x11 x12 x13 x14 x15):L_k44_5 (x1,x2,x3,x4,x5,()) ((x6,x7,x8,()),x9,x10,x11,x12,x13,x14,x15,()) = ltree_k44_5 F_k49 x1 x2 x3 x4 x5 x6 x7 x8 x9 x10 x11 x12 x13 x14 x15 L_k44_5 some:=runL_tree (A:=LT_k44_5) (B:=LM_k44_5) (R:=LO_k44_5) (fun a b kn kr=>ltree_k44_5 F_k49 a.1 a.2.1 a.2.2.1 a.2.2.2.1 a.2.2.2.2.1 b.1.1 b.1.2.1 b.1.2.2.1 b.2.1 b.2.2.1 b.2.2.2.1 b.2.2.2.2.1 b.2.2.2.2.2.1 b.2.2.2.2.2.2.1 b.2.2.2.2.2.2.2.1 kn kr) (fun a b kn kr=>nl_k44_5 F_k49 a.1 a.2.1 a.2.2.1 a.2.2.2.1 a.2.2.2.2.1 b.1.1 b.1.2.1 b.1.2.2.1 b.2.1 b.2.2.1 b.2.2.2.1 b.2.2.2.2.1 b.2.2.2.2.2.1 b.2.2.2.2.2.2.1 b.2.2.2.2.2.2.2.1 kn kr) (x1,x2,x3,x4,x5,()) ((x6,x7,x8,()),x9,x10,x11,x12,x13,x14,x15,())
def tree_k44 (F_k45:B_k45) (L_k44_5:LT_k44_5→LM_k44_5→Option LO_k44_5) {α:Type} (x1:ByteArray) (x2:Int) (x3:List Int) (x4:List Int) (x5:Int) (x6:Bool) (x7:Y1) (x8:Y1) (x9:Y2) (x10:Y3) (x11:Y4) (x12:Y5) (x13:Yb) (K:O_k44→Option α):Option α :=
 cond (decide ((↑x3.length:Int) > 8))
 (K ((0,false,()),(x4,x5,x6,()),x7,x8,x9,x10,x11,x12,x13,()))
 (cond (decide (x2 < 0))
 (K ((0,false,()),(x4,x5,x6,()),x7,x8,x9,x10,x11,x12,x13,()))
 (cond (decide (x2≥IntKind.i64.wrap (1 * 2 ^ Min.min (↑x3.length:Int).toNat 64)))
 (K ((0,false,()),(x4,x5,x6,()),x7,x8,x9,x10,x11,x12,x13,()))
 ((F_k45 (x1,()) ((x4,x5,x6,()),x7,x8,x9,x10,x11,x12,x13,())).bind fun r1 =>
 (L_k44_5 (x2,r1.1,x3,(↑x3.length:Int),0,()) ((r1.2.1.1,r1.2.1.2.1,r1.2.1.2.2.1,()),r1.2.2.1,r1.2.2.2.1,r1.2.2.2.2.1,r1.2.2.2.2.2.1,r1.2.2.2.2.2.2.1,r1.2.2.2.2.2.2.2.1,r1.2.2.2.2.2.2.2.2.1,())).bind fun r2 =>
 K ((r2.1.1,true,()),(r2.2.1.1,r2.2.1.2.1,r2.2.1.2.2.1,()),r2.2.2.1,r2.2.2.2.1,r2.2.2.2.2.1,r2.2.2.2.2.2.1,r2.2.2.2.2.2.2.1,r2.2.2.2.2.2.2.2.1,r2.2.2.2.2.2.2.2.2.1,()))))
noncomputable def F_k44:A_k44→M_k44→Option O_k44:=fun a b=>tree_k44 F_k45 L_k44_5 a.1 a.2.1 a.2.2.1 b.1.1 b.1.2.1 b.1.2.2.1 b.2.1 b.2.2.1 b.2.2.2.1 b.2.2.2.2.1 b.2.2.2.2.2.1 b.2.2.2.2.2.2.1 b.2.2.2.2.2.2.2.1 some
theorem n_k44 (F_k45:B_k45) (L_k44_5:LT_k44_5→LM_k44_5→Option LO_k44_5) (x1 x2 x3 x4 x5 x6 x7 x8 x9 x10 x11 x12 x13) {α:Type} (K:O_k44→Option α):tree_k44 F_k45 L_k44_5 x1 x2 x3 x4 x5 x6 x7 x8 x9 x10 x11 x12 x13 K = (tree_k44 F_k45 L_k44_5 x1 x2 x3 x4 x5 x6 x7 x8 x9 x10 x11 x12 x13 some).bind K:=by simp only [tree_k44,bind_cond,bind_none',bind_some',bind_bind',bind_sum]
end Go.Proofs.Ytljfdfghagiblaa.S2
