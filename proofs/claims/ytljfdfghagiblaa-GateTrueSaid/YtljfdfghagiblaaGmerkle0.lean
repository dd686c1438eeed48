/- Plain forms of the program's functions,by program. -/
import Derived.Test.YtljfdfghagiblaaGideal
import Derived.Test.YtljfdfghagiblaaGwire
set_option maxRecDepth 100000
set_option maxHeartbeats 0
set_option linter.unusedVariables false
set_option linter.unusedSimpArgs false
namespace Go.Proofs.Ytljfdfghagiblaa.S2
open Go
def args_k45:SkL:=(.cons (cP 0) (.cons lS .nil))
def mem_k45:MSk:=[(0,.cells (.cons lL (.cons lI (.cons lB (.cons (cM 1) (.cons (cM 2) (.cons (cM 3) (.cons (cM 4) (.cons (cM 5) (.cons (cM 6) (.cons (cW 7) .nil))))))))))),(1,qa),(2,qa),(3,qb),(4,qc),(5,qd),(6,qe),(7,qf)]
def outs_k45:List OutC:=[⟨lU,[(0,.cells (.cons lL (.cons lI (.cons lB (.cons (cM 1) (.cons (cM 2) (.cons (cM 3) (.cons (cM 4) (.cons (cM 5) (.cons (cM 6) (.cons (cW 7) .nil))))))))))),(1,qa),(2,qa),(3,qb),(4,qc),(5,qd),(6,qe),(7,qf)]⟩]
abbrev A_k45:Type:=(ByteArray×Unit)
abbrev M_k45:Type:=(Yd×Y1×Y1×Y2×Y3×Y4×Y5×Yb×Unit)
abbrev O_k45:Type:=Int×(Yd×Y1×Y1×Y2×Y3×Y4×Y5×Yb×Unit)
abbrev B_k45:=A_k45→M_k45→Option O_k45
def tree_k45 (F_k31:B_k31) {α:Type} (x1:ByteArray) (x2:List Int) (x3:Int) (x4:Bool) (x5:Y1) (x6:Y1) (x7:Y2) (x8:Y3) (x9:Y4) (x10:Y5) (x11:Yb) (K:O_k45→Option α):Option α :=
 cond (decide (4 + x1.size≤9223372036854775807))
 ((F_k31 ((ByteArray.mk #[108,101,97,102]) ++ x1,()) ((x2,x3,x4,()),x5,x6,x7,x8,x9,x10,x11,())).bind fun r1 =>
 K (r1.1,(r1.2.1.1,r1.2.1.2.1,r1.2.1.2.2.1,()),r1.2.2.1,r1.2.2.2.1,r1.2.2.2.2.1,r1.2.2.2.2.2.1,r1.2.2.2.2.2.2.1,r1.2.2.2.2.2.2.2.1,r1.2.2.2.2.2.2.2.2.1,()))
 (none)
noncomputable def F_k45:A_k45→M_k45→Option O_k45:=fun a b=>tree_k45 F_k31 a.1 b.1.1 b.1.2.1 b.1.2.2.1 b.2.1 b.2.2.1 b.2.2.2.1 b.2.2.2.2.1 b.2.2.2.2.2.1 b.2.2.2.2.2.2.1 b.2.2.2.2.2.2.2.1 some
theorem n_k45 (F_k31:B_k31) (x1 x2 x3 x4 x5 x6 x7 x8 x9 x10 x11) {α:Type} (K:O_k45→Option α):tree_k45 F_k31 x1 x2 x3 x4 x5 x6 x7 x8 x9 x10 x11 K = (tree_k45 F_k31 x1 x2 x3 x4 x5 x6 x7 x8 x9 x10 x11 some).bind K:=by simp only [tree_k45,bind_cond,bind_none',bind_some',bind_bind',bind_sum]
theorem Fe_k45 (x1 x2 x3 x4 x5 x6 x7 x8 x9 x10 x11):F_k45 (x1,()) ((x2,x3,x4,()),x5,x6,x7,x8,x9,x10,x11,()) = tree_k45 F_k31 x1 x2 x3 x4 x5 x6 x7 x8 x9 x10 x11 some:=rfl
def args_k46:SkL:=(.cons (cP 0) (.cons lU (.cons lU .nil)))
def mem_k46:MSk:=[(0,.cells (.cons lL (.cons lI (.cons lB (.cons (cM 1) (.cons (cM 2) (.cons (cM 3) (.cons (cM 4) (.cons (cM 5) (.cons (cM 6) (.cons (cW 7) .nil))))))))))),(1,qa),(2,qa),(3,qb),(4,qc),(5,qd),(6,qe),(7,qf)]
def outs_k46:List OutC:=[⟨lU,[(0,.cells (.cons lL (.cons lI (.cons lB (.cons (cM 1) (.cons (cM 2) (.cons (cM 3) (.cons (cM 4) (.cons (cM 5) (.cons (cM 6) (.cons (cW 7) .nil))))))))))),(1,qa),(2,qa),(3,qb),(4,qc),(5,qd),(6,qe),(7,qf)]⟩]
abbrev A_k46:Type:=(Int×Int×Unit)
abbrev M_k46:Type:=(Yd×Y1×Y1×Y2×Y3×Y4×Y5×Yb×Unit)
abbrev O_k46:Type:=Int×(Yd×Y1×Y1×Y2×Y3×Y4×Y5×Yb×Unit)
abbrev B_k46:=A_k46→M_k46→Option O_k46
def tree_k46 (F_k78:B_k78) (F_k31:B_k31) {α:Type} (x1:Int) (x2:Int) (x3:List Int) (x4:Int) (x5:Bool) (x6:Y1) (x7:Y1) (x8:Y2) (x9:Y3) (x10:Y4) (x11:Y5) (x12:Yb) (K:O_k46→Option α):Option α :=
 (F_k78 (x1,()) ()).bind fun r1 =>
 cond (decide (4 + r1.1.size≤9223372036854775807))
 ((F_k78 (x2,()) ()).bind fun r2 =>
 cond (decide (((ByteArray.mk #[110,111,100,101]) ++ r1.1).size + r2.1.size≤9223372036854775807))
 ((F_k31 ((ByteArray.mk #[110,111,100,101]) ++ r1.1 ++ r2.1,()) ((x3,x4,x5,()),x6,x7,x8,x9,x10,x11,x12,())).bind fun r3 =>
 K (r3.1,(r3.2.1.1,r3.2.1.2.1,r3.2.1.2.2.1,()),r3.2.2.1,r3.2.2.2.1,r3.2.2.2.2.1,r3.2.2.2.2.2.1,r3.2.2.2.2.2.2.1,r3.2.2.2.2.2.2.2.1,r3.2.2.2.2.2.2.2.2.1,()))
 (none))
 (none)
noncomputable def F_k46:A_k46→M_k46→Option O_k46:=fun a b=>tree_k46 F_k78 F_k31 a.1 a.2.1 b.1.1 b.1.2.1 b.1.2.2.1 b.2.1 b.2.2.1 b.2.2.2.1 b.2.2.2.2.1 b.2.2.2.2.2.1 b.2.2.2.2.2.2.1 b.2.2.2.2.2.2.2.1 some
theorem n_k46 (F_k78:B_k78) (F_k31:B_k31) (x1 x2 x3 x4 x5 x6 x7 x8 x9 x10 x11 x12) {α:Type} (K:O_k46→Option α):tree_k46 F_k78 F_k31 x1 x2 x3 x4 x5 x6 x7 x8 x9 x10 x11 x12 K = (tree_k46 F_k78 F_k31 x1 x2 x3 x4 x5 x6 x7 x8 x9 x10 x11 x12 some).bind K:=by simp only [tree_k46,bind_cond,bind_none',bind_some',bind_bind',bind_sum]
theorem Fe_k46 (x1 x2 x3 x4 x5 x6 x7 x8 x9 x10 x11 x12):F_k46 (x1,x2,()) ((x3,x4,x5,()),x6,x7,x8,x9,x10,x11,x12,()) = tree_k46 F_k78 F_k31 x1 x2 x3 x4 x5 x6 x7 x8 x9 x10 x11 x12 some:=rfl
def args_k49:SkL:=(.cons (cP 0) (.cons lU (.cons lU (.cons lI .nil))))
def mem_k49:MSk:=[(0,.cells (.cons lL (.cons lI (.cons lB (.cons (cM 1) (.cons (cM 2) (.cons (cM 3) (.cons (cM 4) (.cons (cM 5) (.cons (cM 6) (.cons (cW 7) .nil))))))))))),(1,qa),(2,qa),(3,qb),(4,qc),(5,qd),(6,qe),(7,qf)]
def outs_k49:List OutC:=[⟨lU,[(0,.cells (.cons lL (.cons lI (.cons lB (.cons (cM 1) (.cons (cM 2) (.cons (cM 3) (.cons (cM 4) (.cons (cM 5) (.cons (cM 6) (.cons (cW 7) .nil))))))))))),(1,qa),(2,qa),(3,qb),(4,qc),(5,qd),(6,qe),(7,qf)]⟩]
abbrev A_k49:Type:=(Int×Int×Int×Unit)
abbrev M_k49:Type:=(Yd×Y1×Y1×Y2×Y3×Y4×Y5×Yb×Unit)
abbrev O_k49:Type:=Int×(Yd×Y1×Y1×Y2×Y3×Y4×Y5×Yb×Unit)
abbrev B_k49:=A_k49→M_k49→Option O_k49
def tree_k49 (F_k46:B_k46) {α:Type} (x1:Int) (x2:Int) (x3:Int) (x4:List Int) (x5:Int) (x6:Bool) (x7:Y1) (x8:Y1) (x9:Y2) (x10:Y3) (x11:Y4) (x12:Y5) (x13:Yb) (K:O_k49→Option α):Option α :=
 cond (IntKind.i64.wrap (↑(BitVec.ofInt 64 x3 &&& BitVec.ofInt 64 1).toNat:Int) == 1)
 ((F_k46 (x2,x1,()) ((x4,x5,x6,()),x7,x8,x9,x10,x11,x12,x13,())).bind fun r1 =>
 K (r1.1,(r1.2.1.1,r1.2.1.2.1,r1.2.1.2.2.1,()),r1.2.2.1,r1.2.2.2.1,r1.2.2.2.2.1,r1.2.2.2.2.2.1,r1.2.2.2.2.2.2.1,r1.2.2.2.2.2.2.2.1,r1.2.2.2.2.2.2.2.2.1,()))
 ((F_k46 (x1,x2,()) ((x4,x5,x6,()),x7,x8,x9,x10,x11,x12,x13,())).bind fun r2 =>
 K (r2.1,(r2.2.1.1,r2.2.1.2.1,r2.2.1.2.2.1,()),r2.2.2.1,r2.2.2.2.1,r2.2.2.2.2.1,r2.2.2.2.2.2.1,r2.2.2.2.2.2.2.1,r2.2.2.2.2.2.2.2.1,r2.2.2.2.2.2.2.2.2.1,()))
noncomputable def F_k49:A_k49→M_k49→Option O_k49:=fun a b=>tree_k49 F_k46 a.1 a.2.1 a.2.2.1 b.1.1 b.1.2.1 b.1.2.2.1 b.2.1 b.2.2.1 b.2.2.2.1 b.2.2.2.2.1 b.2.2.2.2.2.1 b.2.2.2.2.2.2.1 b.2.2.2.2.2.2.2.1 some
theorem n_k49 (F_k46:B_k46) (x1 x2 x3 x4 x5 x6 x7 x8 x9 x10 x11 x12 x13) {α:Type} (K:O_k49→Option α):tree_k49 F_k46 x1 x2 x3 x4 x5 x6 x7 x8 x9 x10 x11 x12 x13 K = (tree_k49 F_k46 x1 x2 x3 x4 x5 x6 x7 x8 x9 x10 x11 x12 x13 some).bind K:=by simp only [tree_k49,bind_cond,bind_none',bind_some',bind_bind',bind_sum]
theorem Fe_k49 (x1 x2 x3 x4 x5 x6 x7 x8 x9 x10 x11 x12 x13):F_k49 (x1,x2,x3,()) ((x4,x5,x6,()),x7,x8,x9,x10,x11,x12,x13,()) = tree_k49 F_k46 x1 x2 x3 x4 x5 x6 x7 x8 x9 x10 x11 x12 x13 some:=rfl
end Go.Proofs.Ytljfdfghagiblaa.S2
