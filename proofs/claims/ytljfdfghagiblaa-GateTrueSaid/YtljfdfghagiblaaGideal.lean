/- Plain forms of the program's functions,by program. -/
import Derived.Test.YtljfdfghagiblaaS2y
import Derived.Lib.Repeat
set_option maxRecDepth 100000
set_option maxHeartbeats 0
set_option linter.unusedVariables false
set_option linter.unusedSimpArgs false
namespace Go.Proofs.Ytljfdfghagiblaa.S2
open Go
def args_k51:SkL:=(.cons lL .nil)
def mem_k51:MSk:=[]
def outs_k51:List OutC:=[⟨lL,[]⟩]
abbrev A_k51:Type:=(List Int×Unit)
abbrev M_k51:Type:=Unit
abbrev O_k51:Type:=List Int×Unit
abbrev B_k51:=A_k51→M_k51→Option O_k51
def tree_k51 {α:Type} (x1:List Int) (K:O_k51→Option α):Option α :=
 cond (decide (0 < x1.length))
 (cond (decide ((0 + x1.length) * 8≤140737488355328))
 (K ([] ++ x1,()))
 (none))
 (none)
def F_k51:A_k51→M_k51→Option O_k51:=fun a b=>cond (decide (a.1.length * 8≤140737488355328)) (some (a.1,())) none
def args_k28:SkL:=(.cons lL .nil)
def mem_k28:MSk:=[]
def outs_k28:List OutC:=[⟨(cP 0),[(0,.cells (.cons lL (.cons lI (.cons lB (.cons (cM 1) (.cons (cM 2) (.cons (cM 3) (.cons (cM 4) (.cons (cM 5) (.cons (cM 6) (.cons (cW 7) .nil))))))))))),(1,qa),(2,qa),(3,qb),(4,qc),(5,qd),(6,qe),(7,qf)]⟩]
abbrev A_k28:Type:=(List Int×Unit)
abbrev M_k28:Type:=Unit
abbrev O_k28:Type:=Unit×(Yd×Y1×Y1×Y2×Y3×Y4×Y5×Yb×Unit)
abbrev B_k28:=A_k28→M_k28→Option O_k28
def tree_k28 (F_k51:B_k51) {α:Type} (x1:List Int) (K:O_k28→Option α):Option α :=
 (F_k51 (x1,()) ()).bind fun r1 =>
 K ((),(r1.1,0,false,()),[],[],[],[],[],[],[],())
noncomputable def F_k28:A_k28→M_k28→Option O_k28:=fun a b=>tree_k28 F_k51 a.1 some
theorem n_k28 (F_k51:B_k51) (x1) {α:Type} (K:O_k28→Option α):tree_k28 F_k51 x1 K = (tree_k28 F_k51 x1 some).bind K:=by simp only [tree_k28,bind_cond,bind_none',bind_some',bind_bind',bind_sum]
theorem Fe_k28 (x1):F_k28 (x1,()) () = tree_k28 F_k51 x1 some:=rfl
def args_k29:SkL:=(.cons (cP 0) .nil)
def mem_k29:MSk:=[(0,.cells (.cons lL (.cons lI (.cons lB (.cons (cM 1) (.cons (cM 2) (.cons (cM 3) (.cons (cM 4) (.cons (cM 5) (.cons (cM 6) (.cons (cW 7) .nil))))))))))),(1,qa),(2,qa),(3,qb),(4,qc),(5,qd),(6,qe),(7,qf)]
def outs_k29:List OutC:=[⟨lB,[]⟩]
abbrev A_k29:Type:=Unit
abbrev M_k29:Type:=(Yd×Y1×Y1×Y2×Y3×Y4×Y5×Yb×Unit)
abbrev O_k29:Type:=Bool×Unit
abbrev B_k29:=A_k29→M_k29→Option O_k29
def routs_k29:List OutC:=[⟨lB,[(0,.cells (.cons lL (.cons lI (.cons lB (.cons (cM 1) (.cons (cM 2) (.cons (cM 3) (.cons (cM 4) (.cons (cM 5) (.cons (cM 6) (.cons (cW 7) .nil))))))))))),(1,qa),(2,qa),(3,qb),(4,qc),(5,qd),(6,qe),(7,qf)]⟩]
abbrev RO_k29:Type:=Bool×(Yd×Y1×Y1×Y2×Y3×Y4×Y5×Yb×Unit)
def tree_k29 {α:Type} (x1:List Int) (x2:Int) (x3:Bool) (x4:Y1) (x5:Y1) (x6:Y2) (x7:Y3) (x8:Y4) (x9:Y5) (x10:Yb) (K:RO_k29→Option α):Option α :=
 K (x3,(x1,x2,x3,()),x4,x5,x6,x7,x8,x9,x10,())
noncomputable def R_k29:A_k29→M_k29→Option RO_k29:=fun a b=>tree_k29 b.1.1 b.1.2.1 b.1.2.2.1 b.2.1 b.2.2.1 b.2.2.2.1 b.2.2.2.2.1 b.2.2.2.2.2.1 b.2.2.2.2.2.2.1 b.2.2.2.2.2.2.2.1 some
theorem reads_k29 (a:A_k29) (b:M_k29):Leaf (fun r:RO_k29=>r.2 = b) (R_k29 a b):=by
 show Leaf _ (tree_k29 b.1.1 b.1.2.1 b.1.2.2.1 b.2.1 b.2.2.1 b.2.2.2.1 b.2.2.2.2.1 b.2.2.2.2.2.1 b.2.2.2.2.2.2.1 b.2.2.2.2.2.2.2.1 some)
 unfold tree_k29
 repeat (first | (with_reducible refine leaf_bind fun _=>?_) | (with_reducible apply leaf_cond) | (with_reducible refine leaf_sum (fun _=>?_) (fun _=>?_)) | (with_reducible exact leaf_none) | exact leaf_some rfl)
noncomputable def F_k29:A_k29→M_k29→Option O_k29:=fun a b=>(R_k29 a b).map fun r=>(r.1,())
theorem n_k29 (x1 x2 x3 x4 x5 x6 x7 x8 x9 x10) {α:Type} (K:RO_k29→Option α):tree_k29 x1 x2 x3 x4 x5 x6 x7 x8 x9 x10 K = (tree_k29 x1 x2 x3 x4 x5 x6 x7 x8 x9 x10 some).bind K:=by simp only [tree_k29,bind_cond,bind_none',bind_some',bind_bind',bind_sum]
def args_k30:SkL:=(.cons (cP 0) .nil)
def mem_k30:MSk:=[(0,.cells (.cons lL (.cons lI (.cons lB (.cons (cM 1) (.cons (cM 2) (.cons (cM 3) (.cons (cM 4) (.cons (cM 5) (.cons (cM 6) (.cons (cW 7) .nil))))))))))),(1,qa),(2,qa),(3,qb),(4,qc),(5,qd),(6,qe),(7,qf)]
def outs_k30:List OutC:=[⟨lU,[(0,.cells (.cons lL (.cons lI (.cons lB (.cons (cM 1) (.cons (cM 2) (.cons (cM 3) (.cons (cM 4) (.cons (cM 5) (.cons (cM 6) (.cons (cW 7) .nil))))))))))),(1,qa),(2,qa),(3,qb),(4,qc),(5,qd),(6,qe),(7,qf)]⟩]
abbrev A_k30:Type:=Unit
abbrev M_k30:Type:=(Yd×Y1×Y1×Y2×Y3×Y4×Y5×Yb×Unit)
abbrev O_k30:Type:=Int×(Yd×Y1×Y1×Y2×Y3×Y4×Y5×Yb×Unit)
abbrev B_k30:=A_k30→M_k30→Option O_k30
def tree_k30 {α:Type} (x1:List Int) (x2:Int) (x3:Bool) (x4:Y1) (x5:Y1) (x6:Y2) (x7:Y3) (x8:Y4) (x9:Y5) (x10:Yb) (K:O_k30→Option α):Option α :=
 cond (decide (x2 < (↑x1.length:Int)))
 (cond (decide (0≤x2))
 (cond (decide (x2 < (↑x1.length:Int)))
 (cond (x1.getD x2.toNat 0 == 0)
 (K (x1.getD x2.toNat 0,(x1,IntKind.i64.wrap (x2 + 1),true,()),Go.Proofs.Ytljfdfghagiblaa.S2.mput (Go.Proofs.Ytljfdfghagiblaa.S2.Row.cons (Go.Proofs.Ytljfdfghagiblaa.S2.Prim.int IntKind.u64) Go.Proofs.Ytljfdfghagiblaa.S2.Row.nil).eqb (x1.getD x2.toNat 0) (IntKind.i64.wrap (Go.Proofs.Ytljfdfghagiblaa.S2.mget (Go.Proofs.Ytljfdfghagiblaa.S2.Row.cons (Go.Proofs.Ytljfdfghagiblaa.S2.Prim.int IntKind.u64) Go.Proofs.Ytljfdfghagiblaa.S2.Row.nil).eqb 0 (x1.getD x2.toNat 0) x4 + 1)) x4,x5,x6,x7,x8,x9,x10,()))
 (cond (decide (Go.Proofs.Ytljfdfghagiblaa.S2.mget (Go.Proofs.Ytljfdfghagiblaa.S2.Row.cons (Go.Proofs.Ytljfdfghagiblaa.S2.Prim.int IntKind.u64) Go.Proofs.Ytljfdfghagiblaa.S2.Row.nil).eqb 0 (x1.getD x2.toNat 0) x4 > 0))
 (K (x1.getD x2.toNat 0,(x1,IntKind.i64.wrap (x2 + 1),true,()),Go.Proofs.Ytljfdfghagiblaa.S2.mput (Go.Proofs.Ytljfdfghagiblaa.S2.Row.cons (Go.Proofs.Ytljfdfghagiblaa.S2.Prim.int IntKind.u64) Go.Proofs.Ytljfdfghagiblaa.S2.Row.nil).eqb (x1.getD x2.toNat 0) (IntKind.i64.wrap (Go.Proofs.Ytljfdfghagiblaa.S2.mget (Go.Proofs.Ytljfdfghagiblaa.S2.Row.cons (Go.Proofs.Ytljfdfghagiblaa.S2.Prim.int IntKind.u64) Go.Proofs.Ytljfdfghagiblaa.S2.Row.nil).eqb 0 (x1.getD x2.toNat 0) x4 + 1)) x4,x5,x6,x7,x8,x9,x10,()))
 (cond (decide (Go.Proofs.Ytljfdfghagiblaa.S2.mget (Go.Proofs.Ytljfdfghagiblaa.S2.Row.cons (Go.Proofs.Ytljfdfghagiblaa.S2.Prim.int IntKind.u64) Go.Proofs.Ytljfdfghagiblaa.S2.Row.nil).eqb 0 (x1.getD x2.toNat 0) x5 > 0))
 (K (x1.getD x2.toNat 0,(x1,IntKind.i64.wrap (x2 + 1),true,()),Go.Proofs.Ytljfdfghagiblaa.S2.mput (Go.Proofs.Ytljfdfghagiblaa.S2.Row.cons (Go.Proofs.Ytljfdfghagiblaa.S2.Prim.int IntKind.u64) Go.Proofs.Ytljfdfghagiblaa.S2.Row.nil).eqb (x1.getD x2.toNat 0) (IntKind.i64.wrap (Go.Proofs.Ytljfdfghagiblaa.S2.mget (Go.Proofs.Ytljfdfghagiblaa.S2.Row.cons (Go.Proofs.Ytljfdfghagiblaa.S2.Prim.int IntKind.u64) Go.Proofs.Ytljfdfghagiblaa.S2.Row.nil).eqb 0 (x1.getD x2.toNat 0) x4 + 1)) x4,x5,x6,x7,x8,x9,x10,()))
 (K (x1.getD x2.toNat 0,(x1,IntKind.i64.wrap (x2 + 1),x3,()),Go.Proofs.Ytljfdfghagiblaa.S2.mput (Go.Proofs.Ytljfdfghagiblaa.S2.Row.cons (Go.Proofs.Ytljfdfghagiblaa.S2.Prim.int IntKind.u64) Go.Proofs.Ytljfdfghagiblaa.S2.Row.nil).eqb (x1.getD x2.toNat 0) (IntKind.i64.wrap (Go.Proofs.Ytljfdfghagiblaa.S2.mget (Go.Proofs.Ytljfdfghagiblaa.S2.Row.cons (Go.Proofs.Ytljfdfghagiblaa.S2.Prim.int IntKind.u64) Go.Proofs.Ytljfdfghagiblaa.S2.Row.nil).eqb 0 (x1.getD x2.toNat 0) x4 + 1)) x4,x5,x6,x7,x8,x9,x10,())))))
 (none))
 (none))
 (cond (IntKind.u64.wrap (9223372036854775808 + IntKind.u64.wrap x2) == 0)
 (K (IntKind.u64.wrap (9223372036854775808 + IntKind.u64.wrap x2),(x1,IntKind.i64.wrap (x2 + 1),true,()),Go.Proofs.Ytljfdfghagiblaa.S2.mput (Go.Proofs.Ytljfdfghagiblaa.S2.Row.cons (Go.Proofs.Ytljfdfghagiblaa.S2.Prim.int IntKind.u64) Go.Proofs.Ytljfdfghagiblaa.S2.Row.nil).eqb (IntKind.u64.wrap (9223372036854775808 + IntKind.u64.wrap x2)) (IntKind.i64.wrap (Go.Proofs.Ytljfdfghagiblaa.S2.mget (Go.Proofs.Ytljfdfghagiblaa.S2.Row.cons (Go.Proofs.Ytljfdfghagiblaa.S2.Prim.int IntKind.u64) Go.Proofs.Ytljfdfghagiblaa.S2.Row.nil).eqb 0 (IntKind.u64.wrap (9223372036854775808 + IntKind.u64.wrap x2)) x4 + 1)) x4,x5,x6,x7,x8,x9,x10,()))
 (cond (decide (Go.Proofs.Ytljfdfghagiblaa.S2.mget (Go.Proofs.Ytljfdfghagiblaa.S2.Row.cons (Go.Proofs.Ytljfdfghagiblaa.S2.Prim.int IntKind.u64) Go.Proofs.Ytljfdfghagiblaa.S2.Row.nil).eqb 0 (IntKind.u64.wrap (9223372036854775808 + IntKind.u64.wrap x2)) x4 > 0))
 (K (IntKind.u64.wrap (9223372036854775808 + IntKind.u64.wrap x2),(x1,IntKind.i64.wrap (x2 + 1),true,()),Go.Proofs.Ytljfdfghagiblaa.S2.mput (Go.Proofs.Ytljfdfghagiblaa.S2.Row.cons (Go.Proofs.Ytljfdfghagiblaa.S2.Prim.int IntKind.u64) Go.Proofs.Ytljfdfghagiblaa.S2.Row.nil).eqb (IntKind.u64.wrap (9223372036854775808 + IntKind.u64.wrap x2)) (IntKind.i64.wrap (Go.Proofs.Ytljfdfghagiblaa.S2.mget (Go.Proofs.Ytljfdfghagiblaa.S2.Row.cons (Go.Proofs.Ytljfdfghagiblaa.S2.Prim.int IntKind.u64) Go.Proofs.Ytljfdfghagiblaa.S2.Row.nil).eqb 0 (IntKind.u64.wrap (9223372036854775808 + IntKind.u64.wrap x2)) x4 + 1)) x4,x5,x6,x7,x8,x9,x10,()))
 (cond (decide (Go.Proofs.Ytljfdfghagiblaa.S2.mget (Go.Proofs.Ytljfdfghagiblaa.S2.Row.cons (Go.Proofs.Ytljfdfghagiblaa.S2.Prim.int IntKind.u64) Go.Proofs.Ytljfdfghagiblaa.S2.Row.nil).eqb 0 (IntKind.u64.wrap (9223372036854775808 + IntKind.u64.wrap x2)) x5 > 0))
 (K (IntKind.u64.wrap (9223372036854775808 + IntKind.u64.wrap x2),(x1,IntKind.i64.wrap (x2 + 1),true,()),Go.Proofs.Ytljfdfghagiblaa.S2.mput (Go.Proofs.Ytljfdfghagiblaa.S2.Row.cons (Go.Proofs.Ytljfdfghagiblaa.S2.Prim.int IntKind.u64) Go.Proofs.Ytljfdfghagiblaa.S2.Row.nil).eqb (IntKind.u64.wrap (9223372036854775808 + IntKind.u64.wrap x2)) (IntKind.i64.wrap (Go.Proofs.Ytljfdfghagiblaa.S2.mget (Go.Proofs.Ytljfdfghagiblaa.S2.Row.cons (Go.Proofs.Ytljfdfghagiblaa.S2.Prim.int IntKind.u64) Go.Proofs.Ytljfdfghagiblaa.S2.Row.nil).eqb 0 (IntKind.u64.wrap (9223372036854775808 + IntKind.u64.wrap x2)) x4 + 1)) x4,x5,x6,x7,x8,x9,x10,()))
 (K (IntKind.u64.wrap (9223372036854775808 + IntKind.u64.wrap x2),(x1,IntKind.i64.wrap (x2 + 1),x3,()),Go.Proofs.Ytljfdfghagiblaa.S2.mput (Go.Proofs.Ytljfdfghagiblaa.S2.Row.cons (Go.Proofs.Ytljfdfghagiblaa.S2.Prim.int IntKind.u64) Go.Proofs.Ytljfdfghagiblaa.S2.Row.nil).eqb (IntKind.u64.wrap (9223372036854775808 + IntKind.u64.wrap x2)) (IntKind.i64.wrap (Go.Proofs.Ytljfdfghagiblaa.S2.mget (Go.Proofs.Ytljfdfghagiblaa.S2.Row.cons (Go.Proofs.Ytljfdfghagiblaa.S2.Prim.int IntKind.u64) Go.Proofs.Ytljfdfghagiblaa.S2.Row.nil).eqb 0 (IntKind.u64.wrap (9223372036854775808 + IntKind.u64.wrap x2)) x4 + 1)) x4,x5,x6,x7,x8,x9,x10,())))))
noncomputable def F_k30:A_k30→M_k30→Option O_k30:=fun a b=>tree_k30 b.1.1 b.1.2.1 b.1.2.2.1 b.2.1 b.2.2.1 b.2.2.2.1 b.2.2.2.2.1 b.2.2.2.2.2.1 b.2.2.2.2.2.2.1 b.2.2.2.2.2.2.2.1 some
theorem n_k30 (x1 x2 x3 x4 x5 x6 x7 x8 x9 x10) {α:Type} (K:O_k30→Option α):tree_k30 x1 x2 x3 x4 x5 x6 x7 x8 x9 x10 K = (tree_k30 x1 x2 x3 x4 x5 x6 x7 x8 x9 x10 some).bind K:=by simp only [tree_k30,bind_cond,bind_none',bind_some',bind_bind',bind_sum]
theorem Fe_k30 (x1 x2 x3 x4 x5 x6 x7 x8 x9 x10):F_k30 () ((x1,x2,x3,()),x4,x5,x6,x7,x8,x9,x10,()) = tree_k30 x1 x2 x3 x4 x5 x6 x7 x8 x9 x10 some:=rfl
def args_k31:SkL:=(.cons (cP 0) (.cons lS .nil))
def mem_k31:MSk:=[(0,.cells (.cons lL (.cons lI (.cons lB (.cons (cM 1) (.cons (cM 2) (.cons (cM 3) (.cons (cM 4) (.cons (cM 5) (.cons (cM 6) (.cons (cW 7) .nil))))))))))),(1,qa),(2,qa),(3,qb),(4,qc),(5,qd),(6,qe),(7,qf)]
def outs_k31:List OutC:=[⟨lU,[(0,.cells (.cons lL (.cons lI (.cons lB (.cons (cM 1) (.cons (cM 2) (.cons (cM 3) (.cons (cM 4) (.cons (cM 5) (.cons (cM 6) (.cons (cW 7) .nil))))))))))),(1,qa),(2,qa),(3,qb),(4,qc),(5,qd),(6,qe),(7,qf)]⟩]
abbrev A_k31:Type:=(ByteArray×Unit)
abbrev M_k31:Type:=(Yd×Y1×Y1×Y2×Y3×Y4×Y5×Yb×Unit)
abbrev O_k31:Type:=Int×(Yd×Y1×Y1×Y2×Y3×Y4×Y5×Yb×Unit)
abbrev B_k31:=A_k31→M_k31→Option O_k31
def tree_k31 (F_k30:B_k30) {α:Type} (x1:ByteArray) (x2:List Int) (x3:Int) (x4:Bool) (x5:Y1) (x6:Y1) (x7:Y2) (x8:Y3) (x9:Y4) (x10:Y5) (x11:Yb) (K:O_k31→Option α):Option α :=
 cond (!Go.Proofs.Ytljfdfghagiblaa.S2.mhas (Go.Proofs.Ytljfdfghagiblaa.S2.Row.cons Go.Proofs.Ytljfdfghagiblaa.S2.Prim.str Go.Proofs.Ytljfdfghagiblaa.S2.Row.nil).eqb x1 x7)
 ((F_k30 () ((x2,x3,x4,()),x5,x6,x7,x8,x9,x10,x11,())).bind fun r1 =>
 K (r1.1,(r1.2.1.1,r1.2.1.2.1,r1.2.1.2.2.1,()),r1.2.2.1,r1.2.2.2.1,Go.Proofs.Ytljfdfghagiblaa.S2.mput (Go.Proofs.Ytljfdfghagiblaa.S2.Row.cons Go.Proofs.Ytljfdfghagiblaa.S2.Prim.str Go.Proofs.Ytljfdfghagiblaa.S2.Row.nil).eqb x1 r1.1 r1.2.2.2.2.1,r1.2.2.2.2.2.1,r1.2.2.2.2.2.2.1,r1.2.2.2.2.2.2.2.1,r1.2.2.2.2.2.2.2.2.1,()))
 (K (Go.Proofs.Ytljfdfghagiblaa.S2.mget (Go.Proofs.Ytljfdfghagiblaa.S2.Row.cons Go.Proofs.Ytljfdfghagiblaa.S2.Prim.str Go.Proofs.Ytljfdfghagiblaa.S2.Row.nil).eqb 0 x1 x7,(x2,x3,x4,()),x5,x6,x7,x8,x9,x10,x11,()))
noncomputable def F_k31:A_k31→M_k31→Option O_k31:=fun a b=>tree_k31 F_k30 a.1 b.1.1 b.1.2.1 b.1.2.2.1 b.2.1 b.2.2.1 b.2.2.2.1 b.2.2.2.2.1 b.2.2.2.2.2.1 b.2.2.2.2.2.2.1 b.2.2.2.2.2.2.2.1 some
theorem n_k31 (F_k30:B_k30) (x1 x2 x3 x4 x5 x6 x7 x8 x9 x10 x11) {α:Type} (K:O_k31→Option α):tree_k31 F_k30 x1 x2 x3 x4 x5 x6 x7 x8 x9 x10 x11 K = (tree_k31 F_k30 x1 x2 x3 x4 x5 x6 x7 x8 x9 x10 x11 some).bind K:=by simp only [tree_k31,bind_cond,bind_none',bind_some',bind_bind',bind_sum]
theorem Fe_k31 (x1 x2 x3 x4 x5 x6 x7 x8 x9 x10 x11):F_k31 (x1,()) ((x2,x3,x4,()),x5,x6,x7,x8,x9,x10,x11,()) = tree_k31 F_k30 x1 x2 x3 x4 x5 x6 x7 x8 x9 x10 x11 some:=rfl
def args_k32:SkL:=(.cons (cP 0) (.cons lU .nil))
def mem_k32:MSk:=[(0,.cells (.cons lL (.cons lI (.cons lB (.cons (cM 1) (.cons (cM 2) (.cons (cM 3) (.cons (cM 4) (.cons (cM 5) (.cons (cM 6) (.cons (cW 7) .nil))))))))))),(1,qa),(2,qa),(3,qb),(4,qc),(5,qd),(6,qe),(7,qf)]
def outs_k32:List OutC:=[⟨(.tup .nil),[(0,.cells (.cons lL (.cons lI (.cons lB (.cons (cM 1) (.cons (cM 2) (.cons (cM 3) (.cons (cM 4) (.cons (cM 5) (.cons (cM 6) (.cons (cW 7) .nil))))))))))),(1,qa),(2,qa),(3,qb),(4,qc),(5,qd),(6,qe),(7,qf)]⟩]
abbrev A_k32:Type:=(Int×Unit)
abbrev M_k32:Type:=(Yd×Y1×Y1×Y2×Y3×Y4×Y5×Yb×Unit)
abbrev O_k32:Type:=Unit×(Yd×Y1×Y1×Y2×Y3×Y4×Y5×Yb×Unit)
abbrev B_k32:=A_k32→M_k32→Option O_k32
def tree_k32 {α:Type} (x1:Int) (x2:List Int) (x3:Int) (x4:Bool) (x5:Y1) (x6:Y1) (x7:Y2) (x8:Y3) (x9:Y4) (x10:Y5) (x11:Yb) (K:O_k32→Option α):Option α :=
 cond (Go.Proofs.Ytljfdfghagiblaa.S2.mget (Go.Proofs.Ytljfdfghagiblaa.S2.Row.cons (Go.Proofs.Ytljfdfghagiblaa.S2.Prim.int IntKind.u64) Go.Proofs.Ytljfdfghagiblaa.S2.Row.nil).eqb 0 x1 x5 == 0)
 (K ((),(x2,x3,x4,()),x5,Go.Proofs.Ytljfdfghagiblaa.S2.mput (Go.Proofs.Ytljfdfghagiblaa.S2.Row.cons (Go.Proofs.Ytljfdfghagiblaa.S2.Prim.int IntKind.u64) Go.Proofs.Ytljfdfghagiblaa.S2.Row.nil).eqb x1 1 x6,x7,x8,x9,x10,x11,()))
 (K ((),(x2,x3,x4,()),x5,x6,x7,x8,x9,x10,x11,()))
noncomputable def F_k32:A_k32→M_k32→Option O_k32:=fun a b=>tree_k32 a.1 b.1.1 b.1.2.1 b.1.2.2.1 b.2.1 b.2.2.1 b.2.2.2.1 b.2.2.2.2.1 b.2.2.2.2.2.1 b.2.2.2.2.2.2.1 b.2.2.2.2.2.2.2.1 some
theorem n_k32 (x1 x2 x3 x4 x5 x6 x7 x8 x9 x10 x11) {α:Type} (K:O_k32→Option α):tree_k32 x1 x2 x3 x4 x5 x6 x7 x8 x9 x10 x11 K = (tree_k32 x1 x2 x3 x4 x5 x6 x7 x8 x9 x10 x11 some).bind K:=by simp only [tree_k32,bind_cond,bind_none',bind_some',bind_bind',bind_sum]
theorem Fe_k32 (x1 x2 x3 x4 x5 x6 x7 x8 x9 x10 x11):F_k32 (x1,()) ((x2,x3,x4,()),x5,x6,x7,x8,x9,x10,x11,()) = tree_k32 x1 x2 x3 x4 x5 x6 x7 x8 x9 x10 x11 some:=rfl
end Go.Proofs.Ytljfdfghagiblaa.S2
