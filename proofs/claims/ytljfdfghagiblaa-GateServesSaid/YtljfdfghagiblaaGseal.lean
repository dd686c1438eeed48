/- Plain forms of the program's functions,by program. -/
import Derived.Test.YtljfdfghagiblaaGideal
import Derived.Test.YtljfdfghagiblaaGwire
set_option maxRecDepth 100000
set_option maxHeartbeats 0
set_option linter.unusedVariables false
set_option linter.unusedSimpArgs false
namespace Go.Proofs.Ytljfdfghagiblaa.S2
open Go
def args_k32:SkL:=(.cons (cP 0) (.cons lU (.cons lU (.cons lS (.cons lS .nil)))))
def mem_k32:MSk:=[(0,.cells (.cons lL (.cons lI (.cons lB (.cons (cM 1) (.cons (cM 2) (.cons (cM 3) (.cons (cM 4) (.cons (cM 5) (.cons (cM 6) (.cons (cW 7) .nil))))))))))),(1,qa),(2,qa),(3,qb),(4,qc),(5,qd),(6,qe),(7,qf)]
def outs_k32:List OutC:=[⟨lU,[(0,.cells (.cons lL (.cons lI (.cons lB (.cons (cM 1) (.cons (cM 2) (.cons (cM 3) (.cons (cM 4) (.cons (cM 5) (.cons (cM 6) (.cons (cW 8) .nil))))))))))),(1,qa),(2,qa),(3,qb),(4,qc),(5,qd),(6,qe),(7,.gone),(8,qf)]⟩]
abbrev A_k32:Type:=(Int×Int×ByteArray×ByteArray×Unit)
abbrev M_k32:Type:=(Yd×Y1×Y1×Y2×Y3×Y4×Y5×Yb×Unit)
abbrev O_k32:Type:=Int×(Yd×Y1×Y1×Y2×Y3×Y4×Y5×Unit×Yb×Unit)
abbrev B_k32:=A_k32→M_k32→Option O_k32
def tree_k32 (F_k28:B_k28) {α:Type} (x1:Int) (x2:Int) (x3:ByteArray) (x4:ByteArray) (x5:List Int) (x6:Int) (x7:Bool) (x8:Y1) (x9:Y1) (x10:Y2) (x11:Y3) (x12:Y4) (x13:Y5) (x14:Yb) (K:O_k32→Option α):Option α :=
 cond (!Go.Proofs.Ytljfdfghagiblaa.S2.mhas (Go.Proofs.Ytljfdfghagiblaa.S2.Row.ofList [Go.Proofs.Ytljfdfghagiblaa.S2.Prim.int IntKind.u64,Go.Proofs.Ytljfdfghagiblaa.S2.Prim.int IntKind.u64,Go.Proofs.Ytljfdfghagiblaa.S2.Prim.str,Go.Proofs.Ytljfdfghagiblaa.S2.Prim.str]).eqb (x1,x2,x3,x4) x12)
 ((F_k28 () ((x5,x6,x7,()),x8,x9,x10,x11,x12,x13,x14,())).bind fun r1 =>
 cond (decide ((r1.2.2.2.2.2.2.2.2.1.length + 1) * 16≤140737488355328))
 (cond (Go.Proofs.Ytljfdfghagiblaa.S2.mget (Go.Proofs.Ytljfdfghagiblaa.S2.Row.ofList [Go.Proofs.Ytljfdfghagiblaa.S2.Prim.int IntKind.u64,Go.Proofs.Ytljfdfghagiblaa.S2.Prim.int IntKind.u64,Go.Proofs.Ytljfdfghagiblaa.S2.Prim.int IntKind.u64,Go.Proofs.Ytljfdfghagiblaa.S2.Prim.str]).eqb 0 (x1,x2,r1.1,x3) r1.2.2.2.2.2.2.2.1 == 0)
 (K (r1.1,(r1.2.1.1,r1.2.1.2.1,r1.2.1.2.2.1,()),r1.2.2.1,r1.2.2.2.1,r1.2.2.2.2.1,r1.2.2.2.2.2.1,Go.Proofs.Ytljfdfghagiblaa.S2.mput (Go.Proofs.Ytljfdfghagiblaa.S2.Row.ofList [Go.Proofs.Ytljfdfghagiblaa.S2.Prim.int IntKind.u64,Go.Proofs.Ytljfdfghagiblaa.S2.Prim.int IntKind.u64,Go.Proofs.Ytljfdfghagiblaa.S2.Prim.str,Go.Proofs.Ytljfdfghagiblaa.S2.Prim.str]).eqb (x1,x2,x3,x4) r1.1 r1.2.2.2.2.2.2.1,Go.Proofs.Ytljfdfghagiblaa.S2.mput (Go.Proofs.Ytljfdfghagiblaa.S2.Row.ofList [Go.Proofs.Ytljfdfghagiblaa.S2.Prim.int IntKind.u64,Go.Proofs.Ytljfdfghagiblaa.S2.Prim.int IntKind.u64,Go.Proofs.Ytljfdfghagiblaa.S2.Prim.int IntKind.u64,Go.Proofs.Ytljfdfghagiblaa.S2.Prim.str]).eqb (x1,x2,r1.1,x3) (↑(r1.2.2.2.2.2.2.2.2.1 ++ ([] ++ [x4])).length:Int) r1.2.2.2.2.2.2.2.1,(),r1.2.2.2.2.2.2.2.2.1 ++ ([] ++ [x4]),()))
 (K (r1.1,(r1.2.1.1,r1.2.1.2.1,r1.2.1.2.2.1,()),r1.2.2.1,r1.2.2.2.1,r1.2.2.2.2.1,r1.2.2.2.2.2.1,Go.Proofs.Ytljfdfghagiblaa.S2.mput (Go.Proofs.Ytljfdfghagiblaa.S2.Row.ofList [Go.Proofs.Ytljfdfghagiblaa.S2.Prim.int IntKind.u64,Go.Proofs.Ytljfdfghagiblaa.S2.Prim.int IntKind.u64,Go.Proofs.Ytljfdfghagiblaa.S2.Prim.str,Go.Proofs.Ytljfdfghagiblaa.S2.Prim.str]).eqb (x1,x2,x3,x4) r1.1 r1.2.2.2.2.2.2.1,r1.2.2.2.2.2.2.2.1,(),r1.2.2.2.2.2.2.2.2.1 ++ ([] ++ [x4]),())))
 (none))
 (K (Go.Proofs.Ytljfdfghagiblaa.S2.mget (Go.Proofs.Ytljfdfghagiblaa.S2.Row.ofList [Go.Proofs.Ytljfdfghagiblaa.S2.Prim.int IntKind.u64,Go.Proofs.Ytljfdfghagiblaa.S2.Prim.int IntKind.u64,Go.Proofs.Ytljfdfghagiblaa.S2.Prim.str,Go.Proofs.Ytljfdfghagiblaa.S2.Prim.str]).eqb 0 (x1,x2,x3,x4) x12,(x5,x6,x7,()),x8,x9,x10,x11,x12,x13,(),x14,()))
noncomputable def F_k32:A_k32→M_k32→Option O_k32:=fun a b=>tree_k32 F_k28 a.1 a.2.1 a.2.2.1 a.2.2.2.1 b.1.1 b.1.2.1 b.1.2.2.1 b.2.1 b.2.2.1 b.2.2.2.1 b.2.2.2.2.1 b.2.2.2.2.2.1 b.2.2.2.2.2.2.1 b.2.2.2.2.2.2.2.1 some
theorem n_k32 (F_k28:B_k28) (x1 x2 x3 x4 x5 x6 x7 x8 x9 x10 x11 x12 x13 x14) {α:Type} (K:O_k32→Option α):tree_k32 F_k28 x1 x2 x3 x4 x5 x6 x7 x8 x9 x10 x11 x12 x13 x14 K = (tree_k32 F_k28 x1 x2 x3 x4 x5 x6 x7 x8 x9 x10 x11 x12 x13 x14 some).bind K:=by simp only [tree_k32,bind_cond,bind_none',bind_some',bind_bind',bind_sum]
theorem Fe_k32 (x1 x2 x3 x4 x5 x6 x7 x8 x9 x10 x11 x12 x13 x14):F_k32 (x1,x2,x3,x4,()) ((x5,x6,x7,()),x8,x9,x10,x11,x12,x13,x14,()) = tree_k32 F_k28 x1 x2 x3 x4 x5 x6 x7 x8 x9 x10 x11 x12 x13 x14 some:=rfl
def args_k31:SkL:=(.cons (cP 0) (.cons lU (.cons lU (.cons lS (.cons lU .nil)))))
def mem_k31:MSk:=[(0,.cells (.cons lL (.cons lI (.cons lB (.cons (cM 1) (.cons (cM 2) (.cons (cM 3) (.cons (cM 4) (.cons (cM 5) (.cons (cM 6) (.cons (cW 7) .nil))))))))))),(1,qa),(2,qa),(3,qb),(4,qc),(5,qd),(6,qe),(7,qf)]
def outs_k31:List OutC:=[⟨(.tup (.cons lS (.cons lB .nil))),[(0,.cells (.cons lL (.cons lI (.cons lB (.cons (cM 1) (.cons (cM 2) (.cons (cM 3) (.cons (cM 4) (.cons (cM 5) (.cons (cM 6) (.cons (cW 7) .nil))))))))))),(1,qa),(2,qa),(3,qb),(4,qc),(5,qd),(6,qe),(7,qf)]⟩]
abbrev A_k31:Type:=(Int×Int×ByteArray×Int×Unit)
abbrev M_k31:Type:=(Yd×Y1×Y1×Y2×Y3×Y4×Y5×Yb×Unit)
abbrev O_k31:Type:=(ByteArray×Bool×Unit)×(Yd×Y1×Y1×Y2×Y3×Y4×Y5×Yb×Unit)
abbrev B_k31:=A_k31→M_k31→Option O_k31
def tree_k31 (F_k30:B_k30) {α:Type} (x1:Int) (x2:Int) (x3:ByteArray) (x4:Int) (x5:List Int) (x6:Int) (x7:Bool) (x8:Y1) (x9:Y1) (x10:Y2) (x11:Y3) (x12:Y4) (x13:Y5) (x14:Yb) (K:O_k31→Option α):Option α :=
 cond (decide (Go.Proofs.Ytljfdfghagiblaa.S2.mget (Go.Proofs.Ytljfdfghagiblaa.S2.Row.ofList [Go.Proofs.Ytljfdfghagiblaa.S2.Prim.int IntKind.u64,Go.Proofs.Ytljfdfghagiblaa.S2.Prim.int IntKind.u64,Go.Proofs.Ytljfdfghagiblaa.S2.Prim.int IntKind.u64,Go.Proofs.Ytljfdfghagiblaa.S2.Prim.str]).eqb 0 (x1,x2,x4,x3) x13 > 0))
 (cond (decide (0≤IntKind.i64.wrap (Go.Proofs.Ytljfdfghagiblaa.S2.mget (Go.Proofs.Ytljfdfghagiblaa.S2.Row.ofList [Go.Proofs.Ytljfdfghagiblaa.S2.Prim.int IntKind.u64,Go.Proofs.Ytljfdfghagiblaa.S2.Prim.int IntKind.u64,Go.Proofs.Ytljfdfghagiblaa.S2.Prim.int IntKind.u64,Go.Proofs.Ytljfdfghagiblaa.S2.Prim.str]).eqb 0 (x1,x2,x4,x3) x13 - 1)))
 (cond (decide (IntKind.i64.wrap (Go.Proofs.Ytljfdfghagiblaa.S2.mget (Go.Proofs.Ytljfdfghagiblaa.S2.Row.ofList [Go.Proofs.Ytljfdfghagiblaa.S2.Prim.int IntKind.u64,Go.Proofs.Ytljfdfghagiblaa.S2.Prim.int IntKind.u64,Go.Proofs.Ytljfdfghagiblaa.S2.Prim.int IntKind.u64,Go.Proofs.Ytljfdfghagiblaa.S2.Prim.str]).eqb 0 (x1,x2,x4,x3) x13 - 1) < (↑x14.length:Int)))
 (K ((x14.getD (0 + (IntKind.i64.wrap (Go.Proofs.Ytljfdfghagiblaa.S2.mget (Go.Proofs.Ytljfdfghagiblaa.S2.Row.ofList [Go.Proofs.Ytljfdfghagiblaa.S2.Prim.int IntKind.u64,Go.Proofs.Ytljfdfghagiblaa.S2.Prim.int IntKind.u64,Go.Proofs.Ytljfdfghagiblaa.S2.Prim.int IntKind.u64,Go.Proofs.Ytljfdfghagiblaa.S2.Prim.str]).eqb 0 (x1,x2,x4,x3) x13 - 1)).toNat) ByteArray.empty,true,()),(x5,x6,x7,()),x8,x9,x10,x11,x12,x13,x14,()))
 (none))
 (none))
 ((F_k30 (x4,()) ((x5,x6,x7,()),x8,x9,x10,x11,x12,x13,x14,())).bind fun r1 =>
 K ((ByteArray.empty,false,()),(r1.2.1.1,r1.2.1.2.1,r1.2.1.2.2.1,()),r1.2.2.1,r1.2.2.2.1,r1.2.2.2.2.1,r1.2.2.2.2.2.1,r1.2.2.2.2.2.2.1,r1.2.2.2.2.2.2.2.1,r1.2.2.2.2.2.2.2.2.1,()))
noncomputable def F_k31:A_k31→M_k31→Option O_k31:=fun a b=>tree_k31 F_k30 a.1 a.2.1 a.2.2.1 a.2.2.2.1 b.1.1 b.1.2.1 b.1.2.2.1 b.2.1 b.2.2.1 b.2.2.2.1 b.2.2.2.2.1 b.2.2.2.2.2.1 b.2.2.2.2.2.2.1 b.2.2.2.2.2.2.2.1 some
theorem n_k31 (F_k30:B_k30) (x1 x2 x3 x4 x5 x6 x7 x8 x9 x10 x11 x12 x13 x14) {α:Type} (K:O_k31→Option α):tree_k31 F_k30 x1 x2 x3 x4 x5 x6 x7 x8 x9 x10 x11 x12 x13 x14 K = (tree_k31 F_k30 x1 x2 x3 x4 x5 x6 x7 x8 x9 x10 x11 x12 x13 x14 some).bind K:=by simp only [tree_k31,bind_cond,bind_none',bind_some',bind_bind',bind_sum]
theorem Fe_k31 (x1 x2 x3 x4 x5 x6 x7 x8 x9 x10 x11 x12 x13 x14):F_k31 (x1,x2,x3,x4,()) ((x5,x6,x7,()),x8,x9,x10,x11,x12,x13,x14,()) = tree_k31 F_k30 x1 x2 x3 x4 x5 x6 x7 x8 x9 x10 x11 x12 x13 x14 some:=rfl
def args_k52:SkL:=(.cons lU (.cons lU (.cons lU (.cons lU .nil))))
def mem_k52:MSk:=[]
def outs_k52:List OutC:=[⟨lS,[]⟩]
abbrev A_k52:Type:=(Int×Int×Int×Int×Unit)
abbrev M_k52:Type:=Unit
abbrev O_k52:Type:=ByteArray×Unit
abbrev B_k52:=A_k52→M_k52→Option O_k52
def tree_k52 (F_k73:B_k73) {α:Type} (x1:Int) (x2:Int) (x3:Int) (x4:Int) (K:O_k52→Option α):Option α :=
 (F_k73 (x1,()) ()).bind fun r1 =>
 (F_k73 (x2,()) ()).bind fun r2 =>
 cond (decide (r1.1.size + r2.1.size≤9223372036854775807))
 ((F_k73 (x3,()) ()).bind fun r3 =>
 cond (decide ((r1.1 ++ r2.1).size + r3.1.size≤9223372036854775807))
 ((F_k73 (x4,()) ()).bind fun r4 =>
 cond (decide ((r1.1 ++ r2.1 ++ r3.1).size + r4.1.size≤9223372036854775807))
 (K (r1.1 ++ r2.1 ++ r3.1 ++ r4.1,()))
 (none))
 (none))
 (none)
noncomputable def F_k52:A_k52→M_k52→Option O_k52:=fun a b=>tree_k52 F_k73 a.1 a.2.1 a.2.2.1 a.2.2.2.1 some
theorem n_k52 (F_k73:B_k73) (x1 x2 x3 x4) {α:Type} (K:O_k52→Option α):tree_k52 F_k73 x1 x2 x3 x4 K = (tree_k52 F_k73 x1 x2 x3 x4 some).bind K:=by simp only [tree_k52,bind_cond,bind_none',bind_some',bind_bind',bind_sum]
theorem Fe_k52 (x1 x2 x3 x4):F_k52 (x1,x2,x3,x4,()) () = tree_k52 F_k73 x1 x2 x3 x4 some:=rfl
def args_k47:SkL:=(.cons lU (.cons lU (.cons lU (.cons lU .nil))))
def mem_k47:MSk:=[]
def outs_k47:List OutC:=[⟨lS,[]⟩]
abbrev A_k47:Type:=(Int×Int×Int×Int×Unit)
abbrev M_k47:Type:=Unit
abbrev O_k47:Type:=ByteArray×Unit
abbrev B_k47:=A_k47→M_k47→Option O_k47
def tree_k47 (F_k52:B_k52) {α:Type} (x1:Int) (x2:Int) (x3:Int) (x4:Int) (K:O_k47→Option α):Option α :=
 (F_k52 (x1,x2,x3,x4,()) ()).bind fun r1 =>
 K (r1.1,())
noncomputable def F_k47:A_k47→M_k47→Option O_k47:=fun a b=>tree_k47 F_k52 a.1 a.2.1 a.2.2.1 a.2.2.2.1 some
theorem n_k47 (F_k52:B_k52) (x1 x2 x3 x4) {α:Type} (K:O_k47→Option α):tree_k47 F_k52 x1 x2 x3 x4 K = (tree_k47 F_k52 x1 x2 x3 x4 some).bind K:=by simp only [tree_k47,bind_cond,bind_none',bind_some',bind_bind',bind_sum]
theorem Fe_k47 (x1 x2 x3 x4):F_k47 (x1,x2,x3,x4,()) () = tree_k47 F_k52 x1 x2 x3 x4 some:=rfl
def args_k50:SkL:=(.cons (.agg (.cons lU (.cons lU (.cons lU (.cons lU .nil))))) .nil)
def mem_k50:MSk:=[]
def outs_k50:List OutC:=[⟨lS,[]⟩]
abbrev A_k50:Type:=((Int×Int×Int×Int×Unit)×Unit)
abbrev M_k50:Type:=Unit
abbrev O_k50:Type:=ByteArray×Unit
abbrev B_k50:=A_k50→M_k50→Option O_k50
def tree_k50 (F_k52:B_k52) {α:Type} (x1:Int) (x2:Int) (x3:Int) (x4:Int) (K:O_k50→Option α):Option α :=
 (F_k52 (x1,x2,x3,x4,()) ()).bind fun r1 =>
 K (r1.1,())
noncomputable def F_k50:A_k50→M_k50→Option O_k50:=fun a b=>tree_k50 F_k52 a.1.1 a.1.2.1 a.1.2.2.1 a.1.2.2.2.1 some
theorem n_k50 (F_k52:B_k52) (x1 x2 x3 x4) {α:Type} (K:O_k50→Option α):tree_k50 F_k52 x1 x2 x3 x4 K = (tree_k50 F_k52 x1 x2 x3 x4 some).bind K:=by simp only [tree_k50,bind_cond,bind_none',bind_some',bind_bind',bind_sum]
theorem Fe_k50 (x1 x2 x3 x4):F_k50 ((x1,x2,x3,x4,()),()) () = tree_k50 F_k52 x1 x2 x3 x4 some:=rfl
def args_k49:SkL:=(.cons lS .nil)
def mem_k49:MSk:=[]
def outs_k49:List OutC:=[⟨(.tup (.cons (.agg (.cons lU (.cons lU (.cons lU (.cons lU .nil))))) (.cons lB .nil))),[]⟩]
abbrev A_k49:Type:=(ByteArray×Unit)
abbrev M_k49:Type:=Unit
abbrev O_k49:Type:=((Int×Int×Int×Int×Unit)×Bool×Unit)×Unit
abbrev B_k49:=A_k49→M_k49→Option O_k49
def tree_k49 (F_k75:B_k75) {α:Type} (x1:ByteArray) (K:O_k49→Option α):Option α :=
 (F_k75 (x1,()) ()).bind fun r1 =>
 cond (!r1.1.2.2.1)
 (K (((0,0,0,0,()),false,()),()))
 ((F_k75 (r1.1.2.1,()) ()).bind fun r2 =>
 cond (!r2.1.2.2.1)
 (K (((0,0,0,0,()),false,()),()))
 ((F_k75 (r2.1.2.1,()) ()).bind fun r3 =>
 cond (!r3.1.2.2.1)
 (K (((0,0,0,0,()),false,()),()))
 ((F_k75 (r3.1.2.1,()) ()).bind fun r4 =>
 cond (!r4.1.2.2.1)
 (K (((0,0,0,0,()),false,()),()))
 (cond (!r4.1.2.1.toList == ByteArray.empty.toList)
 (K (((0,0,0,0,()),false,()),()))
 (K (((r1.1.1,r2.1.1,r3.1.1,r4.1.1,()),true,()),()))))))
noncomputable def F_k49:A_k49→M_k49→Option O_k49:=fun a b=>tree_k49 F_k75 a.1 some
theorem n_k49 (F_k75:B_k75) (x1) {α:Type} (K:O_k49→Option α):tree_k49 F_k75 x1 K = (tree_k49 F_k75 x1 some).bind K:=by simp only [tree_k49,bind_cond,bind_none',bind_some',bind_bind',bind_sum]
theorem Fe_k49 (x1):F_k49 (x1,()) () = tree_k49 F_k75 x1 some:=rfl
def args_k48:SkL:=(.cons (cP 0) (.cons lU (.cons lU (.cons lU (.cons lU (.cons lU (.cons lS .nil)))))))
def mem_k48:MSk:=[(0,.cells (.cons lL (.cons lI (.cons lB (.cons (cM 1) (.cons (cM 2) (.cons (cM 3) (.cons (cM 4) (.cons (cM 5) (.cons (cM 6) (.cons (cW 7) .nil))))))))))),(1,qa),(2,qa),(3,qb),(4,qc),(5,qd),(6,qe),(7,qf)]
def outs_k48:List OutC:=[⟨(.agg (.cons lU (.cons lU (.cons lU (.cons lU .nil))))),[(0,.cells (.cons lL (.cons lI (.cons lB (.cons (cM 1) (.cons (cM 2) (.cons (cM 3) (.cons (cM 4) (.cons (cM 5) (.cons (cM 6) (.cons (cW 8) .nil))))))))))),(1,qa),(2,qa),(3,qb),(4,qc),(5,qd),(6,qe),(7,.gone),(8,qf)]⟩]
abbrev A_k48:Type:=Yt
abbrev M_k48:Type:=(Yd×Y1×Y1×Y2×Y3×Y4×Y5×Yb×Unit)
abbrev O_k48:Type:=(Int×Int×Int×Int×Unit)×(Yd×Y1×Y1×Y2×Y3×Y4×Y5×Unit×Yb×Unit)
abbrev B_k48:=A_k48→M_k48→Option O_k48
def tree_k48 (F_k28:B_k28) (F_k47:B_k47) (F_k32:B_k32) {α:Type} (x1:Int) (x2:Int) (x3:Int) (x4:Int) (x5:Int) (x6:ByteArray) (x7:List Int) (x8:Int) (x9:Bool) (x10:Y1) (x11:Y1) (x12:Y2) (x13:Y3) (x14:Y4) (x15:Y5) (x16:Yb) (K:O_k48→Option α):Option α :=
 (F_k28 () ((x7,x8,x9,()),x10,x11,x12,x13,x14,x15,x16,())).bind fun r1 =>
 (F_k47 (x2,x3,x4,x5,()) ()).bind fun r2 =>
 (F_k32 (x1,r1.1,r2.1,x6,()) ((r1.2.1.1,r1.2.1.2.1,r1.2.1.2.2.1,()),r1.2.2.1,r1.2.2.2.1,r1.2.2.2.2.1,r1.2.2.2.2.2.1,r1.2.2.2.2.2.2.1,r1.2.2.2.2.2.2.2.1,r1.2.2.2.2.2.2.2.2.1,())).bind fun r3 =>
 K ((x4,x5,r1.1,r3.1,()),(r3.2.1.1,r3.2.1.2.1,r3.2.1.2.2.1,()),r3.2.2.1,r3.2.2.2.1,r3.2.2.2.2.1,r3.2.2.2.2.2.1,r3.2.2.2.2.2.2.1,r3.2.2.2.2.2.2.2.1,(),r3.2.2.2.2.2.2.2.2.2.1,())
noncomputable def F_k48:A_k48→M_k48→Option O_k48:=fun a b=>tree_k48 F_k28 F_k47 F_k32 a.1 a.2.1 a.2.2.1 a.2.2.2.1 a.2.2.2.2.1 a.2.2.2.2.2.1 b.1.1 b.1.2.1 b.1.2.2.1 b.2.1 b.2.2.1 b.2.2.2.1 b.2.2.2.2.1 b.2.2.2.2.2.1 b.2.2.2.2.2.2.1 b.2.2.2.2.2.2.2.1 some
theorem n_k48 (F_k28:B_k28) (F_k47:B_k47) (F_k32:B_k32) (x1 x2 x3 x4 x5 x6 x7 x8 x9 x10 x11 x12 x13 x14 x15 x16) {α:Type} (K:O_k48→Option α):tree_k48 F_k28 F_k47 F_k32 x1 x2 x3 x4 x5 x6 x7 x8 x9 x10 x11 x12 x13 x14 x15 x16 K = (tree_k48 F_k28 F_k47 F_k32 x1 x2 x3 x4 x5 x6 x7 x8 x9 x10 x11 x12 x13 x14 x15 x16 some).bind K:=by simp only [tree_k48,bind_cond,bind_none',bind_some',bind_bind',bind_sum]
theorem Fe_k48 (x1 x2 x3 x4 x5 x6 x7 x8 x9 x10 x11 x12 x13 x14 x15 x16):F_k48 (x1,x2,x3,x4,x5,x6,()) ((x7,x8,x9,()),x10,x11,x12,x13,x14,x15,x16,()) = tree_k48 F_k28 F_k47 F_k32 x1 x2 x3 x4 x5 x6 x7 x8 x9 x10 x11 x12 x13 x14 x15 x16 some:=rfl
def args_k51:SkL:=(.cons (cP 0) (.cons lU (.cons lU (.cons lU (.cons (.agg (.cons lU (.cons lU (.cons lU (.cons lU .nil))))) .nil)))))
def mem_k51:MSk:=[(0,.cells (.cons lL (.cons lI (.cons lB (.cons (cM 1) (.cons (cM 2) (.cons (cM 3) (.cons (cM 4) (.cons (cM 5) (.cons (cM 6) (.cons (cW 7) .nil))))))))))),(1,qa),(2,qa),(3,qb),(4,qc),(5,qd),(6,qe),(7,qf)]
def outs_k51:List OutC:=[⟨(.tup (.cons lS (.cons lB .nil))),[(0,.cells (.cons lL (.cons lI (.cons lB (.cons (cM 1) (.cons (cM 2) (.cons (cM 3) (.cons (cM 4) (.cons (cM 5) (.cons (cM 6) (.cons (cW 7) .nil))))))))))),(1,qa),(2,qa),(3,qb),(4,qc),(5,qd),(6,qe),(7,qf)]⟩]
abbrev A_k51:Type:=(Int×Int×Int×(Int×Int×Int×Int×Unit)×Unit)
abbrev M_k51:Type:=(Yd×Y1×Y1×Y2×Y3×Y4×Y5×Yb×Unit)
abbrev O_k51:Type:=(ByteArray×Bool×Unit)×(Yd×Y1×Y1×Y2×Y3×Y4×Y5×Yb×Unit)
abbrev B_k51:=A_k51→M_k51→Option O_k51
def tree_k51 (F_k47:B_k47) (F_k31:B_k31) {α:Type} (x1:Int) (x2:Int) (x3:Int) (x4:Int) (x5:Int) (x6:Int) (x7:Int) (x8:List Int) (x9:Int) (x10:Bool) (x11:Y1) (x12:Y1) (x13:Y2) (x14:Y3) (x15:Y4) (x16:Y5) (x17:Yb) (K:O_k51→Option α):Option α :=
 (F_k47 (x2,x3,x4,x5,()) ()).bind fun r1 =>
 (F_k31 (x1,x6,r1.1,x7,()) ((x8,x9,x10,()),x11,x12,x13,x14,x15,x16,x17,())).bind fun r2 =>
 K ((r2.1.1,r2.1.2.1,()),(r2.2.1.1,r2.2.1.2.1,r2.2.1.2.2.1,()),r2.2.2.1,r2.2.2.2.1,r2.2.2.2.2.1,r2.2.2.2.2.2.1,r2.2.2.2.2.2.2.1,r2.2.2.2.2.2.2.2.1,r2.2.2.2.2.2.2.2.2.1,())
noncomputable def F_k51:A_k51→M_k51→Option O_k51:=fun a b=>tree_k51 F_k47 F_k31 a.1 a.2.1 a.2.2.1 a.2.2.2.1.1 a.2.2.2.1.2.1 a.2.2.2.1.2.2.1 a.2.2.2.1.2.2.2.1 b.1.1 b.1.2.1 b.1.2.2.1 b.2.1 b.2.2.1 b.2.2.2.1 b.2.2.2.2.1 b.2.2.2.2.2.1 b.2.2.2.2.2.2.1 b.2.2.2.2.2.2.2.1 some
theorem n_k51 (F_k47:B_k47) (F_k31:B_k31) (x1 x2 x3 x4 x5 x6 x7 x8 x9 x10 x11 x12 x13 x14 x15 x16 x17) {α:Type} (K:O_k51→Option α):tree_k51 F_k47 F_k31 x1 x2 x3 x4 x5 x6 x7 x8 x9 x10 x11 x12 x13 x14 x15 x16 x17 K = (tree_k51 F_k47 F_k31 x1 x2 x3 x4 x5 x6 x7 x8 x9 x10 x11 x12 x13 x14 x15 x16 x17 some).bind K:=by simp only [tree_k51,bind_cond,bind_none',bind_some',bind_bind',bind_sum]
theorem Fe_k51 (x1 x2 x3 x4 x5 x6 x7 x8 x9 x10 x11 x12 x13 x14 x15 x16 x17):F_k51 (x1,x2,x3,(x4,x5,x6,x7,()),()) ((x8,x9,x10,()),x11,x12,x13,x14,x15,x16,x17,()) = tree_k51 F_k47 F_k31 x1 x2 x3 x4 x5 x6 x7 x8 x9 x10 x11 x12 x13 x14 x15 x16 x17 some:=rfl
end Go.Proofs.Ytljfdfghagiblaa.S2
