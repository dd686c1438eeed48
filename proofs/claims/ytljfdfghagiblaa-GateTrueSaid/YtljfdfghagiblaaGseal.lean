/- Plain forms of the program's functions,by program. -/
import Derived.Test.YtljfdfghagiblaaGideal
import Derived.Test.YtljfdfghagiblaaGwire
set_option maxRecDepth 100000
set_option maxHeartbeats 0
set_option linter.unusedVariables false
set_option linter.unusedSimpArgs false
namespace Go.Proofs.Ytljfdfghagiblaa.S2
open Go
def args_k34:SkL:=(.cons (cP 0) (.cons lU (.cons lU (.cons lS (.cons lS .nil)))))
def mem_k34:MSk:=[(0,.cells (.cons lL (.cons lI (.cons lB (.cons (cM 1) (.cons (cM 2) (.cons (cM 3) (.cons (cM 4) (.cons (cM 5) (.cons (cM 6) (.cons (cW 7) .nil))))))))))),(1,qa),(2,qa),(3,qb),(4,qc),(5,qd),(6,qe),(7,qf)]
def outs_k34:List OutC:=[⟨lU,[(0,.cells (.cons lL (.cons lI (.cons lB (.cons (cM 1) (.cons (cM 2) (.cons (cM 3) (.cons (cM 4) (.cons (cM 5) (.cons (cM 6) (.cons (cW 8) .nil))))))))))),(1,qa),(2,qa),(3,qb),(4,qc),(5,qd),(6,qe),(7,.gone),(8,qf)]⟩]
abbrev A_k34:Type:=(Int×Int×ByteArray×ByteArray×Unit)
abbrev M_k34:Type:=(Yd×Y1×Y1×Y2×Y3×Y4×Y5×Yb×Unit)
abbrev O_k34:Type:=Int×(Yd×Y1×Y1×Y2×Y3×Y4×Y5×Unit×Yb×Unit)
abbrev B_k34:=A_k34→M_k34→Option O_k34
def tree_k34 (F_k30:B_k30) {α:Type} (x1:Int) (x2:Int) (x3:ByteArray) (x4:ByteArray) (x5:List Int) (x6:Int) (x7:Bool) (x8:Y1) (x9:Y1) (x10:Y2) (x11:Y3) (x12:Y4) (x13:Y5) (x14:Yb) (K:O_k34→Option α):Option α :=
 cond (!Go.Proofs.Ytljfdfghagiblaa.S2.mhas (Go.Proofs.Ytljfdfghagiblaa.S2.Row.ofList [Go.Proofs.Ytljfdfghagiblaa.S2.Prim.int IntKind.u64,Go.Proofs.Ytljfdfghagiblaa.S2.Prim.int IntKind.u64,Go.Proofs.Ytljfdfghagiblaa.S2.Prim.str,Go.Proofs.Ytljfdfghagiblaa.S2.Prim.str]).eqb (x1,x2,x3,x4) x12)
 ((F_k30 () ((x5,x6,x7,()),x8,x9,x10,x11,x12,x13,x14,())).bind fun r1 =>
 cond (decide ((r1.2.2.2.2.2.2.2.2.1.length + 1) * 16≤140737488355328))
 (cond (Go.Proofs.Ytljfdfghagiblaa.S2.mget (Go.Proofs.Ytljfdfghagiblaa.S2.Row.ofList [Go.Proofs.Ytljfdfghagiblaa.S2.Prim.int IntKind.u64,Go.Proofs.Ytljfdfghagiblaa.S2.Prim.int IntKind.u64,Go.Proofs.Ytljfdfghagiblaa.S2.Prim.int IntKind.u64,Go.Proofs.Ytljfdfghagiblaa.S2.Prim.str]).eqb 0 (x1,x2,r1.1,x3) r1.2.2.2.2.2.2.2.1 == 0)
 (K (r1.1,(r1.2.1.1,r1.2.1.2.1,r1.2.1.2.2.1,()),r1.2.2.1,r1.2.2.2.1,r1.2.2.2.2.1,r1.2.2.2.2.2.1,Go.Proofs.Ytljfdfghagiblaa.S2.mput (Go.Proofs.Ytljfdfghagiblaa.S2.Row.ofList [Go.Proofs.Ytljfdfghagiblaa.S2.Prim.int IntKind.u64,Go.Proofs.Ytljfdfghagiblaa.S2.Prim.int IntKind.u64,Go.Proofs.Ytljfdfghagiblaa.S2.Prim.str,Go.Proofs.Ytljfdfghagiblaa.S2.Prim.str]).eqb (x1,x2,x3,x4) r1.1 r1.2.2.2.2.2.2.1,Go.Proofs.Ytljfdfghagiblaa.S2.mput (Go.Proofs.Ytljfdfghagiblaa.S2.Row.ofList [Go.Proofs.Ytljfdfghagiblaa.S2.Prim.int IntKind.u64,Go.Proofs.Ytljfdfghagiblaa.S2.Prim.int IntKind.u64,Go.Proofs.Ytljfdfghagiblaa.S2.Prim.int IntKind.u64,Go.Proofs.Ytljfdfghagiblaa.S2.Prim.str]).eqb (x1,x2,r1.1,x3) (↑(r1.2.2.2.2.2.2.2.2.1 ++ ([] ++ [x4])).length:Int) r1.2.2.2.2.2.2.2.1,(),r1.2.2.2.2.2.2.2.2.1 ++ ([] ++ [x4]),()))
 (K (r1.1,(r1.2.1.1,r1.2.1.2.1,r1.2.1.2.2.1,()),r1.2.2.1,r1.2.2.2.1,r1.2.2.2.2.1,r1.2.2.2.2.2.1,Go.Proofs.Ytljfdfghagiblaa.S2.mput (Go.Proofs.Ytljfdfghagiblaa.S2.Row.ofList [Go.Proofs.Ytljfdfghagiblaa.S2.Prim.int IntKind.u64,Go.Proofs.Ytljfdfghagiblaa.S2.Prim.int IntKind.u64,Go.Proofs.Ytljfdfghagiblaa.S2.Prim.str,Go.Proofs.Ytljfdfghagiblaa.S2.Prim.str]).eqb (x1,x2,x3,x4) r1.1 r1.2.2.2.2.2.2.1,r1.2.2.2.2.2.2.2.1,(),r1.2.2.2.2.2.2.2.2.1 ++ ([] ++ [x4]),())))
 (none))
 (K (Go.Proofs.Ytljfdfghagiblaa.S2.mget (Go.Proofs.Ytljfdfghagiblaa.S2.Row.ofList [Go.Proofs.Ytljfdfghagiblaa.S2.Prim.int IntKind.u64,Go.Proofs.Ytljfdfghagiblaa.S2.Prim.int IntKind.u64,Go.Proofs.Ytljfdfghagiblaa.S2.Prim.str,Go.Proofs.Ytljfdfghagiblaa.S2.Prim.str]).eqb 0 (x1,x2,x3,x4) x12,(x5,x6,x7,()),x8,x9,x10,x11,x12,x13,(),x14,()))
noncomputable def F_k34:A_k34→M_k34→Option O_k34:=fun a b=>tree_k34 F_k30 a.1 a.2.1 a.2.2.1 a.2.2.2.1 b.1.1 b.1.2.1 b.1.2.2.1 b.2.1 b.2.2.1 b.2.2.2.1 b.2.2.2.2.1 b.2.2.2.2.2.1 b.2.2.2.2.2.2.1 b.2.2.2.2.2.2.2.1 some
theorem n_k34 (F_k30:B_k30) (x1 x2 x3 x4 x5 x6 x7 x8 x9 x10 x11 x12 x13 x14) {α:Type} (K:O_k34→Option α):tree_k34 F_k30 x1 x2 x3 x4 x5 x6 x7 x8 x9 x10 x11 x12 x13 x14 K = (tree_k34 F_k30 x1 x2 x3 x4 x5 x6 x7 x8 x9 x10 x11 x12 x13 x14 some).bind K:=by simp only [tree_k34,bind_cond,bind_none',bind_some',bind_bind',bind_sum]
theorem Fe_k34 (x1 x2 x3 x4 x5 x6 x7 x8 x9 x10 x11 x12 x13 x14):F_k34 (x1,x2,x3,x4,()) ((x5,x6,x7,()),x8,x9,x10,x11,x12,x13,x14,()) = tree_k34 F_k30 x1 x2 x3 x4 x5 x6 x7 x8 x9 x10 x11 x12 x13 x14 some:=rfl
def args_k33:SkL:=(.cons (cP 0) (.cons lU (.cons lU (.cons lS (.cons lU .nil)))))
def mem_k33:MSk:=[(0,.cells (.cons lL (.cons lI (.cons lB (.cons (cM 1) (.cons (cM 2) (.cons (cM 3) (.cons (cM 4) (.cons (cM 5) (.cons (cM 6) (.cons (cW 7) .nil))))))))))),(1,qa),(2,qa),(3,qb),(4,qc),(5,qd),(6,qe),(7,qf)]
def outs_k33:List OutC:=[⟨(.tup (.cons lS (.cons lB .nil))),[(0,.cells (.cons lL (.cons lI (.cons lB (.cons (cM 1) (.cons (cM 2) (.cons (cM 3) (.cons (cM 4) (.cons (cM 5) (.cons (cM 6) (.cons (cW 7) .nil))))))))))),(1,qa),(2,qa),(3,qb),(4,qc),(5,qd),(6,qe),(7,qf)]⟩]
abbrev A_k33:Type:=(Int×Int×ByteArray×Int×Unit)
abbrev M_k33:Type:=(Yd×Y1×Y1×Y2×Y3×Y4×Y5×Yb×Unit)
abbrev O_k33:Type:=(ByteArray×Bool×Unit)×(Yd×Y1×Y1×Y2×Y3×Y4×Y5×Yb×Unit)
abbrev B_k33:=A_k33→M_k33→Option O_k33
def tree_k33 (F_k32:B_k32) {α:Type} (x1:Int) (x2:Int) (x3:ByteArray) (x4:Int) (x5:List Int) (x6:Int) (x7:Bool) (x8:Y1) (x9:Y1) (x10:Y2) (x11:Y3) (x12:Y4) (x13:Y5) (x14:Yb) (K:O_k33→Option α):Option α :=
 cond (decide (Go.Proofs.Ytljfdfghagiblaa.S2.mget (Go.Proofs.Ytljfdfghagiblaa.S2.Row.ofList [Go.Proofs.Ytljfdfghagiblaa.S2.Prim.int IntKind.u64,Go.Proofs.Ytljfdfghagiblaa.S2.Prim.int IntKind.u64,Go.Proofs.Ytljfdfghagiblaa.S2.Prim.int IntKind.u64,Go.Proofs.Ytljfdfghagiblaa.S2.Prim.str]).eqb 0 (x1,x2,x4,x3) x13 > 0))
 (cond (decide (0≤IntKind.i64.wrap (Go.Proofs.Ytljfdfghagiblaa.S2.mget (Go.Proofs.Ytljfdfghagiblaa.S2.Row.ofList [Go.Proofs.Ytljfdfghagiblaa.S2.Prim.int IntKind.u64,Go.Proofs.Ytljfdfghagiblaa.S2.Prim.int IntKind.u64,Go.Proofs.Ytljfdfghagiblaa.S2.Prim.int IntKind.u64,Go.Proofs.Ytljfdfghagiblaa.S2.Prim.str]).eqb 0 (x1,x2,x4,x3) x13 - 1)))
 (cond (decide (IntKind.i64.wrap (Go.Proofs.Ytljfdfghagiblaa.S2.mget (Go.Proofs.Ytljfdfghagiblaa.S2.Row.ofList [Go.Proofs.Ytljfdfghagiblaa.S2.Prim.int IntKind.u64,Go.Proofs.Ytljfdfghagiblaa.S2.Prim.int IntKind.u64,Go.Proofs.Ytljfdfghagiblaa.S2.Prim.int IntKind.u64,Go.Proofs.Ytljfdfghagiblaa.S2.Prim.str]).eqb 0 (x1,x2,x4,x3) x13 - 1) < (↑x14.length:Int)))
 (K ((x14.getD (0 + (IntKind.i64.wrap (Go.Proofs.Ytljfdfghagiblaa.S2.mget (Go.Proofs.Ytljfdfghagiblaa.S2.Row.ofList [Go.Proofs.Ytljfdfghagiblaa.S2.Prim.int IntKind.u64,Go.Proofs.Ytljfdfghagiblaa.S2.Prim.int IntKind.u64,Go.Proofs.Ytljfdfghagiblaa.S2.Prim.int IntKind.u64,Go.Proofs.Ytljfdfghagiblaa.S2.Prim.str]).eqb 0 (x1,x2,x4,x3) x13 - 1)).toNat) ByteArray.empty,true,()),(x5,x6,x7,()),x8,x9,x10,x11,x12,x13,x14,()))
 (none))
 (none))
 ((F_k32 (x4,()) ((x5,x6,x7,()),x8,x9,x10,x11,x12,x13,x14,())).bind fun r1 =>
 K ((ByteArray.empty,false,()),(r1.2.1.1,r1.2.1.2.1,r1.2.1.2.2.1,()),r1.2.2.1,r1.2.2.2.1,r1.2.2.2.2.1,r1.2.2.2.2.2.1,r1.2.2.2.2.2.2.1,r1.2.2.2.2.2.2.2.1,r1.2.2.2.2.2.2.2.2.1,()))
noncomputable def F_k33:A_k33→M_k33→Option O_k33:=fun a b=>tree_k33 F_k32 a.1 a.2.1 a.2.2.1 a.2.2.2.1 b.1.1 b.1.2.1 b.1.2.2.1 b.2.1 b.2.2.1 b.2.2.2.1 b.2.2.2.2.1 b.2.2.2.2.2.1 b.2.2.2.2.2.2.1 b.2.2.2.2.2.2.2.1 some
theorem n_k33 (F_k32:B_k32) (x1 x2 x3 x4 x5 x6 x7 x8 x9 x10 x11 x12 x13 x14) {α:Type} (K:O_k33→Option α):tree_k33 F_k32 x1 x2 x3 x4 x5 x6 x7 x8 x9 x10 x11 x12 x13 x14 K = (tree_k33 F_k32 x1 x2 x3 x4 x5 x6 x7 x8 x9 x10 x11 x12 x13 x14 some).bind K:=by simp only [tree_k33,bind_cond,bind_none',bind_some',bind_bind',bind_sum]
theorem Fe_k33 (x1 x2 x3 x4 x5 x6 x7 x8 x9 x10 x11 x12 x13 x14):F_k33 (x1,x2,x3,x4,()) ((x5,x6,x7,()),x8,x9,x10,x11,x12,x13,x14,()) = tree_k33 F_k32 x1 x2 x3 x4 x5 x6 x7 x8 x9 x10 x11 x12 x13 x14 some:=rfl
def args_k57:SkL:=(.cons lU (.cons lU (.cons lU (.cons lU .nil))))
def mem_k57:MSk:=[]
def outs_k57:List OutC:=[⟨lS,[]⟩]
abbrev A_k57:Type:=(Int×Int×Int×Int×Unit)
abbrev M_k57:Type:=Unit
abbrev O_k57:Type:=ByteArray×Unit
abbrev B_k57:=A_k57→M_k57→Option O_k57
def tree_k57 (F_k78:B_k78) {α:Type} (x1:Int) (x2:Int) (x3:Int) (x4:Int) (K:O_k57→Option α):Option α :=
 (F_k78 (x1,()) ()).bind fun r1 =>
 (F_k78 (x2,()) ()).bind fun r2 =>
 cond (decide (r1.1.size + r2.1.size≤9223372036854775807))
 ((F_k78 (x3,()) ()).bind fun r3 =>
 cond (decide ((r1.1 ++ r2.1).size + r3.1.size≤9223372036854775807))
 ((F_k78 (x4,()) ()).bind fun r4 =>
 cond (decide ((r1.1 ++ r2.1 ++ r3.1).size + r4.1.size≤9223372036854775807))
 (K (r1.1 ++ r2.1 ++ r3.1 ++ r4.1,()))
 (none))
 (none))
 (none)
noncomputable def F_k57:A_k57→M_k57→Option O_k57:=fun a b=>tree_k57 F_k78 a.1 a.2.1 a.2.2.1 a.2.2.2.1 some
theorem n_k57 (F_k78:B_k78) (x1 x2 x3 x4) {α:Type} (K:O_k57→Option α):tree_k57 F_k78 x1 x2 x3 x4 K = (tree_k57 F_k78 x1 x2 x3 x4 some).bind K:=by simp only [tree_k57,bind_cond,bind_none',bind_some',bind_bind',bind_sum]
theorem Fe_k57 (x1 x2 x3 x4):F_k57 (x1,x2,x3,x4,()) () = tree_k57 F_k78 x1 x2 x3 x4 some:=rfl
def args_k52:SkL:=(.cons lU (.cons lU (.cons lU (.cons lU .nil))))
def mem_k52:MSk:=[]
def outs_k52:List OutC:=[⟨lS,[]⟩]
abbrev A_k52:Type:=(Int×Int×Int×Int×Unit)
abbrev M_k52:Type:=Unit
abbrev O_k52:Type:=ByteArray×Unit
abbrev B_k52:=A_k52→M_k52→Option O_k52
def tree_k52 (F_k57:B_k57) {α:Type} (x1:Int) (x2:Int) (x3:Int) (x4:Int) (K:O_k52→Option α):Option α :=
 (F_k57 (x1,x2,x3,x4,()) ()).bind fun r1 =>
 K (r1.1,())
noncomputable def F_k52:A_k52→M_k52→Option O_k52:=fun a b=>tree_k52 F_k57 a.1 a.2.1 a.2.2.1 a.2.2.2.1 some
theorem n_k52 (F_k57:B_k57) (x1 x2 x3 x4) {α:Type} (K:O_k52→Option α):tree_k52 F_k57 x1 x2 x3 x4 K = (tree_k52 F_k57 x1 x2 x3 x4 some).bind K:=by simp only [tree_k52,bind_cond,bind_none',bind_some',bind_bind',bind_sum]
theorem Fe_k52 (x1 x2 x3 x4):F_k52 (x1,x2,x3,x4,()) () = tree_k52 F_k57 x1 x2 x3 x4 some:=rfl
def args_k55:SkL:=(.cons (.agg (.cons lU (.cons lU (.cons lU (.cons lU .nil))))) .nil)
def mem_k55:MSk:=[]
def outs_k55:List OutC:=[⟨lS,[]⟩]
abbrev A_k55:Type:=((Int×Int×Int×Int×Unit)×Unit)
abbrev M_k55:Type:=Unit
abbrev O_k55:Type:=ByteArray×Unit
abbrev B_k55:=A_k55→M_k55→Option O_k55
def tree_k55 (F_k57:B_k57) {α:Type} (x1:Int) (x2:Int) (x3:Int) (x4:Int) (K:O_k55→Option α):Option α :=
 (F_k57 (x1,x2,x3,x4,()) ()).bind fun r1 =>
 K (r1.1,())
noncomputable def F_k55:A_k55→M_k55→Option O_k55:=fun a b=>tree_k55 F_k57 a.1.1 a.1.2.1 a.1.2.2.1 a.1.2.2.2.1 some
theorem n_k55 (F_k57:B_k57) (x1 x2 x3 x4) {α:Type} (K:O_k55→Option α):tree_k55 F_k57 x1 x2 x3 x4 K = (tree_k55 F_k57 x1 x2 x3 x4 some).bind K:=by simp only [tree_k55,bind_cond,bind_none',bind_some',bind_bind',bind_sum]
theorem Fe_k55 (x1 x2 x3 x4):F_k55 ((x1,x2,x3,x4,()),()) () = tree_k55 F_k57 x1 x2 x3 x4 some:=rfl
def args_k54:SkL:=(.cons lS .nil)
def mem_k54:MSk:=[]
def outs_k54:List OutC:=[⟨(.tup (.cons (.agg (.cons lU (.cons lU (.cons lU (.cons lU .nil))))) (.cons lB .nil))),[]⟩]
abbrev A_k54:Type:=(ByteArray×Unit)
abbrev M_k54:Type:=Unit
abbrev O_k54:Type:=((Int×Int×Int×Int×Unit)×Bool×Unit)×Unit
abbrev B_k54:=A_k54→M_k54→Option O_k54
def tree_k54 (F_k80:B_k80) {α:Type} (x1:ByteArray) (K:O_k54→Option α):Option α :=
 (F_k80 (x1,()) ()).bind fun r1 =>
 cond (!r1.1.2.2.1)
 (K (((0,0,0,0,()),false,()),()))
 ((F_k80 (r1.1.2.1,()) ()).bind fun r2 =>
 cond (!r2.1.2.2.1)
 (K (((0,0,0,0,()),false,()),()))
 ((F_k80 (r2.1.2.1,()) ()).bind fun r3 =>
 cond (!r3.1.2.2.1)
 (K (((0,0,0,0,()),false,()),()))
 ((F_k80 (r3.1.2.1,()) ()).bind fun r4 =>
 cond (!r4.1.2.2.1)
 (K (((0,0,0,0,()),false,()),()))
 (cond (!r4.1.2.1.toList == ByteArray.empty.toList)
 (K (((0,0,0,0,()),false,()),()))
 (K (((r1.1.1,r2.1.1,r3.1.1,r4.1.1,()),true,()),()))))))
noncomputable def F_k54:A_k54→M_k54→Option O_k54:=fun a b=>tree_k54 F_k80 a.1 some
theorem n_k54 (F_k80:B_k80) (x1) {α:Type} (K:O_k54→Option α):tree_k54 F_k80 x1 K = (tree_k54 F_k80 x1 some).bind K:=by simp only [tree_k54,bind_cond,bind_none',bind_some',bind_bind',bind_sum]
theorem Fe_k54 (x1):F_k54 (x1,()) () = tree_k54 F_k80 x1 some:=rfl
def args_k53:SkL:=(.cons (cP 0) (.cons lU (.cons lU (.cons lU (.cons lU (.cons lU (.cons lS .nil)))))))
def mem_k53:MSk:=[(0,.cells (.cons lL (.cons lI (.cons lB (.cons (cM 1) (.cons (cM 2) (.cons (cM 3) (.cons (cM 4) (.cons (cM 5) (.cons (cM 6) (.cons (cW 7) .nil))))))))))),(1,qa),(2,qa),(3,qb),(4,qc),(5,qd),(6,qe),(7,qf)]
def outs_k53:List OutC:=[⟨(.agg (.cons lU (.cons lU (.cons lU (.cons lU .nil))))),[(0,.cells (.cons lL (.cons lI (.cons lB (.cons (cM 1) (.cons (cM 2) (.cons (cM 3) (.cons (cM 4) (.cons (cM 5) (.cons (cM 6) (.cons (cW 8) .nil))))))))))),(1,qa),(2,qa),(3,qb),(4,qc),(5,qd),(6,qe),(7,.gone),(8,qf)]⟩]
abbrev A_k53:Type:=Yt
abbrev M_k53:Type:=(Yd×Y1×Y1×Y2×Y3×Y4×Y5×Yb×Unit)
abbrev O_k53:Type:=(Int×Int×Int×Int×Unit)×(Yd×Y1×Y1×Y2×Y3×Y4×Y5×Unit×Yb×Unit)
abbrev B_k53:=A_k53→M_k53→Option O_k53
def tree_k53 (F_k30:B_k30) (F_k52:B_k52) (F_k34:B_k34) {α:Type} (x1:Int) (x2:Int) (x3:Int) (x4:Int) (x5:Int) (x6:ByteArray) (x7:List Int) (x8:Int) (x9:Bool) (x10:Y1) (x11:Y1) (x12:Y2) (x13:Y3) (x14:Y4) (x15:Y5) (x16:Yb) (K:O_k53→Option α):Option α :=
 (F_k30 () ((x7,x8,x9,()),x10,x11,x12,x13,x14,x15,x16,())).bind fun r1 =>
 (F_k52 (x2,x3,x4,x5,()) ()).bind fun r2 =>
 (F_k34 (x1,r1.1,r2.1,x6,()) ((r1.2.1.1,r1.2.1.2.1,r1.2.1.2.2.1,()),r1.2.2.1,r1.2.2.2.1,r1.2.2.2.2.1,r1.2.2.2.2.2.1,r1.2.2.2.2.2.2.1,r1.2.2.2.2.2.2.2.1,r1.2.2.2.2.2.2.2.2.1,())).bind fun r3 =>
 K ((x4,x5,r1.1,r3.1,()),(r3.2.1.1,r3.2.1.2.1,r3.2.1.2.2.1,()),r3.2.2.1,r3.2.2.2.1,r3.2.2.2.2.1,r3.2.2.2.2.2.1,r3.2.2.2.2.2.2.1,r3.2.2.2.2.2.2.2.1,(),r3.2.2.2.2.2.2.2.2.2.1,())
noncomputable def F_k53:A_k53→M_k53→Option O_k53:=fun a b=>tree_k53 F_k30 F_k52 F_k34 a.1 a.2.1 a.2.2.1 a.2.2.2.1 a.2.2.2.2.1 a.2.2.2.2.2.1 b.1.1 b.1.2.1 b.1.2.2.1 b.2.1 b.2.2.1 b.2.2.2.1 b.2.2.2.2.1 b.2.2.2.2.2.1 b.2.2.2.2.2.2.1 b.2.2.2.2.2.2.2.1 some
theorem n_k53 (F_k30:B_k30) (F_k52:B_k52) (F_k34:B_k34) (x1 x2 x3 x4 x5 x6 x7 x8 x9 x10 x11 x12 x13 x14 x15 x16) {α:Type} (K:O_k53→Option α):tree_k53 F_k30 F_k52 F_k34 x1 x2 x3 x4 x5 x6 x7 x8 x9 x10 x11 x12 x13 x14 x15 x16 K = (tree_k53 F_k30 F_k52 F_k34 x1 x2 x3 x4 x5 x6 x7 x8 x9 x10 x11 x12 x13 x14 x15 x16 some).bind K:=by simp only [tree_k53,bind_cond,bind_none',bind_some',bind_bind',bind_sum]
theorem Fe_k53 (x1 x2 x3 x4 x5 x6 x7 x8 x9 x10 x11 x12 x13 x14 x15 x16):F_k53 (x1,x2,x3,x4,x5,x6,()) ((x7,x8,x9,()),x10,x11,x12,x13,x14,x15,x16,()) = tree_k53 F_k30 F_k52 F_k34 x1 x2 x3 x4 x5 x6 x7 x8 x9 x10 x11 x12 x13 x14 x15 x16 some:=rfl
def args_k56:SkL:=(.cons (cP 0) (.cons lU (.cons lU (.cons lU (.cons (.agg (.cons lU (.cons lU (.cons lU (.cons lU .nil))))) .nil)))))
def mem_k56:MSk:=[(0,.cells (.cons lL (.cons lI (.cons lB (.cons (cM 1) (.cons (cM 2) (.cons (cM 3) (.cons (cM 4) (.cons (cM 5) (.cons (cM 6) (.cons (cW 7) .nil))))))))))),(1,qa),(2,qa),(3,qb),(4,qc),(5,qd),(6,qe),(7,qf)]
def outs_k56:List OutC:=[⟨(.tup (.cons lS (.cons lB .nil))),[(0,.cells (.cons lL (.cons lI (.cons lB (.cons (cM 1) (.cons (cM 2) (.cons (cM 3) (.cons (cM 4) (.cons (cM 5) (.cons (cM 6) (.cons (cW 7) .nil))))))))))),(1,qa),(2,qa),(3,qb),(4,qc),(5,qd),(6,qe),(7,qf)]⟩]
abbrev A_k56:Type:=(Int×Int×Int×(Int×Int×Int×Int×Unit)×Unit)
abbrev M_k56:Type:=(Yd×Y1×Y1×Y2×Y3×Y4×Y5×Yb×Unit)
abbrev O_k56:Type:=(ByteArray×Bool×Unit)×(Yd×Y1×Y1×Y2×Y3×Y4×Y5×Yb×Unit)
abbrev B_k56:=A_k56→M_k56→Option O_k56
def tree_k56 (F_k52:B_k52) (F_k33:B_k33) {α:Type} (x1:Int) (x2:Int) (x3:Int) (x4:Int) (x5:Int) (x6:Int) (x7:Int) (x8:List Int) (x9:Int) (x10:Bool) (x11:Y1) (x12:Y1) (x13:Y2) (x14:Y3) (x15:Y4) (x16:Y5) (x17:Yb) (K:O_k56→Option α):Option α :=
 (F_k52 (x2,x3,x4,x5,()) ()).bind fun r1 =>
 (F_k33 (x1,x6,r1.1,x7,()) ((x8,x9,x10,()),x11,x12,x13,x14,x15,x16,x17,())).bind fun r2 =>
 K ((r2.1.1,r2.1.2.1,()),(r2.2.1.1,r2.2.1.2.1,r2.2.1.2.2.1,()),r2.2.2.1,r2.2.2.2.1,r2.2.2.2.2.1,r2.2.2.2.2.2.1,r2.2.2.2.2.2.2.1,r2.2.2.2.2.2.2.2.1,r2.2.2.2.2.2.2.2.2.1,())
noncomputable def F_k56:A_k56→M_k56→Option O_k56:=fun a b=>tree_k56 F_k52 F_k33 a.1 a.2.1 a.2.2.1 a.2.2.2.1.1 a.2.2.2.1.2.1 a.2.2.2.1.2.2.1 a.2.2.2.1.2.2.2.1 b.1.1 b.1.2.1 b.1.2.2.1 b.2.1 b.2.2.1 b.2.2.2.1 b.2.2.2.2.1 b.2.2.2.2.2.1 b.2.2.2.2.2.2.1 b.2.2.2.2.2.2.2.1 some
theorem n_k56 (F_k52:B_k52) (F_k33:B_k33) (x1 x2 x3 x4 x5 x6 x7 x8 x9 x10 x11 x12 x13 x14 x15 x16 x17) {α:Type} (K:O_k56→Option α):tree_k56 F_k52 F_k33 x1 x2 x3 x4 x5 x6 x7 x8 x9 x10 x11 x12 x13 x14 x15 x16 x17 K = (tree_k56 F_k52 F_k33 x1 x2 x3 x4 x5 x6 x7 x8 x9 x10 x11 x12 x13 x14 x15 x16 x17 some).bind K:=by simp only [tree_k56,bind_cond,bind_none',bind_some',bind_bind',bind_sum]
theorem Fe_k56 (x1 x2 x3 x4 x5 x6 x7 x8 x9 x10 x11 x12 x13 x14 x15 x16 x17):F_k56 (x1,x2,x3,(x4,x5,x6,x7,()),()) ((x8,x9,x10,()),x11,x12,x13,x14,x15,x16,x17,()) = tree_k56 F_k52 F_k33 x1 x2 x3 x4 x5 x6 x7 x8 x9 x10 x11 x12 x13 x14 x15 x16 x17 some:=rfl
end Go.Proofs.Ytljfdfghagiblaa.S2
