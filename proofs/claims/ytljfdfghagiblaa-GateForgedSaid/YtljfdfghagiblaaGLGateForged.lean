/- Plain forms of the program's functions,by program. -/
import Derived.Test.YtljfdfghagiblaaGlaw23
set_option maxRecDepth 100000
set_option maxHeartbeats 0
set_option linter.unusedVariables false
set_option linter.unusedSimpArgs false
namespace Go.Proofs.Ytljfdfghagiblaa.S2
open Go
def args_k32:SkL:=(.cons lI (.cons (.agg (.cons lI (.cons lI (.cons lI (.cons lU (.cons lU (.cons lS (.cons lS (.cons lL (.cons (.leaf (.slc 3 (.cons (.int .i64) .nil))) .nil)))))))))) (.cons (.agg (.cons lI (.cons lU .nil))) .nil)))
def mem_k32:MSk:=[]
def outs_k32:List OutC:=[⟨lB,[]⟩]
abbrev A_k32:Type:=(Int×(Int×Int×Int×Int×Int×ByteArray×ByteArray×List Int×List Int×Unit)×(Int×Int×Unit)×Unit)
abbrev M_k32:Type:=Unit
abbrev O_k32:Type:=Bool×Unit
abbrev B_k32:=A_k32→M_k32→Option O_k32
def tree_k32 (F_k25:B_k25) (F_k34:B_k34) (F_k33:B_k33) (F_k36:B_k36) (F_k16:B_k16) (F_k12:B_k12) (F_k35:B_k35) (F_k14:B_k14) (F_k26:B_k26) {α:Type} (x1:Int) (x2:Int) (x3:Int) (x4:Int) (x5:Int) (x6:Int) (x7:ByteArray) (x8:ByteArray) (x9:List Int) (x10:List Int) (x11:Int) (x12:Int) (K:O_k32→Option α):Option α :=
 (F_k25 ([],()) ()).bind fun r1 =>
 (F_k34 (x1,()) ((r1.2.1.1,r1.2.1.2.1,r1.2.1.2.2.1,()),r1.2.2.1,r1.2.2.2.1,r1.2.2.2.2.1,r1.2.2.2.2.2.1,r1.2.2.2.2.2.2.1,r1.2.2.2.2.2.2.2.1,r1.2.2.2.2.2.2.2.2.1,())).bind fun r2 =>
 Sum.elim (fun u3 =>
 (F_k33 () ()).bind fun r4 =>
 cond (!r4.1)
 ((F_k33 () ()).bind fun r5 =>
 K (r5.1,()))
 (cond (!u3.1.1)
 ((F_k33 () ()).bind fun r6 =>
 K (r6.1,()))
 (cond (decide ((↑x7.size:Int) > 4096))
 ((F_k33 () ()).bind fun r7 =>
 K (r7.1,()))
 (cond (decide (0≤IntKind.u64.wrap x1))
 (cond (!decide (IntKind.u64.wrap (IntKind.i64.wrap (1 * 2 ^ Min.min (IntKind.u64.wrap x1).toNat 64)) = 0))
 (cond (decide (0≤IntKind.i64.wrap (1 * 2 ^ Min.min (IntKind.u64.wrap x1).toNat 64)))
 (cond (decide (IntKind.i64.wrap (1 * 2 ^ Min.min (IntKind.u64.wrap x1).toNat 64)≤IntKind.i64.wrap (1 * 2 ^ Min.min (IntKind.u64.wrap x1).toNat 64)))
 (cond (decide (IntKind.i64.wrap (1 * 2 ^ Min.min (IntKind.u64.wrap x1).toNat 64) * 16≤140737488355328))
 ((F_k36 ((x2,0,x4,x5.tmod (IntKind.u64.wrap (IntKind.i64.wrap (1 * 2 ^ Min.min (IntKind.u64.wrap x1).toNat 64))),x6,x7,x8,x9,x10,()),()) ((x1,List.replicate (IntKind.i64.wrap (1 * 2 ^ Min.min (IntKind.u64.wrap x1).toNat 64)).toNat ByteArray.empty,()),(u3.2.1.1,u3.2.1.2.1,u3.2.1.2.2.1,()),[],u3.2.2.1,u3.2.2.2.1,u3.2.2.2.2.1,u3.2.2.2.2.2.1,u3.2.2.2.2.2.2.1,u3.2.2.2.2.2.2.2.1,u3.2.2.2.2.2.2.2.2.1,())).bind fun r8 =>
 (F_k16 (x5.tmod (IntKind.u64.wrap (IntKind.i64.wrap (1 * 2 ^ Min.min (IntKind.u64.wrap x1).toNat 64))),0,x7,(r8.1.1,r8.1.2.1,()),()) ((u3.2.2.2.2.2.2.2.2.2.1.1,u3.2.2.2.2.2.2.2.2.2.1.2.1,u3.2.2.2.2.2.2.2.2.2.1.2.2.1,()),(r8.2.2.1.1,r8.2.2.1.2.1,r8.2.2.1.2.2.1,()),(),r8.2.2.2.2.1,r8.2.2.2.2.2.1,r8.2.2.2.2.2.2.1,r8.2.2.2.2.2.2.2.1,r8.2.2.2.2.2.2.2.2.1,r8.2.2.2.2.2.2.2.2.2.1,r8.2.2.2.2.2.2.2.2.2.2.2.1,(u3.2.2.2.2.2.2.2.2.2.2.2.1.1,()),u3.2.2.2.2.2.2.2.2.2.2.2.2.1,u3.2.2.2.2.2.2.2.2.2.2.2.2.2.1,())).bind fun r9 =>
 cond (r9.1.2.1 != 0)
 (K (false,()))
 ((F_k12 () ((r9.2.1.1,r9.2.1.2.1,r9.2.1.2.2.1,()),(r9.2.2.1.1,r9.2.2.1.2.1,r9.2.2.1.2.2.1,()),(),r9.2.2.2.2.1,r9.2.2.2.2.2.1,r9.2.2.2.2.2.2.1,r9.2.2.2.2.2.2.2.1,r9.2.2.2.2.2.2.2.2.1,r9.2.2.2.2.2.2.2.2.2.1,r9.2.2.2.2.2.2.2.2.2.2.2.2.2.2.1,(r9.2.2.2.2.2.2.2.2.2.2.2.1.1,()),r9.2.2.2.2.2.2.2.2.2.2.2.2.1,r9.2.2.2.2.2.2.2.2.2.2.2.2.2.2.2.1,())).bind fun r10 =>
 cond (r10.1 != 0)
 (K (false,()))
 ((F_k35 (x5.tmod (IntKind.u64.wrap (IntKind.i64.wrap (1 * 2 ^ Min.min (IntKind.u64.wrap x1).toNat 64))),r9.1.1,()) ((r8.2.1.1,r8.2.1.2.1,()),r8.2.2.2.1,())).bind fun r11 =>
 (F_k36 ((x2,0,x4,x5.tmod (IntKind.u64.wrap (IntKind.i64.wrap (1 * 2 ^ Min.min (IntKind.u64.wrap x1).toNat 64))),x6,x7,x8,x9,x10,()),()) ((r11.2.1.1,r11.2.1.2.1,()),(r10.2.2.1.1,r10.2.2.1.2.1,r10.2.2.1.2.2.1,()),r11.2.2.2.1,r10.2.2.2.2.1,r10.2.2.2.2.2.1,r10.2.2.2.2.2.2.1,r10.2.2.2.2.2.2.2.1,r10.2.2.2.2.2.2.2.2.1,r10.2.2.2.2.2.2.2.2.2.1,r10.2.2.2.2.2.2.2.2.2.2.1,())).bind fun r12 =>
 cond (x12.tmod 1000 == 0)
 ((F_k14 (x5.tmod (IntKind.u64.wrap (IntKind.i64.wrap (1 * 2 ^ Min.min (IntKind.u64.wrap x1).toNat 64))),(r12.1.1,r12.1.2.1,()),()) ((r10.2.1.1,r10.2.1.2.1,r10.2.1.2.2.1,()),(r12.2.2.1.1,r12.2.2.1.2.1,r12.2.2.1.2.2.1,()),(),r12.2.2.2.2.1,r12.2.2.2.2.2.1,r12.2.2.2.2.2.2.1,r12.2.2.2.2.2.2.2.1,r12.2.2.2.2.2.2.2.2.1,r12.2.2.2.2.2.2.2.2.2.1,r12.2.2.2.2.2.2.2.2.2.2.2.1,(r10.2.2.2.2.2.2.2.2.2.2.2.1.1,()),r10.2.2.2.2.2.2.2.2.2.2.2.2.1,r10.2.2.2.2.2.2.2.2.2.2.2.2.2.2.1,())).bind fun r13 =>
 cond (r13.1.2.1 == 0)
 (K (r13.1.1.toList == x7.toList,()))
 (K (false,())))
 (cond (decide ((↑r12.1.2.1.length:Int) > 0))
 (cond (x11.tmod 2 == 0)
 (cond (!decide ((↑r12.1.2.1.length:Int) = 0))
 (cond (!decide ((↑r12.1.2.1.length:Int) = 0))
 (cond (decide ((0 + r12.1.2.1.length) * 8≤140737488355328))
 (cond (decide (0≤(IntKind.i64.wrap ((IntKind.i64.wrap (x11.tdiv 2)).tmod (↑r12.1.2.1.length:Int) + (↑r12.1.2.1.length:Int))).tmod (↑r12.1.2.1.length:Int)))
 (cond (decide ((IntKind.i64.wrap ((IntKind.i64.wrap (x11.tdiv 2)).tmod (↑r12.1.2.1.length:Int) + (↑r12.1.2.1.length:Int))).tmod (↑r12.1.2.1.length:Int) < (↑([] ++ r12.1.2.1).length:Int)))
 (cond (decide (0≤(IntKind.i64.wrap ((IntKind.i64.wrap (x11.tdiv 2)).tmod (↑r12.1.2.1.length:Int) + (↑r12.1.2.1.length:Int))).tmod (↑r12.1.2.1.length:Int)))
 (cond (decide ((IntKind.i64.wrap ((IntKind.i64.wrap (x11.tdiv 2)).tmod (↑r12.1.2.1.length:Int) + (↑r12.1.2.1.length:Int))).tmod (↑r12.1.2.1.length:Int) < (↑([] ++ r12.1.2.1).length:Int)))
 ((F_k14 (x5.tmod (IntKind.u64.wrap (IntKind.i64.wrap (1 * 2 ^ Min.min (IntKind.u64.wrap x1).toNat 64))),(r12.1.1,([] ++ r12.1.2.1).set (0 + ((IntKind.i64.wrap ((IntKind.i64.wrap (x11.tdiv 2)).tmod (↑r12.1.2.1.length:Int) + (↑r12.1.2.1.length:Int))).tmod (↑r12.1.2.1.length:Int)).toNat) (IntKind.u64.wrap (([] ++ r12.1.2.1).getD (0 + ((IntKind.i64.wrap ((IntKind.i64.wrap (x11.tdiv 2)).tmod (↑r12.1.2.1.length:Int) + (↑r12.1.2.1.length:Int))).tmod (↑r12.1.2.1.length:Int)).toNat) 0 + x12.tmod 1000)),()),()) ((r10.2.1.1,r10.2.1.2.1,r10.2.1.2.2.1,()),(r12.2.2.1.1,r12.2.2.1.2.1,r12.2.2.1.2.2.1,()),(),r12.2.2.2.2.1,r12.2.2.2.2.2.1,r12.2.2.2.2.2.2.1,r12.2.2.2.2.2.2.2.1,r12.2.2.2.2.2.2.2.2.1,r12.2.2.2.2.2.2.2.2.2.1,r12.2.2.2.2.2.2.2.2.2.2.2.1,(r10.2.2.2.2.2.2.2.2.2.2.2.1.1,()),r10.2.2.2.2.2.2.2.2.2.2.2.2.1,r10.2.2.2.2.2.2.2.2.2.2.2.2.2.2.1,())).bind fun r14 =>
 (F_k26 () ((r14.2.2.1.1,r14.2.2.1.2.1,r14.2.2.1.2.2.1,()),r14.2.2.2.2.1,r14.2.2.2.2.2.1,r14.2.2.2.2.2.2.1,r14.2.2.2.2.2.2.2.1,r14.2.2.2.2.2.2.2.2.1,r14.2.2.2.2.2.2.2.2.2.1,r14.2.2.2.2.2.2.2.2.2.2.1,())).bind fun r15 =>
 cond (r15.1)
 (K (true,()))
 (cond (r14.1.2.1 == 232)
 (K (r14.1.1.toList == ByteArray.empty.toList,()))
 (K (false,()))))
 (none))
 (none))
 (none))
 (none))
 (none))
 (none))
 (none))
 (cond (decide (r12.1.1.size + 1≤9223372036854775807))
 ((F_k14 (x5.tmod (IntKind.u64.wrap (IntKind.i64.wrap (1 * 2 ^ Min.min (IntKind.u64.wrap x1).toNat 64))),(r12.1.1 ++ (ByteArray.mk #[120]),r12.1.2.1,()),()) ((r10.2.1.1,r10.2.1.2.1,r10.2.1.2.2.1,()),(r12.2.2.1.1,r12.2.2.1.2.1,r12.2.2.1.2.2.1,()),(),r12.2.2.2.2.1,r12.2.2.2.2.2.1,r12.2.2.2.2.2.2.1,r12.2.2.2.2.2.2.2.1,r12.2.2.2.2.2.2.2.2.1,r12.2.2.2.2.2.2.2.2.2.1,r12.2.2.2.2.2.2.2.2.2.2.2.1,(r10.2.2.2.2.2.2.2.2.2.2.2.1.1,()),r10.2.2.2.2.2.2.2.2.2.2.2.2.1,r10.2.2.2.2.2.2.2.2.2.2.2.2.2.2.1,())).bind fun r16 =>
 (F_k26 () ((r16.2.2.1.1,r16.2.2.1.2.1,r16.2.2.1.2.2.1,()),r16.2.2.2.2.1,r16.2.2.2.2.2.1,r16.2.2.2.2.2.2.1,r16.2.2.2.2.2.2.2.1,r16.2.2.2.2.2.2.2.2.1,r16.2.2.2.2.2.2.2.2.2.1,r16.2.2.2.2.2.2.2.2.2.2.1,())).bind fun r17 =>
 cond (r17.1)
 (K (true,()))
 (cond (r16.1.2.1 == 232)
 (K (r16.1.1.toList == ByteArray.empty.toList,()))
 (K (false,()))))
 (none)))
 (cond (decide (r12.1.1.size + 1≤9223372036854775807))
 ((F_k14 (x5.tmod (IntKind.u64.wrap (IntKind.i64.wrap (1 * 2 ^ Min.min (IntKind.u64.wrap x1).toNat 64))),(r12.1.1 ++ (ByteArray.mk #[120]),r12.1.2.1,()),()) ((r10.2.1.1,r10.2.1.2.1,r10.2.1.2.2.1,()),(r12.2.2.1.1,r12.2.2.1.2.1,r12.2.2.1.2.2.1,()),(),r12.2.2.2.2.1,r12.2.2.2.2.2.1,r12.2.2.2.2.2.2.1,r12.2.2.2.2.2.2.2.1,r12.2.2.2.2.2.2.2.2.1,r12.2.2.2.2.2.2.2.2.2.1,r12.2.2.2.2.2.2.2.2.2.2.2.1,(r10.2.2.2.2.2.2.2.2.2.2.2.1.1,()),r10.2.2.2.2.2.2.2.2.2.2.2.2.1,r10.2.2.2.2.2.2.2.2.2.2.2.2.2.2.1,())).bind fun r18 =>
 (F_k26 () ((r18.2.2.1.1,r18.2.2.1.2.1,r18.2.2.1.2.2.1,()),r18.2.2.2.2.1,r18.2.2.2.2.2.1,r18.2.2.2.2.2.2.1,r18.2.2.2.2.2.2.2.1,r18.2.2.2.2.2.2.2.2.1,r18.2.2.2.2.2.2.2.2.2.1,r18.2.2.2.2.2.2.2.2.2.2.1,())).bind fun r19 =>
 cond (r19.1)
 (K (true,()))
 (cond (r18.1.2.1 == 232)
 (K (r18.1.1.toList == ByteArray.empty.toList,()))
 (K (false,()))))
 (none))))))
 (none))
 (none))
 (none))
 (none))
 (none)))))
 (fun u3 =>
 (F_k33 () ()).bind fun r20 =>
 cond (!r20.1)
 ((F_k33 () ()).bind fun r21 =>
 K (r21.1,()))
 ((F_k33 () ()).bind fun r22 =>
 K (r22.1,()))) (r2)
noncomputable def F_k32:A_k32→M_k32→Option O_k32:=fun a b=>tree_k32 F_k25 F_k34 F_k33 F_k36 F_k16 F_k12 F_k35 F_k14 F_k26 a.1 a.2.1.1 a.2.1.2.1 a.2.1.2.2.1 a.2.1.2.2.2.1 a.2.1.2.2.2.2.1 a.2.1.2.2.2.2.2.1 a.2.1.2.2.2.2.2.2.1 a.2.1.2.2.2.2.2.2.2.1 a.2.1.2.2.2.2.2.2.2.2.1 a.2.2.1.1 a.2.2.1.2.1 some
theorem n_k32 (F_k25:B_k25) (F_k34:B_k34) (F_k33:B_k33) (F_k36:B_k36) (F_k16:B_k16) (F_k12:B_k12) (F_k35:B_k35) (F_k14:B_k14) (F_k26:B_k26) (x1 x2 x3 x4 x5 x6 x7 x8 x9 x10 x11 x12) {α:Type} (K:O_k32→Option α):tree_k32 F_k25 F_k34 F_k33 F_k36 F_k16 F_k12 F_k35 F_k14 F_k26 x1 x2 x3 x4 x5 x6 x7 x8 x9 x10 x11 x12 K = (tree_k32 F_k25 F_k34 F_k33 F_k36 F_k16 F_k12 F_k35 F_k14 F_k26 x1 x2 x3 x4 x5 x6 x7 x8 x9 x10 x11 x12 some).bind K:=by simp only [tree_k32,bind_cond,bind_none',bind_some',bind_bind',bind_sum]
end Go.Proofs.Ytljfdfghagiblaa.S2
