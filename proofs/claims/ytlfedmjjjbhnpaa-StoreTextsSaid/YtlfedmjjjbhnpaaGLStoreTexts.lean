/- Plain forms of the program's functions, by program. -/
import Derived.Test.YtlfedmjjjbhnpaaGlaw22
import Derived.Test.YtlfedmjjjbhnpaaGrstore
set_option maxRecDepth 100000
set_option maxHeartbeats 0
set_option linter.unusedVariables false
set_option linter.unusedSimpArgs false
namespace Go.Proofs.Ytlfedmjjjbhnpaa.S2
open Go
/-! countersign/countersignlaw22.StoreTexts -/
def args_law22_StoreTexts : SkL := (.cons (.agg (.cons (.leaf (.int .u64)) (.cons (.leaf (.int .u64)) (.cons (.leaf (.int .u64)) (.cons (.leaf (.int .u64)) (.cons (.leaf (.int .u64)) (.cons (.leaf .str) .nil))))))) (.cons (.leaf .str) .nil))
def mem_law22_StoreTexts : MSk := []
def outs_law22_StoreTexts : List OutC := [⟨(.leaf .bool), []⟩]
abbrev A_law22_StoreTexts : Type := ((Int × Int × Int × Int × Int × ByteArray × Unit) × ByteArray × Unit)
abbrev M_law22_StoreTexts : Type := Unit
abbrev O_law22_StoreTexts : Type := Bool × Unit
def tree_law22_StoreTexts (F_store_Parse : A_store_Parse → M_store_Parse → Option O_store_Parse) (F_ref22_Parse : A_ref22_Parse → M_ref22_Parse → Option O_ref22_Parse) (F_store_Text : A_store_Text → M_store_Text → Option O_store_Text) (F_ref22_Text : A_ref22_Text → M_ref22_Text → Option O_ref22_Text) (F_law22_fixed : A_law22_fixed → M_law22_fixed → Option O_law22_fixed) {α : Type} (x1 : Int) (x2 : Int) (x3 : Int) (x4 : Int) (x5 : Int) (x6 : ByteArray) (x7 : ByteArray) (K : O_law22_StoreTexts → Option α) : Option α :=
  (F_store_Parse (x7, ()) ()).bind fun r1 =>
  (F_ref22_Parse (x7, ()) ()).bind fun r2 =>
  (F_store_Text ((x1, x2, x3, x4, x5, x6, ()), ()) ()).bind fun r3 =>
  (F_store_Parse (r3.fst, ()) ()).bind fun r4 =>
  (F_ref22_Text ((x1, x2, x3, x4, x5, x6, ()), ()) ()).bind fun r5 =>
  (F_ref22_Parse (r5.fst, ()) ()).bind fun r6 =>
  (F_law22_fixed () ()).bind fun r7 =>
  cond (r7.fst)
  ((F_store_Text ((x1, x2, x3, x4, x5, x6, ()), ()) ()).bind fun r8 =>
   (F_ref22_Text ((x1, x2, x3, x4, x5, x6, ()), ()) ()).bind fun r9 =>
   cond (r8.fst.toList == r9.fst.toList)
   (cond (Bool.false ^^   r1.fst.fst.fst == r2.fst.fst.fst &&     (r1.fst.fst.snd.fst == r2.fst.fst.snd.fst &&       (r1.fst.fst.snd.snd.fst == r2.fst.fst.snd.snd.fst &&         (r1.fst.fst.snd.snd.snd.fst == r2.fst.fst.snd.snd.snd.fst &&           (r1.fst.fst.snd.snd.snd.snd.fst == r2.fst.fst.snd.snd.snd.snd.fst &&             (r1.fst.fst.snd.snd.snd.snd.snd.fst.toList == r2.fst.fst.snd.snd.snd.snd.snd.fst.toList && Bool.true))))))
    (cond (r1.fst.snd.fst == r2.fst.snd.fst)
     (cond (Bool.false ^^   r4.fst.fst.fst == r6.fst.fst.fst &&     (r4.fst.fst.snd.fst == r6.fst.fst.snd.fst &&       (r4.fst.fst.snd.snd.fst == r6.fst.fst.snd.snd.fst &&         (r4.fst.fst.snd.snd.snd.fst == r6.fst.fst.snd.snd.snd.fst &&           (r4.fst.fst.snd.snd.snd.snd.fst == r6.fst.fst.snd.snd.snd.snd.fst &&             (r4.fst.fst.snd.snd.snd.snd.snd.fst.toList == r6.fst.fst.snd.snd.snd.snd.snd.fst.toList && Bool.true))))))
      (cond (r4.fst.snd.fst == r6.fst.snd.fst)
       (cond (!r4.fst.snd.fst)
        (cond (!r1.fst.snd.fst)
         (K (true, ()))
         ((F_store_Text   ((r1.fst.fst.fst, r1.fst.fst.snd.fst, r1.fst.fst.snd.snd.fst, r1.fst.fst.snd.snd.snd.fst,       r1.fst.fst.snd.snd.snd.snd.fst, r1.fst.fst.snd.snd.snd.snd.snd.fst, ()),     ())   ()).bind fun r10 =>
          K (r10.fst.toList == x7.toList, ())))
        (cond (Bool.false ^^   r4.fst.fst.fst == x1 &&     (r4.fst.fst.snd.fst == x2 &&       (r4.fst.fst.snd.snd.fst == x3 &&         (r4.fst.fst.snd.snd.snd.fst == x4 &&           (r4.fst.fst.snd.snd.snd.snd.fst == x5 &&             (r4.fst.fst.snd.snd.snd.snd.snd.fst.toList == x6.toList && Bool.true))))))
         (cond (!r1.fst.snd.fst)
          (K (true, ()))
          ((F_store_Text   ((r1.fst.fst.fst, r1.fst.fst.snd.fst, r1.fst.fst.snd.snd.fst, r1.fst.fst.snd.snd.snd.fst,       r1.fst.fst.snd.snd.snd.snd.fst, r1.fst.fst.snd.snd.snd.snd.snd.fst, ()),     ())   ()).bind fun r11 =>
           K (r11.fst.toList == x7.toList, ())))
         (K (false, ()))))
       (K (false, ())))
      (K (false, ())))
     (K (false, ())))
    (K (false, ())))
   (K (false, ())))
  (K (false, ()))
noncomputable def F_law22_StoreTexts : A_law22_StoreTexts → M_law22_StoreTexts → Option O_law22_StoreTexts := fun a b => tree_law22_StoreTexts F_store_Parse F_ref22_Parse F_store_Text F_ref22_Text F_law22_fixed a.1.1 a.1.2.1 a.1.2.2.1 a.1.2.2.2.1 a.1.2.2.2.2.1 a.1.2.2.2.2.2.1 a.2.1 some
theorem n_law22_StoreTexts (F_store_Parse : A_store_Parse → M_store_Parse → Option O_store_Parse) (F_ref22_Parse : A_ref22_Parse → M_ref22_Parse → Option O_ref22_Parse) (F_store_Text : A_store_Text → M_store_Text → Option O_store_Text) (F_ref22_Text : A_ref22_Text → M_ref22_Text → Option O_ref22_Text) (F_law22_fixed : A_law22_fixed → M_law22_fixed → Option O_law22_fixed) (x1 : Int) (x2 : Int) (x3 : Int) (x4 : Int) (x5 : Int) (x6 : ByteArray) (x7 : ByteArray) {α : Type} (K : O_law22_StoreTexts → Option α) : tree_law22_StoreTexts F_store_Parse F_ref22_Parse F_store_Text F_ref22_Text F_law22_fixed x1 x2 x3 x4 x5 x6 x7 K = (tree_law22_StoreTexts F_store_Parse F_ref22_Parse F_store_Text F_ref22_Text F_law22_fixed x1 x2 x3 x4 x5 x6 x7 some).bind K := by simp only [tree_law22_StoreTexts, bind_cond, bind_none', bind_some', bind_bind', bind_sum]
theorem Fe_law22_StoreTexts (x1 : Int) (x2 : Int) (x3 : Int) (x4 : Int) (x5 : Int) (x6 : ByteArray) (x7 : ByteArray) : F_law22_StoreTexts ((x1, (x2, (x3, (x4, (x5, (x6, ())))))), (x7, ())) () = tree_law22_StoreTexts F_store_Parse F_ref22_Parse F_store_Text F_ref22_Text F_law22_fixed x1 x2 x3 x4 x5 x6 x7 some := rfl

end Go.Proofs.Ytlfedmjjjbhnpaa.S2
