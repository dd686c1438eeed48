/- Plain forms of the program's functions, by program. -/
import Derived.Test.YtgfanlafbjbkaaaGlaw09
set_option maxRecDepth 100000
set_option maxHeartbeats 0
set_option linter.unusedVariables false
set_option linter.unusedSimpArgs false
namespace Go.Proofs.Ytgfanlafbjbkaaa.S2
open Go
/-! countersign/countersignlaw09.SlotCounts -/
def args_law09_SlotCounts : SkL := (.cons (.leaf (.slc 9 (.cons .str .nil))) .nil)
def mem_law09_SlotCounts : MSk := []
def outs_law09_SlotCounts : List OutC := [⟨(.leaf .bool), []⟩]
abbrev A_law09_SlotCounts : Type := (List ByteArray × Unit)
abbrev M_law09_SlotCounts : Type := Unit
abbrev O_law09_SlotCounts : Type := Bool × Unit
def ltmps_law09_SlotCounts_6 : SkL := (.cons (.leaf (.slc 9 (.cons .str .nil))) (.cons (.const .dead) (.cons (.const .dead) (.cons (.const (.ptr 1385 0 0)) (.cons (.const .dead) (.cons (.leaf .str) (.cons (.leaf (.int .u64)) (.cons (.leaf (.int .i64)) (.cons (.const .dead) (.cons (.const .dead) (.cons (.const .dead) (.cons (.const .dead) (.cons (.const .dead) (.cons (.const .dead) (.cons (.const .dead) (.cons (.const .dead) (.cons (.const .dead) (.cons (.const .dead) (.cons (.const .dead) (.cons (.const .dead) (.cons (.const .dead) (.cons (.const .dead) (.cons (.const .dead) (.cons (.const .dead) (.cons (.const .dead) (.cons (.const .dead) (.cons (.const .dead) (.cons (.const .dead) (.cons (.const .dead) (.cons (.const .dead) (.cons (.const .dead) (.cons (.const .dead) (.cons (.const .dead) (.cons (.const .dead) (.cons (.const .dead) (.cons (.const .dead) (.cons (.const .dead) (.cons (.const .dead) (.cons (.const .dead) (.cons (.const .dead) (.cons (.const .dead) (.cons (.const .dead) (.cons (.const .dead) (.cons (.const .dead) (.cons (.const .dead) (.cons (.const .dead) (.cons (.const .dead) (.cons (.const .dead) (.cons (.const .dead) (.cons (.const .dead) (.cons (.const .dead) (.cons (.const .dead) (.cons (.const .dead) (.cons (.const .dead) (.cons (.const .dead) (.cons (.const .dead) (.cons (.const .dead) (.cons (.const .dead) (.cons (.const .dead) (.cons (.const .dead) (.cons (.const .dead) (.cons (.const .dead) (.cons (.const .dead) (.cons (.const .dead) (.cons (.const .dead) (.cons (.const .dead) (.cons (.const .dead) (.cons (.const .dead) (.cons (.const .dead) .nil)))))))))))))))))))))))))))))))))))))))))))))))))))))))))))))))))))))
def lmem_law09_SlotCounts_6 : MSk := [(600, .row 78 (.cons (.int .i64) (.cons .str .nil))), (1385, .cells (.cons (.leaf (.int .i64)) (.cons (.const (.slw 1386)) (.cons (.const (.slw 600)) .nil)))), (1386, .row 9 (.cons .str .nil))]
def louts_law09_SlotCounts_6 : List OutL := [⟨.ret, (.cons (.const .dead) (.cons (.const .dead) (.cons (.leaf .bool) (.cons (.const .dead) (.cons (.const .dead) (.cons (.const .dead) (.cons (.const .dead) (.cons (.const .dead) (.cons (.const .dead) (.cons (.const .dead) (.cons (.const .dead) (.cons (.const .dead) (.cons (.const .dead) (.cons (.const .dead) (.cons (.const .dead) (.cons (.const .dead) (.cons (.const .dead) (.cons (.const .dead) (.cons (.const .dead) (.cons (.const .dead) (.cons (.const .dead) (.cons (.const .dead) (.cons (.const .dead) (.cons (.const .dead) (.cons (.const .dead) (.cons (.const .dead) (.cons (.const .dead) (.cons (.const .dead) (.cons (.const .dead) (.cons (.const .dead) (.cons (.const .dead) (.cons (.const .dead) (.cons (.const .dead) (.cons (.const .dead) (.cons (.const .dead) (.cons (.const .dead) (.cons (.const .dead) (.cons (.const .dead) (.cons (.const .dead) (.cons (.const .dead) (.cons (.const .dead) (.cons (.const .dead) (.cons (.const .dead) (.cons (.const .dead) (.cons (.const .dead) (.cons (.const .dead) (.cons (.const .dead) (.cons (.const .dead) (.cons (.const .dead) (.cons (.const .dead) (.cons (.const .dead) (.cons (.const .dead) (.cons (.const .dead) (.cons (.const .dead) (.cons (.const .dead) (.cons (.const .dead) (.cons (.const .dead) (.cons (.const .dead) (.cons (.const .dead) (.cons (.const .dead) (.cons (.const .dead) (.cons (.const .dead) (.cons (.const .dead) (.cons (.const .dead) (.cons (.const .dead) (.cons (.const .dead) (.cons (.const .dead) (.cons (.const .dead) (.cons (.const .dead) .nil))))))))))))))))))))))))))))))))))))))))))))))))))))))))))))))))))))), []⟩, ⟨(.exit 0), (.cons (.const .dead) (.cons (.const .dead) (.cons (.const .dead) (.cons (.const .dead) (.cons (.const .dead) (.cons (.const .dead) (.cons (.const .dead) (.cons (.const .dead) (.cons (.const .dead) (.cons (.const .dead) (.cons (.const .dead) (.cons (.const .dead) (.cons (.const .dead) (.cons (.const .dead) (.cons (.const .dead) (.cons (.const .dead) (.cons (.const .dead) (.cons (.const .dead) (.cons (.const .dead) (.cons (.const .dead) (.cons (.const .dead) (.cons (.const .dead) (.cons (.const .dead) (.cons (.const .dead) (.cons (.const .dead) (.cons (.const .dead) (.cons (.const .dead) (.cons (.const .dead) (.cons (.const .dead) (.cons (.const .dead) (.cons (.const .dead) (.cons (.const .dead) (.cons (.const .dead) (.cons (.const .dead) (.cons (.const .dead) (.cons (.const .dead) (.cons (.const .dead) (.cons (.const .dead) (.cons (.const .dead) (.cons (.const .dead) (.cons (.const .dead) (.cons (.const .dead) (.cons (.const .dead) (.cons (.const .dead) (.cons (.const .dead) (.cons (.const .dead) (.cons (.const .dead) (.cons (.const .dead) (.cons (.const .dead) (.cons (.const .dead) (.cons (.const .dead) (.cons (.const .dead) (.cons (.const .dead) (.cons (.const .dead) (.cons (.const .dead) (.cons (.const .dead) (.cons (.const .dead) (.cons (.const .dead) (.cons (.const .dead) (.cons (.const .dead) (.cons (.const .dead) (.cons (.const .dead) (.cons (.const .dead) (.cons (.const .dead) (.cons (.const .dead) (.cons (.const .dead) (.cons (.const .dead) (.cons (.const .dead) (.cons (.const .dead) .nil))))))))))))))))))))))))))))))))))))))))))))))))))))))))))))))))))))), []⟩]
abbrev LT_law09_SlotCounts_6 : Type := (List ByteArray × ByteArray × Int × Int × Unit)
abbrev LM_law09_SlotCounts_6 : Type := ((List (Int × ByteArray)) × (Int × Unit) × List ByteArray × Unit)
abbrev LO_law09_SlotCounts_6 : Type := ((Bool × Unit) × Unit) ⊕ (Unit × Unit)
def ltree_law09_SlotCounts_6 (F_slot_Save : A_slot_Save → M_slot_Save → Option O_slot_Save) (F_slot_Load : A_slot_Load → M_slot_Load → Option O_slot_Load) {α : Type} (x1 : List ByteArray) (x2 : ByteArray) (x3 : Int) (x4 : Int) (x5 : List (Int × ByteArray)) (x6 : Int) (x7 : List ByteArray) (kn : LT_law09_SlotCounts_6 → LM_law09_SlotCounts_6 → Option α) (kr : LO_law09_SlotCounts_6 → Option α) : Option α :=
  cond (decide (x4 < (↑x1.length : Int)))
  (cond (decide (x4 < 40))
   (cond (decide (0 ≤ x4))
    (cond (decide (x4 < (↑x1.length : Int)))
     ((F_slot_Save (0, 1, x1.getD x4.toNat ByteArray.empty, ()) ((x6, ()), x7, x5, ())).bind fun r1 =>
      cond (decide (0 ≤ x4))
      (cond (decide (x4 < (↑x1.length : Int)))
       (cond (r1.fst != decide ((↑(x1.getD x4.toNat ByteArray.empty).size : Int) ≤ 22))
        (kr (.inl ((false, ()), ())))
        (cond (r1.fst)
         (cond (decide (0 ≤ x4))
          (cond (decide (x4 < (↑x1.length : Int)))
           ((F_slot_Load (0, 1, ()) ((r1.snd.fst.fst, ()), r1.snd.snd.fst, r1.snd.snd.snd.snd.fst, ())).bind fun r2 =>
            cond (r2.fst.fst != IntKind.u64.wrap (x3 + 1))
            (kr (.inl ((false, ()), ())))
            (cond (!r2.fst.snd.fst.toList == (x1.getD x4.toNat ByteArray.empty).toList)
             (kr (.inl ((false, ()), ())))
             (kn (x1, (x1.getD x4.toNat ByteArray.empty, (IntKind.u64.wrap (x3 + 1), (IntKind.i64.wrap (x4 + 1), ())))) (r1.snd.snd.snd.snd.fst, ((r1.snd.fst.fst, ()), (r1.snd.snd.fst, ()))))))
           (none))
          (none))
         ((F_slot_Load (0, 1, ()) ((r1.snd.fst.fst, ()), r1.snd.snd.fst, r1.snd.snd.snd.snd.fst, ())).bind fun r3 =>
          cond (r3.fst.fst != x3)
          (kr (.inl ((false, ()), ())))
          (cond (!r3.fst.snd.fst.toList == x2.toList)
           (kr (.inl ((false, ()), ())))
           (kn (x1, (x2, (x3, (IntKind.i64.wrap (x4 + 1), ())))) (r1.snd.snd.snd.snd.fst, ((r1.snd.fst.fst, ()), (r1.snd.snd.fst, ()))))))))
       (none))
      (none))
     (none))
    (none))
   (kr (.inr ((), ()))))
  (kr (.inr ((), ())))
noncomputable def L_law09_SlotCounts_6 : LT_law09_SlotCounts_6 → LM_law09_SlotCounts_6 → Option LO_law09_SlotCounts_6 := fun x y => runL (fun p => (fun (a : LT_law09_SlotCounts_6) (b : LM_law09_SlotCounts_6) => ltree_law09_SlotCounts_6 F_slot_Save F_slot_Load a.1 a.2.1 a.2.2.1 a.2.2.2.1 b.1 b.2.1.1 b.2.2.1 (fun a' b' => some (.inl (a', b'))) fun r => some (.inr r)) p.1 p.2) (x, y)
theorem nl_law09_SlotCounts_6 (F_slot_Save : A_slot_Save → M_slot_Save → Option O_slot_Save) (F_slot_Load : A_slot_Load → M_slot_Load → Option O_slot_Load) (x1 : List ByteArray) (x2 : ByteArray) (x3 : Int) (x4 : Int) (x5 : List (Int × ByteArray)) (x6 : Int) (x7 : List ByteArray) {α : Type} (kn : LT_law09_SlotCounts_6 → LM_law09_SlotCounts_6 → Option α) (kr : LO_law09_SlotCounts_6 → Option α) : ltree_law09_SlotCounts_6 F_slot_Save F_slot_Load x1 x2 x3 x4 x5 x6 x7 kn kr = (ltree_law09_SlotCounts_6 F_slot_Save F_slot_Load x1 x2 x3 x4 x5 x6 x7 (fun a b => some (.inl (a, b))) fun r => some (.inr r)).bind (Sum.elim (fun p : LT_law09_SlotCounts_6 × LM_law09_SlotCounts_6 => kn p.1 p.2) kr) := by simp only [ltree_law09_SlotCounts_6, bind_cond, bind_none', bind_some', bind_bind', bind_sum, Sum.elim_inl, Sum.elim_inr]
theorem Le_law09_SlotCounts_6 (x1 : List ByteArray) (x2 : ByteArray) (x3 : Int) (x4 : Int) (x5 : List (Int × ByteArray)) (x6 : Int) (x7 : List ByteArray) : L_law09_SlotCounts_6 (x1, (x2, (x3, (x4, ())))) (x5, ((x6, ()), (x7, ()))) = ltree_law09_SlotCounts_6 F_slot_Save F_slot_Load x1 x2 x3 x4 x5 x6 x7 L_law09_SlotCounts_6 some := runL_tree (A := LT_law09_SlotCounts_6) (B := LM_law09_SlotCounts_6) (R := LO_law09_SlotCounts_6) (fun a b kn kr => ltree_law09_SlotCounts_6 F_slot_Save F_slot_Load a.1 a.2.1 a.2.2.1 a.2.2.2.1 b.1 b.2.1.1 b.2.2.1 kn kr) (fun a b kn kr => nl_law09_SlotCounts_6 F_slot_Save F_slot_Load a.1 a.2.1 a.2.2.1 a.2.2.2.1 b.1 b.2.1.1 b.2.2.1 kn kr) (x1, (x2, (x3, (x4, ())))) (x5, ((x6, ()), (x7, ())))
def tree_law09_SlotCounts (F_disk_New : A_disk_New → M_disk_New → Option O_disk_New) (F_law09_fixed : A_law09_fixed → M_law09_fixed → Option O_law09_fixed) (L_law09_SlotCounts_6 : LT_law09_SlotCounts_6 → LM_law09_SlotCounts_6 → Option LO_law09_SlotCounts_6) {α : Type} (x1 : List ByteArray) (K : O_law09_SlotCounts → Option α) : Option α :=
  (F_disk_New (2, 40, ()) ()).bind fun r1 =>
  Sum.elim (fun u2 =>
   (F_law09_fixed () ()).bind fun r3 =>
   cond (!r3.fst)
   (K (false, ()))
   (K (false, ())))
  (fun u2 =>
   (F_law09_fixed () ()).bind fun r4 =>
   cond (!r4.fst)
   (K (false, ()))
   ((L_law09_SlotCounts_6 (x1, ByteArray.empty, 0, 0, ())   (u2.snd.snd.snd.fst, (u2.snd.fst.fst, ()), u2.snd.snd.fst, ())).bind fun r5 =>
    Sum.elim (fun u6 =>
     K (u6.fst.fst, ()))
    (fun u6 =>
     K (true, ())) (r5))) (r1)
noncomputable def F_law09_SlotCounts : A_law09_SlotCounts → M_law09_SlotCounts → Option O_law09_SlotCounts := fun a b => tree_law09_SlotCounts F_disk_New F_law09_fixed L_law09_SlotCounts_6 a.1 some
theorem n_law09_SlotCounts (F_disk_New : A_disk_New → M_disk_New → Option O_disk_New) (F_law09_fixed : A_law09_fixed → M_law09_fixed → Option O_law09_fixed) (L_law09_SlotCounts_6 : LT_law09_SlotCounts_6 → LM_law09_SlotCounts_6 → Option LO_law09_SlotCounts_6) (x1 : List ByteArray) {α : Type} (K : O_law09_SlotCounts → Option α) : tree_law09_SlotCounts F_disk_New F_law09_fixed L_law09_SlotCounts_6 x1 K = (tree_law09_SlotCounts F_disk_New F_law09_fixed L_law09_SlotCounts_6 x1 some).bind K := by simp only [tree_law09_SlotCounts, bind_cond, bind_none', bind_some', bind_bind', bind_sum]
theorem Fe_law09_SlotCounts (x1 : List ByteArray) : F_law09_SlotCounts (x1, ()) () = tree_law09_SlotCounts F_disk_New F_law09_fixed L_law09_SlotCounts_6 x1 some := rfl

end Go.Proofs.Ytgfanlafbjbkaaa.S2
