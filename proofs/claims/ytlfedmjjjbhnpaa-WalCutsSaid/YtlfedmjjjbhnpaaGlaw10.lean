/- Plain forms of the program's functions, by program. -/
import Derived.Test.YtlfedmjjjbhnpaaGwal
set_option maxRecDepth 100000
set_option maxHeartbeats 0
set_option linter.unusedVariables false
set_option linter.unusedSimpArgs false
namespace Go.Proofs.Ytlfedmjjjbhnpaa.S2
open Go
/-! countersign/countersignref01.Texts -/
def args_ref01_Texts : SkL := (.cons (.leaf (.slc 9 (.cons .str .nil))) (.cons (.leaf (.slc 9 (.cons .str .nil))) .nil))
def mem_ref01_Texts : MSk := []
def outs_ref01_Texts : List OutC := [⟨(.leaf .bool), []⟩]
abbrev A_ref01_Texts : Type := (List ByteArray × List ByteArray × Unit)
abbrev M_ref01_Texts : Type := Unit
abbrev O_ref01_Texts : Type := Bool × Unit
def ltmps_ref01_Texts_4 : SkL := (.cons (.leaf (.slc 9 (.cons .str .nil))) (.cons (.leaf (.slc 9 (.cons .str .nil))) (.cons (.const .dead) (.cons (.const .dead) (.cons (.const .dead) (.cons (.leaf (.int .i64)) (.cons (.const .dead) (.cons (.const .dead) (.cons (.const .dead) (.cons (.const .dead) (.cons (.const .dead) (.cons (.const .dead) (.cons (.const .dead) (.cons (.const .dead) (.cons (.const .dead) (.cons (.const .dead) (.cons (.const .dead) (.cons (.const .dead) (.cons (.const .dead) (.cons (.const .dead) (.cons (.const .dead) (.cons (.const .dead) (.cons (.const .dead) (.cons (.const .dead) (.cons (.const .dead) (.cons (.const .dead) .nil))))))))))))))))))))))))))
def lmem_ref01_Texts_4 : MSk := []
def louts_ref01_Texts_4 : List OutL := [⟨.ret, (.cons (.const .dead) (.cons (.const .dead) (.cons (.const .dead) (.cons (.const .dead) (.cons (.leaf .bool) (.cons (.const .dead) (.cons (.const .dead) (.cons (.const .dead) (.cons (.const .dead) (.cons (.const .dead) (.cons (.const .dead) (.cons (.const .dead) (.cons (.const .dead) (.cons (.const .dead) (.cons (.const .dead) (.cons (.const .dead) (.cons (.const .dead) (.cons (.const .dead) (.cons (.const .dead) (.cons (.const .dead) (.cons (.const .dead) (.cons (.const .dead) (.cons (.const .dead) (.cons (.const .dead) (.cons (.const .dead) (.cons (.const .dead) .nil)))))))))))))))))))))))))), []⟩, ⟨(.exit 0), (.cons (.const .dead) (.cons (.const .dead) (.cons (.const .dead) (.cons (.const .dead) (.cons (.const .dead) (.cons (.const .dead) (.cons (.const .dead) (.cons (.const .dead) (.cons (.const .dead) (.cons (.const .dead) (.cons (.const .dead) (.cons (.const .dead) (.cons (.const .dead) (.cons (.const .dead) (.cons (.const .dead) (.cons (.const .dead) (.cons (.const .dead) (.cons (.const .dead) (.cons (.const .dead) (.cons (.const .dead) (.cons (.const .dead) (.cons (.const .dead) (.cons (.const .dead) (.cons (.const .dead) (.cons (.const .dead) (.cons (.const .dead) .nil)))))))))))))))))))))))))), []⟩]
abbrev LT_ref01_Texts_4 : Type := (List ByteArray × List ByteArray × Int × Unit)
abbrev LM_ref01_Texts_4 : Type := Unit
abbrev LO_ref01_Texts_4 : Type := ((Bool × Unit) × Unit) ⊕ (Unit × Unit)
def ltree_ref01_Texts_4 {α : Type} (x1 : List ByteArray) (x2 : List ByteArray) (x3 : Int) (kn : LT_ref01_Texts_4 → LM_ref01_Texts_4 → Option α) (kr : LO_ref01_Texts_4 → Option α) : Option α :=
  cond (decide (x3 < (↑x1.length : Int)))
  (cond (decide (0 ≤ x3))
   (cond (decide (x3 < (↑x1.length : Int)))
    (cond (decide (0 ≤ x3))
     (cond (decide (x3 < (↑x2.length : Int)))
      (cond (!(x1.getD x3.toNat ByteArray.empty).toList == (x2.getD x3.toNat ByteArray.empty).toList)
       (kr (.inl ((false, ()), ())))
       (kn (x1, (x2, (IntKind.i64.wrap (x3 + 1), ()))) ()))
      (none))
     (none))
    (none))
   (none))
  (kr (.inr ((), ())))
noncomputable def L_ref01_Texts_4 : LT_ref01_Texts_4 → LM_ref01_Texts_4 → Option LO_ref01_Texts_4 := fun x y => runL (fun p => (fun (a : LT_ref01_Texts_4) (b : LM_ref01_Texts_4) => ltree_ref01_Texts_4 a.1 a.2.1 a.2.2.1 (fun a' b' => some (.inl (a', b'))) fun r => some (.inr r)) p.1 p.2) (x, y)
theorem nl_ref01_Texts_4 (x1 : List ByteArray) (x2 : List ByteArray) (x3 : Int) {α : Type} (kn : LT_ref01_Texts_4 → LM_ref01_Texts_4 → Option α) (kr : LO_ref01_Texts_4 → Option α) : ltree_ref01_Texts_4 x1 x2 x3 kn kr = (ltree_ref01_Texts_4 x1 x2 x3 (fun a b => some (.inl (a, b))) fun r => some (.inr r)).bind (Sum.elim (fun p : LT_ref01_Texts_4 × LM_ref01_Texts_4 => kn p.1 p.2) kr) := by simp only [ltree_ref01_Texts_4, bind_cond, bind_none', bind_some', bind_bind', bind_sum, Sum.elim_inl, Sum.elim_inr]
theorem Le_ref01_Texts_4 (x1 : List ByteArray) (x2 : List ByteArray) (x3 : Int) : L_ref01_Texts_4 (x1, (x2, (x3, ()))) () = ltree_ref01_Texts_4 x1 x2 x3 L_ref01_Texts_4 some := runL_tree (A := LT_ref01_Texts_4) (B := LM_ref01_Texts_4) (R := LO_ref01_Texts_4) (fun a b kn kr => ltree_ref01_Texts_4 a.1 a.2.1 a.2.2.1 kn kr) (fun a b kn kr => nl_ref01_Texts_4 a.1 a.2.1 a.2.2.1 kn kr) (x1, (x2, (x3, ()))) ()
def tree_ref01_Texts (L_ref01_Texts_4 : LT_ref01_Texts_4 → LM_ref01_Texts_4 → Option LO_ref01_Texts_4) {α : Type} (x1 : List ByteArray) (x2 : List ByteArray) (K : O_ref01_Texts → Option α) : Option α :=
  cond ((↑x1.length : Int) != (↑x2.length : Int))
  (K (false, ()))
  ((L_ref01_Texts_4 (x1, x2, 0, ()) ()).bind fun r1 =>
   Sum.elim (fun u2 =>
    K (u2.fst.fst, ()))
   (fun u2 =>
    K (true, ())) (r1))
noncomputable def F_ref01_Texts : A_ref01_Texts → M_ref01_Texts → Option O_ref01_Texts := fun a b => tree_ref01_Texts L_ref01_Texts_4 a.1 a.2.1 some
theorem n_ref01_Texts (L_ref01_Texts_4 : LT_ref01_Texts_4 → LM_ref01_Texts_4 → Option LO_ref01_Texts_4) (x1 : List ByteArray) (x2 : List ByteArray) {α : Type} (K : O_ref01_Texts → Option α) : tree_ref01_Texts L_ref01_Texts_4 x1 x2 K = (tree_ref01_Texts L_ref01_Texts_4 x1 x2 some).bind K := by simp only [tree_ref01_Texts, bind_cond, bind_none', bind_some', bind_bind', bind_sum]
theorem Fe_ref01_Texts (x1 : List ByteArray) (x2 : List ByteArray) : F_ref01_Texts (x1, (x2, ())) () = tree_ref01_Texts L_ref01_Texts_4 x1 x2 some := rfl

/-! countersign/countersignlaw10.begins -/
def args_law10_begins : SkL := (.cons (.leaf (.slc 9 (.cons .str .nil))) (.cons (.leaf (.slc 9 (.cons .str .nil))) .nil))
def mem_law10_begins : MSk := []
def outs_law10_begins : List OutC := [⟨(.leaf .bool), []⟩]
abbrev A_law10_begins : Type := (List ByteArray × List ByteArray × Unit)
abbrev M_law10_begins : Type := Unit
abbrev O_law10_begins : Type := Bool × Unit
def tree_law10_begins (F_ref01_Texts : A_ref01_Texts → M_ref01_Texts → Option O_ref01_Texts) {α : Type} (x1 : List ByteArray) (x2 : List ByteArray) (K : O_law10_begins → Option α) : Option α :=
  cond (decide ((↑x1.length : Int) ≤ (↑x2.length : Int)))
  (cond (decide ((↑x1.length : Int) ≤ (↑x2.length : Int)))
   ((F_ref01_Texts (x1, List.drop 0 (List.take (↑x1.length : Int).toNat x2), ()) ()).bind fun r1 =>
    K (r1.fst, ()))
   (none))
  (K (false, ()))
noncomputable def F_law10_begins : A_law10_begins → M_law10_begins → Option O_law10_begins := fun a b => tree_law10_begins F_ref01_Texts a.1 a.2.1 some
theorem n_law10_begins (F_ref01_Texts : A_ref01_Texts → M_ref01_Texts → Option O_ref01_Texts) (x1 : List ByteArray) (x2 : List ByteArray) {α : Type} (K : O_law10_begins → Option α) : tree_law10_begins F_ref01_Texts x1 x2 K = (tree_law10_begins F_ref01_Texts x1 x2 some).bind K := by simp only [tree_law10_begins, bind_cond, bind_none', bind_some', bind_bind', bind_sum]
theorem Fe_law10_begins (x1 : List ByteArray) (x2 : List ByteArray) : F_law10_begins (x1, (x2, ())) () = tree_law10_begins F_ref01_Texts x1 x2 some := rfl

/-! countersign/countersignlaw10.texts -/
def args_law10_texts : SkL := (.cons (.const (.ptr 0 0 0)) .nil)
def mem_law10_texts : MSk := [(0, .cells (.cons (.const (.ptr 1 0 0)) (.cons (.leaf (.int .i64)) (.cons (.leaf (.int .i64)) (.cons (.leaf (.int .u64)) (.cons (.leaf (.int .u64)) (.cons (.leaf (.int .u64)) (.cons (.const (.slw 2)) .nil)))))))), (1, .cells (.cons (.leaf (.int .i64)) (.cons (.const (.slw 3)) (.cons (.const (.slw 4)) .nil)))), (2, .row 86 (.cons (.int .u64) (.cons .str .nil))), (3, .row 9 (.cons .str .nil)), (4, .row 127 (.cons (.int .i64) (.cons .str .nil)))]
def outs_law10_texts : List OutC := [⟨(.const (.slw 5)), [(0, .cells (.cons (.const (.ptr 1 0 0)) (.cons (.leaf (.int .i64)) (.cons (.leaf (.int .i64)) (.cons (.leaf (.int .u64)) (.cons (.leaf (.int .u64)) (.cons (.leaf (.int .u64)) (.cons (.const (.slw 2)) .nil)))))))), (1, .cells (.cons (.leaf (.int .i64)) (.cons (.const (.slw 3)) (.cons (.const (.slw 4)) .nil)))), (2, .row 86 (.cons (.int .u64) (.cons .str .nil))), (3, .row 9 (.cons .str .nil)), (4, .row 127 (.cons (.int .i64) (.cons .str .nil))), (5, .row 9 (.cons .str .nil))]⟩]
abbrev A_law10_texts : Type := Unit
abbrev M_law10_texts : Type := ((Int × Int × Int × Int × Int × Unit) × (Int × Unit) × (List (Int × ByteArray)) × List ByteArray × (List (Int × ByteArray)) × Unit)
abbrev O_law10_texts : Type := Unit × ((Int × Int × Int × Int × Int × Unit) × (Int × Unit) × (List (Int × ByteArray)) × List ByteArray × (List (Int × ByteArray)) × List ByteArray × Unit)
def ltmps_law10_texts_3 : SkL := (.cons (.const (.ptr 0 0 0)) (.cons (.const .dead) (.cons (.const .dead) (.cons (.const (.slw 503)) (.cons (.leaf (.int .u64)) (.cons (.const .dead) (.cons (.const .dead) (.cons (.const .dead) (.cons (.const .dead) (.cons (.const .dead) (.cons (.const .dead) (.cons (.const .dead) (.cons (.const .dead) (.cons (.const .dead) (.cons (.const .dead) (.cons (.const .dead) (.cons (.const .dead) (.cons (.const .dead) (.cons (.const .dead) (.cons (.const .dead) (.cons (.const .dead) (.cons (.const .dead) (.cons (.const .dead) (.cons (.const .dead) (.cons (.const .dead) (.cons (.const .dead) (.cons (.const .dead) (.cons (.const .dead) (.cons (.const .dead) (.cons (.const .dead) (.cons (.const .dead) (.cons (.const .dead) (.cons (.const .dead) .nil)))))))))))))))))))))))))))))))))
def lmem_law10_texts_3 : MSk := [(0, .cells (.cons (.const (.ptr 1 0 0)) (.cons (.leaf (.int .i64)) (.cons (.leaf (.int .i64)) (.cons (.leaf (.int .u64)) (.cons (.leaf (.int .u64)) (.cons (.leaf (.int .u64)) (.cons (.const (.slw 2)) .nil)))))))), (1, .cells (.cons (.leaf (.int .i64)) (.cons (.const (.slw 3)) (.cons (.const (.slw 4)) .nil)))), (2, .row 86 (.cons (.int .u64) (.cons .str .nil))), (3, .row 9 (.cons .str .nil)), (4, .row 127 (.cons (.int .i64) (.cons .str .nil))), (503, .row 9 (.cons .str .nil))]
def louts_law10_texts_3 : List OutL := [⟨(.exit 0), (.cons (.const .dead) (.cons (.const .dead) (.cons (.const .dead) (.cons (.const (.slw 503)) (.cons (.const .dead) (.cons (.const .dead) (.cons (.const .dead) (.cons (.const .dead) (.cons (.const .dead) (.cons (.const .dead) (.cons (.const .dead) (.cons (.const .dead) (.cons (.const .dead) (.cons (.const .dead) (.cons (.const .dead) (.cons (.const .dead) (.cons (.const .dead) (.cons (.const .dead) (.cons (.const .dead) (.cons (.const .dead) (.cons (.const .dead) (.cons (.const .dead) (.cons (.const .dead) (.cons (.const .dead) (.cons (.const .dead) (.cons (.const .dead) (.cons (.const .dead) (.cons (.const .dead) (.cons (.const .dead) (.cons (.const .dead) (.cons (.const .dead) (.cons (.const .dead) (.cons (.const .dead) .nil))))))))))))))))))))))))))))))))), [(0, .cells (.cons (.const (.ptr 1 0 0)) (.cons (.leaf (.int .i64)) (.cons (.leaf (.int .i64)) (.cons (.leaf (.int .u64)) (.cons (.leaf (.int .u64)) (.cons (.leaf (.int .u64)) (.cons (.const (.slw 2)) .nil)))))))), (1, .cells (.cons (.leaf (.int .i64)) (.cons (.const (.slw 3)) (.cons (.const (.slw 4)) .nil)))), (2, .row 86 (.cons (.int .u64) (.cons .str .nil))), (3, .row 9 (.cons .str .nil)), (4, .row 127 (.cons (.int .i64) (.cons .str .nil))), (503, .row 9 (.cons .str .nil))]⟩]
abbrev LT_law10_texts_3 : Type := (Int × Unit)
abbrev LM_law10_texts_3 : Type := ((Int × Int × Int × Int × Int × Unit) × (Int × Unit) × (List (Int × ByteArray)) × List ByteArray × (List (Int × ByteArray)) × List ByteArray × Unit)
abbrev LO_law10_texts_3 : Type := Unit × ((Int × Int × Int × Int × Int × Unit) × (Int × Unit) × (List (Int × ByteArray)) × List ByteArray × (List (Int × ByteArray)) × List ByteArray × Unit)
def ltree_law10_texts_3 (F_wal_Log_Last : A_wal_Log_Last → M_wal_Log_Last → Option O_wal_Log_Last) (F_wal_Log_Text : A_wal_Log_Text → M_wal_Log_Text → Option O_wal_Log_Text) {α : Type} (x1 : Int) (x2 : Int) (x3 : Int) (x4 : Int) (x5 : Int) (x6 : Int) (x7 : Int) (x8 : List (Int × ByteArray)) (x9 : List ByteArray) (x10 : List (Int × ByteArray)) (x11 : List ByteArray) (kn : LT_law10_texts_3 → LM_law10_texts_3 → Option α) (kr : LO_law10_texts_3 → Option α) : Option α :=
  (F_wal_Log_Last () ((x2, x3, x4, x5, x6, ()), (x7, ()), x8, x9, x10, ())).bind fun r1 =>
  cond (decide (x1 ≤ r1.fst))
  (cond (decide ((↑x11.length : Int) < 200))
   ((F_wal_Log_Text (x1, ()) ((x2, x3, x4, x5, x6, ()), (x7, ()), x8, x9, x10, ())).bind fun r2 =>
    cond (decide ((x11.length + 1) * 16 ≤ 140737488355328))
    (kn (IntKind.u64.wrap (x1 + 1), ()) ((x2, (x3, (x4, (x5, (x6, ()))))), ((x7, ()), (x8, (x9, (x10, (x11 ++ ([] ++ [r2.fst.fst]), ())))))))
    (none))
   (kr ((), ((x2, (x3, (x4, (x5, (x6, ()))))), ((x7, ()), (x8, (x9, (x10, (x11, ())))))))))
  (kr ((), ((x2, (x3, (x4, (x5, (x6, ()))))), ((x7, ()), (x8, (x9, (x10, (x11, ()))))))))
noncomputable def L_law10_texts_3 : LT_law10_texts_3 → LM_law10_texts_3 → Option LO_law10_texts_3 := fun x y => runL (fun p => (fun (a : LT_law10_texts_3) (b : LM_law10_texts_3) => ltree_law10_texts_3 F_wal_Log_Last F_wal_Log_Text a.1 b.1.1 b.1.2.1 b.1.2.2.1 b.1.2.2.2.1 b.1.2.2.2.2.1 b.2.1.1 b.2.2.1 b.2.2.2.1 b.2.2.2.2.1 b.2.2.2.2.2.1 (fun a' b' => some (.inl (a', b'))) fun r => some (.inr r)) p.1 p.2) (x, y)
theorem nl_law10_texts_3 (F_wal_Log_Last : A_wal_Log_Last → M_wal_Log_Last → Option O_wal_Log_Last) (F_wal_Log_Text : A_wal_Log_Text → M_wal_Log_Text → Option O_wal_Log_Text) (x1 : Int) (x2 : Int) (x3 : Int) (x4 : Int) (x5 : Int) (x6 : Int) (x7 : Int) (x8 : List (Int × ByteArray)) (x9 : List ByteArray) (x10 : List (Int × ByteArray)) (x11 : List ByteArray) {α : Type} (kn : LT_law10_texts_3 → LM_law10_texts_3 → Option α) (kr : LO_law10_texts_3 → Option α) : ltree_law10_texts_3 F_wal_Log_Last F_wal_Log_Text x1 x2 x3 x4 x5 x6 x7 x8 x9 x10 x11 kn kr = (ltree_law10_texts_3 F_wal_Log_Last F_wal_Log_Text x1 x2 x3 x4 x5 x6 x7 x8 x9 x10 x11 (fun a b => some (.inl (a, b))) fun r => some (.inr r)).bind (Sum.elim (fun p : LT_law10_texts_3 × LM_law10_texts_3 => kn p.1 p.2) kr) := by simp only [ltree_law10_texts_3, bind_cond, bind_none', bind_some', bind_bind', bind_sum, Sum.elim_inl, Sum.elim_inr]
theorem Le_law10_texts_3 (x1 : Int) (x2 : Int) (x3 : Int) (x4 : Int) (x5 : Int) (x6 : Int) (x7 : Int) (x8 : List (Int × ByteArray)) (x9 : List ByteArray) (x10 : List (Int × ByteArray)) (x11 : List ByteArray) : L_law10_texts_3 (x1, ()) ((x2, (x3, (x4, (x5, (x6, ()))))), ((x7, ()), (x8, (x9, (x10, (x11, ())))))) = ltree_law10_texts_3 F_wal_Log_Last F_wal_Log_Text x1 x2 x3 x4 x5 x6 x7 x8 x9 x10 x11 L_law10_texts_3 some := runL_tree (A := LT_law10_texts_3) (B := LM_law10_texts_3) (R := LO_law10_texts_3) (fun a b kn kr => ltree_law10_texts_3 F_wal_Log_Last F_wal_Log_Text a.1 b.1.1 b.1.2.1 b.1.2.2.1 b.1.2.2.2.1 b.1.2.2.2.2.1 b.2.1.1 b.2.2.1 b.2.2.2.1 b.2.2.2.2.1 b.2.2.2.2.2.1 kn kr) (fun a b kn kr => nl_law10_texts_3 F_wal_Log_Last F_wal_Log_Text a.1 b.1.1 b.1.2.1 b.1.2.2.1 b.1.2.2.2.1 b.1.2.2.2.2.1 b.2.1.1 b.2.2.1 b.2.2.2.1 b.2.2.2.2.1 b.2.2.2.2.2.1 kn kr) (x1, ()) ((x2, (x3, (x4, (x5, (x6, ()))))), ((x7, ()), (x8, (x9, (x10, (x11, ()))))))
def tree_law10_texts (F_wal_Log_Base : A_wal_Log_Base → M_wal_Log_Base → Option O_wal_Log_Base) (L_law10_texts_3 : LT_law10_texts_3 → LM_law10_texts_3 → Option LO_law10_texts_3) {α : Type} (x1 : Int) (x2 : Int) (x3 : Int) (x4 : Int) (x5 : Int) (x6 : Int) (x7 : List (Int × ByteArray)) (x8 : List ByteArray) (x9 : List (Int × ByteArray)) (K : O_law10_texts → Option α) : Option α :=
  (F_wal_Log_Base () ((x1, x2, x3, x4, x5, ()), (x6, ()), x7, x8, x9, ())).bind fun r1 =>
  (L_law10_texts_3 (IntKind.u64.wrap (r1.fst + 1), ())   ((x1, x2, x3, x4, x5, ()), (x6, ()), x7, x8, x9, [], ())).bind fun r2 =>
  K ((), ((r2.snd.fst.fst, (r2.snd.fst.snd.fst, (r2.snd.fst.snd.snd.fst, (r2.snd.fst.snd.snd.snd.fst, (r2.snd.fst.snd.snd.snd.snd.fst, ()))))), ((r2.snd.snd.fst.fst, ()), (r2.snd.snd.snd.fst, (r2.snd.snd.snd.snd.fst, (r2.snd.snd.snd.snd.snd.fst, (r2.snd.snd.snd.snd.snd.snd.fst, ())))))))
noncomputable def F_law10_texts : A_law10_texts → M_law10_texts → Option O_law10_texts := fun a b => tree_law10_texts F_wal_Log_Base L_law10_texts_3 b.1.1 b.1.2.1 b.1.2.2.1 b.1.2.2.2.1 b.1.2.2.2.2.1 b.2.1.1 b.2.2.1 b.2.2.2.1 b.2.2.2.2.1 some
theorem n_law10_texts (F_wal_Log_Base : A_wal_Log_Base → M_wal_Log_Base → Option O_wal_Log_Base) (L_law10_texts_3 : LT_law10_texts_3 → LM_law10_texts_3 → Option LO_law10_texts_3) (x1 : Int) (x2 : Int) (x3 : Int) (x4 : Int) (x5 : Int) (x6 : Int) (x7 : List (Int × ByteArray)) (x8 : List ByteArray) (x9 : List (Int × ByteArray)) {α : Type} (K : O_law10_texts → Option α) : tree_law10_texts F_wal_Log_Base L_law10_texts_3 x1 x2 x3 x4 x5 x6 x7 x8 x9 K = (tree_law10_texts F_wal_Log_Base L_law10_texts_3 x1 x2 x3 x4 x5 x6 x7 x8 x9 some).bind K := by simp only [tree_law10_texts, bind_cond, bind_none', bind_some', bind_bind', bind_sum]
theorem Fe_law10_texts (x1 : Int) (x2 : Int) (x3 : Int) (x4 : Int) (x5 : Int) (x6 : Int) (x7 : List (Int × ByteArray)) (x8 : List ByteArray) (x9 : List (Int × ByteArray)) : F_law10_texts () ((x1, (x2, (x3, (x4, (x5, ()))))), ((x6, ()), (x7, (x8, (x9, ()))))) = tree_law10_texts F_wal_Log_Base L_law10_texts_3 x1 x2 x3 x4 x5 x6 x7 x8 x9 some := rfl

/-! countersign/countersignlaw10.appended -/
def args_law10_appended : SkL := (.cons (.leaf (.slc 9 (.cons .str .nil))) .nil)
def mem_law10_appended : MSk := []
def outs_law10_appended : List OutC := [⟨(.tup (.cons (.const .nilp) (.cons (.const .nilp) (.cons (.leaf (.slc 9 (.cons .str .nil))) (.cons (.leaf .bool) .nil))))), []⟩, ⟨(.tup (.cons (.const (.ptr 0 0 0)) (.cons (.const (.ptr 1 0 0)) (.cons (.leaf (.slc 9 (.cons .str .nil))) (.cons (.leaf .bool) .nil))))), [(0, .cells (.cons (.leaf (.int .i64)) (.cons (.const (.slw 2)) (.cons (.const (.slw 3)) .nil)))), (1, .cells (.cons (.const (.ptr 0 0 0)) (.cons (.leaf (.int .i64)) (.cons (.leaf (.int .i64)) (.cons (.leaf (.int .u64)) (.cons (.leaf (.int .u64)) (.cons (.leaf (.int .u64)) (.cons (.const (.slw 4)) .nil)))))))), (2, .row 9 (.cons .str .nil)), (3, .row 127 (.cons (.int .i64) (.cons .str .nil))), (4, .row 86 (.cons (.int .u64) (.cons .str .nil)))]⟩]
abbrev A_law10_appended : Type := (List ByteArray × Unit)
abbrev M_law10_appended : Type := Unit
abbrev O_law10_appended : Type := ((List ByteArray × Bool × Unit) × Unit) ⊕ ((List ByteArray × Bool × Unit) × ((Int × Unit) × (Int × Int × Int × Int × Int × Unit) × List ByteArray × (List (Int × ByteArray)) × (List (Int × ByteArray)) × Unit))
def ltmps_law10_appended_9 : SkL := (.cons (.leaf (.slc 9 (.cons .str .nil))) (.cons (.const .dead) (.cons (.const .dead) (.cons (.const .dead) (.cons (.const .dead) (.cons (.const .dead) (.cons (.const (.ptr 1417 0 0)) (.cons (.const .dead) (.cons (.const (.ptr 1769 0 0)) (.cons (.const .dead) (.cons (.const (.slw 510)) (.cons (.leaf (.int .i64)) (.cons (.const .dead) (.cons (.const .dead) (.cons (.const .dead) (.cons (.const .dead) (.cons (.const .dead) (.cons (.const .dead) (.cons (.const .dead) (.cons (.const .dead) (.cons (.const .dead) (.cons (.const .dead) (.cons (.const .dead) (.cons (.const .dead) (.cons (.const .dead) (.cons (.const .dead) (.cons (.const .dead) (.cons (.const .dead) (.cons (.const .dead) (.cons (.const .dead) (.cons (.const .dead) (.cons (.const .dead) (.cons (.const .dead) (.cons (.const .dead) (.cons (.const .dead) (.cons (.const .dead) (.cons (.const .dead) (.cons (.const .dead) (.cons (.const .dead) (.cons (.const .dead) (.cons (.const .dead) (.cons (.const .dead) (.cons (.const .dead) (.cons (.const .dead) (.cons (.const .dead) (.cons (.const .dead) (.cons (.const .dead) (.cons (.const .dead) (.cons (.const .dead) (.cons (.const .dead) (.cons (.const .dead) (.cons (.const .dead) (.cons (.const .dead) (.cons (.const .dead) (.cons (.const .dead) (.cons (.const .dead) (.cons (.const .dead) (.cons (.const .dead) (.cons (.const .dead) (.cons (.const .dead) (.cons (.const .dead) (.cons (.const .dead) .nil))))))))))))))))))))))))))))))))))))))))))))))))))))))))))))))
def lmem_law10_appended_9 : MSk := [(510, .row 9 (.cons .str .nil)), (600, .row 127 (.cons (.int .i64) (.cons .str .nil))), (601, .row 86 (.cons (.int .u64) (.cons .str .nil))), (1417, .cells (.cons (.leaf (.int .i64)) (.cons (.const (.slw 1418)) (.cons (.const (.slw 600)) .nil)))), (1418, .row 9 (.cons .str .nil)), (1769, .cells (.cons (.const (.ptr 1417 0 0)) (.cons (.leaf (.int .i64)) (.cons (.leaf (.int .i64)) (.cons (.leaf (.int .u64)) (.cons (.leaf (.int .u64)) (.cons (.leaf (.int .u64)) (.cons (.const (.slw 601)) .nil))))))))]
def louts_law10_appended_9 : List OutL := [⟨(.exit 0), (.cons (.const .dead) (.cons (.const .dead) (.cons (.const .dead) (.cons (.const .dead) (.cons (.const .dead) (.cons (.const .dead) (.cons (.const (.ptr 1417 0 0)) (.cons (.const .dead) (.cons (.const (.ptr 1769 0 0)) (.cons (.const .dead) (.cons (.const (.slw 510)) (.cons (.const .dead) (.cons (.const .dead) (.cons (.const .dead) (.cons (.const .dead) (.cons (.const .dead) (.cons (.const .dead) (.cons (.const .dead) (.cons (.const .dead) (.cons (.const .dead) (.cons (.const .dead) (.cons (.const .dead) (.cons (.const .dead) (.cons (.const .dead) (.cons (.const .dead) (.cons (.const .dead) (.cons (.const .dead) (.cons (.const .dead) (.cons (.const .dead) (.cons (.const .dead) (.cons (.const .dead) (.cons (.const .dead) (.cons (.const .dead) (.cons (.const .dead) (.cons (.const .dead) (.cons (.const .dead) (.cons (.const .dead) (.cons (.const .dead) (.cons (.const .dead) (.cons (.const .dead) (.cons (.const .dead) (.cons (.const .dead) (.cons (.const .dead) (.cons (.const .dead) (.cons (.const .dead) (.cons (.const .dead) (.cons (.const .dead) (.cons (.const .dead) (.cons (.const .dead) (.cons (.const .dead) (.cons (.const .dead) (.cons (.const .dead) (.cons (.const .dead) (.cons (.const .dead) (.cons (.const .dead) (.cons (.const .dead) (.cons (.const .dead) (.cons (.const .dead) (.cons (.const .dead) (.cons (.const .dead) (.cons (.const .dead) (.cons (.const .dead) .nil)))))))))))))))))))))))))))))))))))))))))))))))))))))))))))))), [(510, .row 9 (.cons .str .nil)), (600, .row 127 (.cons (.int .i64) (.cons .str .nil))), (601, .row 86 (.cons (.int .u64) (.cons .str .nil))), (1417, .cells (.cons (.leaf (.int .i64)) (.cons (.const (.slw 1418)) (.cons (.const (.slw 600)) .nil)))), (1418, .row 9 (.cons .str .nil)), (1769, .cells (.cons (.const (.ptr 1417 0 0)) (.cons (.leaf (.int .i64)) (.cons (.leaf (.int .i64)) (.cons (.leaf (.int .u64)) (.cons (.leaf (.int .u64)) (.cons (.leaf (.int .u64)) (.cons (.const (.slw 601)) .nil))))))))]⟩]
abbrev LT_law10_appended_9 : Type := (List ByteArray × Int × Unit)
abbrev LM_law10_appended_9 : Type := (List ByteArray × (List (Int × ByteArray)) × (List (Int × ByteArray)) × (Int × Unit) × List ByteArray × (Int × Int × Int × Int × Int × Unit) × Unit)
abbrev LO_law10_appended_9 : Type := Unit × (List ByteArray × (List (Int × ByteArray)) × (List (Int × ByteArray)) × (Int × Unit) × List ByteArray × (Int × Int × Int × Int × Int × Unit) × Unit)
def ltree_law10_appended_9 (F_wal_Log_Append : A_wal_Log_Append → M_wal_Log_Append → Option O_wal_Log_Append) {α : Type} (x1 : List ByteArray) (x2 : Int) (x3 : List ByteArray) (x4 : List (Int × ByteArray)) (x5 : List (Int × ByteArray)) (x6 : Int) (x7 : List ByteArray) (x8 : Int) (x9 : Int) (x10 : Int) (x11 : Int) (x12 : Int) (kn : LT_law10_appended_9 → LM_law10_appended_9 → Option α) (kr : LO_law10_appended_9 → Option α) : Option α :=
  cond (decide (x2 < (↑x1.length : Int)))
  (cond (decide (x2 < 8))
   (cond (decide (0 ≤ x2))
    (cond (decide (x2 < (↑x1.length : Int)))
     ((F_wal_Log_Append (x1.getD x2.toNat ByteArray.empty, ())   ((x8, x9, x10, x11, x12, ()), (x6, ()), x5, x7, x4, ())).bind fun r1 =>
      cond (r1.fst)
      (cond (decide (0 ≤ x2))
       (cond (decide (x2 < (↑x1.length : Int)))
        (cond (decide ((x3.length + 1) * 16 ≤ 140737488355328))
         (kn (x1, (IntKind.i64.wrap (x2 + 1), ())) (x3 ++ ([] ++ [x1.getD x2.toNat ByteArray.empty]), (r1.snd.snd.snd.snd.snd.snd.snd.fst, (r1.snd.snd.snd.snd.snd.snd.fst, ((r1.snd.snd.fst.fst, ()), (r1.snd.snd.snd.snd.fst, ((r1.snd.fst.fst, (r1.snd.fst.snd.fst, (r1.snd.fst.snd.snd.fst, (r1.snd.fst.snd.snd.snd.fst, (r1.snd.fst.snd.snd.snd.snd.fst, ()))))), ())))))))
         (none))
        (none))
       (none))
      (kn (x1, (IntKind.i64.wrap (x2 + 1), ())) (x3, (r1.snd.snd.snd.snd.snd.snd.snd.fst, (r1.snd.snd.snd.snd.snd.snd.fst, ((r1.snd.snd.fst.fst, ()), (r1.snd.snd.snd.snd.fst, ((r1.snd.fst.fst, (r1.snd.fst.snd.fst, (r1.snd.fst.snd.snd.fst, (r1.snd.fst.snd.snd.snd.fst, (r1.snd.fst.snd.snd.snd.snd.fst, ()))))), ()))))))))
     (none))
    (none))
   (kr ((), (x3, (x4, (x5, ((x6, ()), (x7, ((x8, (x9, (x10, (x11, (x12, ()))))), ())))))))))
  (kr ((), (x3, (x4, (x5, ((x6, ()), (x7, ((x8, (x9, (x10, (x11, (x12, ()))))), ()))))))))
noncomputable def L_law10_appended_9 : LT_law10_appended_9 → LM_law10_appended_9 → Option LO_law10_appended_9 := fun x y => runL (fun p => (fun (a : LT_law10_appended_9) (b : LM_law10_appended_9) => ltree_law10_appended_9 F_wal_Log_Append a.1 a.2.1 b.1 b.2.1 b.2.2.1 b.2.2.2.1.1 b.2.2.2.2.1 b.2.2.2.2.2.1.1 b.2.2.2.2.2.1.2.1 b.2.2.2.2.2.1.2.2.1 b.2.2.2.2.2.1.2.2.2.1 b.2.2.2.2.2.1.2.2.2.2.1 (fun a' b' => some (.inl (a', b'))) fun r => some (.inr r)) p.1 p.2) (x, y)
theorem nl_law10_appended_9 (F_wal_Log_Append : A_wal_Log_Append → M_wal_Log_Append → Option O_wal_Log_Append) (x1 : List ByteArray) (x2 : Int) (x3 : List ByteArray) (x4 : List (Int × ByteArray)) (x5 : List (Int × ByteArray)) (x6 : Int) (x7 : List ByteArray) (x8 : Int) (x9 : Int) (x10 : Int) (x11 : Int) (x12 : Int) {α : Type} (kn : LT_law10_appended_9 → LM_law10_appended_9 → Option α) (kr : LO_law10_appended_9 → Option α) : ltree_law10_appended_9 F_wal_Log_Append x1 x2 x3 x4 x5 x6 x7 x8 x9 x10 x11 x12 kn kr = (ltree_law10_appended_9 F_wal_Log_Append x1 x2 x3 x4 x5 x6 x7 x8 x9 x10 x11 x12 (fun a b => some (.inl (a, b))) fun r => some (.inr r)).bind (Sum.elim (fun p : LT_law10_appended_9 × LM_law10_appended_9 => kn p.1 p.2) kr) := by simp only [ltree_law10_appended_9, bind_cond, bind_none', bind_some', bind_bind', bind_sum, Sum.elim_inl, Sum.elim_inr]
theorem Le_law10_appended_9 (x1 : List ByteArray) (x2 : Int) (x3 : List ByteArray) (x4 : List (Int × ByteArray)) (x5 : List (Int × ByteArray)) (x6 : Int) (x7 : List ByteArray) (x8 : Int) (x9 : Int) (x10 : Int) (x11 : Int) (x12 : Int) : L_law10_appended_9 (x1, (x2, ())) (x3, (x4, (x5, ((x6, ()), (x7, ((x8, (x9, (x10, (x11, (x12, ()))))), ())))))) = ltree_law10_appended_9 F_wal_Log_Append x1 x2 x3 x4 x5 x6 x7 x8 x9 x10 x11 x12 L_law10_appended_9 some := runL_tree (A := LT_law10_appended_9) (B := LM_law10_appended_9) (R := LO_law10_appended_9) (fun a b kn kr => ltree_law10_appended_9 F_wal_Log_Append a.1 a.2.1 b.1 b.2.1 b.2.2.1 b.2.2.2.1.1 b.2.2.2.2.1 b.2.2.2.2.2.1.1 b.2.2.2.2.2.1.2.1 b.2.2.2.2.2.1.2.2.1 b.2.2.2.2.2.1.2.2.2.1 b.2.2.2.2.2.1.2.2.2.2.1 kn kr) (fun a b kn kr => nl_law10_appended_9 F_wal_Log_Append a.1 a.2.1 b.1 b.2.1 b.2.2.1 b.2.2.2.1.1 b.2.2.2.2.1 b.2.2.2.2.2.1.1 b.2.2.2.2.2.1.2.1 b.2.2.2.2.2.1.2.2.1 b.2.2.2.2.2.1.2.2.2.1 b.2.2.2.2.2.1.2.2.2.2.1 kn kr) (x1, (x2, ())) (x3, (x4, (x5, ((x6, ()), (x7, ((x8, (x9, (x10, (x11, (x12, ()))))), ()))))))
def tree_law10_appended (F_disk_New : A_disk_New → M_disk_New → Option O_disk_New) (F_wal_Open : A_wal_Open → M_wal_Open → Option O_wal_Open) (F_wal_Log_Sync : A_wal_Log_Sync → M_wal_Log_Sync → Option O_wal_Log_Sync) (L_law10_appended_9 : LT_law10_appended_9 → LM_law10_appended_9 → Option LO_law10_appended_9) {α : Type} (x1 : List ByteArray) (K : O_law10_appended → Option α) : Option α :=
  (F_disk_New (8, 48, ()) ()).bind fun r1 =>
  Sum.elim (fun u2 =>
   K (.inl (([], (false, ())), ())))
  (fun u2 =>
   (F_wal_Open (0, 8, 0, 0, ()) ((u2.snd.fst.fst, ()), u2.snd.snd.fst, u2.snd.snd.snd.fst, ())).bind fun r3 =>
   Sum.elim (fun u4 =>
    K (.inl (([], (false, ())), ())))
   (fun u4 =>
    (L_law10_appended_9 (x1, 0, ())   ([], u4.snd.snd.snd.fst, u4.snd.snd.snd.snd.snd.fst, (u4.snd.fst.fst, ()), u4.snd.snd.fst,     (u4.snd.snd.snd.snd.fst.fst, u4.snd.snd.snd.snd.fst.snd.fst, u4.snd.snd.snd.snd.fst.snd.snd.fst,       u4.snd.snd.snd.snd.fst.snd.snd.snd.fst, u4.snd.snd.snd.snd.fst.snd.snd.snd.snd.fst, ()),     ())).bind fun r5 =>
    (F_wal_Log_Sync ()   ((r5.snd.snd.snd.snd.snd.snd.fst.fst, r5.snd.snd.snd.snd.snd.snd.fst.snd.fst,       r5.snd.snd.snd.snd.snd.snd.fst.snd.snd.fst, r5.snd.snd.snd.snd.snd.snd.fst.snd.snd.snd.fst,       r5.snd.snd.snd.snd.snd.snd.fst.snd.snd.snd.snd.fst, ()),     (r5.snd.snd.snd.snd.fst.fst, ()), r5.snd.snd.snd.fst, r5.snd.snd.snd.snd.snd.fst, r5.snd.snd.fst, ())).bind fun r6 =>
    K (.inr ((r5.snd.fst, (true, ())), ((r6.snd.snd.fst.fst, ()), ((r6.snd.fst.fst, (r6.snd.fst.snd.fst, (r6.snd.fst.snd.snd.fst, (r6.snd.fst.snd.snd.snd.fst, (r6.snd.fst.snd.snd.snd.snd.fst, ()))))), (r6.snd.snd.snd.snd.fst, (r6.snd.snd.snd.snd.snd.snd.fst, (r6.snd.snd.snd.fst, ())))))))) (r3)) (r1)
noncomputable def F_law10_appended : A_law10_appended → M_law10_appended → Option O_law10_appended := fun a b => tree_law10_appended F_disk_New F_wal_Open F_wal_Log_Sync L_law10_appended_9 a.1 some
theorem n_law10_appended (F_disk_New : A_disk_New → M_disk_New → Option O_disk_New) (F_wal_Open : A_wal_Open → M_wal_Open → Option O_wal_Open) (F_wal_Log_Sync : A_wal_Log_Sync → M_wal_Log_Sync → Option O_wal_Log_Sync) (L_law10_appended_9 : LT_law10_appended_9 → LM_law10_appended_9 → Option LO_law10_appended_9) (x1 : List ByteArray) {α : Type} (K : O_law10_appended → Option α) : tree_law10_appended F_disk_New F_wal_Open F_wal_Log_Sync L_law10_appended_9 x1 K = (tree_law10_appended F_disk_New F_wal_Open F_wal_Log_Sync L_law10_appended_9 x1 some).bind K := by simp only [tree_law10_appended, bind_cond, bind_none', bind_some', bind_bind', bind_sum]
theorem Fe_law10_appended (x1 : List ByteArray) : F_law10_appended (x1, ()) () = tree_law10_appended F_disk_New F_wal_Open F_wal_Log_Sync L_law10_appended_9 x1 some := rfl

/-! countersign/countersignlaw10.fixed -/
def args_law10_fixed : SkL := .nil
def mem_law10_fixed : MSk := []
def outs_law10_fixed : List OutC := [⟨(.leaf .bool), []⟩]
abbrev A_law10_fixed : Type := Unit
abbrev M_law10_fixed : Type := Unit
abbrev O_law10_fixed : Type := Bool × Unit
def tree_law10_fixed (F_disk_New : A_disk_New → M_disk_New → Option O_disk_New) (F_wal_Open : A_wal_Open → M_wal_Open → Option O_wal_Open) (F_wal_Log_Append : A_wal_Log_Append → M_wal_Log_Append → Option O_wal_Log_Append) (F_wal_Log_Drop : A_wal_Log_Drop → M_wal_Log_Drop → Option O_wal_Log_Drop) (F_wal_Log_Text : A_wal_Log_Text → M_wal_Log_Text → Option O_wal_Log_Text) (F_wal_Log_Base : A_wal_Log_Base → M_wal_Log_Base → Option O_wal_Log_Base) (F_wal_Log_Mark : A_wal_Log_Mark → M_wal_Log_Mark → Option O_wal_Log_Mark) (F_wal_Log_Last : A_wal_Log_Last → M_wal_Log_Last → Option O_wal_Log_Last) {α : Type} (K : O_law10_fixed → Option α) : Option α :=
  (F_disk_New (2, 32, ()) ()).bind fun r1 =>
  Sum.elim (fun u2 =>
   K (false, ()))
  (fun u2 =>
   (F_wal_Open (0, 2, 0, 0, ()) ((u2.snd.fst.fst, ()), u2.snd.snd.fst, u2.snd.snd.snd.fst, ())).bind fun r3 =>
   Sum.elim (fun u4 =>
    K (false, ()))
   (fun u4 =>
    (F_wal_Log_Append ((ByteArray.mk #[120]), ())   ((u4.snd.snd.snd.snd.fst.fst, u4.snd.snd.snd.snd.fst.snd.fst, u4.snd.snd.snd.snd.fst.snd.snd.fst,       u4.snd.snd.snd.snd.fst.snd.snd.snd.fst, u4.snd.snd.snd.snd.fst.snd.snd.snd.snd.fst, ()),     (u4.snd.fst.fst, ()), u4.snd.snd.snd.snd.snd.fst, u4.snd.snd.fst, u4.snd.snd.snd.fst, ())).bind fun r5 =>
    (F_wal_Log_Append ((ByteArray.mk #[121]), ())   ((r5.snd.fst.fst, r5.snd.fst.snd.fst, r5.snd.fst.snd.snd.fst, r5.snd.fst.snd.snd.snd.fst,       r5.snd.fst.snd.snd.snd.snd.fst, ()),     (r5.snd.snd.fst.fst, ()), r5.snd.snd.snd.snd.snd.snd.fst, r5.snd.snd.snd.snd.fst,     r5.snd.snd.snd.snd.snd.snd.snd.fst, ())).bind fun r6 =>
    (F_wal_Log_Append ((ByteArray.mk #[122]), ())   ((r6.snd.fst.fst, r6.snd.fst.snd.fst, r6.snd.fst.snd.snd.fst, r6.snd.fst.snd.snd.snd.fst,       r6.snd.fst.snd.snd.snd.snd.fst, ()),     (r6.snd.snd.fst.fst, ()), r6.snd.snd.snd.snd.snd.snd.fst, r6.snd.snd.snd.snd.fst,     r6.snd.snd.snd.snd.snd.snd.snd.fst, ())).bind fun r7 =>
    (F_wal_Log_Drop (1, ())   ((r7.snd.fst.fst, r7.snd.fst.snd.fst, r7.snd.fst.snd.snd.fst, r7.snd.fst.snd.snd.snd.fst,       r7.snd.fst.snd.snd.snd.snd.fst, ()),     (r7.snd.snd.fst.fst, ()), r7.snd.snd.snd.snd.snd.snd.fst, r7.snd.snd.snd.snd.fst,     r7.snd.snd.snd.snd.snd.snd.snd.fst, ())).bind fun r8 =>
    (F_wal_Log_Append ((ByteArray.mk #[122]), ())   ((r8.snd.fst.fst, r8.snd.fst.snd.fst, r8.snd.fst.snd.snd.fst, r8.snd.fst.snd.snd.snd.fst,       r8.snd.fst.snd.snd.snd.snd.fst, ()),     (r8.snd.snd.fst.fst, ()), r8.snd.snd.snd.snd.snd.snd.fst, r8.snd.snd.snd.snd.fst, r8.snd.snd.snd.snd.snd.fst, ())).bind fun r9 =>
    (F_wal_Log_Text (3, ())   ((r9.snd.fst.fst, r9.snd.fst.snd.fst, r9.snd.fst.snd.snd.fst, r9.snd.fst.snd.snd.snd.fst,       r9.snd.fst.snd.snd.snd.snd.fst, ()),     (r9.snd.snd.fst.fst, ()), r9.snd.snd.snd.snd.snd.snd.fst, r9.snd.snd.snd.snd.fst,     r9.snd.snd.snd.snd.snd.snd.snd.fst, ())).bind fun r10 =>
    (F_wal_Log_Text (1, ())   ((r9.snd.fst.fst, r9.snd.fst.snd.fst, r9.snd.fst.snd.snd.fst, r9.snd.fst.snd.snd.snd.fst,       r9.snd.fst.snd.snd.snd.snd.fst, ()),     (r9.snd.snd.fst.fst, ()), r9.snd.snd.snd.snd.snd.snd.fst, r9.snd.snd.snd.snd.fst,     r9.snd.snd.snd.snd.snd.snd.snd.fst, ())).bind fun r11 =>
    cond (r5.fst)
    (cond (r6.fst)
     (cond (!r7.fst)
      (cond (r8.fst)
       (cond (r9.fst)
        (cond (r10.fst.snd.fst)
         (cond (r10.fst.fst.toList == (ByteArray.mk #[122]).toList)
          (cond (!r11.fst.snd.fst)
           ((F_wal_Log_Base ()   ((r9.snd.fst.fst, r9.snd.fst.snd.fst, r9.snd.fst.snd.snd.fst, r9.snd.fst.snd.snd.snd.fst,       r9.snd.fst.snd.snd.snd.snd.fst, ()),     (r9.snd.snd.fst.fst, ()), r9.snd.snd.snd.snd.snd.snd.fst, r9.snd.snd.snd.snd.fst,     r9.snd.snd.snd.snd.snd.snd.snd.fst, ())).bind fun r12 =>
            cond (r12.fst == 1)
            ((F_wal_Log_Mark ()   ((r9.snd.fst.fst, r9.snd.fst.snd.fst, r9.snd.fst.snd.snd.fst, r9.snd.fst.snd.snd.snd.fst,       r9.snd.fst.snd.snd.snd.snd.fst, ()),     (r9.snd.snd.fst.fst, ()), r9.snd.snd.snd.snd.snd.snd.fst, r9.snd.snd.snd.snd.fst,     r9.snd.snd.snd.snd.snd.snd.snd.fst, ())).bind fun r13 =>
             cond (r13.fst == 1)
             ((F_wal_Log_Last ()   ((r9.snd.fst.fst, r9.snd.fst.snd.fst, r9.snd.fst.snd.snd.fst, r9.snd.fst.snd.snd.snd.fst,       r9.snd.fst.snd.snd.snd.snd.fst, ()),     (r9.snd.snd.fst.fst, ()), r9.snd.snd.snd.snd.snd.snd.fst, r9.snd.snd.snd.snd.fst,     r9.snd.snd.snd.snd.snd.snd.snd.fst, ())).bind fun r14 =>
              K (r14.fst == 3, ()))
             (K (false, ())))
            (K (false, ())))
           (K (false, ())))
          (K (false, ())))
         (K (false, ())))
        (K (false, ())))
       (K (false, ())))
      (K (false, ())))
     (K (false, ())))
    (K (false, ()))) (r3)) (r1)
noncomputable def F_law10_fixed : A_law10_fixed → M_law10_fixed → Option O_law10_fixed := fun a b => tree_law10_fixed F_disk_New F_wal_Open F_wal_Log_Append F_wal_Log_Drop F_wal_Log_Text F_wal_Log_Base F_wal_Log_Mark F_wal_Log_Last some
theorem n_law10_fixed (F_disk_New : A_disk_New → M_disk_New → Option O_disk_New) (F_wal_Open : A_wal_Open → M_wal_Open → Option O_wal_Open) (F_wal_Log_Append : A_wal_Log_Append → M_wal_Log_Append → Option O_wal_Log_Append) (F_wal_Log_Drop : A_wal_Log_Drop → M_wal_Log_Drop → Option O_wal_Log_Drop) (F_wal_Log_Text : A_wal_Log_Text → M_wal_Log_Text → Option O_wal_Log_Text) (F_wal_Log_Base : A_wal_Log_Base → M_wal_Log_Base → Option O_wal_Log_Base) (F_wal_Log_Mark : A_wal_Log_Mark → M_wal_Log_Mark → Option O_wal_Log_Mark) (F_wal_Log_Last : A_wal_Log_Last → M_wal_Log_Last → Option O_wal_Log_Last) {α : Type} (K : O_law10_fixed → Option α) : tree_law10_fixed F_disk_New F_wal_Open F_wal_Log_Append F_wal_Log_Drop F_wal_Log_Text F_wal_Log_Base F_wal_Log_Mark F_wal_Log_Last K = (tree_law10_fixed F_disk_New F_wal_Open F_wal_Log_Append F_wal_Log_Drop F_wal_Log_Text F_wal_Log_Base F_wal_Log_Mark F_wal_Log_Last some).bind K := by simp only [tree_law10_fixed, bind_cond, bind_none', bind_some', bind_bind', bind_sum]
theorem Fe_law10_fixed : F_law10_fixed () () = tree_law10_fixed F_disk_New F_wal_Open F_wal_Log_Append F_wal_Log_Drop F_wal_Log_Text F_wal_Log_Base F_wal_Log_Mark F_wal_Log_Last some := rfl

end Go.Proofs.Ytlfedmjjjbhnpaa.S2
