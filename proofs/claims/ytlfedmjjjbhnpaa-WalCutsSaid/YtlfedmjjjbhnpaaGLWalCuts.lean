/- Plain forms of the program's functions, by program. -/
import Derived.Test.YtlfedmjjjbhnpaaGlaw10
set_option maxRecDepth 100000
set_option maxHeartbeats 0
set_option linter.unusedVariables false
set_option linter.unusedSimpArgs false
namespace Go.Proofs.Ytlfedmjjjbhnpaa.S2
open Go
/-! countersign/countersignlaw10.WalCuts -/
def args_law10_WalCuts : SkL := (.cons (.agg (.cons (.leaf (.slc 9 (.cons .str .nil))) (.cons (.leaf (.slc 9 (.cons .str .nil))) .nil))) (.cons (.leaf (.int .u64)) (.cons (.leaf (.slc 3 (.cons (.int .i64) .nil))) .nil)))
def mem_law10_WalCuts : MSk := []
def outs_law10_WalCuts : List OutC := [⟨(.leaf .bool), []⟩]
abbrev A_law10_WalCuts : Type := ((List ByteArray × List ByteArray × Unit) × Int × List Int × Unit)
abbrev M_law10_WalCuts : Type := Unit
abbrev O_law10_WalCuts : Type := Bool × Unit
def ltmps_law10_WalCuts_10 : SkL := (.cons (.const .dead) (.cons (.const .dead) (.cons (.leaf (.slc 3 (.cons (.int .i64) .nil))) (.cons (.const .dead) (.cons (.const .dead) (.cons (.const .dead) (.cons (.const .dead) (.cons (.const .dead) (.cons (.leaf (.slc 9 (.cons .str .nil))) (.cons (.const (.ptr 1801 0 0)) (.cons (.const (.ptr 1802 0 0)) (.cons (.leaf (.slc 9 (.cons .str .nil))) (.cons (.const .dead) (.cons (.leaf (.int .i64)) (.cons (.const (.slw 514)) (.cons (.leaf (.int .i64)) (.cons (.const .dead) (.cons (.const .dead) (.cons (.const .dead) (.cons (.const .dead) (.cons (.const .dead) (.cons (.const .dead) (.cons (.const .dead) (.cons (.const .dead) (.cons (.const .dead) (.cons (.const .dead) (.cons (.const .dead) (.cons (.const .dead) (.cons (.const .dead) (.cons (.const .dead) (.cons (.const .dead) (.cons (.const .dead) (.cons (.const .dead) (.cons (.const .dead) (.cons (.const .dead) (.cons (.const .dead) (.cons (.const .dead) (.cons (.const .dead) (.cons (.const .dead) (.cons (.const .dead) (.cons (.const .dead) (.cons (.const .dead) (.cons (.const .dead) (.cons (.const .dead) (.cons (.const .dead) (.cons (.const .dead) (.cons (.const .dead) (.cons (.const .dead) (.cons (.const .dead) (.cons (.const .dead) (.cons (.const .dead) (.cons (.const .dead) (.cons (.const .dead) (.cons (.const .dead) (.cons (.const .dead) (.cons (.const .dead) (.cons (.const .dead) (.cons (.const .dead) (.cons (.const .dead) (.cons (.const .dead) (.cons (.const .dead) (.cons (.const .dead) (.cons (.const .dead) (.cons (.const .dead) (.cons (.const .dead) (.cons (.const .dead) (.cons (.const .dead) (.cons (.const .dead) (.cons (.const .dead) (.cons (.const .dead) (.cons (.const .dead) (.cons (.const .dead) (.cons (.const .dead) (.cons (.const .dead) (.cons (.const .dead) (.cons (.const .dead) (.cons (.const .dead) (.cons (.const .dead) (.cons (.const .dead) (.cons (.const .dead) (.cons (.const .dead) (.cons (.const .dead) (.cons (.const .dead) (.cons (.const .dead) (.cons (.const .dead) (.cons (.const .dead) (.cons (.const .dead) (.cons (.const .dead) (.cons (.const .dead) (.cons (.const .dead) (.cons (.const .dead) (.cons (.const .dead) (.cons (.const .dead) (.cons (.const .dead) (.cons (.const .dead) (.cons (.const .dead) (.cons (.const .dead) (.cons (.const .dead) (.cons (.const .dead) (.cons (.const .dead) (.cons (.const .dead) (.cons (.const .dead) (.cons (.const .dead) (.cons (.const .dead) (.cons (.const .dead) (.cons (.const .dead) (.cons (.const .dead) (.cons (.const .dead) (.cons (.const .dead) (.cons (.const .dead) (.cons (.const .dead) (.cons (.const .dead) (.cons (.const .dead) (.cons (.const .dead) (.cons (.const .dead) (.cons (.const .dead) (.cons (.const .dead) (.cons (.const .dead) (.cons (.const .dead) (.cons (.const .dead) (.cons (.const .dead) (.cons (.const .dead) (.cons (.const .dead) (.cons (.const .dead) (.cons (.const .dead) (.cons (.const .dead) (.cons (.const .dead) (.cons (.const .dead) (.cons (.const .dead) (.cons (.const .dead) (.cons (.const .dead) (.cons (.const .dead) (.cons (.const .dead) (.cons (.const .dead) (.cons (.const .dead) (.cons (.const .dead) (.cons (.const .dead) (.cons (.const .dead) (.cons (.const .dead) .nil)))))))))))))))))))))))))))))))))))))))))))))))))))))))))))))))))))))))))))))))))))))))))))))))))))))))))))))))))))))))))))))))))))))))))))
def lmem_law10_WalCuts_10 : MSk := [(514, .row 9 (.cons .str .nil)), (600, .row 127 (.cons (.int .i64) (.cons .str .nil))), (601, .row 86 (.cons (.int .u64) (.cons .str .nil))), (1096, .cells (.cons (.leaf (.slc 9 (.cons .str .nil))) (.cons (.leaf (.slc 9 (.cons .str .nil))) .nil))), (1801, .cells (.cons (.leaf (.int .i64)) (.cons (.const (.slw 1803)) (.cons (.const (.slw 600)) .nil)))), (1802, .cells (.cons (.const (.ptr 1801 0 0)) (.cons (.leaf (.int .i64)) (.cons (.leaf (.int .i64)) (.cons (.leaf (.int .u64)) (.cons (.leaf (.int .u64)) (.cons (.leaf (.int .u64)) (.cons (.const (.slw 601)) .nil)))))))), (1803, .row 9 (.cons .str .nil))]
def louts_law10_WalCuts_10 : List OutL := [⟨(.exit 0), (.cons (.const .dead) (.cons (.const .dead) (.cons (.leaf (.slc 3 (.cons (.int .i64) .nil))) (.cons (.const .dead) (.cons (.const .dead) (.cons (.const .dead) (.cons (.const .dead) (.cons (.const .dead) (.cons (.const .dead) (.cons (.const (.ptr 1801 0 0)) (.cons (.const (.ptr 1802 0 0)) (.cons (.leaf (.slc 9 (.cons .str .nil))) (.cons (.const .dead) (.cons (.leaf (.int .i64)) (.cons (.const (.slw 514)) (.cons (.const .dead) (.cons (.const .dead) (.cons (.const .dead) (.cons (.const .dead) (.cons (.const .dead) (.cons (.const .dead) (.cons (.const .dead) (.cons (.const .dead) (.cons (.const .dead) (.cons (.const .dead) (.cons (.const .dead) (.cons (.const .dead) (.cons (.const .dead) (.cons (.const .dead) (.cons (.const .dead) (.cons (.const .dead) (.cons (.const .dead) (.cons (.const .dead) (.cons (.const .dead) (.cons (.const .dead) (.cons (.const .dead) (.cons (.const .dead) (.cons (.const .dead) (.cons (.const .dead) (.cons (.const .dead) (.cons (.const .dead) (.cons (.const .dead) (.cons (.const .dead) (.cons (.const .dead) (.cons (.const .dead) (.cons (.const .dead) (.cons (.const .dead) (.cons (.const .dead) (.cons (.const .dead) (.cons (.const .dead) (.cons (.const .dead) (.cons (.const .dead) (.cons (.const .dead) (.cons (.const .dead) (.cons (.const .dead) (.cons (.const .dead) (.cons (.const .dead) (.cons (.const .dead) (.cons (.const .dead) (.cons (.const .dead) (.cons (.const .dead) (.cons (.const .dead) (.cons (.const .dead) (.cons (.const .dead) (.cons (.const .dead) (.cons (.const .dead) (.cons (.const .dead) (.cons (.const .dead) (.cons (.const .dead) (.cons (.const .dead) (.cons (.const .dead) (.cons (.const .dead) (.cons (.const .dead) (.cons (.const .dead) (.cons (.const .dead) (.cons (.const .dead) (.cons (.const .dead) (.cons (.const .dead) (.cons (.const .dead) (.cons (.const .dead) (.cons (.const .dead) (.cons (.const .dead) (.cons (.const .dead) (.cons (.const .dead) (.cons (.const .dead) (.cons (.const .dead) (.cons (.const .dead) (.cons (.const .dead) (.cons (.const .dead) (.cons (.const .dead) (.cons (.const .dead) (.cons (.const .dead) (.cons (.const .dead) (.cons (.const .dead) (.cons (.const .dead) (.cons (.const .dead) (.cons (.const .dead) (.cons (.const .dead) (.cons (.const .dead) (.cons (.const .dead) (.cons (.const .dead) (.cons (.const .dead) (.cons (.const .dead) (.cons (.const .dead) (.cons (.const .dead) (.cons (.const .dead) (.cons (.const .dead) (.cons (.const .dead) (.cons (.const .dead) (.cons (.const .dead) (.cons (.const .dead) (.cons (.const .dead) (.cons (.const .dead) (.cons (.const .dead) (.cons (.const .dead) (.cons (.const .dead) (.cons (.const .dead) (.cons (.const .dead) (.cons (.const .dead) (.cons (.const .dead) (.cons (.const .dead) (.cons (.const .dead) (.cons (.const .dead) (.cons (.const .dead) (.cons (.const .dead) (.cons (.const .dead) (.cons (.const .dead) (.cons (.const .dead) (.cons (.const .dead) (.cons (.const .dead) (.cons (.const .dead) (.cons (.const .dead) (.cons (.const .dead) (.cons (.const .dead) (.cons (.const .dead) (.cons (.const .dead) (.cons (.const .dead) (.cons (.const .dead) (.cons (.const .dead) .nil))))))))))))))))))))))))))))))))))))))))))))))))))))))))))))))))))))))))))))))))))))))))))))))))))))))))))))))))))))))))))))))))))))))))))), [(514, .row 9 (.cons .str .nil)), (600, .row 127 (.cons (.int .i64) (.cons .str .nil))), (601, .row 86 (.cons (.int .u64) (.cons .str .nil))), (1801, .cells (.cons (.leaf (.int .i64)) (.cons (.const (.slw 1803)) (.cons (.const (.slw 600)) .nil)))), (1802, .cells (.cons (.const (.ptr 1801 0 0)) (.cons (.leaf (.int .i64)) (.cons (.leaf (.int .i64)) (.cons (.leaf (.int .u64)) (.cons (.leaf (.int .u64)) (.cons (.leaf (.int .u64)) (.cons (.const (.slw 601)) .nil)))))))), (1803, .row 9 (.cons .str .nil))]⟩]
abbrev LT_law10_WalCuts_10 : Type := (List Int × List ByteArray × List ByteArray × Int × Int × Unit)
abbrev LM_law10_WalCuts_10 : Type := (List ByteArray × (List (Int × ByteArray)) × (List (Int × ByteArray)) × (List ByteArray × List ByteArray × Unit) × (Int × Unit) × (Int × Int × Int × Int × Int × Unit) × List ByteArray × Unit)
abbrev LO_law10_WalCuts_10 : Type := (List Int × List ByteArray × Int × Unit) × (List ByteArray × (List (Int × ByteArray)) × (List (Int × ByteArray)) × (Int × Unit) × (Int × Int × Int × Int × Int × Unit) × List ByteArray × Unit)
def ltree_law10_WalCuts_10 (F_wal_Log_Append : A_wal_Log_Append → M_wal_Log_Append → Option O_wal_Log_Append) {α : Type} (x1 : List Int) (x2 : List ByteArray) (x3 : List ByteArray) (x4 : Int) (x5 : Int) (x6 : List ByteArray) (x7 : List (Int × ByteArray)) (x8 : List (Int × ByteArray)) (x9 : List ByteArray) (x10 : List ByteArray) (x11 : Int) (x12 : Int) (x13 : Int) (x14 : Int) (x15 : Int) (x16 : Int) (x17 : List ByteArray) (kn : LT_law10_WalCuts_10 → LM_law10_WalCuts_10 → Option α) (kr : LO_law10_WalCuts_10 → Option α) : Option α :=
  cond (decide (x5 < (↑x2.length : Int)))
  (cond (decide (x5 < 8))
   (cond (decide (0 ≤ x5))
    (cond (decide (x5 < (↑x2.length : Int)))
     ((F_wal_Log_Append (x2.getD x5.toNat ByteArray.empty, ())   ((x12, x13, x14, x15, x16, ()), (x11, ()), x8, x17, x7, ())).bind fun r1 =>
      cond (r1.fst)
      (cond (decide (0 ≤ x5))
       (cond (decide (x5 < (↑x2.length : Int)))
        (cond (decide ((x6.length + 1) * 16 ≤ 140737488355328))
         (kn (x1, (x2, (x3, (x4, (IntKind.i64.wrap (x5 + 1), ()))))) (x6 ++ ([] ++ [x2.getD x5.toNat ByteArray.empty]), (r1.snd.snd.snd.snd.snd.snd.snd.fst, (r1.snd.snd.snd.snd.snd.snd.fst, ((x9, (x10, ())), ((r1.snd.snd.fst.fst, ()), ((r1.snd.fst.fst, (r1.snd.fst.snd.fst, (r1.snd.fst.snd.snd.fst, (r1.snd.fst.snd.snd.snd.fst, (r1.snd.fst.snd.snd.snd.snd.fst, ()))))), (r1.snd.snd.snd.snd.fst, ()))))))))
         (none))
        (none))
       (none))
      (kn (x1, (x2, (x3, (x4, (IntKind.i64.wrap (x5 + 1), ()))))) (x6, (r1.snd.snd.snd.snd.snd.snd.snd.fst, (r1.snd.snd.snd.snd.snd.snd.fst, ((x9, (x10, ())), ((r1.snd.snd.fst.fst, ()), ((r1.snd.fst.fst, (r1.snd.fst.snd.fst, (r1.snd.fst.snd.snd.fst, (r1.snd.fst.snd.snd.snd.fst, (r1.snd.fst.snd.snd.snd.snd.fst, ()))))), (r1.snd.snd.snd.snd.fst, ())))))))))
     (none))
    (none))
   (kr ((x1, (x3, (x4, ()))), (x6, (x7, (x8, ((x11, ()), ((x12, (x13, (x14, (x15, (x16, ()))))), (x17, ())))))))))
  (kr ((x1, (x3, (x4, ()))), (x6, (x7, (x8, ((x11, ()), ((x12, (x13, (x14, (x15, (x16, ()))))), (x17, ()))))))))
noncomputable def L_law10_WalCuts_10 : LT_law10_WalCuts_10 → LM_law10_WalCuts_10 → Option LO_law10_WalCuts_10 := fun x y => runL (fun p => (fun (a : LT_law10_WalCuts_10) (b : LM_law10_WalCuts_10) => ltree_law10_WalCuts_10 F_wal_Log_Append a.1 a.2.1 a.2.2.1 a.2.2.2.1 a.2.2.2.2.1 b.1 b.2.1 b.2.2.1 b.2.2.2.1.1 b.2.2.2.1.2.1 b.2.2.2.2.1.1 b.2.2.2.2.2.1.1 b.2.2.2.2.2.1.2.1 b.2.2.2.2.2.1.2.2.1 b.2.2.2.2.2.1.2.2.2.1 b.2.2.2.2.2.1.2.2.2.2.1 b.2.2.2.2.2.2.1 (fun a' b' => some (.inl (a', b'))) fun r => some (.inr r)) p.1 p.2) (x, y)
theorem nl_law10_WalCuts_10 (F_wal_Log_Append : A_wal_Log_Append → M_wal_Log_Append → Option O_wal_Log_Append) (x1 : List Int) (x2 : List ByteArray) (x3 : List ByteArray) (x4 : Int) (x5 : Int) (x6 : List ByteArray) (x7 : List (Int × ByteArray)) (x8 : List (Int × ByteArray)) (x9 : List ByteArray) (x10 : List ByteArray) (x11 : Int) (x12 : Int) (x13 : Int) (x14 : Int) (x15 : Int) (x16 : Int) (x17 : List ByteArray) {α : Type} (kn : LT_law10_WalCuts_10 → LM_law10_WalCuts_10 → Option α) (kr : LO_law10_WalCuts_10 → Option α) : ltree_law10_WalCuts_10 F_wal_Log_Append x1 x2 x3 x4 x5 x6 x7 x8 x9 x10 x11 x12 x13 x14 x15 x16 x17 kn kr = (ltree_law10_WalCuts_10 F_wal_Log_Append x1 x2 x3 x4 x5 x6 x7 x8 x9 x10 x11 x12 x13 x14 x15 x16 x17 (fun a b => some (.inl (a, b))) fun r => some (.inr r)).bind (Sum.elim (fun p : LT_law10_WalCuts_10 × LM_law10_WalCuts_10 => kn p.1 p.2) kr) := by simp only [ltree_law10_WalCuts_10, bind_cond, bind_none', bind_some', bind_bind', bind_sum, Sum.elim_inl, Sum.elim_inr]
theorem Le_law10_WalCuts_10 (x1 : List Int) (x2 : List ByteArray) (x3 : List ByteArray) (x4 : Int) (x5 : Int) (x6 : List ByteArray) (x7 : List (Int × ByteArray)) (x8 : List (Int × ByteArray)) (x9 : List ByteArray) (x10 : List ByteArray) (x11 : Int) (x12 : Int) (x13 : Int) (x14 : Int) (x15 : Int) (x16 : Int) (x17 : List ByteArray) : L_law10_WalCuts_10 (x1, (x2, (x3, (x4, (x5, ()))))) (x6, (x7, (x8, ((x9, (x10, ())), ((x11, ()), ((x12, (x13, (x14, (x15, (x16, ()))))), (x17, ()))))))) = ltree_law10_WalCuts_10 F_wal_Log_Append x1 x2 x3 x4 x5 x6 x7 x8 x9 x10 x11 x12 x13 x14 x15 x16 x17 L_law10_WalCuts_10 some := runL_tree (A := LT_law10_WalCuts_10) (B := LM_law10_WalCuts_10) (R := LO_law10_WalCuts_10) (fun a b kn kr => ltree_law10_WalCuts_10 F_wal_Log_Append a.1 a.2.1 a.2.2.1 a.2.2.2.1 a.2.2.2.2.1 b.1 b.2.1 b.2.2.1 b.2.2.2.1.1 b.2.2.2.1.2.1 b.2.2.2.2.1.1 b.2.2.2.2.2.1.1 b.2.2.2.2.2.1.2.1 b.2.2.2.2.2.1.2.2.1 b.2.2.2.2.2.1.2.2.2.1 b.2.2.2.2.2.1.2.2.2.2.1 b.2.2.2.2.2.2.1 kn kr) (fun a b kn kr => nl_law10_WalCuts_10 F_wal_Log_Append a.1 a.2.1 a.2.2.1 a.2.2.2.1 a.2.2.2.2.1 b.1 b.2.1 b.2.2.1 b.2.2.2.1.1 b.2.2.2.1.2.1 b.2.2.2.2.1.1 b.2.2.2.2.2.1.1 b.2.2.2.2.2.1.2.1 b.2.2.2.2.2.1.2.2.1 b.2.2.2.2.2.1.2.2.2.1 b.2.2.2.2.2.1.2.2.2.2.1 b.2.2.2.2.2.2.1 kn kr) (x1, (x2, (x3, (x4, (x5, ()))))) (x6, (x7, (x8, ((x9, (x10, ())), ((x11, ()), ((x12, (x13, (x14, (x15, (x16, ()))))), (x17, ())))))))
def tree_law10_WalCuts (F_law10_appended : A_law10_appended → M_law10_appended → Option O_law10_appended) (F_law10_fixed : A_law10_fixed → M_law10_fixed → Option O_law10_fixed) (F_wal_Log_Cut : A_wal_Log_Cut → M_wal_Log_Cut → Option O_wal_Log_Cut) (F_wal_Log_Sync : A_wal_Log_Sync → M_wal_Log_Sync → Option O_wal_Log_Sync) (F_disk_Disk_Crash : A_disk_Disk_Crash → M_disk_Disk_Crash → Option O_disk_Disk_Crash) (F_wal_Open : A_wal_Open → M_wal_Open → Option O_wal_Open) (F_law10_texts : A_law10_texts → M_law10_texts → Option O_law10_texts) (F_ref01_Texts : A_ref01_Texts → M_ref01_Texts → Option O_ref01_Texts) (F_law10_begins : A_law10_begins → M_law10_begins → Option O_law10_begins) (L_law10_WalCuts_10 : LT_law10_WalCuts_10 → LM_law10_WalCuts_10 → Option LO_law10_WalCuts_10) {α : Type} (x1 : List ByteArray) (x2 : List ByteArray) (x3 : Int) (x4 : List Int) (K : O_law10_WalCuts → Option α) : Option α :=
  (F_law10_appended (x1, ()) ()).bind fun r1 =>
  Sum.elim (fun u2 =>
   (F_law10_fixed () ()).bind fun r3 =>
   cond (!r3.fst)
   (K (false, ()))
   (cond (!u2.fst.snd.fst)
    (K (false, ()))
    (none)))
  (fun u2 =>
   (F_law10_fixed () ()).bind fun r4 =>
   cond (!r4.fst)
   (K (false, ()))
   (cond (!u2.fst.snd.fst)
    (K (false, ()))
    ((F_wal_Log_Cut (x3, ())   ((u2.snd.snd.fst.fst, u2.snd.snd.fst.snd.fst, u2.snd.snd.fst.snd.snd.fst, u2.snd.snd.fst.snd.snd.snd.fst,       u2.snd.snd.fst.snd.snd.snd.snd.fst, ()),     (u2.snd.fst.fst, ()), u2.snd.snd.snd.snd.snd.fst, u2.snd.snd.snd.fst, u2.snd.snd.snd.snd.fst, ())).bind fun r5 =>
     cond (r5.fst != decide (x3 ≤ IntKind.u64.wrap (↑u2.fst.fst.length : Int)))
     (K (decide (x3 > IntKind.u64.wrap (↑u2.fst.fst.length : Int)), ()))
     (cond (decide (x3 > IntKind.u64.wrap (↑u2.fst.fst.length : Int)))
      (K (decide (x3 > IntKind.u64.wrap (↑u2.fst.fst.length : Int)), ()))
      (cond (decide (0 ≤ IntKind.i64.wrap x3))
       (cond (decide (IntKind.i64.wrap x3 ≤ (↑u2.fst.fst.length : Int)))
        (cond (decide   ((0 + (List.drop 0 (List.take (IntKind.i64.wrap x3).toNat u2.fst.fst)).length) * 16 ≤ 140737488355328))
         ((L_law10_WalCuts_10 (x4, x2, u2.fst.fst, IntKind.i64.wrap x3, 0, ())   ([] ++ List.drop 0 (List.take (IntKind.i64.wrap x3).toNat u2.fst.fst), r5.snd.snd.snd.snd.snd.fst,     r5.snd.snd.snd.snd.snd.snd.fst, (x1, x2, ()), (r5.snd.snd.fst.fst, ()),     (r5.snd.fst.fst, r5.snd.fst.snd.fst, r5.snd.fst.snd.snd.fst, r5.snd.fst.snd.snd.snd.fst,       r5.snd.fst.snd.snd.snd.snd.fst, ()),     r5.snd.snd.snd.snd.fst, ())).bind fun r6 =>
          cond ((↑r6.fst.fst.length : Int) == 0)
          ((F_wal_Log_Sync ()   ((r6.snd.snd.snd.snd.snd.fst.fst, r6.snd.snd.snd.snd.snd.fst.snd.fst, r6.snd.snd.snd.snd.snd.fst.snd.snd.fst,       r6.snd.snd.snd.snd.snd.fst.snd.snd.snd.fst, r6.snd.snd.snd.snd.snd.fst.snd.snd.snd.snd.fst, ()),     (r6.snd.snd.snd.snd.fst.fst, ()), r6.snd.snd.snd.fst, r6.snd.snd.snd.snd.snd.snd.fst, r6.snd.snd.fst, ())).bind fun r7 =>
           (F_wal_Open (0, 8, 0, 0, ())   ((r7.snd.snd.fst.fst, ()), r7.snd.snd.snd.snd.fst, r7.snd.snd.snd.snd.snd.snd.fst, ())).bind fun r8 =>
           Sum.elim (fun u9 =>
            K (false, ()))
           (fun u9 =>
            (F_law10_texts ()   ((u9.snd.snd.snd.snd.fst.fst, u9.snd.snd.snd.snd.fst.snd.fst, u9.snd.snd.snd.snd.fst.snd.snd.fst,       u9.snd.snd.snd.snd.fst.snd.snd.snd.fst, u9.snd.snd.snd.snd.fst.snd.snd.snd.snd.fst, ()),     (u9.snd.fst.fst, ()), u9.snd.snd.snd.snd.snd.fst, u9.snd.snd.fst, u9.snd.snd.snd.fst, ())).bind fun r10 =>
            cond ((↑r6.fst.fst.length : Int) == 0)
            ((F_ref01_Texts (r10.snd.snd.snd.snd.snd.snd.fst, r6.snd.fst, ()) ()).bind fun r11 =>
             cond (r11.fst)
             (K (true, ()))
             (cond ((↑r6.snd.fst.length : Int) == r6.fst.snd.snd.fst)
              ((F_ref01_Texts (r10.snd.snd.snd.snd.snd.snd.fst, r6.fst.snd.fst, ()) ()).bind fun r12 =>
               K (r12.fst, ()))
              (K (false, ()))))
            (cond (decide ((↑r10.snd.snd.snd.snd.snd.snd.fst.length : Int) ≥ r6.fst.snd.snd.fst))
             ((F_law10_begins (r10.snd.snd.snd.snd.snd.snd.fst, r6.snd.fst, ()) ()).bind fun r13 =>
              cond (r13.fst)
              (K (true, ()))
              ((F_law10_begins (r10.snd.snd.snd.snd.snd.snd.fst, r6.fst.snd.fst, ()) ()).bind fun r14 =>
               K (r14.fst, ())))
             (K (false, ())))) (r8))
          ((F_disk_Disk_Crash (r6.fst.fst, ())   ((r6.snd.snd.snd.snd.fst.fst, ()), r6.snd.snd.snd.snd.snd.snd.fst, r6.snd.snd.fst, ())).bind fun r15 =>
           (F_wal_Open (0, 8, 0, 0, ()) ((r15.snd.fst.fst, ()), r15.snd.snd.fst, r15.snd.snd.snd.snd.fst, ())).bind fun r16 =>
           Sum.elim (fun u17 =>
            K (false, ()))
           (fun u17 =>
            (F_law10_texts ()   ((u17.snd.snd.snd.snd.fst.fst, u17.snd.snd.snd.snd.fst.snd.fst, u17.snd.snd.snd.snd.fst.snd.snd.fst,       u17.snd.snd.snd.snd.fst.snd.snd.snd.fst, u17.snd.snd.snd.snd.fst.snd.snd.snd.snd.fst, ()),     (u17.snd.fst.fst, ()), u17.snd.snd.snd.snd.snd.fst, u17.snd.snd.fst, u17.snd.snd.snd.fst, ())).bind fun r18 =>
            cond ((↑r6.fst.fst.length : Int) == 0)
            ((F_ref01_Texts (r18.snd.snd.snd.snd.snd.snd.fst, r6.snd.fst, ()) ()).bind fun r19 =>
             cond (r19.fst)
             (K (true, ()))
             (cond ((↑r6.snd.fst.length : Int) == r6.fst.snd.snd.fst)
              ((F_ref01_Texts (r18.snd.snd.snd.snd.snd.snd.fst, r6.fst.snd.fst, ()) ()).bind fun r20 =>
               K (r20.fst, ()))
              (K (false, ()))))
            (cond (decide ((↑r18.snd.snd.snd.snd.snd.snd.fst.length : Int) ≥ r6.fst.snd.snd.fst))
             ((F_law10_begins (r18.snd.snd.snd.snd.snd.snd.fst, r6.snd.fst, ()) ()).bind fun r21 =>
              cond (r21.fst)
              (K (true, ()))
              ((F_law10_begins (r18.snd.snd.snd.snd.snd.snd.fst, r6.fst.snd.fst, ()) ()).bind fun r22 =>
               K (r22.fst, ())))
             (K (false, ())))) (r16)))
         (none))
        (none))
       (none)))))) (r1)
noncomputable def F_law10_WalCuts : A_law10_WalCuts → M_law10_WalCuts → Option O_law10_WalCuts := fun a b => tree_law10_WalCuts F_law10_appended F_law10_fixed F_wal_Log_Cut F_wal_Log_Sync F_disk_Disk_Crash F_wal_Open F_law10_texts F_ref01_Texts F_law10_begins L_law10_WalCuts_10 a.1.1 a.1.2.1 a.2.1 a.2.2.1 some
theorem n_law10_WalCuts (F_law10_appended : A_law10_appended → M_law10_appended → Option O_law10_appended) (F_law10_fixed : A_law10_fixed → M_law10_fixed → Option O_law10_fixed) (F_wal_Log_Cut : A_wal_Log_Cut → M_wal_Log_Cut → Option O_wal_Log_Cut) (F_wal_Log_Sync : A_wal_Log_Sync → M_wal_Log_Sync → Option O_wal_Log_Sync) (F_disk_Disk_Crash : A_disk_Disk_Crash → M_disk_Disk_Crash → Option O_disk_Disk_Crash) (F_wal_Open : A_wal_Open → M_wal_Open → Option O_wal_Open) (F_law10_texts : A_law10_texts → M_law10_texts → Option O_law10_texts) (F_ref01_Texts : A_ref01_Texts → M_ref01_Texts → Option O_ref01_Texts) (F_law10_begins : A_law10_begins → M_law10_begins → Option O_law10_begins) (L_law10_WalCuts_10 : LT_law10_WalCuts_10 → LM_law10_WalCuts_10 → Option LO_law10_WalCuts_10) (x1 : List ByteArray) (x2 : List ByteArray) (x3 : Int) (x4 : List Int) {α : Type} (K : O_law10_WalCuts → Option α) : tree_law10_WalCuts F_law10_appended F_law10_fixed F_wal_Log_Cut F_wal_Log_Sync F_disk_Disk_Crash F_wal_Open F_law10_texts F_ref01_Texts F_law10_begins L_law10_WalCuts_10 x1 x2 x3 x4 K = (tree_law10_WalCuts F_law10_appended F_law10_fixed F_wal_Log_Cut F_wal_Log_Sync F_disk_Disk_Crash F_wal_Open F_law10_texts F_ref01_Texts F_law10_begins L_law10_WalCuts_10 x1 x2 x3 x4 some).bind K := by simp only [tree_law10_WalCuts, bind_cond, bind_none', bind_some', bind_bind', bind_sum]
theorem Fe_law10_WalCuts (x1 : List ByteArray) (x2 : List ByteArray) (x3 : Int) (x4 : List Int) : F_law10_WalCuts ((x1, (x2, ())), (x3, (x4, ()))) () = tree_law10_WalCuts F_law10_appended F_law10_fixed F_wal_Log_Cut F_wal_Log_Sync F_disk_Disk_Crash F_wal_Open F_law10_texts F_ref01_Texts F_law10_begins L_law10_WalCuts_10 x1 x2 x3 x4 some := rfl

end Go.Proofs.Ytlfedmjjjbhnpaa.S2
