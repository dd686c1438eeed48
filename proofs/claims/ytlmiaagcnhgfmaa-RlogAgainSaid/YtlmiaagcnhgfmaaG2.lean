/- Plain forms of the program's functions, by program. -/
import Derived.Test.YtlmiaagcnhgfmaaG1
set_option maxRecDepth 100000
set_option maxHeartbeats 0
set_option linter.unusedVariables false
set_option linter.unusedSimpArgs false
namespace Go.Proofs.Ytlmiaagcnhgfmaa.S2
open Go
/-! countersign/rlog.Compact -/
def args_rlog_Compact : SkL := (.cons (.agg (.cons (.leaf (.int .u64)) (.cons (.leaf (.int .u64)) (.cons (.leaf (.slc 37 (.cons (.int .u64) (.cons (.int .i64) (.cons .str .nil))))) .nil)))) (.cons (.leaf (.int .u64)) .nil))
def mem_rlog_Compact : MSk := []
def outs_rlog_Compact : List OutC := [⟨(.tup (.cons (.agg (.cons (.leaf (.int .u64)) (.cons (.leaf (.int .u64)) (.cons (.leaf (.slc 37 (.cons (.int .u64) (.cons (.int .i64) (.cons .str .nil))))) .nil)))) (.cons (.leaf .bool) .nil))), []⟩]
abbrev A_rlog_Compact : Type := ((Int × Int × (List (Int × Int × ByteArray)) × Unit) × Int × Unit)
abbrev M_rlog_Compact : Type := Unit
abbrev O_rlog_Compact : Type := ((Int × Int × (List (Int × Int × ByteArray)) × Unit) × Bool × Unit) × Unit
def tree_rlog_Compact (F_rlog_Term : A_rlog_Term → M_rlog_Term → Option O_rlog_Term) (F_rlog_with : A_rlog_with → M_rlog_with → Option O_rlog_with) {α : Type} (x1 : Int) (x2 : Int) (x3 : List (Int × Int × ByteArray)) (x4 : Int) (K : O_rlog_Compact → Option α) : Option α :=
  (F_rlog_Term ((x1, x2, x3, ()), x4, ()) ()).bind fun r1 =>
  cond (!r1.fst.snd.fst)
  ((F_rlog_with ((x1, x2, x3, ()), x3, ()) ()).bind fun r2 =>
   K (((r2.fst.fst, (r2.fst.snd.fst, (r2.fst.snd.snd.fst, ()))), (false, ())), ()))
  (cond (decide (0 ≤ IntKind.u64.wrap (x4 - x1)))
   (cond (decide (IntKind.u64.wrap (x4 - x1) ≤ (↑x3.length : Int)))
    ((F_rlog_with   ((x1, x2, x3, ()), List.drop (IntKind.u64.wrap (x4 - x1)).toNat (List.take x3.length x3), ()) ()).bind fun r3 =>
     K (((x4, (r1.fst.fst, (r3.fst.snd.snd.fst, ()))), (true, ())), ()))
    (none))
   (none))
noncomputable def F_rlog_Compact : A_rlog_Compact → M_rlog_Compact → Option O_rlog_Compact := fun a b => tree_rlog_Compact F_rlog_Term F_rlog_with a.1.1 a.1.2.1 a.1.2.2.1 a.2.1 some
theorem n_rlog_Compact (F_rlog_Term : A_rlog_Term → M_rlog_Term → Option O_rlog_Term) (F_rlog_with : A_rlog_with → M_rlog_with → Option O_rlog_with) (x1 : Int) (x2 : Int) (x3 : List (Int × Int × ByteArray)) (x4 : Int) {α : Type} (K : O_rlog_Compact → Option α) : tree_rlog_Compact F_rlog_Term F_rlog_with x1 x2 x3 x4 K = (tree_rlog_Compact F_rlog_Term F_rlog_with x1 x2 x3 x4 some).bind K := by simp only [tree_rlog_Compact, bind_cond, bind_none', bind_some', bind_bind', bind_sum]
theorem Fe_rlog_Compact (x1 : Int) (x2 : Int) (x3 : List (Int × Int × ByteArray)) (x4 : Int) : F_rlog_Compact ((x1, (x2, (x3, ()))), (x4, ())) () = tree_rlog_Compact F_rlog_Term F_rlog_with x1 x2 x3 x4 some := rfl

/-! countersign/countersignref15.Compact -/
def args_ref15_Compact : SkL := (.cons (.agg (.cons (.leaf (.int .u64)) (.cons (.leaf (.int .u64)) (.cons (.leaf (.slc 37 (.cons (.int .u64) (.cons (.int .i64) (.cons .str .nil))))) .nil)))) (.cons (.leaf (.int .u64)) .nil))
def mem_ref15_Compact : MSk := []
def outs_ref15_Compact : List OutC := [⟨(.tup (.cons (.agg (.cons (.leaf (.int .u64)) (.cons (.leaf (.int .u64)) (.cons (.leaf (.slc 37 (.cons (.int .u64) (.cons (.int .i64) (.cons .str .nil))))) .nil)))) (.cons (.leaf .bool) .nil))), []⟩]
abbrev A_ref15_Compact : Type := ((Int × Int × (List (Int × Int × ByteArray)) × Unit) × Int × Unit)
abbrev M_ref15_Compact : Type := Unit
abbrev O_ref15_Compact : Type := ((Int × Int × (List (Int × Int × ByteArray)) × Unit) × Bool × Unit) × Unit
def ltmps_ref15_Compact_6 : SkL := (.cons (.const .dead) (.cons (.const .dead) (.cons (.const (.ptr 1064 0 0)) (.cons (.const .dead) (.cons (.const (.ptr 1128 0 0)) (.cons (.const .dead) (.cons (.const .dead) (.cons (.const .dead) (.cons (.const (.ptr 1256 0 0)) (.cons (.leaf (.int .u64)) (.cons (.const .dead) (.cons (.const .dead) (.cons (.const .dead) (.cons (.const .dead) (.cons (.const .dead) (.cons (.const .dead) (.cons (.const .dead) (.cons (.const .dead) (.cons (.const .dead) (.cons (.const .dead) (.cons (.const .dead) (.cons (.const .dead) (.cons (.const .dead) (.cons (.const .dead) (.cons (.const .dead) (.cons (.const .dead) (.cons (.const .dead) (.cons (.const .dead) (.cons (.const .dead) (.cons (.const .dead) (.cons (.const .dead) (.cons (.const .dead) (.cons (.const .dead) (.cons (.const .dead) (.cons (.const .dead) (.cons (.const .dead) (.cons (.const .dead) (.cons (.const .dead) (.cons (.const .dead) (.cons (.const .dead) (.cons (.const .dead) (.cons (.const .dead) (.cons (.const .dead) (.cons (.const .dead) (.cons (.const .dead) .nil)))))))))))))))))))))))))))))))))))))))))))))
def lmem_ref15_Compact_6 : MSk := [(508, .row 37 (.cons (.int .u64) (.cons (.int .i64) (.cons .str .nil)))), (1064, .cells (.cons (.leaf (.int .u64)) (.cons (.leaf (.int .u64)) (.cons (.leaf (.slc 37 (.cons (.int .u64) (.cons (.int .i64) (.cons .str .nil))))) .nil)))), (1128, .cells (.cons (.leaf (.int .u64)) (.cons (.leaf (.int .u64)) (.cons (.const .nils) .nil)))), (1256, .cells (.cons (.leaf (.int .u64)) (.cons (.leaf (.int .u64)) (.cons (.const (.slw 508)) .nil))))]
def louts_ref15_Compact_6 : List OutL := [⟨(.exit 0), (.cons (.const .dead) (.cons (.const .dead) (.cons (.const .dead) (.cons (.const .dead) (.cons (.const (.ptr 1128 0 0)) (.cons (.const .dead) (.cons (.const .dead) (.cons (.const .dead) (.cons (.const (.ptr 1256 0 0)) (.cons (.const .dead) (.cons (.const .dead) (.cons (.const .dead) (.cons (.const .dead) (.cons (.const .dead) (.cons (.const .dead) (.cons (.const .dead) (.cons (.const .dead) (.cons (.const .dead) (.cons (.const .dead) (.cons (.const .dead) (.cons (.const .dead) (.cons (.const .dead) (.cons (.const .dead) (.cons (.const .dead) (.cons (.const .dead) (.cons (.const .dead) (.cons (.const .dead) (.cons (.const .dead) (.cons (.const .dead) (.cons (.const .dead) (.cons (.const .dead) (.cons (.const .dead) (.cons (.const .dead) (.cons (.const .dead) (.cons (.const .dead) (.cons (.const .dead) (.cons (.const .dead) (.cons (.const .dead) (.cons (.const .dead) (.cons (.const .dead) (.cons (.const .dead) (.cons (.const .dead) (.cons (.const .dead) (.cons (.const .dead) (.cons (.const .dead) .nil))))))))))))))))))))))))))))))))))))))))))))), [(508, .row 37 (.cons (.int .u64) (.cons (.int .i64) (.cons .str .nil)))), (1128, .cells (.cons (.leaf (.int .u64)) (.cons (.leaf (.int .u64)) (.cons (.const .nils) .nil)))), (1256, .cells (.cons (.leaf (.int .u64)) (.cons (.leaf (.int .u64)) (.cons (.const (.slw 508)) .nil))))]⟩]
abbrev LT_ref15_Compact_6 : Type := (Int × Unit)
abbrev LM_ref15_Compact_6 : Type := ((List (Int × Int × ByteArray)) × (Int × Int × (List (Int × Int × ByteArray)) × Unit) × (Int × Int × Unit) × (Int × Int × Unit) × Unit)
abbrev LO_ref15_Compact_6 : Type := Unit × ((List (Int × Int × ByteArray)) × (Int × Int × Unit) × (Int × Int × Unit) × Unit)
def ltree_ref15_Compact_6 (F_ref15_Last : A_ref15_Last → M_ref15_Last → Option O_ref15_Last) (F_ref15_Entry : A_ref15_Entry → M_ref15_Entry → Option O_ref15_Entry) {α : Type} (x1 : Int) (x2 : List (Int × Int × ByteArray)) (x3 : Int) (x4 : Int) (x5 : List (Int × Int × ByteArray)) (x6 : Int) (x7 : Int) (x8 : Int) (x9 : Int) (kn : LT_ref15_Compact_6 → LM_ref15_Compact_6 → Option α) (kr : LO_ref15_Compact_6 → Option α) : Option α :=
  (F_ref15_Last ((x3, x4, x5, ()), ()) ()).bind fun r1 =>
  cond (decide (x1 ≤ r1.fst))
  ((F_ref15_Entry ((x3, x4, x5, ()), x1, ()) ()).bind fun r2 =>
   cond (decide   ((x2.length + ([] ++ [(r2.fst.fst.fst, r2.fst.fst.snd.fst, r2.fst.fst.snd.snd.fst)]).length) * 32 ≤ 140737488355328))
   (kn (IntKind.u64.wrap (x1 + 1), ()) (x2 ++ ([] ++ [(r2.fst.fst.fst, r2.fst.fst.snd.fst, r2.fst.fst.snd.snd.fst)]), ((x3, (x4, (x5, ()))), ((x6, (x7, ())), ((x8, (x9, ())), ())))))
   (none))
  (kr ((), (x2, ((x6, (x7, ())), ((x8, (x9, ())), ())))))
noncomputable def L_ref15_Compact_6 : LT_ref15_Compact_6 → LM_ref15_Compact_6 → Option LO_ref15_Compact_6 := fun x y => runL (fun p => (fun (a : LT_ref15_Compact_6) (b : LM_ref15_Compact_6) => ltree_ref15_Compact_6 F_ref15_Last F_ref15_Entry a.1 b.1 b.2.1.1 b.2.1.2.1 b.2.1.2.2.1 b.2.2.1.1 b.2.2.1.2.1 b.2.2.2.1.1 b.2.2.2.1.2.1 (fun a' b' => some (.inl (a', b'))) fun r => some (.inr r)) p.1 p.2) (x, y)
theorem nl_ref15_Compact_6 (F_ref15_Last : A_ref15_Last → M_ref15_Last → Option O_ref15_Last) (F_ref15_Entry : A_ref15_Entry → M_ref15_Entry → Option O_ref15_Entry) (x1 : Int) (x2 : List (Int × Int × ByteArray)) (x3 : Int) (x4 : Int) (x5 : List (Int × Int × ByteArray)) (x6 : Int) (x7 : Int) (x8 : Int) (x9 : Int) {α : Type} (kn : LT_ref15_Compact_6 → LM_ref15_Compact_6 → Option α) (kr : LO_ref15_Compact_6 → Option α) : ltree_ref15_Compact_6 F_ref15_Last F_ref15_Entry x1 x2 x3 x4 x5 x6 x7 x8 x9 kn kr = (ltree_ref15_Compact_6 F_ref15_Last F_ref15_Entry x1 x2 x3 x4 x5 x6 x7 x8 x9 (fun a b => some (.inl (a, b))) fun r => some (.inr r)).bind (Sum.elim (fun p : LT_ref15_Compact_6 × LM_ref15_Compact_6 => kn p.1 p.2) kr) := by simp only [ltree_ref15_Compact_6, bind_cond, bind_none', bind_some', bind_bind', bind_sum, Sum.elim_inl, Sum.elim_inr]
theorem Le_ref15_Compact_6 (x1 : Int) (x2 : List (Int × Int × ByteArray)) (x3 : Int) (x4 : Int) (x5 : List (Int × Int × ByteArray)) (x6 : Int) (x7 : Int) (x8 : Int) (x9 : Int) : L_ref15_Compact_6 (x1, ()) (x2, ((x3, (x4, (x5, ()))), ((x6, (x7, ())), ((x8, (x9, ())), ())))) = ltree_ref15_Compact_6 F_ref15_Last F_ref15_Entry x1 x2 x3 x4 x5 x6 x7 x8 x9 L_ref15_Compact_6 some := runL_tree (A := LT_ref15_Compact_6) (B := LM_ref15_Compact_6) (R := LO_ref15_Compact_6) (fun a b kn kr => ltree_ref15_Compact_6 F_ref15_Last F_ref15_Entry a.1 b.1 b.2.1.1 b.2.1.2.1 b.2.1.2.2.1 b.2.2.1.1 b.2.2.1.2.1 b.2.2.2.1.1 b.2.2.2.1.2.1 kn kr) (fun a b kn kr => nl_ref15_Compact_6 F_ref15_Last F_ref15_Entry a.1 b.1 b.2.1.1 b.2.1.2.1 b.2.1.2.2.1 b.2.2.1.1 b.2.2.1.2.1 b.2.2.2.1.1 b.2.2.2.1.2.1 kn kr) (x1, ()) (x2, ((x3, (x4, (x5, ()))), ((x6, (x7, ())), ((x8, (x9, ())), ()))))
def tree_ref15_Compact (F_ref15_Term : A_ref15_Term → M_ref15_Term → Option O_ref15_Term) (L_ref15_Compact_6 : LT_ref15_Compact_6 → LM_ref15_Compact_6 → Option LO_ref15_Compact_6) {α : Type} (x1 : Int) (x2 : Int) (x3 : List (Int × Int × ByteArray)) (x4 : Int) (K : O_ref15_Compact → Option α) : Option α :=
  (F_ref15_Term ((x1, x2, x3, ()), x4, ()) ()).bind fun r1 =>
  cond (!r1.fst.snd.fst)
  (K (((x1, (x2, (x3, ()))), (false, ())), ()))
  ((L_ref15_Compact_6 (IntKind.u64.wrap (x4 + 1), ())   ([], (x1, x2, x3, ()), (0, 0, ()), (x4, r1.fst.fst, ()), ())).bind fun r2 =>
   K (((r2.snd.snd.snd.fst.fst, (r2.snd.snd.snd.fst.snd.fst, (r2.snd.fst, ()))), (true, ())), ()))
noncomputable def F_ref15_Compact : A_ref15_Compact → M_ref15_Compact → Option O_ref15_Compact := fun a b => tree_ref15_Compact F_ref15_Term L_ref15_Compact_6 a.1.1 a.1.2.1 a.1.2.2.1 a.2.1 some
theorem n_ref15_Compact (F_ref15_Term : A_ref15_Term → M_ref15_Term → Option O_ref15_Term) (L_ref15_Compact_6 : LT_ref15_Compact_6 → LM_ref15_Compact_6 → Option LO_ref15_Compact_6) (x1 : Int) (x2 : Int) (x3 : List (Int × Int × ByteArray)) (x4 : Int) {α : Type} (K : O_ref15_Compact → Option α) : tree_ref15_Compact F_ref15_Term L_ref15_Compact_6 x1 x2 x3 x4 K = (tree_ref15_Compact F_ref15_Term L_ref15_Compact_6 x1 x2 x3 x4 some).bind K := by simp only [tree_ref15_Compact, bind_cond, bind_none', bind_some', bind_bind', bind_sum]
theorem Fe_ref15_Compact (x1 : Int) (x2 : Int) (x3 : List (Int × Int × ByteArray)) (x4 : Int) : F_ref15_Compact ((x1, (x2, (x3, ()))), (x4, ())) () = tree_ref15_Compact F_ref15_Term L_ref15_Compact_6 x1 x2 x3 x4 some := rfl

/-! countersign/rlog.Slice -/
def args_rlog_Slice : SkL := (.cons (.agg (.cons (.leaf (.int .u64)) (.cons (.leaf (.int .u64)) (.cons (.leaf (.slc 37 (.cons (.int .u64) (.cons (.int .i64) (.cons .str .nil))))) .nil)))) (.cons (.leaf (.int .u64)) (.cons (.leaf (.int .i64)) .nil)))
def mem_rlog_Slice : MSk := []
def outs_rlog_Slice : List OutC := [⟨(.leaf (.slc 37 (.cons (.int .u64) (.cons (.int .i64) (.cons .str .nil))))), []⟩]
abbrev A_rlog_Slice : Type := ((Int × Int × (List (Int × Int × ByteArray)) × Unit) × Int × Int × Unit)
abbrev M_rlog_Slice : Type := Unit
abbrev O_rlog_Slice : Type := (List (Int × Int × ByteArray)) × Unit
def tree_rlog_Slice (F_rlog_Last : A_rlog_Last → M_rlog_Last → Option O_rlog_Last) (F_slices_Clone_api_Entry : A_slices_Clone_api_Entry → M_slices_Clone_api_Entry → Option O_slices_Clone_api_Entry) {α : Type} (x1 : Int) (x2 : Int) (x3 : List (Int × Int × ByteArray)) (x4 : Int) (x5 : Int) (K : O_rlog_Slice → Option α) : Option α :=
  cond (decide (x5 < 1))
  (K ([], ()))
  ((F_rlog_Last ((x1, x2, x3, ()), ()) ()).bind fun r1 =>
   cond (decide ((if IntKind.u64.wrap (x1 + 1) > x4 then IntKind.u64.wrap (x1 + 1) else x4) > r1.fst))
   (K ([], ()))
   (cond (decide   (0 ≤     IntKind.u64.wrap       (IntKind.u64.wrap ((if IntKind.u64.wrap (x1 + 1) > x4 then IntKind.u64.wrap (x1 + 1) else x4) - x1) - 1)))
    (cond (decide   (IntKind.u64.wrap       (IntKind.u64.wrap ((if IntKind.u64.wrap (x1 + 1) > x4 then IntKind.u64.wrap (x1 + 1) else x4) - x1) -         1) ≤     (↑x3.length : Int)))
     (cond (decide   (0 ≤     if         x5 <           (↑(List.drop                   (IntKind.u64.wrap                       (IntKind.u64.wrap                           ((if IntKind.u64.wrap (x1 + 1) > x4 then IntKind.u64.wrap (x1 + 1) else x4) - x1) -                         1)).toNat                   (List.take x3.length x3)).length :             Int) then       x5     else       (↑(List.drop               (IntKind.u64.wrap                   (IntKind.u64.wrap                       ((if IntKind.u64.wrap (x1 + 1) > x4 then IntKind.u64.wrap (x1 + 1) else x4) - x1) -                     1)).toNat               (List.take x3.length x3)).length :         Int)))
      (cond (decide   ((if         x5 <           (↑(List.drop                   (IntKind.u64.wrap                       (IntKind.u64.wrap                           ((if IntKind.u64.wrap (x1 + 1) > x4 then IntKind.u64.wrap (x1 + 1) else x4) - x1) -                         1)).toNat                   (List.take x3.length x3)).length :             Int) then       x5     else       (↑(List.drop               (IntKind.u64.wrap                   (IntKind.u64.wrap                       ((if IntKind.u64.wrap (x1 + 1) > x4 then IntKind.u64.wrap (x1 + 1) else x4) - x1) -                     1)).toNat               (List.take x3.length x3)).length :         Int)) ≤     (↑(List.drop             (IntKind.u64.wrap                 (IntKind.u64.wrap                     ((if IntKind.u64.wrap (x1 + 1) > x4 then IntKind.u64.wrap (x1 + 1) else x4) - x1) -                   1)).toNat             (List.take x3.length x3)).length :       Int)))
       ((F_slices_Clone_api_Entry   (List.drop 0       (List.take         (if               x5 <                 (↑(List.drop                         (IntKind.u64.wrap                             (IntKind.u64.wrap                                 ((if IntKind.u64.wrap (x1 + 1) > x4 then IntKind.u64.wrap (x1 + 1) else x4) -                                   x1) -                               1)).toNat                         (List.take x3.length x3)).length :                   Int) then             x5           else             (↑(List.drop                     (IntKind.u64.wrap                         (IntKind.u64.wrap                             ((if IntKind.u64.wrap (x1 + 1) > x4 then IntKind.u64.wrap (x1 + 1) else x4) - x1) -                           1)).toNat                     (List.take x3.length x3)).length :               Int)).toNat         (List.drop           (IntKind.u64.wrap               (IntKind.u64.wrap                   ((if IntKind.u64.wrap (x1 + 1) > x4 then IntKind.u64.wrap (x1 + 1) else x4) - x1) -                 1)).toNat           (List.take x3.length x3))),     ())   ()).bind fun r2 =>
        K (r2.fst, ()))
       (none))
      (none))
     (none))
    (none)))
noncomputable def F_rlog_Slice : A_rlog_Slice → M_rlog_Slice → Option O_rlog_Slice := fun a b => tree_rlog_Slice F_rlog_Last F_slices_Clone_api_Entry a.1.1 a.1.2.1 a.1.2.2.1 a.2.1 a.2.2.1 some
theorem n_rlog_Slice (F_rlog_Last : A_rlog_Last → M_rlog_Last → Option O_rlog_Last) (F_slices_Clone_api_Entry : A_slices_Clone_api_Entry → M_slices_Clone_api_Entry → Option O_slices_Clone_api_Entry) (x1 : Int) (x2 : Int) (x3 : List (Int × Int × ByteArray)) (x4 : Int) (x5 : Int) {α : Type} (K : O_rlog_Slice → Option α) : tree_rlog_Slice F_rlog_Last F_slices_Clone_api_Entry x1 x2 x3 x4 x5 K = (tree_rlog_Slice F_rlog_Last F_slices_Clone_api_Entry x1 x2 x3 x4 x5 some).bind K := by simp only [tree_rlog_Slice, bind_cond, bind_none', bind_some', bind_bind', bind_sum]
theorem Fe_rlog_Slice (x1 : Int) (x2 : Int) (x3 : List (Int × Int × ByteArray)) (x4 : Int) (x5 : Int) : F_rlog_Slice ((x1, (x2, (x3, ()))), (x4, (x5, ()))) () = tree_rlog_Slice F_rlog_Last F_slices_Clone_api_Entry x1 x2 x3 x4 x5 some := rfl

/-! countersign/countersignref15.Slice -/
def args_ref15_Slice : SkL := (.cons (.agg (.cons (.leaf (.int .u64)) (.cons (.leaf (.int .u64)) (.cons (.leaf (.slc 37 (.cons (.int .u64) (.cons (.int .i64) (.cons .str .nil))))) .nil)))) (.cons (.leaf (.int .u64)) (.cons (.leaf (.int .i64)) .nil)))
def mem_ref15_Slice : MSk := []
def outs_ref15_Slice : List OutC := [⟨(.leaf (.slc 37 (.cons (.int .u64) (.cons (.int .i64) (.cons .str .nil))))), []⟩]
abbrev A_ref15_Slice : Type := ((Int × Int × (List (Int × Int × ByteArray)) × Unit) × Int × Int × Unit)
abbrev M_ref15_Slice : Type := Unit
abbrev O_ref15_Slice : Type := (List (Int × Int × ByteArray)) × Unit
def ltmps_ref15_Slice_3 : SkL := (.cons (.const .dead) (.cons (.leaf (.int .u64)) (.cons (.leaf (.int .i64)) (.cons (.const (.ptr 1096 0 0)) (.cons (.const .dead) (.cons (.const .dead) (.cons (.const .dead) (.cons (.const (.slw 507)) (.cons (.leaf (.int .u64)) (.cons (.const .dead) (.cons (.const .dead) (.cons (.const .dead) (.cons (.const .dead) (.cons (.const .dead) (.cons (.const .dead) (.cons (.const .dead) (.cons (.const .dead) (.cons (.const .dead) (.cons (.const .dead) (.cons (.const .dead) (.cons (.const .dead) (.cons (.const .dead) (.cons (.const .dead) (.cons (.const .dead) (.cons (.const .dead) (.cons (.const .dead) (.cons (.const .dead) (.cons (.const .dead) (.cons (.const .dead) (.cons (.const .dead) (.cons (.const .dead) (.cons (.const .dead) (.cons (.const .dead) (.cons (.const .dead) (.cons (.const .dead) (.cons (.const .dead) (.cons (.const .dead) (.cons (.const .dead) (.cons (.const .dead) (.cons (.const .dead) (.cons (.const .dead) .nil)))))))))))))))))))))))))))))))))))))))))
def lmem_ref15_Slice_3 : MSk := [(507, .row 37 (.cons (.int .u64) (.cons (.int .i64) (.cons .str .nil)))), (1096, .cells (.cons (.leaf (.int .u64)) (.cons (.leaf (.int .u64)) (.cons (.leaf (.slc 37 (.cons (.int .u64) (.cons (.int .i64) (.cons .str .nil))))) .nil))))]
def louts_ref15_Slice_3 : List OutL := [⟨(.exit 0), (.cons (.const .dead) (.cons (.const .dead) (.cons (.const .dead) (.cons (.const .dead) (.cons (.const .dead) (.cons (.const .dead) (.cons (.const .dead) (.cons (.const (.slw 507)) (.cons (.const .dead) (.cons (.const .dead) (.cons (.const .dead) (.cons (.const .dead) (.cons (.const .dead) (.cons (.const .dead) (.cons (.const .dead) (.cons (.const .dead) (.cons (.const .dead) (.cons (.const .dead) (.cons (.const .dead) (.cons (.const .dead) (.cons (.const .dead) (.cons (.const .dead) (.cons (.const .dead) (.cons (.const .dead) (.cons (.const .dead) (.cons (.const .dead) (.cons (.const .dead) (.cons (.const .dead) (.cons (.const .dead) (.cons (.const .dead) (.cons (.const .dead) (.cons (.const .dead) (.cons (.const .dead) (.cons (.const .dead) (.cons (.const .dead) (.cons (.const .dead) (.cons (.const .dead) (.cons (.const .dead) (.cons (.const .dead) (.cons (.const .dead) (.cons (.const .dead) .nil))))))))))))))))))))))))))))))))))))))))), [(507, .row 37 (.cons (.int .u64) (.cons (.int .i64) (.cons .str .nil))))]⟩]
abbrev LT_ref15_Slice_3 : Type := (Int × Int × Int × Unit)
abbrev LM_ref15_Slice_3 : Type := ((List (Int × Int × ByteArray)) × (Int × Int × (List (Int × Int × ByteArray)) × Unit) × Unit)
abbrev LO_ref15_Slice_3 : Type := Unit × ((List (Int × Int × ByteArray)) × Unit)
def ltree_ref15_Slice_3 (F_ref15_Last : A_ref15_Last → M_ref15_Last → Option O_ref15_Last) (F_ref15_Entry : A_ref15_Entry → M_ref15_Entry → Option O_ref15_Entry) {α : Type} (x1 : Int) (x2 : Int) (x3 : Int) (x4 : List (Int × Int × ByteArray)) (x5 : Int) (x6 : Int) (x7 : List (Int × Int × ByteArray)) (kn : LT_ref15_Slice_3 → LM_ref15_Slice_3 → Option α) (kr : LO_ref15_Slice_3 → Option α) : Option α :=
  (F_ref15_Last ((x5, x6, x7, ()), ()) ()).bind fun r1 =>
  cond (decide (x3 ≤ r1.fst))
  ((F_ref15_Entry ((x5, x6, x7, ()), x3, ()) ()).bind fun r2 =>
   cond (decide (x3 ≥ x1))
   (cond (decide ((↑x4.length : Int) < x2))
    (cond (decide   ((x4.length + ([] ++ [(r2.fst.fst.fst, r2.fst.fst.snd.fst, r2.fst.fst.snd.snd.fst)]).length) * 32 ≤ 140737488355328))
     (kn (x1, (x2, (IntKind.u64.wrap (x3 + 1), ()))) (x4 ++ ([] ++ [(r2.fst.fst.fst, r2.fst.fst.snd.fst, r2.fst.fst.snd.snd.fst)]), ((x5, (x6, (x7, ()))), ())))
     (none))
    (kn (x1, (x2, (IntKind.u64.wrap (x3 + 1), ()))) (x4, ((x5, (x6, (x7, ()))), ()))))
   (kn (x1, (x2, (IntKind.u64.wrap (x3 + 1), ()))) (x4, ((x5, (x6, (x7, ()))), ()))))
  (kr ((), (x4, ())))
noncomputable def L_ref15_Slice_3 : LT_ref15_Slice_3 → LM_ref15_Slice_3 → Option LO_ref15_Slice_3 := fun x y => runL (fun p => (fun (a : LT_ref15_Slice_3) (b : LM_ref15_Slice_3) => ltree_ref15_Slice_3 F_ref15_Last F_ref15_Entry a.1 a.2.1 a.2.2.1 b.1 b.2.1.1 b.2.1.2.1 b.2.1.2.2.1 (fun a' b' => some (.inl (a', b'))) fun r => some (.inr r)) p.1 p.2) (x, y)
theorem nl_ref15_Slice_3 (F_ref15_Last : A_ref15_Last → M_ref15_Last → Option O_ref15_Last) (F_ref15_Entry : A_ref15_Entry → M_ref15_Entry → Option O_ref15_Entry) (x1 : Int) (x2 : Int) (x3 : Int) (x4 : List (Int × Int × ByteArray)) (x5 : Int) (x6 : Int) (x7 : List (Int × Int × ByteArray)) {α : Type} (kn : LT_ref15_Slice_3 → LM_ref15_Slice_3 → Option α) (kr : LO_ref15_Slice_3 → Option α) : ltree_ref15_Slice_3 F_ref15_Last F_ref15_Entry x1 x2 x3 x4 x5 x6 x7 kn kr = (ltree_ref15_Slice_3 F_ref15_Last F_ref15_Entry x1 x2 x3 x4 x5 x6 x7 (fun a b => some (.inl (a, b))) fun r => some (.inr r)).bind (Sum.elim (fun p : LT_ref15_Slice_3 × LM_ref15_Slice_3 => kn p.1 p.2) kr) := by simp only [ltree_ref15_Slice_3, bind_cond, bind_none', bind_some', bind_bind', bind_sum, Sum.elim_inl, Sum.elim_inr]
theorem Le_ref15_Slice_3 (x1 : Int) (x2 : Int) (x3 : Int) (x4 : List (Int × Int × ByteArray)) (x5 : Int) (x6 : Int) (x7 : List (Int × Int × ByteArray)) : L_ref15_Slice_3 (x1, (x2, (x3, ()))) (x4, ((x5, (x6, (x7, ()))), ())) = ltree_ref15_Slice_3 F_ref15_Last F_ref15_Entry x1 x2 x3 x4 x5 x6 x7 L_ref15_Slice_3 some := runL_tree (A := LT_ref15_Slice_3) (B := LM_ref15_Slice_3) (R := LO_ref15_Slice_3) (fun a b kn kr => ltree_ref15_Slice_3 F_ref15_Last F_ref15_Entry a.1 a.2.1 a.2.2.1 b.1 b.2.1.1 b.2.1.2.1 b.2.1.2.2.1 kn kr) (fun a b kn kr => nl_ref15_Slice_3 F_ref15_Last F_ref15_Entry a.1 a.2.1 a.2.2.1 b.1 b.2.1.1 b.2.1.2.1 b.2.1.2.2.1 kn kr) (x1, (x2, (x3, ()))) (x4, ((x5, (x6, (x7, ()))), ()))
def tree_ref15_Slice (L_ref15_Slice_3 : LT_ref15_Slice_3 → LM_ref15_Slice_3 → Option LO_ref15_Slice_3) {α : Type} (x1 : Int) (x2 : Int) (x3 : List (Int × Int × ByteArray)) (x4 : Int) (x5 : Int) (K : O_ref15_Slice → Option α) : Option α :=
  (L_ref15_Slice_3 (x4, x5, IntKind.u64.wrap (x1 + 1), ()) ([], (x1, x2, x3, ()), ())).bind fun r1 =>
  K (r1.snd.fst, ())
noncomputable def F_ref15_Slice : A_ref15_Slice → M_ref15_Slice → Option O_ref15_Slice := fun a b => tree_ref15_Slice L_ref15_Slice_3 a.1.1 a.1.2.1 a.1.2.2.1 a.2.1 a.2.2.1 some
theorem n_ref15_Slice (L_ref15_Slice_3 : LT_ref15_Slice_3 → LM_ref15_Slice_3 → Option LO_ref15_Slice_3) (x1 : Int) (x2 : Int) (x3 : List (Int × Int × ByteArray)) (x4 : Int) (x5 : Int) {α : Type} (K : O_ref15_Slice → Option α) : tree_ref15_Slice L_ref15_Slice_3 x1 x2 x3 x4 x5 K = (tree_ref15_Slice L_ref15_Slice_3 x1 x2 x3 x4 x5 some).bind K := by simp only [tree_ref15_Slice, bind_cond, bind_none', bind_some', bind_bind', bind_sum]
theorem Fe_ref15_Slice (x1 : Int) (x2 : Int) (x3 : List (Int × Int × ByteArray)) (x4 : Int) (x5 : Int) : F_ref15_Slice ((x1, (x2, (x3, ()))), (x4, (x5, ()))) () = tree_ref15_Slice L_ref15_Slice_3 x1 x2 x3 x4 x5 some := rfl

/-! countersign/countersignlaw15.RlogMerges -/
def args_law15_RlogMerges : SkL := (.cons (.agg (.cons (.leaf (.int .u64)) (.cons (.leaf (.int .u64)) (.cons (.leaf (.slc 37 (.cons (.int .u64) (.cons (.int .i64) (.cons .str .nil))))) .nil)))) (.cons (.agg (.cons (.leaf (.int .u64)) (.cons (.leaf (.int .u64)) (.cons (.leaf (.slc 37 (.cons (.int .u64) (.cons (.int .i64) (.cons .str .nil))))) .nil)))) .nil))
def mem_law15_RlogMerges : MSk := []
def outs_law15_RlogMerges : List OutC := [⟨(.leaf .bool), []⟩]
abbrev A_law15_RlogMerges : Type := ((Int × Int × (List (Int × Int × ByteArray)) × Unit) × (Int × Int × (List (Int × Int × ByteArray)) × Unit) × Unit)
abbrev M_law15_RlogMerges : Type := Unit
abbrev O_law15_RlogMerges : Type := Bool × Unit
def tree_law15_RlogMerges (F_law15_fixed : A_law15_fixed → M_law15_fixed → Option O_law15_fixed) (F_ref15_May : A_ref15_May → M_ref15_May → Option O_ref15_May) (F_rlog_Merge : A_rlog_Merge → M_rlog_Merge → Option O_rlog_Merge) (F_ref15_Merge : A_ref15_Merge → M_ref15_Merge → Option O_ref15_Merge) (F_ref15_Is : A_ref15_Is → M_ref15_Is → Option O_ref15_Is) {α : Type} (x1 : Int) (x2 : Int) (x3 : List (Int × Int × ByteArray)) (x4 : Int) (x5 : Int) (x6 : List (Int × Int × ByteArray)) (K : O_law15_RlogMerges → Option α) : Option α :=
  (F_law15_fixed () ()).bind fun r1 =>
  cond (!r1.fst)
  ((F_law15_fixed () ()).bind fun r2 =>
   K (r2.fst, ()))
  ((F_ref15_May ((x1, x2, x3, ()), ()) ()).bind fun r3 =>
   cond (!r3.fst)
   ((F_law15_fixed () ()).bind fun r4 =>
    K (r4.fst, ()))
   (cond (decide ((↑x6.length : Int) > 600))
    ((F_law15_fixed () ()).bind fun r5 =>
     K (r5.fst, ()))
    ((F_rlog_Merge ((x1, x2, x3, ()), x4, x5, x6, ()) ()).bind fun r6 =>
     (F_ref15_Merge ((x1, x2, x3, ()), x4, x5, x6, ()) ()).bind fun r7 =>
     (F_ref15_Is   ((r6.fst.fst.fst, r6.fst.fst.snd.fst, r6.fst.fst.snd.snd.fst, ()),     (r7.fst.fst.fst, r7.fst.fst.snd.fst, r7.fst.fst.snd.snd.fst, ()), ())   ()).bind fun r8 =>
     cond (r8.fst)
     (cond (r6.fst.snd.fst == r7.fst.snd.fst)
      (K (r6.fst.snd.snd.fst == r7.fst.snd.snd.fst, ()))
      (K (false, ())))
     (K (false, ())))))
noncomputable def F_law15_RlogMerges : A_law15_RlogMerges → M_law15_RlogMerges → Option O_law15_RlogMerges := fun a b => tree_law15_RlogMerges F_law15_fixed F_ref15_May F_rlog_Merge F_ref15_Merge F_ref15_Is a.1.1 a.1.2.1 a.1.2.2.1 a.2.1.1 a.2.1.2.1 a.2.1.2.2.1 some
theorem n_law15_RlogMerges (F_law15_fixed : A_law15_fixed → M_law15_fixed → Option O_law15_fixed) (F_ref15_May : A_ref15_May → M_ref15_May → Option O_ref15_May) (F_rlog_Merge : A_rlog_Merge → M_rlog_Merge → Option O_rlog_Merge) (F_ref15_Merge : A_ref15_Merge → M_ref15_Merge → Option O_ref15_Merge) (F_ref15_Is : A_ref15_Is → M_ref15_Is → Option O_ref15_Is) (x1 : Int) (x2 : Int) (x3 : List (Int × Int × ByteArray)) (x4 : Int) (x5 : Int) (x6 : List (Int × Int × ByteArray)) {α : Type} (K : O_law15_RlogMerges → Option α) : tree_law15_RlogMerges F_law15_fixed F_ref15_May F_rlog_Merge F_ref15_Merge F_ref15_Is x1 x2 x3 x4 x5 x6 K = (tree_law15_RlogMerges F_law15_fixed F_ref15_May F_rlog_Merge F_ref15_Merge F_ref15_Is x1 x2 x3 x4 x5 x6 some).bind K := by simp only [tree_law15_RlogMerges, bind_cond, bind_none', bind_some', bind_bind', bind_sum]
theorem Fe_law15_RlogMerges (x1 : Int) (x2 : Int) (x3 : List (Int × Int × ByteArray)) (x4 : Int) (x5 : Int) (x6 : List (Int × Int × ByteArray)) : F_law15_RlogMerges ((x1, (x2, (x3, ()))), ((x4, (x5, (x6, ()))), ())) () = tree_law15_RlogMerges F_law15_fixed F_ref15_May F_rlog_Merge F_ref15_Merge F_ref15_Is x1 x2 x3 x4 x5 x6 some := rfl

/-! countersign/countersignlaw15.RlogAgain -/
def args_law15_RlogAgain : SkL := (.cons (.agg (.cons (.leaf (.int .u64)) (.cons (.leaf (.int .u64)) (.cons (.leaf (.slc 37 (.cons (.int .u64) (.cons (.int .i64) (.cons .str .nil))))) .nil)))) (.cons (.agg (.cons (.leaf (.int .u64)) (.cons (.leaf (.int .u64)) (.cons (.leaf (.slc 37 (.cons (.int .u64) (.cons (.int .i64) (.cons .str .nil))))) .nil)))) (.cons (.leaf (.int .i64)) .nil)))
def mem_law15_RlogAgain : MSk := []
def outs_law15_RlogAgain : List OutC := [⟨(.leaf .bool), []⟩]
abbrev A_law15_RlogAgain : Type := ((Int × Int × (List (Int × Int × ByteArray)) × Unit) × (Int × Int × (List (Int × Int × ByteArray)) × Unit) × Int × Unit)
abbrev M_law15_RlogAgain : Type := Unit
abbrev O_law15_RlogAgain : Type := Bool × Unit
def ltmps_law15_RlogAgain_9 : SkL := (.cons (.const .dead) (.cons (.const .dead) (.cons (.leaf (.int .i64)) (.cons (.const (.ptr 1096 0 0)) (.cons (.const (.ptr 1128 0 0)) (.cons (.const .dead) (.cons (.const .dead) (.cons (.const (.ptr 1224 0 0)) (.cons (.leaf (.int .u64)) (.cons (.const .dead) (.cons (.leaf (.int .i64)) (.cons (.const .dead) (.cons (.const .dead) (.cons (.const .dead) (.cons (.const .dead) (.cons (.const .dead) (.cons (.const .dead) (.cons (.const .dead) (.cons (.const .dead) (.cons (.const .dead) (.cons (.const .dead) (.cons (.const .dead) (.cons (.const .dead) (.cons (.const .dead) (.cons (.const .dead) (.cons (.const .dead) (.cons (.const .dead) (.cons (.const .dead) (.cons (.const .dead) (.cons (.const .dead) (.cons (.const .dead) (.cons (.const .dead) (.cons (.const .dead) (.cons (.const .dead) (.cons (.const .dead) (.cons (.const .dead) (.cons (.const .dead) (.cons (.const .dead) (.cons (.const .dead) (.cons (.const .dead) (.cons (.const .dead) (.cons (.const .dead) (.cons (.const .dead) (.cons (.const .dead) (.cons (.const .dead) (.cons (.const .dead) (.cons (.const .dead) (.cons (.const .dead) (.cons (.const .dead) (.cons (.const .dead) (.cons (.const .dead) (.cons (.const .dead) (.cons (.const .dead) (.cons (.const .dead) (.cons (.const .dead) (.cons (.const .dead) (.cons (.const .dead) (.cons (.const .dead) (.cons (.const .dead) (.cons (.const .dead) (.cons (.const .dead) (.cons (.const .dead) (.cons (.const .dead) (.cons (.const .dead) (.cons (.const .dead) (.cons (.const .dead) (.cons (.const .dead) (.cons (.const .dead) (.cons (.const .dead) (.cons (.const .dead) (.cons (.const .dead) (.cons (.const .dead) (.cons (.const .dead) (.cons (.const .dead) (.cons (.const .dead) (.cons (.const .dead) (.cons (.const .dead) (.cons (.const .dead) (.cons (.const .dead) (.cons (.const .dead) (.cons (.const .dead) (.cons (.const .dead) (.cons (.const .dead) (.cons (.const .dead) (.cons (.const .dead) (.cons (.const .dead) (.cons (.const .dead) (.cons (.const .dead) (.cons (.const .dead) (.cons (.const .dead) (.cons (.const .dead) (.cons (.const .dead) (.cons (.const .dead) (.cons (.const .dead) (.cons (.const .dead) (.cons (.const .dead) (.cons (.const .dead) (.cons (.const .dead) (.cons (.const .dead) (.cons (.const .dead) (.cons (.const .dead) (.cons (.const .dead) (.cons (.const .dead) (.cons (.const .dead) (.cons (.const .dead) (.cons (.const .dead) (.cons (.const .dead) (.cons (.const .dead) (.cons (.const .dead) (.cons (.const .dead) (.cons (.const .dead) (.cons (.const .dead) (.cons (.const .dead) (.cons (.const .dead) (.cons (.const .dead) (.cons (.const .dead) (.cons (.const .dead) (.cons (.const .dead) (.cons (.const .dead) (.cons (.const .dead) (.cons (.const .dead) (.cons (.const .dead) (.cons (.const .dead) (.cons (.const .dead) (.cons (.const .dead) (.cons (.const .dead) (.cons (.const .dead) (.cons (.const .dead) (.cons (.const .dead) (.cons (.const .dead) (.cons (.const .dead) (.cons (.const .dead) (.cons (.const .dead) (.cons (.const .dead) (.cons (.const .dead) (.cons (.const .dead) (.cons (.const .dead) (.cons (.const .dead) (.cons (.const .dead) (.cons (.const .dead) (.cons (.const .dead) (.cons (.const .dead) (.cons (.const .dead) (.cons (.const .dead) (.cons (.const .dead) (.cons (.const .dead) (.cons (.const .dead) (.cons (.const .dead) (.cons (.const .dead) (.cons (.const .dead) (.cons (.const .dead) (.cons (.const .dead) (.cons (.const .dead) (.cons (.const .dead) (.cons (.const .dead) (.cons (.const .dead) (.cons (.const .dead) (.cons (.const .dead) (.cons (.const .dead) (.cons (.const .dead) (.cons (.const .dead) (.cons (.const .dead) (.cons (.const .dead) (.cons (.const .dead) (.cons (.const .dead) (.cons (.const .dead) (.cons (.const .dead) (.cons (.const .dead) (.cons (.const .dead) (.cons (.const .dead) (.cons (.const .dead) (.cons (.const .dead) (.cons (.const .dead) (.cons (.const .dead) (.cons (.const .dead) (.cons (.const .dead) (.cons (.const .dead) (.cons (.const .dead) (.cons (.const .dead) (.cons (.const .dead) (.cons (.const .dead) (.cons (.const .dead) (.cons (.const .dead) (.cons (.const .dead) (.cons (.const .dead) (.cons (.const .dead) (.cons (.const .dead) (.cons (.const .dead) (.cons (.const .dead) (.cons (.const .dead) (.cons (.const .dead) (.cons (.const .dead) (.cons (.const .dead) (.cons (.const .dead) (.cons (.const .dead) (.cons (.const .dead) (.cons (.const .dead) (.cons (.const .dead) (.cons (.const .dead) (.cons (.const .dead) (.cons (.const .dead) (.cons (.const .dead) (.cons (.const .dead) (.cons (.const .dead) (.cons (.const .dead) (.cons (.const .dead) (.cons (.const .dead) (.cons (.const .dead) (.cons (.const .dead) (.cons (.const .dead) (.cons (.const .dead) (.cons (.const .dead) (.cons (.const .dead) (.cons (.const .dead) (.cons (.const .dead) (.cons (.const .dead) .nil))))))))))))))))))))))))))))))))))))))))))))))))))))))))))))))))))))))))))))))))))))))))))))))))))))))))))))))))))))))))))))))))))))))))))))))))))))))))))))))))))))))))))))))))))))))))))))))))))))))))))))))))))))))))
def lmem_law15_RlogAgain_9 : MSk := [(1096, .cells (.cons (.leaf (.int .u64)) (.cons (.leaf (.int .u64)) (.cons (.leaf (.slc 37 (.cons (.int .u64) (.cons (.int .i64) (.cons .str .nil))))) .nil)))), (1128, .cells (.cons (.leaf (.int .u64)) (.cons (.leaf (.int .u64)) (.cons (.leaf (.slc 37 (.cons (.int .u64) (.cons (.int .i64) (.cons .str .nil))))) .nil)))), (1224, .cells (.cons (.leaf (.int .u64)) (.cons (.leaf (.int .u64)) (.cons (.leaf (.slc 37 (.cons (.int .u64) (.cons (.int .i64) (.cons .str .nil))))) .nil))))]
def louts_law15_RlogAgain_9 : List OutL := [⟨.ret, (.cons (.const .dead) (.cons (.const .dead) (.cons (.leaf (.int .i64)) (.cons (.const (.ptr 1096 0 0)) (.cons (.const (.ptr 1128 0 0)) (.cons (.const .dead) (.cons (.leaf .bool) (.cons (.const (.ptr 1224 0 0)) (.cons (.leaf (.int .u64)) (.cons (.const .dead) (.cons (.const .dead) (.cons (.const .dead) (.cons (.const .dead) (.cons (.const .dead) (.cons (.const .dead) (.cons (.const .dead) (.cons (.const .dead) (.cons (.const .dead) (.cons (.const .dead) (.cons (.const .dead) (.cons (.const .dead) (.cons (.const .dead) (.cons (.const .dead) (.cons (.const .dead) (.cons (.const .dead) (.cons (.const .dead) (.cons (.const .dead) (.cons (.const .dead) (.cons (.const .dead) (.cons (.const .dead) (.cons (.const .dead) (.cons (.const .dead) (.cons (.const .dead) (.cons (.const .dead) (.cons (.const .dead) (.cons (.const .dead) (.cons (.const .dead) (.cons (.const .dead) (.cons (.const .dead) (.cons (.const .dead) (.cons (.const .dead) (.cons (.const .dead) (.cons (.const .dead) (.cons (.const .dead) (.cons (.const .dead) (.cons (.const .dead) (.cons (.const .dead) (.cons (.const .dead) (.cons (.const .dead) (.cons (.const .dead) (.cons (.const .dead) (.cons (.const .dead) (.cons (.const .dead) (.cons (.const .dead) (.cons (.const .dead) (.cons (.const .dead) (.cons (.const .dead) (.cons (.const .dead) (.cons (.const .dead) (.cons (.const .dead) (.cons (.const .dead) (.cons (.const .dead) (.cons (.const .dead) (.cons (.const .dead) (.cons (.const .dead) (.cons (.const .dead) (.cons (.const .dead) (.cons (.const .dead) (.cons (.const .dead) (.cons (.const .dead) (.cons (.const .dead) (.cons (.const .dead) (.cons (.const .dead) (.cons (.const .dead) (.cons (.const .dead) (.cons (.const .dead) (.cons (.const .dead) (.cons (.const .dead) (.cons (.const .dead) (.cons (.const .dead) (.cons (.const .dead) (.cons (.const .dead) (.cons (.const .dead) (.cons (.const .dead) (.cons (.const .dead) (.cons (.const .dead) (.cons (.const .dead) (.cons (.const .dead) (.cons (.const .dead) (.cons (.const .dead) (.cons (.const .dead) (.cons (.const .dead) (.cons (.const .dead) (.cons (.const .dead) (.cons (.const .dead) (.cons (.const .dead) (.cons (.const .dead) (.cons (.const .dead) (.cons (.const .dead) (.cons (.const .dead) (.cons (.const .dead) (.cons (.const .dead) (.cons (.const .dead) (.cons (.const .dead) (.cons (.const .dead) (.cons (.const .dead) (.cons (.const .dead) (.cons (.const .dead) (.cons (.const .dead) (.cons (.const .dead) (.cons (.const .dead) (.cons (.const .dead) (.cons (.const .dead) (.cons (.const .dead) (.cons (.const .dead) (.cons (.const .dead) (.cons (.const .dead) (.cons (.const .dead) (.cons (.const .dead) (.cons (.const .dead) (.cons (.const .dead) (.cons (.const .dead) (.cons (.const .dead) (.cons (.const .dead) (.cons (.const .dead) (.cons (.const .dead) (.cons (.const .dead) (.cons (.const .dead) (.cons (.const .dead) (.cons (.const .dead) (.cons (.const .dead) (.cons (.const .dead) (.cons (.const .dead) (.cons (.const .dead) (.cons (.const .dead) (.cons (.const .dead) (.cons (.const .dead) (.cons (.const .dead) (.cons (.const .dead) (.cons (.const .dead) (.cons (.const .dead) (.cons (.const .dead) (.cons (.const .dead) (.cons (.const .dead) (.cons (.const .dead) (.cons (.const .dead) (.cons (.const .dead) (.cons (.const .dead) (.cons (.const .dead) (.cons (.const .dead) (.cons (.const .dead) (.cons (.const .dead) (.cons (.const .dead) (.cons (.const .dead) (.cons (.const .dead) (.cons (.const .dead) (.cons (.const .dead) (.cons (.const .dead) (.cons (.const .dead) (.cons (.const .dead) (.cons (.const .dead) (.cons (.const .dead) (.cons (.const .dead) (.cons (.const .dead) (.cons (.const .dead) (.cons (.const .dead) (.cons (.const .dead) (.cons (.const .dead) (.cons (.const .dead) (.cons (.const .dead) (.cons (.const .dead) (.cons (.const .dead) (.cons (.const .dead) (.cons (.const .dead) (.cons (.const .dead) (.cons (.const .dead) (.cons (.const .dead) (.cons (.const .dead) (.cons (.const .dead) (.cons (.const .dead) (.cons (.const .dead) (.cons (.const .dead) (.cons (.const .dead) (.cons (.const .dead) (.cons (.const .dead) (.cons (.const .dead) (.cons (.const .dead) (.cons (.const .dead) (.cons (.const .dead) (.cons (.const .dead) (.cons (.const .dead) (.cons (.const .dead) (.cons (.const .dead) (.cons (.const .dead) (.cons (.const .dead) (.cons (.const .dead) (.cons (.const .dead) (.cons (.const .dead) (.cons (.const .dead) (.cons (.const .dead) (.cons (.const .dead) (.cons (.const .dead) (.cons (.const .dead) (.cons (.const .dead) (.cons (.const .dead) (.cons (.const .dead) (.cons (.const .dead) (.cons (.const .dead) (.cons (.const .dead) (.cons (.const .dead) (.cons (.const .dead) (.cons (.const .dead) (.cons (.const .dead) (.cons (.const .dead) (.cons (.const .dead) (.cons (.const .dead) .nil)))))))))))))))))))))))))))))))))))))))))))))))))))))))))))))))))))))))))))))))))))))))))))))))))))))))))))))))))))))))))))))))))))))))))))))))))))))))))))))))))))))))))))))))))))))))))))))))))))))))))))))))))))))))), [(1096, .cells (.cons (.leaf (.int .u64)) (.cons (.leaf (.int .u64)) (.cons (.leaf (.slc 37 (.cons (.int .u64) (.cons (.int .i64) (.cons .str .nil))))) .nil)))), (1128, .cells (.cons (.leaf (.int .u64)) (.cons (.leaf (.int .u64)) (.cons (.leaf (.slc 37 (.cons (.int .u64) (.cons (.int .i64) (.cons .str .nil))))) .nil)))), (1224, .cells (.cons (.leaf (.int .u64)) (.cons (.leaf (.int .u64)) (.cons (.leaf (.slc 37 (.cons (.int .u64) (.cons (.int .i64) (.cons .str .nil))))) .nil))))]⟩, ⟨(.exit 0), (.cons (.const .dead) (.cons (.const .dead) (.cons (.leaf (.int .i64)) (.cons (.const (.ptr 1096 0 0)) (.cons (.const (.ptr 1128 0 0)) (.cons (.const .dead) (.cons (.const .dead) (.cons (.const (.ptr 1224 0 0)) (.cons (.leaf (.int .u64)) (.cons (.const .dead) (.cons (.const .dead) (.cons (.const .dead) (.cons (.const .dead) (.cons (.const .dead) (.cons (.const .dead) (.cons (.const .dead) (.cons (.const .dead) (.cons (.const .dead) (.cons (.const .dead) (.cons (.const .dead) (.cons (.const .dead) (.cons (.const .dead) (.cons (.const .dead) (.cons (.const .dead) (.cons (.const .dead) (.cons (.const .dead) (.cons (.const .dead) (.cons (.const .dead) (.cons (.const .dead) (.cons (.const .dead) (.cons (.const .dead) (.cons (.const .dead) (.cons (.const .dead) (.cons (.const .dead) (.cons (.const .dead) (.cons (.const .dead) (.cons (.const .dead) (.cons (.const .dead) (.cons (.const .dead) (.cons (.const .dead) (.cons (.const .dead) (.cons (.const .dead) (.cons (.const .dead) (.cons (.const .dead) (.cons (.const .dead) (.cons (.const .dead) (.cons (.const .dead) (.cons (.const .dead) (.cons (.const .dead) (.cons (.const .dead) (.cons (.const .dead) (.cons (.const .dead) (.cons (.const .dead) (.cons (.const .dead) (.cons (.const .dead) (.cons (.const .dead) (.cons (.const .dead) (.cons (.const .dead) (.cons (.const .dead) (.cons (.const .dead) (.cons (.const .dead) (.cons (.const .dead) (.cons (.const .dead) (.cons (.const .dead) (.cons (.const .dead) (.cons (.const .dead) (.cons (.const .dead) (.cons (.const .dead) (.cons (.const .dead) (.cons (.const .dead) (.cons (.const .dead) (.cons (.const .dead) (.cons (.const .dead) (.cons (.const .dead) (.cons (.const .dead) (.cons (.const .dead) (.cons (.const .dead) (.cons (.const .dead) (.cons (.const .dead) (.cons (.const .dead) (.cons (.const .dead) (.cons (.const .dead) (.cons (.const .dead) (.cons (.const .dead) (.cons (.const .dead) (.cons (.const .dead) (.cons (.const .dead) (.cons (.const .dead) (.cons (.const .dead) (.cons (.const .dead) (.cons (.const .dead) (.cons (.const .dead) (.cons (.const .dead) (.cons (.const .dead) (.cons (.const .dead) (.cons (.const .dead) (.cons (.const .dead) (.cons (.const .dead) (.cons (.const .dead) (.cons (.const .dead) (.cons (.const .dead) (.cons (.const .dead) (.cons (.const .dead) (.cons (.const .dead) (.cons (.const .dead) (.cons (.const .dead) (.cons (.const .dead) (.cons (.const .dead) (.cons (.const .dead) (.cons (.const .dead) (.cons (.const .dead) (.cons (.const .dead) (.cons (.const .dead) (.cons (.const .dead) (.cons (.const .dead) (.cons (.const .dead) (.cons (.const .dead) (.cons (.const .dead) (.cons (.const .dead) (.cons (.const .dead) (.cons (.const .dead) (.cons (.const .dead) (.cons (.const .dead) (.cons (.const .dead) (.cons (.const .dead) (.cons (.const .dead) (.cons (.const .dead) (.cons (.const .dead) (.cons (.const .dead) (.cons (.const .dead) (.cons (.const .dead) (.cons (.const .dead) (.cons (.const .dead) (.cons (.const .dead) (.cons (.const .dead) (.cons (.const .dead) (.cons (.const .dead) (.cons (.const .dead) (.cons (.const .dead) (.cons (.const .dead) (.cons (.const .dead) (.cons (.const .dead) (.cons (.const .dead) (.cons (.const .dead) (.cons (.const .dead) (.cons (.const .dead) (.cons (.const .dead) (.cons (.const .dead) (.cons (.const .dead) (.cons (.const .dead) (.cons (.const .dead) (.cons (.const .dead) (.cons (.const .dead) (.cons (.const .dead) (.cons (.const .dead) (.cons (.const .dead) (.cons (.const .dead) (.cons (.const .dead) (.cons (.const .dead) (.cons (.const .dead) (.cons (.const .dead) (.cons (.const .dead) (.cons (.const .dead) (.cons (.const .dead) (.cons (.const .dead) (.cons (.const .dead) (.cons (.const .dead) (.cons (.const .dead) (.cons (.const .dead) (.cons (.const .dead) (.cons (.const .dead) (.cons (.const .dead) (.cons (.const .dead) (.cons (.const .dead) (.cons (.const .dead) (.cons (.const .dead) (.cons (.const .dead) (.cons (.const .dead) (.cons (.const .dead) (.cons (.const .dead) (.cons (.const .dead) (.cons (.const .dead) (.cons (.const .dead) (.cons (.const .dead) (.cons (.const .dead) (.cons (.const .dead) (.cons (.const .dead) (.cons (.const .dead) (.cons (.const .dead) (.cons (.const .dead) (.cons (.const .dead) (.cons (.const .dead) (.cons (.const .dead) (.cons (.const .dead) (.cons (.const .dead) (.cons (.const .dead) (.cons (.const .dead) (.cons (.const .dead) (.cons (.const .dead) (.cons (.const .dead) (.cons (.const .dead) (.cons (.const .dead) (.cons (.const .dead) (.cons (.const .dead) (.cons (.const .dead) (.cons (.const .dead) (.cons (.const .dead) (.cons (.const .dead) (.cons (.const .dead) (.cons (.const .dead) (.cons (.const .dead) (.cons (.const .dead) (.cons (.const .dead) (.cons (.const .dead) (.cons (.const .dead) (.cons (.const .dead) .nil)))))))))))))))))))))))))))))))))))))))))))))))))))))))))))))))))))))))))))))))))))))))))))))))))))))))))))))))))))))))))))))))))))))))))))))))))))))))))))))))))))))))))))))))))))))))))))))))))))))))))))))))))))))))), [(1096, .cells (.cons (.leaf (.int .u64)) (.cons (.leaf (.int .u64)) (.cons (.leaf (.slc 37 (.cons (.int .u64) (.cons (.int .i64) (.cons .str .nil))))) .nil)))), (1128, .cells (.cons (.leaf (.int .u64)) (.cons (.leaf (.int .u64)) (.cons (.leaf (.slc 37 (.cons (.int .u64) (.cons (.int .i64) (.cons .str .nil))))) .nil)))), (1224, .cells (.cons (.leaf (.int .u64)) (.cons (.leaf (.int .u64)) (.cons (.leaf (.slc 37 (.cons (.int .u64) (.cons (.int .i64) (.cons .str .nil))))) .nil))))]⟩]
abbrev LT_law15_RlogAgain_9 : Type := (Int × Int × Int × Unit)
abbrev LM_law15_RlogAgain_9 : Type := ((Int × Int × (List (Int × Int × ByteArray)) × Unit) × (Int × Int × (List (Int × Int × ByteArray)) × Unit) × (Int × Int × (List (Int × Int × ByteArray)) × Unit) × Unit)
abbrev LO_law15_RlogAgain_9 : Type := ((Int × Bool × Int × Unit) × ((Int × Int × (List (Int × Int × ByteArray)) × Unit) × (Int × Int × (List (Int × Int × ByteArray)) × Unit) × (Int × Int × (List (Int × Int × ByteArray)) × Unit) × Unit)) ⊕ ((Int × Int × Unit) × ((Int × Int × (List (Int × Int × ByteArray)) × Unit) × (Int × Int × (List (Int × Int × ByteArray)) × Unit) × (Int × Int × (List (Int × Int × ByteArray)) × Unit) × Unit))
def ltree_law15_RlogAgain_9 (F_rlog_Term : A_rlog_Term → M_rlog_Term → Option O_rlog_Term) {α : Type} (x1 : Int) (x2 : Int) (x3 : Int) (x4 : Int) (x5 : Int) (x6 : List (Int × Int × ByteArray)) (x7 : Int) (x8 : Int) (x9 : List (Int × Int × ByteArray)) (x10 : Int) (x11 : Int) (x12 : List (Int × Int × ByteArray)) (kn : LT_law15_RlogAgain_9 → LM_law15_RlogAgain_9 → Option α) (kr : LO_law15_RlogAgain_9 → Option α) : Option α :=
  cond (decide (x3 < (↑x9.length : Int)))
  ((F_rlog_Term   ((x10, x11, x12, ()), IntKind.u64.wrap (IntKind.u64.wrap (x7 + IntKind.u64.wrap x3) + 1), ()) ()).bind fun r1 =>
   cond (decide (IntKind.u64.wrap (IntKind.u64.wrap (x7 + IntKind.u64.wrap x3) + 1) > x4))
   (cond (!r1.fst.snd.fst)
    (kr (.inl ((x1, (false, (x2, ()))), ((x4, (x5, (x6, ()))), ((x7, (x8, (x9, ()))), ((x10, (x11, (x12, ()))), ()))))))
    (cond (decide (0 ≤ x3))
     (cond (decide (x3 < (↑x9.length : Int)))
      (cond (r1.fst.fst != (x9.getD x3.toNat (0, 0, ByteArray.empty)).fst)
       (kr (.inl ((x1, (false, (x2, ()))), ((x4, (x5, (x6, ()))), ((x7, (x8, (x9, ()))), ((x10, (x11, (x12, ()))), ()))))))
       (kn (x1, (x2, (IntKind.i64.wrap (x3 + 1), ()))) ((x4, (x5, (x6, ()))), ((x7, (x8, (x9, ()))), ((x10, (x11, (x12, ()))), ())))))
      (none))
     (none)))
   (kn (x1, (x2, (IntKind.i64.wrap (x3 + 1), ()))) ((x4, (x5, (x6, ()))), ((x7, (x8, (x9, ()))), ((x10, (x11, (x12, ()))), ())))))
  (kr (.inr ((x1, (x2, ())), ((x4, (x5, (x6, ()))), ((x7, (x8, (x9, ()))), ((x10, (x11, (x12, ()))), ()))))))
noncomputable def L_law15_RlogAgain_9 : LT_law15_RlogAgain_9 → LM_law15_RlogAgain_9 → Option LO_law15_RlogAgain_9 := fun x y => runL (fun p => (fun (a : LT_law15_RlogAgain_9) (b : LM_law15_RlogAgain_9) => ltree_law15_RlogAgain_9 F_rlog_Term a.1 a.2.1 a.2.2.1 b.1.1 b.1.2.1 b.1.2.2.1 b.2.1.1 b.2.1.2.1 b.2.1.2.2.1 b.2.2.1.1 b.2.2.1.2.1 b.2.2.1.2.2.1 (fun a' b' => some (.inl (a', b'))) fun r => some (.inr r)) p.1 p.2) (x, y)
theorem nl_law15_RlogAgain_9 (F_rlog_Term : A_rlog_Term → M_rlog_Term → Option O_rlog_Term) (x1 : Int) (x2 : Int) (x3 : Int) (x4 : Int) (x5 : Int) (x6 : List (Int × Int × ByteArray)) (x7 : Int) (x8 : Int) (x9 : List (Int × Int × ByteArray)) (x10 : Int) (x11 : Int) (x12 : List (Int × Int × ByteArray)) {α : Type} (kn : LT_law15_RlogAgain_9 → LM_law15_RlogAgain_9 → Option α) (kr : LO_law15_RlogAgain_9 → Option α) : ltree_law15_RlogAgain_9 F_rlog_Term x1 x2 x3 x4 x5 x6 x7 x8 x9 x10 x11 x12 kn kr = (ltree_law15_RlogAgain_9 F_rlog_Term x1 x2 x3 x4 x5 x6 x7 x8 x9 x10 x11 x12 (fun a b => some (.inl (a, b))) fun r => some (.inr r)).bind (Sum.elim (fun p : LT_law15_RlogAgain_9 × LM_law15_RlogAgain_9 => kn p.1 p.2) kr) := by simp only [ltree_law15_RlogAgain_9, bind_cond, bind_none', bind_some', bind_bind', bind_sum, Sum.elim_inl, Sum.elim_inr]
theorem Le_law15_RlogAgain_9 (x1 : Int) (x2 : Int) (x3 : Int) (x4 : Int) (x5 : Int) (x6 : List (Int × Int × ByteArray)) (x7 : Int) (x8 : Int) (x9 : List (Int × Int × ByteArray)) (x10 : Int) (x11 : Int) (x12 : List (Int × Int × ByteArray)) : L_law15_RlogAgain_9 (x1, (x2, (x3, ()))) ((x4, (x5, (x6, ()))), ((x7, (x8, (x9, ()))), ((x10, (x11, (x12, ()))), ()))) = ltree_law15_RlogAgain_9 F_rlog_Term x1 x2 x3 x4 x5 x6 x7 x8 x9 x10 x11 x12 L_law15_RlogAgain_9 some := runL_tree (A := LT_law15_RlogAgain_9) (B := LM_law15_RlogAgain_9) (R := LO_law15_RlogAgain_9) (fun a b kn kr => ltree_law15_RlogAgain_9 F_rlog_Term a.1 a.2.1 a.2.2.1 b.1.1 b.1.2.1 b.1.2.2.1 b.2.1.1 b.2.1.2.1 b.2.1.2.2.1 b.2.2.1.1 b.2.2.1.2.1 b.2.2.1.2.2.1 kn kr) (fun a b kn kr => nl_law15_RlogAgain_9 F_rlog_Term a.1 a.2.1 a.2.2.1 b.1.1 b.1.2.1 b.1.2.2.1 b.2.1.1 b.2.1.2.1 b.2.1.2.2.1 b.2.2.1.1 b.2.2.1.2.1 b.2.2.1.2.2.1 kn kr) (x1, (x2, (x3, ()))) ((x4, (x5, (x6, ()))), ((x7, (x8, (x9, ()))), ((x10, (x11, (x12, ()))), ())))
def ltmps_law15_RlogAgain_15 : SkL := (.cons (.const .dead) (.cons (.const .dead) (.cons (.leaf (.int .i64)) (.cons (.const (.ptr 1096 0 0)) (.cons (.const (.ptr 1128 0 0)) (.cons (.const .dead) (.cons (.const .dead) (.cons (.const (.ptr 1224 0 0)) (.cons (.leaf (.int .u64)) (.cons (.const .dead) (.cons (.const .dead) (.cons (.const .dead) (.cons (.const .dead) (.cons (.leaf (.int .u64)) (.cons (.const .dead) (.cons (.const .dead) (.cons (.const .dead) (.cons (.const .dead) (.cons (.const .dead) (.cons (.const .dead) (.cons (.const .dead) (.cons (.const .dead) (.cons (.const .dead) (.cons (.const .dead) (.cons (.const .dead) (.cons (.const .dead) (.cons (.const .dead) (.cons (.const .dead) (.cons (.const .dead) (.cons (.const .dead) (.cons (.const .dead) (.cons (.const .dead) (.cons (.const .dead) (.cons (.const .dead) (.cons (.const .dead) (.cons (.const .dead) (.cons (.const .dead) (.cons (.const .dead) (.cons (.const .dead) (.cons (.const .dead) (.cons (.const .dead) (.cons (.const .dead) (.cons (.const .dead) (.cons (.const .dead) (.cons (.const .dead) (.cons (.const .dead) (.cons (.const .dead) (.cons (.const .dead) (.cons (.const .dead) (.cons (.const .dead) (.cons (.const .dead) (.cons (.const .dead) (.cons (.const .dead) (.cons (.const .dead) (.cons (.const .dead) (.cons (.const .dead) (.cons (.const .dead) (.cons (.const .dead) (.cons (.const .dead) (.cons (.const .dead) (.cons (.const .dead) (.cons (.const .dead) (.cons (.const .dead) (.cons (.const .dead) (.cons (.const .dead) (.cons (.const .dead) (.cons (.const .dead) (.cons (.const .dead) (.cons (.const .dead) (.cons (.const .dead) (.cons (.const .dead) (.cons (.const .dead) (.cons (.const .dead) (.cons (.const .dead) (.cons (.const .dead) (.cons (.const .dead) (.cons (.const .dead) (.cons (.const .dead) (.cons (.const .dead) (.cons (.const .dead) (.cons (.const .dead) (.cons (.const .dead) (.cons (.const .dead) (.cons (.const .dead) (.cons (.const .dead) (.cons (.const .dead) (.cons (.const .dead) (.cons (.const .dead) (.cons (.const .dead) (.cons (.const .dead) (.cons (.const .dead) (.cons (.const .dead) (.cons (.const .dead) (.cons (.const .dead) (.cons (.const .dead) (.cons (.const .dead) (.cons (.const .dead) (.cons (.const .dead) (.cons (.const .dead) (.cons (.const .dead) (.cons (.const .dead) (.cons (.const .dead) (.cons (.const .dead) (.cons (.const .dead) (.cons (.const .dead) (.cons (.const .dead) (.cons (.const .dead) (.cons (.const .dead) (.cons (.const .dead) (.cons (.const .dead) (.cons (.const .dead) (.cons (.const .dead) (.cons (.const .dead) (.cons (.const .dead) (.cons (.const .dead) (.cons (.const .dead) (.cons (.const .dead) (.cons (.const .dead) (.cons (.const .dead) (.cons (.const .dead) (.cons (.const .dead) (.cons (.const .dead) (.cons (.const .dead) (.cons (.const .dead) (.cons (.const .dead) (.cons (.const .dead) (.cons (.const .dead) (.cons (.const .dead) (.cons (.const .dead) (.cons (.const .dead) (.cons (.const .dead) (.cons (.const .dead) (.cons (.const .dead) (.cons (.const .dead) (.cons (.const .dead) (.cons (.const .dead) (.cons (.const .dead) (.cons (.const .dead) (.cons (.const .dead) (.cons (.const .dead) (.cons (.const .dead) (.cons (.const .dead) (.cons (.const .dead) (.cons (.const .dead) (.cons (.const .dead) (.cons (.const .dead) (.cons (.const .dead) (.cons (.const .dead) (.cons (.const .dead) (.cons (.const .dead) (.cons (.const .dead) (.cons (.const .dead) (.cons (.const .dead) (.cons (.const .dead) (.cons (.const .dead) (.cons (.const .dead) (.cons (.const .dead) (.cons (.const .dead) (.cons (.const .dead) (.cons (.const .dead) (.cons (.const .dead) (.cons (.const .dead) (.cons (.const .dead) (.cons (.const .dead) (.cons (.const .dead) (.cons (.const .dead) (.cons (.const .dead) (.cons (.const .dead) (.cons (.const .dead) (.cons (.const .dead) (.cons (.const .dead) (.cons (.const .dead) (.cons (.const .dead) (.cons (.const .dead) (.cons (.const .dead) (.cons (.const .dead) (.cons (.const .dead) (.cons (.const .dead) (.cons (.const .dead) (.cons (.const .dead) (.cons (.const .dead) (.cons (.const .dead) (.cons (.const .dead) (.cons (.const .dead) (.cons (.const .dead) (.cons (.const .dead) (.cons (.const .dead) (.cons (.const .dead) (.cons (.const .dead) (.cons (.const .dead) (.cons (.const .dead) (.cons (.const .dead) (.cons (.const .dead) (.cons (.const .dead) (.cons (.const .dead) (.cons (.const .dead) (.cons (.const .dead) (.cons (.const .dead) (.cons (.const .dead) (.cons (.const .dead) (.cons (.const .dead) (.cons (.const .dead) (.cons (.const .dead) (.cons (.const .dead) (.cons (.const .dead) (.cons (.const .dead) (.cons (.const .dead) (.cons (.const .dead) (.cons (.const .dead) (.cons (.const .dead) (.cons (.const .dead) (.cons (.const .dead) (.cons (.const .dead) (.cons (.const .dead) (.cons (.const .dead) (.cons (.const .dead) .nil))))))))))))))))))))))))))))))))))))))))))))))))))))))))))))))))))))))))))))))))))))))))))))))))))))))))))))))))))))))))))))))))))))))))))))))))))))))))))))))))))))))))))))))))))))))))))))))))))))))))))))))))))))))))
def lmem_law15_RlogAgain_15 : MSk := [(1096, .cells (.cons (.leaf (.int .u64)) (.cons (.leaf (.int .u64)) (.cons (.leaf (.slc 37 (.cons (.int .u64) (.cons (.int .i64) (.cons .str .nil))))) .nil)))), (1128, .cells (.cons (.leaf (.int .u64)) (.cons (.leaf (.int .u64)) (.cons (.leaf (.slc 37 (.cons (.int .u64) (.cons (.int .i64) (.cons .str .nil))))) .nil)))), (1224, .cells (.cons (.leaf (.int .u64)) (.cons (.leaf (.int .u64)) (.cons (.leaf (.slc 37 (.cons (.int .u64) (.cons (.int .i64) (.cons .str .nil))))) .nil))))]
def louts_law15_RlogAgain_15 : List OutL := [⟨.ret, (.cons (.const .dead) (.cons (.const .dead) (.cons (.leaf (.int .i64)) (.cons (.const .dead) (.cons (.const (.ptr 1128 0 0)) (.cons (.const .dead) (.cons (.leaf .bool) (.cons (.const (.ptr 1224 0 0)) (.cons (.leaf (.int .u64)) (.cons (.const .dead) (.cons (.const .dead) (.cons (.const .dead) (.cons (.const .dead) (.cons (.const .dead) (.cons (.const .dead) (.cons (.const .dead) (.cons (.const .dead) (.cons (.const .dead) (.cons (.const .dead) (.cons (.const .dead) (.cons (.const .dead) (.cons (.const .dead) (.cons (.const .dead) (.cons (.const .dead) (.cons (.const .dead) (.cons (.const .dead) (.cons (.const .dead) (.cons (.const .dead) (.cons (.const .dead) (.cons (.const .dead) (.cons (.const .dead) (.cons (.const .dead) (.cons (.const .dead) (.cons (.const .dead) (.cons (.const .dead) (.cons (.const .dead) (.cons (.const .dead) (.cons (.const .dead) (.cons (.const .dead) (.cons (.const .dead) (.cons (.const .dead) (.cons (.const .dead) (.cons (.const .dead) (.cons (.const .dead) (.cons (.const .dead) (.cons (.const .dead) (.cons (.const .dead) (.cons (.const .dead) (.cons (.const .dead) (.cons (.const .dead) (.cons (.const .dead) (.cons (.const .dead) (.cons (.const .dead) (.cons (.const .dead) (.cons (.const .dead) (.cons (.const .dead) (.cons (.const .dead) (.cons (.const .dead) (.cons (.const .dead) (.cons (.const .dead) (.cons (.const .dead) (.cons (.const .dead) (.cons (.const .dead) (.cons (.const .dead) (.cons (.const .dead) (.cons (.const .dead) (.cons (.const .dead) (.cons (.const .dead) (.cons (.const .dead) (.cons (.const .dead) (.cons (.const .dead) (.cons (.const .dead) (.cons (.const .dead) (.cons (.const .dead) (.cons (.const .dead) (.cons (.const .dead) (.cons (.const .dead) (.cons (.const .dead) (.cons (.const .dead) (.cons (.const .dead) (.cons (.const .dead) (.cons (.const .dead) (.cons (.const .dead) (.cons (.const .dead) (.cons (.const .dead) (.cons (.const .dead) (.cons (.const .dead) (.cons (.const .dead) (.cons (.const .dead) (.cons (.const .dead) (.cons (.const .dead) (.cons (.const .dead) (.cons (.const .dead) (.cons (.const .dead) (.cons (.const .dead) (.cons (.const .dead) (.cons (.const .dead) (.cons (.const .dead) (.cons (.const .dead) (.cons (.const .dead) (.cons (.const .dead) (.cons (.const .dead) (.cons (.const .dead) (.cons (.const .dead) (.cons (.const .dead) (.cons (.const .dead) (.cons (.const .dead) (.cons (.const .dead) (.cons (.const .dead) (.cons (.const .dead) (.cons (.const .dead) (.cons (.const .dead) (.cons (.const .dead) (.cons (.const .dead) (.cons (.const .dead) (.cons (.const .dead) (.cons (.const .dead) (.cons (.const .dead) (.cons (.const .dead) (.cons (.const .dead) (.cons (.const .dead) (.cons (.const .dead) (.cons (.const .dead) (.cons (.const .dead) (.cons (.const .dead) (.cons (.const .dead) (.cons (.const .dead) (.cons (.const .dead) (.cons (.const .dead) (.cons (.const .dead) (.cons (.const .dead) (.cons (.const .dead) (.cons (.const .dead) (.cons (.const .dead) (.cons (.const .dead) (.cons (.const .dead) (.cons (.const .dead) (.cons (.const .dead) (.cons (.const .dead) (.cons (.const .dead) (.cons (.const .dead) (.cons (.const .dead) (.cons (.const .dead) (.cons (.const .dead) (.cons (.const .dead) (.cons (.const .dead) (.cons (.const .dead) (.cons (.const .dead) (.cons (.const .dead) (.cons (.const .dead) (.cons (.const .dead) (.cons (.const .dead) (.cons (.const .dead) (.cons (.const .dead) (.cons (.const .dead) (.cons (.const .dead) (.cons (.const .dead) (.cons (.const .dead) (.cons (.const .dead) (.cons (.const .dead) (.cons (.const .dead) (.cons (.const .dead) (.cons (.const .dead) (.cons (.const .dead) (.cons (.const .dead) (.cons (.const .dead) (.cons (.const .dead) (.cons (.const .dead) (.cons (.const .dead) (.cons (.const .dead) (.cons (.const .dead) (.cons (.const .dead) (.cons (.const .dead) (.cons (.const .dead) (.cons (.const .dead) (.cons (.const .dead) (.cons (.const .dead) (.cons (.const .dead) (.cons (.const .dead) (.cons (.const .dead) (.cons (.const .dead) (.cons (.const .dead) (.cons (.const .dead) (.cons (.const .dead) (.cons (.const .dead) (.cons (.const .dead) (.cons (.const .dead) (.cons (.const .dead) (.cons (.const .dead) (.cons (.const .dead) (.cons (.const .dead) (.cons (.const .dead) (.cons (.const .dead) (.cons (.const .dead) (.cons (.const .dead) (.cons (.const .dead) (.cons (.const .dead) (.cons (.const .dead) (.cons (.const .dead) (.cons (.const .dead) (.cons (.const .dead) (.cons (.const .dead) (.cons (.const .dead) (.cons (.const .dead) (.cons (.const .dead) (.cons (.const .dead) (.cons (.const .dead) (.cons (.const .dead) (.cons (.const .dead) (.cons (.const .dead) (.cons (.const .dead) (.cons (.const .dead) (.cons (.const .dead) (.cons (.const .dead) (.cons (.const .dead) (.cons (.const .dead) .nil)))))))))))))))))))))))))))))))))))))))))))))))))))))))))))))))))))))))))))))))))))))))))))))))))))))))))))))))))))))))))))))))))))))))))))))))))))))))))))))))))))))))))))))))))))))))))))))))))))))))))))))))))))))))), [(1128, .cells (.cons (.leaf (.int .u64)) (.cons (.leaf (.int .u64)) (.cons (.leaf (.slc 37 (.cons (.int .u64) (.cons (.int .i64) (.cons .str .nil))))) .nil)))), (1224, .cells (.cons (.leaf (.int .u64)) (.cons (.leaf (.int .u64)) (.cons (.leaf (.slc 37 (.cons (.int .u64) (.cons (.int .i64) (.cons .str .nil))))) .nil))))]⟩, ⟨(.exit 2), (.cons (.const .dead) (.cons (.const .dead) (.cons (.leaf (.int .i64)) (.cons (.const .dead) (.cons (.const (.ptr 1128 0 0)) (.cons (.const .dead) (.cons (.const .dead) (.cons (.const (.ptr 1224 0 0)) (.cons (.leaf (.int .u64)) (.cons (.const .dead) (.cons (.const .dead) (.cons (.const .dead) (.cons (.const .dead) (.cons (.const .dead) (.cons (.const .dead) (.cons (.const .dead) (.cons (.const .dead) (.cons (.const .dead) (.cons (.const .dead) (.cons (.const .dead) (.cons (.const .dead) (.cons (.const .dead) (.cons (.const .dead) (.cons (.const .dead) (.cons (.const .dead) (.cons (.const .dead) (.cons (.const .dead) (.cons (.const .dead) (.cons (.const .dead) (.cons (.const .dead) (.cons (.const .dead) (.cons (.const .dead) (.cons (.const .dead) (.cons (.const .dead) (.cons (.const .dead) (.cons (.const .dead) (.cons (.const .dead) (.cons (.const .dead) (.cons (.const .dead) (.cons (.const .dead) (.cons (.const .dead) (.cons (.const .dead) (.cons (.const .dead) (.cons (.const .dead) (.cons (.const .dead) (.cons (.const .dead) (.cons (.const .dead) (.cons (.const .dead) (.cons (.const .dead) (.cons (.const .dead) (.cons (.const .dead) (.cons (.const .dead) (.cons (.const .dead) (.cons (.const .dead) (.cons (.const .dead) (.cons (.const .dead) (.cons (.const .dead) (.cons (.const .dead) (.cons (.const .dead) (.cons (.const .dead) (.cons (.const .dead) (.cons (.const .dead) (.cons (.const .dead) (.cons (.const .dead) (.cons (.const .dead) (.cons (.const .dead) (.cons (.const .dead) (.cons (.const .dead) (.cons (.const .dead) (.cons (.const .dead) (.cons (.const .dead) (.cons (.const .dead) (.cons (.const .dead) (.cons (.const .dead) (.cons (.const .dead) (.cons (.const .dead) (.cons (.const .dead) (.cons (.const .dead) (.cons (.const .dead) (.cons (.const .dead) (.cons (.const .dead) (.cons (.const .dead) (.cons (.const .dead) (.cons (.const .dead) (.cons (.const .dead) (.cons (.const .dead) (.cons (.const .dead) (.cons (.const .dead) (.cons (.const .dead) (.cons (.const .dead) (.cons (.const .dead) (.cons (.const .dead) (.cons (.const .dead) (.cons (.const .dead) (.cons (.const .dead) (.cons (.const .dead) (.cons (.const .dead) (.cons (.const .dead) (.cons (.const .dead) (.cons (.const .dead) (.cons (.const .dead) (.cons (.const .dead) (.cons (.const .dead) (.cons (.const .dead) (.cons (.const .dead) (.cons (.const .dead) (.cons (.const .dead) (.cons (.const .dead) (.cons (.const .dead) (.cons (.const .dead) (.cons (.const .dead) (.cons (.const .dead) (.cons (.const .dead) (.cons (.const .dead) (.cons (.const .dead) (.cons (.const .dead) (.cons (.const .dead) (.cons (.const .dead) (.cons (.const .dead) (.cons (.const .dead) (.cons (.const .dead) (.cons (.const .dead) (.cons (.const .dead) (.cons (.const .dead) (.cons (.const .dead) (.cons (.const .dead) (.cons (.const .dead) (.cons (.const .dead) (.cons (.const .dead) (.cons (.const .dead) (.cons (.const .dead) (.cons (.const .dead) (.cons (.const .dead) (.cons (.const .dead) (.cons (.const .dead) (.cons (.const .dead) (.cons (.const .dead) (.cons (.const .dead) (.cons (.const .dead) (.cons (.const .dead) (.cons (.const .dead) (.cons (.const .dead) (.cons (.const .dead) (.cons (.const .dead) (.cons (.const .dead) (.cons (.const .dead) (.cons (.const .dead) (.cons (.const .dead) (.cons (.const .dead) (.cons (.const .dead) (.cons (.const .dead) (.cons (.const .dead) (.cons (.const .dead) (.cons (.const .dead) (.cons (.const .dead) (.cons (.const .dead) (.cons (.const .dead) (.cons (.const .dead) (.cons (.const .dead) (.cons (.const .dead) (.cons (.const .dead) (.cons (.const .dead) (.cons (.const .dead) (.cons (.const .dead) (.cons (.const .dead) (.cons (.const .dead) (.cons (.const .dead) (.cons (.const .dead) (.cons (.const .dead) (.cons (.const .dead) (.cons (.const .dead) (.cons (.const .dead) (.cons (.const .dead) (.cons (.const .dead) (.cons (.const .dead) (.cons (.const .dead) (.cons (.const .dead) (.cons (.const .dead) (.cons (.const .dead) (.cons (.const .dead) (.cons (.const .dead) (.cons (.const .dead) (.cons (.const .dead) (.cons (.const .dead) (.cons (.const .dead) (.cons (.const .dead) (.cons (.const .dead) (.cons (.const .dead) (.cons (.const .dead) (.cons (.const .dead) (.cons (.const .dead) (.cons (.const .dead) (.cons (.const .dead) (.cons (.const .dead) (.cons (.const .dead) (.cons (.const .dead) (.cons (.const .dead) (.cons (.const .dead) (.cons (.const .dead) (.cons (.const .dead) (.cons (.const .dead) (.cons (.const .dead) (.cons (.const .dead) (.cons (.const .dead) (.cons (.const .dead) (.cons (.const .dead) (.cons (.const .dead) (.cons (.const .dead) (.cons (.const .dead) (.cons (.const .dead) (.cons (.const .dead) (.cons (.const .dead) (.cons (.const .dead) (.cons (.const .dead) (.cons (.const .dead) (.cons (.const .dead) .nil)))))))))))))))))))))))))))))))))))))))))))))))))))))))))))))))))))))))))))))))))))))))))))))))))))))))))))))))))))))))))))))))))))))))))))))))))))))))))))))))))))))))))))))))))))))))))))))))))))))))))))))))))))))))), [(1128, .cells (.cons (.leaf (.int .u64)) (.cons (.leaf (.int .u64)) (.cons (.leaf (.slc 37 (.cons (.int .u64) (.cons (.int .i64) (.cons .str .nil))))) .nil)))), (1224, .cells (.cons (.leaf (.int .u64)) (.cons (.leaf (.int .u64)) (.cons (.leaf (.slc 37 (.cons (.int .u64) (.cons (.int .i64) (.cons .str .nil))))) .nil))))]⟩]
abbrev LT_law15_RlogAgain_15 : Type := (Int × Int × Int × Unit)
abbrev LM_law15_RlogAgain_15 : Type := ((Int × Int × (List (Int × Int × ByteArray)) × Unit) × (Int × Int × (List (Int × Int × ByteArray)) × Unit) × (Int × Int × (List (Int × Int × ByteArray)) × Unit) × Unit)
abbrev LO_law15_RlogAgain_15 : Type := ((Int × Bool × Int × Unit) × ((Int × Int × (List (Int × Int × ByteArray)) × Unit) × (Int × Int × (List (Int × Int × ByteArray)) × Unit) × Unit)) ⊕ ((Int × Int × Unit) × ((Int × Int × (List (Int × Int × ByteArray)) × Unit) × (Int × Int × (List (Int × Int × ByteArray)) × Unit) × Unit))
def ltree_law15_RlogAgain_15 (F_rlog_Last : A_rlog_Last → M_rlog_Last → Option O_rlog_Last) (F_rlog_Entry : A_rlog_Entry → M_rlog_Entry → Option O_rlog_Entry) {α : Type} (x1 : Int) (x2 : Int) (x3 : Int) (x4 : Int) (x5 : Int) (x6 : List (Int × Int × ByteArray)) (x7 : Int) (x8 : Int) (x9 : List (Int × Int × ByteArray)) (x10 : Int) (x11 : Int) (x12 : List (Int × Int × ByteArray)) (kn : LT_law15_RlogAgain_15 → LM_law15_RlogAgain_15 → Option α) (kr : LO_law15_RlogAgain_15 → Option α) : Option α :=
  cond (decide (x3 ≤ x7))
  ((F_rlog_Last ((x4, x5, x6, ()), ()) ()).bind fun r1 =>
   cond (decide (x3 ≤ r1.fst))
   ((F_rlog_Entry ((x4, x5, x6, ()), x3, ()) ()).bind fun r2 =>
    (F_rlog_Entry ((x10, x11, x12, ()), x3, ()) ()).bind fun r3 =>
    cond (!r3.fst.snd.fst)
    (kr (.inl ((x1, (false, (x2, ()))), ((x7, (x8, (x9, ()))), ((x10, (x11, (x12, ()))), ())))))
    (cond (Bool.true ^^   r2.fst.fst.fst == r3.fst.fst.fst &&     (r2.fst.fst.snd.fst == r3.fst.fst.snd.fst &&       (r2.fst.fst.snd.snd.fst.toList == r3.fst.fst.snd.snd.fst.toList && Bool.true)))
     (kr (.inl ((x1, (false, (x2, ()))), ((x7, (x8, (x9, ()))), ((x10, (x11, (x12, ()))), ())))))
     (kn (x1, (x2, (IntKind.u64.wrap (x3 + 1), ()))) ((x4, (x5, (x6, ()))), ((x7, (x8, (x9, ()))), ((x10, (x11, (x12, ()))), ()))))))
   (kr (.inr ((x1, (x2, ())), ((x7, (x8, (x9, ()))), ((x10, (x11, (x12, ()))), ()))))))
  (kr (.inr ((x1, (x2, ())), ((x7, (x8, (x9, ()))), ((x10, (x11, (x12, ()))), ())))))
noncomputable def L_law15_RlogAgain_15 : LT_law15_RlogAgain_15 → LM_law15_RlogAgain_15 → Option LO_law15_RlogAgain_15 := fun x y => runL (fun p => (fun (a : LT_law15_RlogAgain_15) (b : LM_law15_RlogAgain_15) => ltree_law15_RlogAgain_15 F_rlog_Last F_rlog_Entry a.1 a.2.1 a.2.2.1 b.1.1 b.1.2.1 b.1.2.2.1 b.2.1.1 b.2.1.2.1 b.2.1.2.2.1 b.2.2.1.1 b.2.2.1.2.1 b.2.2.1.2.2.1 (fun a' b' => some (.inl (a', b'))) fun r => some (.inr r)) p.1 p.2) (x, y)
theorem nl_law15_RlogAgain_15 (F_rlog_Last : A_rlog_Last → M_rlog_Last → Option O_rlog_Last) (F_rlog_Entry : A_rlog_Entry → M_rlog_Entry → Option O_rlog_Entry) (x1 : Int) (x2 : Int) (x3 : Int) (x4 : Int) (x5 : Int) (x6 : List (Int × Int × ByteArray)) (x7 : Int) (x8 : Int) (x9 : List (Int × Int × ByteArray)) (x10 : Int) (x11 : Int) (x12 : List (Int × Int × ByteArray)) {α : Type} (kn : LT_law15_RlogAgain_15 → LM_law15_RlogAgain_15 → Option α) (kr : LO_law15_RlogAgain_15 → Option α) : ltree_law15_RlogAgain_15 F_rlog_Last F_rlog_Entry x1 x2 x3 x4 x5 x6 x7 x8 x9 x10 x11 x12 kn kr = (ltree_law15_RlogAgain_15 F_rlog_Last F_rlog_Entry x1 x2 x3 x4 x5 x6 x7 x8 x9 x10 x11 x12 (fun a b => some (.inl (a, b))) fun r => some (.inr r)).bind (Sum.elim (fun p : LT_law15_RlogAgain_15 × LM_law15_RlogAgain_15 => kn p.1 p.2) kr) := by simp only [ltree_law15_RlogAgain_15, bind_cond, bind_none', bind_some', bind_bind', bind_sum, Sum.elim_inl, Sum.elim_inr]
theorem Le_law15_RlogAgain_15 (x1 : Int) (x2 : Int) (x3 : Int) (x4 : Int) (x5 : Int) (x6 : List (Int × Int × ByteArray)) (x7 : Int) (x8 : Int) (x9 : List (Int × Int × ByteArray)) (x10 : Int) (x11 : Int) (x12 : List (Int × Int × ByteArray)) : L_law15_RlogAgain_15 (x1, (x2, (x3, ()))) ((x4, (x5, (x6, ()))), ((x7, (x8, (x9, ()))), ((x10, (x11, (x12, ()))), ()))) = ltree_law15_RlogAgain_15 F_rlog_Last F_rlog_Entry x1 x2 x3 x4 x5 x6 x7 x8 x9 x10 x11 x12 L_law15_RlogAgain_15 some := runL_tree (A := LT_law15_RlogAgain_15) (B := LM_law15_RlogAgain_15) (R := LO_law15_RlogAgain_15) (fun a b kn kr => ltree_law15_RlogAgain_15 F_rlog_Last F_rlog_Entry a.1 a.2.1 a.2.2.1 b.1.1 b.1.2.1 b.1.2.2.1 b.2.1.1 b.2.1.2.1 b.2.1.2.2.1 b.2.2.1.1 b.2.2.1.2.1 b.2.2.1.2.2.1 kn kr) (fun a b kn kr => nl_law15_RlogAgain_15 F_rlog_Last F_rlog_Entry a.1 a.2.1 a.2.2.1 b.1.1 b.1.2.1 b.1.2.2.1 b.2.1.1 b.2.1.2.1 b.2.1.2.2.1 b.2.2.1.1 b.2.2.1.2.1 b.2.2.1.2.2.1 kn kr) (x1, (x2, (x3, ()))) ((x4, (x5, (x6, ()))), ((x7, (x8, (x9, ()))), ((x10, (x11, (x12, ()))), ())))
def tree_law15_RlogAgain (F_law15_fixed : A_law15_fixed → M_law15_fixed → Option O_law15_fixed) (F_ref15_May : A_ref15_May → M_ref15_May → Option O_ref15_May) (F_rlog_Merge : A_rlog_Merge → M_rlog_Merge → Option O_rlog_Merge) (F_ref15_Is : A_ref15_Is → M_ref15_Is → Option O_ref15_Is) (L_law15_RlogAgain_9 : LT_law15_RlogAgain_9 → LM_law15_RlogAgain_9 → Option LO_law15_RlogAgain_9) (L_law15_RlogAgain_15 : LT_law15_RlogAgain_15 → LM_law15_RlogAgain_15 → Option LO_law15_RlogAgain_15) {α : Type} (x1 : Int) (x2 : Int) (x3 : List (Int × Int × ByteArray)) (x4 : Int) (x5 : Int) (x6 : List (Int × Int × ByteArray)) (x7 : Int) (K : O_law15_RlogAgain → Option α) : Option α :=
  (F_law15_fixed () ()).bind fun r1 =>
  cond (!r1.fst)
  ((F_law15_fixed () ()).bind fun r2 =>
   K (r2.fst, ()))
  ((F_ref15_May ((x1, x2, x3, ()), ()) ()).bind fun r3 =>
   cond (!r3.fst)
   ((F_law15_fixed () ()).bind fun r4 =>
    K (r4.fst, ()))
   (cond (decide ((↑x6.length : Int) > 600))
    ((F_law15_fixed () ()).bind fun r5 =>
     K (r5.fst, ()))
    ((F_rlog_Merge ((x1, x2, x3, ()), x4, x5, x6, ()) ()).bind fun r6 =>
     cond (!r6.fst.snd.snd.fst)
     ((F_ref15_Is   ((r6.fst.fst.fst, r6.fst.fst.snd.fst, r6.fst.fst.snd.snd.fst, ()), (x1, x2, x3, ()), ()) ()).bind fun r7 =>
      K (r7.fst, ()))
     (cond (r6.fst.snd.fst != IntKind.u64.wrap (x4 + IntKind.u64.wrap (↑x6.length : Int)))
      (K (false, ()))
      (cond (r6.fst.fst.fst != x1)
       (K (false, ()))
       (cond (r6.fst.fst.snd.fst != x2)
        (K (false, ()))
        ((L_law15_RlogAgain_9 (x7, r6.fst.snd.fst, 0, ())   ((x1, x2, x3, ()), (x4, x5, x6, ()), (r6.fst.fst.fst, r6.fst.fst.snd.fst, r6.fst.fst.snd.snd.fst, ()), ())).bind fun r8 =>
         Sum.elim (fun u9 =>
          K (u9.fst.snd.fst, ()))
         (fun u9 =>
          (L_law15_RlogAgain_15 (u9.fst.fst, u9.fst.snd.fst, IntKind.u64.wrap (u9.snd.fst.fst + 1), ())   ((u9.snd.fst.fst, u9.snd.fst.snd.fst, u9.snd.fst.snd.snd.fst, ()),     (u9.snd.snd.fst.fst, u9.snd.snd.fst.snd.fst, u9.snd.snd.fst.snd.snd.fst, ()),     (u9.snd.snd.snd.fst.fst, u9.snd.snd.snd.fst.snd.fst, u9.snd.snd.snd.fst.snd.snd.fst, ()), ())).bind fun r10 =>
          Sum.elim (fun u11 =>
           K (u11.fst.snd.fst, ()))
          (fun u11 =>
           (F_rlog_Merge   ((u11.snd.snd.fst.fst, u11.snd.snd.fst.snd.fst, u11.snd.snd.fst.snd.snd.fst, ()), u11.snd.fst.fst,     u11.snd.fst.snd.fst, u11.snd.fst.snd.snd.fst, ())   ()).bind fun r12 =>
           cond (!r12.fst.snd.snd.fst)
           (K (false, ()))
           (cond (r12.fst.snd.fst != u11.fst.snd.fst)
            (K (false, ()))
            ((F_ref15_Is   ((u11.snd.snd.fst.fst, u11.snd.snd.fst.snd.fst, u11.snd.snd.fst.snd.snd.fst, ()),     (r12.fst.fst.fst, r12.fst.fst.snd.fst, r12.fst.fst.snd.snd.fst, ()), ())   ()).bind fun r13 =>
             cond (!r13.fst)
             (K (false, ()))
             (cond (decide (u11.fst.fst < 0))
              (K (true, ()))
              (cond (decide (u11.fst.fst > (↑u11.snd.fst.snd.snd.fst.length : Int)))
               (K (true, ()))
               (cond (decide (0 ≤ u11.fst.fst))
                (cond (decide (u11.fst.fst ≤ (↑u11.snd.fst.snd.snd.fst.length : Int)))
                 ((F_rlog_Merge   ((u11.snd.snd.fst.fst, u11.snd.snd.fst.snd.fst, u11.snd.snd.fst.snd.snd.fst, ()), u11.snd.fst.fst,     u11.snd.fst.snd.fst, List.drop 0 (List.take u11.fst.fst.toNat u11.snd.fst.snd.snd.fst), ())   ()).bind fun r14 =>
                  cond (r14.fst.snd.snd.fst)
                  (cond (r14.fst.snd.fst == IntKind.u64.wrap (u11.snd.fst.fst + IntKind.u64.wrap u11.fst.fst))
                   ((F_ref15_Is   ((r14.fst.fst.fst, r14.fst.fst.snd.fst, r14.fst.fst.snd.snd.fst, ()),     (u11.snd.snd.fst.fst, u11.snd.snd.fst.snd.fst, u11.snd.snd.fst.snd.snd.fst, ()), ())   ()).bind fun r15 =>
                    K (r15.fst, ()))
                   (K (false, ())))
                  (K (false, ())))
                 (none))
                (none))))))) (r10)) (r8))))))))
noncomputable def F_law15_RlogAgain : A_law15_RlogAgain → M_law15_RlogAgain → Option O_law15_RlogAgain := fun a b => tree_law15_RlogAgain F_law15_fixed F_ref15_May F_rlog_Merge F_ref15_Is L_law15_RlogAgain_9 L_law15_RlogAgain_15 a.1.1 a.1.2.1 a.1.2.2.1 a.2.1.1 a.2.1.2.1 a.2.1.2.2.1 a.2.2.1 some
theorem n_law15_RlogAgain (F_law15_fixed : A_law15_fixed → M_law15_fixed → Option O_law15_fixed) (F_ref15_May : A_ref15_May → M_ref15_May → Option O_ref15_May) (F_rlog_Merge : A_rlog_Merge → M_rlog_Merge → Option O_rlog_Merge) (F_ref15_Is : A_ref15_Is → M_ref15_Is → Option O_ref15_Is) (L_law15_RlogAgain_9 : LT_law15_RlogAgain_9 → LM_law15_RlogAgain_9 → Option LO_law15_RlogAgain_9) (L_law15_RlogAgain_15 : LT_law15_RlogAgain_15 → LM_law15_RlogAgain_15 → Option LO_law15_RlogAgain_15) (x1 : Int) (x2 : Int) (x3 : List (Int × Int × ByteArray)) (x4 : Int) (x5 : Int) (x6 : List (Int × Int × ByteArray)) (x7 : Int) {α : Type} (K : O_law15_RlogAgain → Option α) : tree_law15_RlogAgain F_law15_fixed F_ref15_May F_rlog_Merge F_ref15_Is L_law15_RlogAgain_9 L_law15_RlogAgain_15 x1 x2 x3 x4 x5 x6 x7 K = (tree_law15_RlogAgain F_law15_fixed F_ref15_May F_rlog_Merge F_ref15_Is L_law15_RlogAgain_9 L_law15_RlogAgain_15 x1 x2 x3 x4 x5 x6 x7 some).bind K := by simp only [tree_law15_RlogAgain, bind_cond, bind_none', bind_some', bind_bind', bind_sum]
theorem Fe_law15_RlogAgain (x1 : Int) (x2 : Int) (x3 : List (Int × Int × ByteArray)) (x4 : Int) (x5 : Int) (x6 : List (Int × Int × ByteArray)) (x7 : Int) : F_law15_RlogAgain ((x1, (x2, (x3, ()))), ((x4, (x5, (x6, ()))), (x7, ()))) () = tree_law15_RlogAgain F_law15_fixed F_ref15_May F_rlog_Merge F_ref15_Is L_law15_RlogAgain_9 L_law15_RlogAgain_15 x1 x2 x3 x4 x5 x6 x7 some := rfl

/-! countersign/countersignlaw15.RlogOrders -/
def args_law15_RlogOrders : SkL := (.cons (.agg (.cons (.leaf (.int .u64)) (.cons (.leaf (.int .u64)) (.cons (.leaf (.slc 37 (.cons (.int .u64) (.cons (.int .i64) (.cons .str .nil))))) .nil)))) (.cons (.agg (.cons (.leaf (.int .u64)) (.cons (.leaf (.int .u64)) (.cons (.leaf (.slc 37 (.cons (.int .u64) (.cons (.int .i64) (.cons .str .nil))))) .nil)))) (.cons (.agg (.cons (.leaf (.int .u64)) (.cons (.leaf (.int .i64)) (.cons (.leaf .str) .nil)))) .nil)))
def mem_law15_RlogOrders : MSk := []
def outs_law15_RlogOrders : List OutC := [⟨(.leaf .bool), []⟩]
abbrev A_law15_RlogOrders : Type := ((Int × Int × (List (Int × Int × ByteArray)) × Unit) × (Int × Int × (List (Int × Int × ByteArray)) × Unit) × (Int × Int × ByteArray × Unit) × Unit)
abbrev M_law15_RlogOrders : Type := Unit
abbrev O_law15_RlogOrders : Type := Bool × Unit
def tree_law15_RlogOrders (F_law15_fixed : A_law15_fixed → M_law15_fixed → Option O_law15_fixed) (F_ref15_May : A_ref15_May → M_ref15_May → Option O_ref15_May) (F_rlog_Last : A_rlog_Last → M_rlog_Last → Option O_rlog_Last) (F_rlog_Term : A_rlog_Term → M_rlog_Term → Option O_rlog_Term) (F_rlog_Newer : A_rlog_Newer → M_rlog_Newer → Option O_rlog_Newer) (F_rlog_Append : A_rlog_Append → M_rlog_Append → Option O_rlog_Append) {α : Type} (x1 : Int) (x2 : Int) (x3 : List (Int × Int × ByteArray)) (x4 : Int) (x5 : Int) (x6 : List (Int × Int × ByteArray)) (x7 : Int) (x8 : Int) (x9 : ByteArray) (K : O_law15_RlogOrders → Option α) : Option α :=
  (F_law15_fixed () ()).bind fun r1 =>
  cond (!r1.fst)
  ((F_law15_fixed () ()).bind fun r2 =>
   K (r2.fst, ()))
  ((F_ref15_May ((x1, x2, x3, ()), ()) ()).bind fun r3 =>
   cond (!r3.fst)
   ((F_law15_fixed () ()).bind fun r4 =>
    K (r4.fst, ()))
   ((F_ref15_May ((x4, x5, x6, ()), ()) ()).bind fun r5 =>
    cond (!r5.fst)
    ((F_law15_fixed () ()).bind fun r6 =>
     K (r6.fst, ()))
    ((F_rlog_Last ((x1, x2, x3, ()), ()) ()).bind fun r7 =>
     (F_rlog_Term ((x1, x2, x3, ()), r7.fst, ()) ()).bind fun r8 =>
     (F_rlog_Last ((x4, x5, x6, ()), ()) ()).bind fun r9 =>
     (F_rlog_Term ((x4, x5, x6, ()), r9.fst, ()) ()).bind fun r10 =>
     (F_rlog_Last ((x4, x5, x6, ()), ()) ()).bind fun r11 =>
     (F_rlog_Newer ((x1, x2, x3, ()), r11.fst, r10.fst.fst, ()) ()).bind fun r12 =>
     (F_rlog_Last ((x1, x2, x3, ()), ()) ()).bind fun r13 =>
     (F_rlog_Newer ((x4, x5, x6, ()), r13.fst, r8.fst.fst, ()) ()).bind fun r14 =>
     cond (!r12.fst)
     (cond (!r14.fst)
      (K (false, ()))
      (cond (r12.fst)
       (cond (r8.fst.fst == r10.fst.fst)
        ((F_rlog_Last ((x1, x2, x3, ()), ()) ()).bind fun r15 =>
         (F_rlog_Last ((x4, x5, x6, ()), ()) ()).bind fun r16 =>
         cond (r14.fst != (r15.fst == r16.fst))
         (cond (r14.fst)
          (K (false, ()))
          ((F_rlog_Append ((x1, x2, x3, ()), [] ++ [(x7, x8, x9)], ()) ()).bind fun r17 =>
           cond (!r17.fst.snd.fst)
           (K (true, ()))
           (cond (decide (x7 < r8.fst.fst))
            (K (true, ()))
            ((F_rlog_Last ((r17.fst.fst.fst, r17.fst.fst.snd.fst, r17.fst.fst.snd.snd.fst, ()), ()) ()).bind fun r18 =>
             (F_rlog_Newer ((x1, x2, x3, ()), r18.fst, x7, ()) ()).bind fun r19 =>
             cond (r19.fst)
             ((F_rlog_Last ((x1, x2, x3, ()), ()) ()).bind fun r20 =>
              (F_rlog_Newer   ((r17.fst.fst.fst, r17.fst.fst.snd.fst, r17.fst.fst.snd.snd.fst, ()), r20.fst, r8.fst.fst, ()) ()).bind fun r21 =>
              K (!r21.fst, ()))
             (K (false, ()))))))
         ((F_rlog_Append ((x1, x2, x3, ()), [] ++ [(x7, x8, x9)], ()) ()).bind fun r22 =>
          cond (!r22.fst.snd.fst)
          (K (true, ()))
          (cond (decide (x7 < r8.fst.fst))
           (K (true, ()))
           ((F_rlog_Last ((r22.fst.fst.fst, r22.fst.fst.snd.fst, r22.fst.fst.snd.snd.fst, ()), ()) ()).bind fun r23 =>
            (F_rlog_Newer ((x1, x2, x3, ()), r23.fst, x7, ()) ()).bind fun r24 =>
            cond (r24.fst)
            ((F_rlog_Last ((x1, x2, x3, ()), ()) ()).bind fun r25 =>
             (F_rlog_Newer   ((r22.fst.fst.fst, r22.fst.fst.snd.fst, r22.fst.fst.snd.snd.fst, ()), r25.fst, r8.fst.fst, ()) ()).bind fun r26 =>
             K (!r26.fst, ()))
            (K (false, ()))))))
        (cond (r14.fst != Bool.false)
         (cond (r14.fst)
          (K (false, ()))
          ((F_rlog_Append ((x1, x2, x3, ()), [] ++ [(x7, x8, x9)], ()) ()).bind fun r27 =>
           cond (!r27.fst.snd.fst)
           (K (true, ()))
           (cond (decide (x7 < r8.fst.fst))
            (K (true, ()))
            ((F_rlog_Last ((r27.fst.fst.fst, r27.fst.fst.snd.fst, r27.fst.fst.snd.snd.fst, ()), ()) ()).bind fun r28 =>
             (F_rlog_Newer ((x1, x2, x3, ()), r28.fst, x7, ()) ()).bind fun r29 =>
             cond (r29.fst)
             ((F_rlog_Last ((x1, x2, x3, ()), ()) ()).bind fun r30 =>
              (F_rlog_Newer   ((r27.fst.fst.fst, r27.fst.fst.snd.fst, r27.fst.fst.snd.snd.fst, ()), r30.fst, r8.fst.fst, ()) ()).bind fun r31 =>
              K (!r31.fst, ()))
             (K (false, ()))))))
         ((F_rlog_Append ((x1, x2, x3, ()), [] ++ [(x7, x8, x9)], ()) ()).bind fun r32 =>
          cond (!r32.fst.snd.fst)
          (K (true, ()))
          (cond (decide (x7 < r8.fst.fst))
           (K (true, ()))
           ((F_rlog_Last ((r32.fst.fst.fst, r32.fst.fst.snd.fst, r32.fst.fst.snd.snd.fst, ()), ()) ()).bind fun r33 =>
            (F_rlog_Newer ((x1, x2, x3, ()), r33.fst, x7, ()) ()).bind fun r34 =>
            cond (r34.fst)
            ((F_rlog_Last ((x1, x2, x3, ()), ()) ()).bind fun r35 =>
             (F_rlog_Newer   ((r32.fst.fst.fst, r32.fst.fst.snd.fst, r32.fst.fst.snd.snd.fst, ()), r35.fst, r8.fst.fst, ()) ()).bind fun r36 =>
             K (!r36.fst, ()))
            (K (false, ())))))))
       ((F_rlog_Append ((x1, x2, x3, ()), [] ++ [(x7, x8, x9)], ()) ()).bind fun r37 =>
        cond (!r37.fst.snd.fst)
        (K (true, ()))
        (cond (decide (x7 < r8.fst.fst))
         (K (true, ()))
         ((F_rlog_Last ((r37.fst.fst.fst, r37.fst.fst.snd.fst, r37.fst.fst.snd.snd.fst, ()), ()) ()).bind fun r38 =>
          (F_rlog_Newer ((x1, x2, x3, ()), r38.fst, x7, ()) ()).bind fun r39 =>
          cond (r39.fst)
          ((F_rlog_Last ((x1, x2, x3, ()), ()) ()).bind fun r40 =>
           (F_rlog_Newer   ((r37.fst.fst.fst, r37.fst.fst.snd.fst, r37.fst.fst.snd.snd.fst, ()), r40.fst, r8.fst.fst, ()) ()).bind fun r41 =>
           K (!r41.fst, ()))
          (K (false, ())))))))
     (cond (r12.fst)
      (cond (r8.fst.fst == r10.fst.fst)
       ((F_rlog_Last ((x1, x2, x3, ()), ()) ()).bind fun r42 =>
        (F_rlog_Last ((x4, x5, x6, ()), ()) ()).bind fun r43 =>
        cond (r14.fst != (r42.fst == r43.fst))
        (cond (r14.fst)
         (K (false, ()))
         ((F_rlog_Append ((x1, x2, x3, ()), [] ++ [(x7, x8, x9)], ()) ()).bind fun r44 =>
          cond (!r44.fst.snd.fst)
          (K (true, ()))
          (cond (decide (x7 < r8.fst.fst))
           (K (true, ()))
           ((F_rlog_Last ((r44.fst.fst.fst, r44.fst.fst.snd.fst, r44.fst.fst.snd.snd.fst, ()), ()) ()).bind fun r45 =>
            (F_rlog_Newer ((x1, x2, x3, ()), r45.fst, x7, ()) ()).bind fun r46 =>
            cond (r46.fst)
            ((F_rlog_Last ((x1, x2, x3, ()), ()) ()).bind fun r47 =>
             (F_rlog_Newer   ((r44.fst.fst.fst, r44.fst.fst.snd.fst, r44.fst.fst.snd.snd.fst, ()), r47.fst, r8.fst.fst, ()) ()).bind fun r48 =>
             K (!r48.fst, ()))
            (K (false, ()))))))
        ((F_rlog_Append ((x1, x2, x3, ()), [] ++ [(x7, x8, x9)], ()) ()).bind fun r49 =>
         cond (!r49.fst.snd.fst)
         (K (true, ()))
         (cond (decide (x7 < r8.fst.fst))
          (K (true, ()))
          ((F_rlog_Last ((r49.fst.fst.fst, r49.fst.fst.snd.fst, r49.fst.fst.snd.snd.fst, ()), ()) ()).bind fun r50 =>
           (F_rlog_Newer ((x1, x2, x3, ()), r50.fst, x7, ()) ()).bind fun r51 =>
           cond (r51.fst)
           ((F_rlog_Last ((x1, x2, x3, ()), ()) ()).bind fun r52 =>
            (F_rlog_Newer   ((r49.fst.fst.fst, r49.fst.fst.snd.fst, r49.fst.fst.snd.snd.fst, ()), r52.fst, r8.fst.fst, ()) ()).bind fun r53 =>
            K (!r53.fst, ()))
           (K (false, ()))))))
       (cond (r14.fst != Bool.false)
        (cond (r14.fst)
         (K (false, ()))
         ((F_rlog_Append ((x1, x2, x3, ()), [] ++ [(x7, x8, x9)], ()) ()).bind fun r54 =>
          cond (!r54.fst.snd.fst)
          (K (true, ()))
          (cond (decide (x7 < r8.fst.fst))
           (K (true, ()))
           ((F_rlog_Last ((r54.fst.fst.fst, r54.fst.fst.snd.fst, r54.fst.fst.snd.snd.fst, ()), ()) ()).bind fun r55 =>
            (F_rlog_Newer ((x1, x2, x3, ()), r55.fst, x7, ()) ()).bind fun r56 =>
            cond (r56.fst)
            ((F_rlog_Last ((x1, x2, x3, ()), ()) ()).bind fun r57 =>
             (F_rlog_Newer   ((r54.fst.fst.fst, r54.fst.fst.snd.fst, r54.fst.fst.snd.snd.fst, ()), r57.fst, r8.fst.fst, ()) ()).bind fun r58 =>
             K (!r58.fst, ()))
            (K (false, ()))))))
        ((F_rlog_Append ((x1, x2, x3, ()), [] ++ [(x7, x8, x9)], ()) ()).bind fun r59 =>
         cond (!r59.fst.snd.fst)
         (K (true, ()))
         (cond (decide (x7 < r8.fst.fst))
          (K (true, ()))
          ((F_rlog_Last ((r59.fst.fst.fst, r59.fst.fst.snd.fst, r59.fst.fst.snd.snd.fst, ()), ()) ()).bind fun r60 =>
           (F_rlog_Newer ((x1, x2, x3, ()), r60.fst, x7, ()) ()).bind fun r61 =>
           cond (r61.fst)
           ((F_rlog_Last ((x1, x2, x3, ()), ()) ()).bind fun r62 =>
            (F_rlog_Newer   ((r59.fst.fst.fst, r59.fst.fst.snd.fst, r59.fst.fst.snd.snd.fst, ()), r62.fst, r8.fst.fst, ()) ()).bind fun r63 =>
            K (!r63.fst, ()))
           (K (false, ())))))))
      ((F_rlog_Append ((x1, x2, x3, ()), [] ++ [(x7, x8, x9)], ()) ()).bind fun r64 =>
       cond (!r64.fst.snd.fst)
       (K (true, ()))
       (cond (decide (x7 < r8.fst.fst))
        (K (true, ()))
        ((F_rlog_Last ((r64.fst.fst.fst, r64.fst.fst.snd.fst, r64.fst.fst.snd.snd.fst, ()), ()) ()).bind fun r65 =>
         (F_rlog_Newer ((x1, x2, x3, ()), r65.fst, x7, ()) ()).bind fun r66 =>
         cond (r66.fst)
         ((F_rlog_Last ((x1, x2, x3, ()), ()) ()).bind fun r67 =>
          (F_rlog_Newer   ((r64.fst.fst.fst, r64.fst.fst.snd.fst, r64.fst.fst.snd.snd.fst, ()), r67.fst, r8.fst.fst, ()) ()).bind fun r68 =>
          K (!r68.fst, ()))
         (K (false, ())))))))))
noncomputable def F_law15_RlogOrders : A_law15_RlogOrders → M_law15_RlogOrders → Option O_law15_RlogOrders := fun a b => tree_law15_RlogOrders F_law15_fixed F_ref15_May F_rlog_Last F_rlog_Term F_rlog_Newer F_rlog_Append a.1.1 a.1.2.1 a.1.2.2.1 a.2.1.1 a.2.1.2.1 a.2.1.2.2.1 a.2.2.1.1 a.2.2.1.2.1 a.2.2.1.2.2.1 some
theorem n_law15_RlogOrders (F_law15_fixed : A_law15_fixed → M_law15_fixed → Option O_law15_fixed) (F_ref15_May : A_ref15_May → M_ref15_May → Option O_ref15_May) (F_rlog_Last : A_rlog_Last → M_rlog_Last → Option O_rlog_Last) (F_rlog_Term : A_rlog_Term → M_rlog_Term → Option O_rlog_Term) (F_rlog_Newer : A_rlog_Newer → M_rlog_Newer → Option O_rlog_Newer) (F_rlog_Append : A_rlog_Append → M_rlog_Append → Option O_rlog_Append) (x1 : Int) (x2 : Int) (x3 : List (Int × Int × ByteArray)) (x4 : Int) (x5 : Int) (x6 : List (Int × Int × ByteArray)) (x7 : Int) (x8 : Int) (x9 : ByteArray) {α : Type} (K : O_law15_RlogOrders → Option α) : tree_law15_RlogOrders F_law15_fixed F_ref15_May F_rlog_Last F_rlog_Term F_rlog_Newer F_rlog_Append x1 x2 x3 x4 x5 x6 x7 x8 x9 K = (tree_law15_RlogOrders F_law15_fixed F_ref15_May F_rlog_Last F_rlog_Term F_rlog_Newer F_rlog_Append x1 x2 x3 x4 x5 x6 x7 x8 x9 some).bind K := by simp only [tree_law15_RlogOrders, bind_cond, bind_none', bind_some', bind_bind', bind_sum]
theorem Fe_law15_RlogOrders (x1 : Int) (x2 : Int) (x3 : List (Int × Int × ByteArray)) (x4 : Int) (x5 : Int) (x6 : List (Int × Int × ByteArray)) (x7 : Int) (x8 : Int) (x9 : ByteArray) : F_law15_RlogOrders ((x1, (x2, (x3, ()))), ((x4, (x5, (x6, ()))), ((x7, (x8, (x9, ()))), ()))) () = tree_law15_RlogOrders F_law15_fixed F_ref15_May F_rlog_Last F_rlog_Term F_rlog_Newer F_rlog_Append x1 x2 x3 x4 x5 x6 x7 x8 x9 some := rfl

/-! countersign/countersignlaw15.RlogTells -/
def args_law15_RlogTells : SkL := (.cons (.agg (.cons (.leaf (.int .u64)) (.cons (.leaf (.int .u64)) (.cons (.leaf (.slc 37 (.cons (.int .u64) (.cons (.int .i64) (.cons .str .nil))))) .nil)))) (.cons (.agg (.cons (.leaf (.int .u64)) (.cons (.leaf (.int .u64)) (.cons (.leaf (.slc 37 (.cons (.int .u64) (.cons (.int .i64) (.cons .str .nil))))) .nil)))) (.cons (.leaf (.int .i64)) .nil)))
def mem_law15_RlogTells : MSk := []
def outs_law15_RlogTells : List OutC := [⟨(.leaf .bool), []⟩]
abbrev A_law15_RlogTells : Type := ((Int × Int × (List (Int × Int × ByteArray)) × Unit) × (Int × Int × (List (Int × Int × ByteArray)) × Unit) × Int × Unit)
abbrev M_law15_RlogTells : Type := Unit
abbrev O_law15_RlogTells : Type := Bool × Unit
def tree_law15_RlogTells (F_law15_fixed : A_law15_fixed → M_law15_fixed → Option O_law15_fixed) (F_ref15_May : A_ref15_May → M_ref15_May → Option O_ref15_May) (F_rlog_Term : A_rlog_Term → M_rlog_Term → Option O_rlog_Term) (F_ref15_Term : A_ref15_Term → M_ref15_Term → Option O_ref15_Term) (F_rlog_Entry : A_rlog_Entry → M_rlog_Entry → Option O_rlog_Entry) (F_ref15_Entry : A_ref15_Entry → M_ref15_Entry → Option O_ref15_Entry) (F_rlog_Append : A_rlog_Append → M_rlog_Append → Option O_rlog_Append) (F_ref15_Append : A_ref15_Append → M_ref15_Append → Option O_ref15_Append) (F_rlog_Compact : A_rlog_Compact → M_rlog_Compact → Option O_rlog_Compact) (F_ref15_Compact : A_ref15_Compact → M_ref15_Compact → Option O_ref15_Compact) (F_ref15_Is : A_ref15_Is → M_ref15_Is → Option O_ref15_Is) (F_rlog_Last : A_rlog_Last → M_rlog_Last → Option O_rlog_Last) (F_ref15_Last : A_ref15_Last → M_ref15_Last → Option O_ref15_Last) (F_rlog_Slice : A_rlog_Slice → M_rlog_Slice → Option O_rlog_Slice) (F_ref15_Slice : A_ref15_Slice → M_ref15_Slice → Option O_ref15_Slice) (F_ref15_Entries : A_ref15_Entries → M_ref15_Entries → Option O_ref15_Entries) (F_rlog_Newer : A_rlog_Newer → M_rlog_Newer → Option O_rlog_Newer) (F_ref15_Newer : A_ref15_Newer → M_ref15_Newer → Option O_ref15_Newer) {α : Type} (x1 : Int) (x2 : Int) (x3 : List (Int × Int × ByteArray)) (x4 : Int) (x5 : Int) (x6 : List (Int × Int × ByteArray)) (x7 : Int) (K : O_law15_RlogTells → Option α) : Option α :=
  (F_law15_fixed () ()).bind fun r1 =>
  cond (!r1.fst)
  ((F_law15_fixed () ()).bind fun r2 =>
   K (r2.fst, ()))
  ((F_ref15_May ((x1, x2, x3, ()), ()) ()).bind fun r3 =>
   cond (!r3.fst)
   ((F_law15_fixed () ()).bind fun r4 =>
    K (r4.fst, ()))
   ((F_rlog_Term ((x1, x2, x3, ()), x4, ()) ()).bind fun r5 =>
    (F_ref15_Term ((x1, x2, x3, ()), x4, ()) ()).bind fun r6 =>
    (F_rlog_Entry ((x1, x2, x3, ()), x4, ()) ()).bind fun r7 =>
    (F_ref15_Entry ((x1, x2, x3, ()), x4, ()) ()).bind fun r8 =>
    (F_rlog_Append ((x1, x2, x3, ()), x6, ()) ()).bind fun r9 =>
    (F_ref15_Append ((x1, x2, x3, ()), x6, ()) ()).bind fun r10 =>
    (F_rlog_Compact ((x1, x2, x3, ()), x4, ()) ()).bind fun r11 =>
    (F_ref15_Compact ((x1, x2, x3, ()), x4, ()) ()).bind fun r12 =>
    cond (r5.fst.fst == r6.fst.fst)
    (cond (r5.fst.snd.fst == r6.fst.snd.fst)
     (cond (Bool.false ^^   r7.fst.fst.fst == r8.fst.fst.fst &&     (r7.fst.fst.snd.fst == r8.fst.fst.snd.fst &&       (r7.fst.fst.snd.snd.fst.toList == r8.fst.fst.snd.snd.fst.toList && Bool.true)))
      (cond (r7.fst.snd.fst == r8.fst.snd.fst)
       ((F_ref15_Is   ((r9.fst.fst.fst, r9.fst.fst.snd.fst, r9.fst.fst.snd.snd.fst, ()),     (r10.fst.fst.fst, r10.fst.fst.snd.fst, r10.fst.fst.snd.snd.fst, ()), ())   ()).bind fun r13 =>
        cond (r13.fst)
        (cond (r9.fst.snd.fst == r10.fst.snd.fst)
         ((F_ref15_Is   ((r11.fst.fst.fst, r11.fst.fst.snd.fst, r11.fst.fst.snd.snd.fst, ()),     (r12.fst.fst.fst, r12.fst.fst.snd.fst, r12.fst.fst.snd.snd.fst, ()), ())   ()).bind fun r14 =>
          cond (r14.fst)
          (cond (r11.fst.snd.fst == r12.fst.snd.fst)
           ((F_rlog_Last ((x1, x2, x3, ()), ()) ()).bind fun r15 =>
            (F_ref15_Last ((x1, x2, x3, ()), ()) ()).bind fun r16 =>
            cond (r15.fst == r16.fst)
            ((F_rlog_Slice ((x1, x2, x3, ()), x4, x7, ()) ()).bind fun r17 =>
             (F_ref15_Slice ((x1, x2, x3, ()), x4, x7, ()) ()).bind fun r18 =>
             (F_ref15_Entries (r17.fst, r18.fst, ()) ()).bind fun r19 =>
             cond (r19.fst)
             ((F_rlog_Newer ((x1, x2, x3, ()), x4, x5, ()) ()).bind fun r20 =>
              (F_ref15_Newer ((x1, x2, x3, ()), x4, x5, ()) ()).bind fun r21 =>
              K (r20.fst == r21.fst, ()))
             (K (false, ())))
            (K (false, ())))
           (K (false, ())))
          (K (false, ())))
         (K (false, ())))
        (K (false, ())))
       (K (false, ())))
      (K (false, ())))
     (K (false, ())))
    (K (false, ()))))
noncomputable def F_law15_RlogTells : A_law15_RlogTells → M_law15_RlogTells → Option O_law15_RlogTells := fun a b => tree_law15_RlogTells F_law15_fixed F_ref15_May F_rlog_Term F_ref15_Term F_rlog_Entry F_ref15_Entry F_rlog_Append F_ref15_Append F_rlog_Compact F_ref15_Compact F_ref15_Is F_rlog_Last F_ref15_Last F_rlog_Slice F_ref15_Slice F_ref15_Entries F_rlog_Newer F_ref15_Newer a.1.1 a.1.2.1 a.1.2.2.1 a.2.1.1 a.2.1.2.1 a.2.1.2.2.1 a.2.2.1 some
theorem n_law15_RlogTells (F_law15_fixed : A_law15_fixed → M_law15_fixed → Option O_law15_fixed) (F_ref15_May : A_ref15_May → M_ref15_May → Option O_ref15_May) (F_rlog_Term : A_rlog_Term → M_rlog_Term → Option O_rlog_Term) (F_ref15_Term : A_ref15_Term → M_ref15_Term → Option O_ref15_Term) (F_rlog_Entry : A_rlog_Entry → M_rlog_Entry → Option O_rlog_Entry) (F_ref15_Entry : A_ref15_Entry → M_ref15_Entry → Option O_ref15_Entry) (F_rlog_Append : A_rlog_Append → M_rlog_Append → Option O_rlog_Append) (F_ref15_Append : A_ref15_Append → M_ref15_Append → Option O_ref15_Append) (F_rlog_Compact : A_rlog_Compact → M_rlog_Compact → Option O_rlog_Compact) (F_ref15_Compact : A_ref15_Compact → M_ref15_Compact → Option O_ref15_Compact) (F_ref15_Is : A_ref15_Is → M_ref15_Is → Option O_ref15_Is) (F_rlog_Last : A_rlog_Last → M_rlog_Last → Option O_rlog_Last) (F_ref15_Last : A_ref15_Last → M_ref15_Last → Option O_ref15_Last) (F_rlog_Slice : A_rlog_Slice → M_rlog_Slice → Option O_rlog_Slice) (F_ref15_Slice : A_ref15_Slice → M_ref15_Slice → Option O_ref15_Slice) (F_ref15_Entries : A_ref15_Entries → M_ref15_Entries → Option O_ref15_Entries) (F_rlog_Newer : A_rlog_Newer → M_rlog_Newer → Option O_rlog_Newer) (F_ref15_Newer : A_ref15_Newer → M_ref15_Newer → Option O_ref15_Newer) (x1 : Int) (x2 : Int) (x3 : List (Int × Int × ByteArray)) (x4 : Int) (x5 : Int) (x6 : List (Int × Int × ByteArray)) (x7 : Int) {α : Type} (K : O_law15_RlogTells → Option α) : tree_law15_RlogTells F_law15_fixed F_ref15_May F_rlog_Term F_ref15_Term F_rlog_Entry F_ref15_Entry F_rlog_Append F_ref15_Append F_rlog_Compact F_ref15_Compact F_ref15_Is F_rlog_Last F_ref15_Last F_rlog_Slice F_ref15_Slice F_ref15_Entries F_rlog_Newer F_ref15_Newer x1 x2 x3 x4 x5 x6 x7 K = (tree_law15_RlogTells F_law15_fixed F_ref15_May F_rlog_Term F_ref15_Term F_rlog_Entry F_ref15_Entry F_rlog_Append F_ref15_Append F_rlog_Compact F_ref15_Compact F_ref15_Is F_rlog_Last F_ref15_Last F_rlog_Slice F_ref15_Slice F_ref15_Entries F_rlog_Newer F_ref15_Newer x1 x2 x3 x4 x5 x6 x7 some).bind K := by simp only [tree_law15_RlogTells, bind_cond, bind_none', bind_some', bind_bind', bind_sum]
theorem Fe_law15_RlogTells (x1 : Int) (x2 : Int) (x3 : List (Int × Int × ByteArray)) (x4 : Int) (x5 : Int) (x6 : List (Int × Int × ByteArray)) (x7 : Int) : F_law15_RlogTells ((x1, (x2, (x3, ()))), ((x4, (x5, (x6, ()))), (x7, ()))) () = tree_law15_RlogTells F_law15_fixed F_ref15_May F_rlog_Term F_ref15_Term F_rlog_Entry F_ref15_Entry F_rlog_Append F_ref15_Append F_rlog_Compact F_ref15_Compact F_ref15_Is F_rlog_Last F_ref15_Last F_rlog_Slice F_ref15_Slice F_ref15_Entries F_rlog_Newer F_ref15_Newer x1 x2 x3 x4 x5 x6 x7 some := rfl

end Go.Proofs.Ytlmiaagcnhgfmaa.S2
