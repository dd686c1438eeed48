/- Plain forms of the program's functions, by program. -/
import Derived.Test.YtgakbdikappdbaaGreatS2y
set_option maxRecDepth 100000
set_option maxHeartbeats 0
set_option linter.unusedVariables false
set_option linter.unusedSimpArgs false
namespace Go.Proofs.YtgakbdikappdbaaGreat.S2
open Go
def args_ref15_May : SkL := (.cons (.agg (.cons (.leaf (.int .u64)) (.cons (.leaf (.int .u64)) (.cons (.leaf (.slc 75 (.cons (.int .u64) (.cons (.int .i64) (.cons .str .nil))))) .nil)))) .nil)
def mem_ref15_May : MSk := []
def outs_ref15_May : List OutC := [⟨(.leaf .bool), []⟩]
abbrev A_ref15_May : Type := ((Int × Int × (List (Int × Int × ByteArray)) × Unit) × Unit)
abbrev M_ref15_May : Type := Unit
abbrev O_ref15_May : Type := Bool × Unit
def tree_ref15_May {α : Type} (x1 : Int) (x2 : Int) (x3 : List (Int × Int × ByteArray)) (K : O_ref15_May → Option α) : Option α :=
  cond (decide (x1 ≤ 4611686018427387904))
  (K (decide ((↑x3.length : Int) ≤ 256), ()))
  (K (false, ()))
noncomputable def F_ref15_May : A_ref15_May → M_ref15_May → Option O_ref15_May := fun a b => tree_ref15_May a.1.1 a.1.2.1 a.1.2.2.1 some
theorem n_ref15_May (x1 : Int) (x2 : Int) (x3 : List (Int × Int × ByteArray)) {α : Type} (K : O_ref15_May → Option α) : tree_ref15_May x1 x2 x3 K = (tree_ref15_May x1 x2 x3 some).bind K := by simp only [tree_ref15_May, bind_cond, bind_none', bind_some', bind_bind', bind_sum]
def args_ref15_Last : SkL := (.cons (.agg (.cons (.leaf (.int .u64)) (.cons (.leaf (.int .u64)) (.cons (.leaf (.slc 75 (.cons (.int .u64) (.cons (.int .i64) (.cons .str .nil))))) .nil)))) .nil)
def mem_ref15_Last : MSk := []
def outs_ref15_Last : List OutC := [⟨(.leaf (.int .u64)), []⟩]
abbrev A_ref15_Last : Type := ((Int × Int × (List (Int × Int × ByteArray)) × Unit) × Unit)
abbrev M_ref15_Last : Type := Unit
abbrev O_ref15_Last : Type := Int × Unit
def tree_ref15_Last {α : Type} (x1 : Int) (x2 : Int) (x3 : List (Int × Int × ByteArray)) (K : O_ref15_Last → Option α) : Option α :=
  K (IntKind.u64.wrap (x1 + IntKind.u64.wrap (↑x3.length : Int)), ())
noncomputable def F_ref15_Last : A_ref15_Last → M_ref15_Last → Option O_ref15_Last := fun a b => tree_ref15_Last a.1.1 a.1.2.1 a.1.2.2.1 some
theorem n_ref15_Last (x1 : Int) (x2 : Int) (x3 : List (Int × Int × ByteArray)) {α : Type} (K : O_ref15_Last → Option α) : tree_ref15_Last x1 x2 x3 K = (tree_ref15_Last x1 x2 x3 some).bind K := by simp only [tree_ref15_Last, bind_cond, bind_none', bind_some', bind_bind', bind_sum]
def args_ref18_peers : SkL := (.cons (.agg (.cons (.leaf (.int .u64)) (.cons (.leaf (.slc 22 (.cons (.int .u64) .nil))) (.cons (.leaf (.int .u64)) (.cons (.leaf (.int .u64)) (.cons (.leaf (.int .u64)) (.cons (.leaf (.int .u64)) (.cons (.leaf (.slc 75 (.cons (.int .u64) (.cons (.int .i64) (.cons .str .nil))))) (.cons (.leaf .str) (.cons (.leaf (.int .i64)) (.cons (.leaf (.int .u64)) (.cons (.leaf (.int .u64)) (.cons (.leaf (.slc 22 (.cons (.int .u64) .nil))) (.cons (.leaf (.slc 54 (.cons (.int .u64) (.cons (.int .u64) (.cons (.int .u64) .nil))))) (.cons (.leaf (.int .i64)) .nil))))))))))))))) .nil)
def mem_ref18_peers : MSk := []
def outs_ref18_peers : List OutC := [⟨(.leaf .bool), []⟩]
abbrev A_ref18_peers : Type := ((Int × List Int × Int × Int × Int × Int × (List (Int × Int × ByteArray)) × ByteArray × Int × Int × Int × List Int × (List (Int × Int × Int)) × Int × Unit) × Unit)
abbrev M_ref18_peers : Type := Unit
abbrev O_ref18_peers : Type := Bool × Unit
def ltmps_ref18_peers_7 : SkL := (.cons (.const .dead) (.cons (.const (.ptr 1032 0 0)) (.cons (.const .dead) (.cons (.leaf (.int .i64)) (.cons (.leaf (.int .i64)) (dz 35 .nil))))))
def lmem_ref18_peers_7 : MSk := [(1032, .cells (.cons (.leaf (.int .u64)) (.cons (.leaf (.slc 22 (.cons (.int .u64) .nil))) (.cons (.leaf (.int .u64)) (.cons (.leaf (.int .u64)) (.cons (.leaf (.int .u64)) (.cons (.leaf (.int .u64)) (.cons (.leaf (.slc 75 (.cons (.int .u64) (.cons (.int .i64) (.cons .str .nil))))) (.cons (.leaf .str) (.cons (.leaf (.int .i64)) (.cons (.leaf (.int .u64)) (.cons (.leaf (.int .u64)) (.cons (.leaf (.slc 22 (.cons (.int .u64) .nil))) (.cons (.leaf (.slc 54 (.cons (.int .u64) (.cons (.int .u64) (.cons (.int .u64) .nil))))) (.cons (.leaf (.int .i64)) .nil)))))))))))))))]
def louts_ref18_peers_7 : List OutL := [⟨.ret, (.cons (.const .dead) (.cons (.const (.ptr 1032 0 0)) (.cons (.leaf .bool) (.cons (.leaf (.int .i64)) (dz 36 .nil))))), [(1032, .cells (.cons (.leaf (.int .u64)) (.cons (.leaf (.slc 22 (.cons (.int .u64) .nil))) (.cons (.leaf (.int .u64)) (.cons (.leaf (.int .u64)) (.cons (.leaf (.int .u64)) (.cons (.leaf (.int .u64)) (.cons (.leaf (.slc 75 (.cons (.int .u64) (.cons (.int .i64) (.cons .str .nil))))) (.cons (.leaf .str) (.cons (.leaf (.int .i64)) (.cons (.leaf (.int .u64)) (.cons (.leaf (.int .u64)) (.cons (.leaf (.slc 22 (.cons (.int .u64) .nil))) (.cons (.leaf (.slc 54 (.cons (.int .u64) (.cons (.int .u64) (.cons (.int .u64) .nil))))) (.cons (.leaf (.int .i64)) .nil)))))))))))))))]⟩, ⟨(.exit 2), (.cons (.const .dead) (.cons (.const (.ptr 1032 0 0)) (.cons (.const .dead) (.cons (.leaf (.int .i64)) (dz 36 .nil))))), [(1032, .cells (.cons (.leaf (.int .u64)) (.cons (.leaf (.slc 22 (.cons (.int .u64) .nil))) (.cons (.leaf (.int .u64)) (.cons (.leaf (.int .u64)) (.cons (.leaf (.int .u64)) (.cons (.leaf (.int .u64)) (.cons (.leaf (.slc 75 (.cons (.int .u64) (.cons (.int .i64) (.cons .str .nil))))) (.cons (.leaf .str) (.cons (.leaf (.int .i64)) (.cons (.leaf (.int .u64)) (.cons (.leaf (.int .u64)) (.cons (.leaf (.slc 22 (.cons (.int .u64) .nil))) (.cons (.leaf (.slc 54 (.cons (.int .u64) (.cons (.int .u64) (.cons (.int .u64) .nil))))) (.cons (.leaf (.int .i64)) .nil)))))))))))))))]⟩]
abbrev LT_ref18_peers_7 : Type := (Int × Int × Unit)
abbrev LM_ref18_peers_7 : Type := ((Int × List Int × Int × Int × Int × Int × (List (Int × Int × ByteArray)) × ByteArray × Int × Int × Int × List Int × (List (Int × Int × Int)) × Int × Unit) × Unit)
abbrev LO_ref18_peers_7 : Type := ((Bool × Int × Unit) × ((Int × List Int × Int × Int × Int × Int × (List (Int × Int × ByteArray)) × ByteArray × Int × Int × Int × List Int × (List (Int × Int × Int)) × Int × Unit) × Unit)) ⊕ ((Int × Unit) × ((Int × List Int × Int × Int × Int × Int × (List (Int × Int × ByteArray)) × ByteArray × Int × Int × Int × List Int × (List (Int × Int × Int)) × Int × Unit) × Unit))
def ltree_ref18_peers_7 {α : Type} (x1 : Int) (x2 : Int) (x3 : Int) (x4 : List Int) (x5 : Int) (x6 : Int) (x7 : Int) (x8 : Int) (x9 : List (Int × Int × ByteArray)) (x10 : ByteArray) (x11 : Int) (x12 : Int) (x13 : Int) (x14 : List Int) (x15 : List (Int × Int × Int)) (x16 : Int) (kn : LT_ref18_peers_7 → LM_ref18_peers_7 → Option α) (kr : LO_ref18_peers_7 → Option α) : Option α :=
  cond (decide (x2 < x1))
  (cond (decide (0 ≤ x2))
   (cond (decide (x2 < (↑x15.length : Int)))
    (cond (decide (0 ≤ x1))
     (cond (decide (x1 < (↑x15.length : Int)))
      (cond ((x15.getD x2.toNat (0, 0, 0)).fst == (x15.getD x1.toNat (0, 0, 0)).fst)
       (kr (.inl ((false, (x1, ())), ((x3, (x4, (x5, (x6, (x7, (x8, (x9, (x10, (x11, (x12, (x13, (x14, (x15, (x16, ())))))))))))))), ()))))
       (kn (x1, (IntKind.i64.wrap (x2 + 1), ())) ((x3, (x4, (x5, (x6, (x7, (x8, (x9, (x10, (x11, (x12, (x13, (x14, (x15, (x16, ())))))))))))))), ())))
      (none))
     (none))
    (none))
   (none))
  (kr (.inr ((x1, ()), ((x3, (x4, (x5, (x6, (x7, (x8, (x9, (x10, (x11, (x12, (x13, (x14, (x15, (x16, ())))))))))))))), ()))))
noncomputable def L_ref18_peers_7 : LT_ref18_peers_7 → LM_ref18_peers_7 → Option LO_ref18_peers_7 := fun x y => runL (fun p => (fun (a : LT_ref18_peers_7) (b : LM_ref18_peers_7) => ltree_ref18_peers_7 a.1 a.2.1 b.1.1 b.1.2.1 b.1.2.2.1 b.1.2.2.2.1 b.1.2.2.2.2.1 b.1.2.2.2.2.2.1 b.1.2.2.2.2.2.2.1 b.1.2.2.2.2.2.2.2.1 b.1.2.2.2.2.2.2.2.2.1 b.1.2.2.2.2.2.2.2.2.2.1 b.1.2.2.2.2.2.2.2.2.2.2.1 b.1.2.2.2.2.2.2.2.2.2.2.2.1 b.1.2.2.2.2.2.2.2.2.2.2.2.2.1 b.1.2.2.2.2.2.2.2.2.2.2.2.2.2.1 (fun a' b' => some (.inl (a', b'))) fun r => some (.inr r)) p.1 p.2) (x, y)
theorem nl_ref18_peers_7 (x1 : Int) (x2 : Int) (x3 : Int) (x4 : List Int) (x5 : Int) (x6 : Int) (x7 : Int) (x8 : Int) (x9 : List (Int × Int × ByteArray)) (x10 : ByteArray) (x11 : Int) (x12 : Int) (x13 : Int) (x14 : List Int) (x15 : List (Int × Int × Int)) (x16 : Int) {α : Type} (kn : LT_ref18_peers_7 → LM_ref18_peers_7 → Option α) (kr : LO_ref18_peers_7 → Option α) : ltree_ref18_peers_7 x1 x2 x3 x4 x5 x6 x7 x8 x9 x10 x11 x12 x13 x14 x15 x16 kn kr = (ltree_ref18_peers_7 x1 x2 x3 x4 x5 x6 x7 x8 x9 x10 x11 x12 x13 x14 x15 x16 (fun a b => some (.inl (a, b))) fun r => some (.inr r)).bind (Sum.elim (fun p : LT_ref18_peers_7 × LM_ref18_peers_7 => kn p.1 p.2) kr) := by simp only [ltree_ref18_peers_7, bind_cond, bind_none', bind_some', bind_bind', bind_sum, Sum.elim_inl, Sum.elim_inr]
theorem Le_ref18_peers_7 (x1 : Int) (x2 : Int) (x3 : Int) (x4 : List Int) (x5 : Int) (x6 : Int) (x7 : Int) (x8 : Int) (x9 : List (Int × Int × ByteArray)) (x10 : ByteArray) (x11 : Int) (x12 : Int) (x13 : Int) (x14 : List Int) (x15 : List (Int × Int × Int)) (x16 : Int) : L_ref18_peers_7 (x1, (x2, ())) ((x3, (x4, (x5, (x6, (x7, (x8, (x9, (x10, (x11, (x12, (x13, (x14, (x15, (x16, ())))))))))))))), ()) = ltree_ref18_peers_7 x1 x2 x3 x4 x5 x6 x7 x8 x9 x10 x11 x12 x13 x14 x15 x16 L_ref18_peers_7 some := runL_tree (A := LT_ref18_peers_7) (B := LM_ref18_peers_7) (R := LO_ref18_peers_7) (fun a b kn kr => ltree_ref18_peers_7 a.1 a.2.1 b.1.1 b.1.2.1 b.1.2.2.1 b.1.2.2.2.1 b.1.2.2.2.2.1 b.1.2.2.2.2.2.1 b.1.2.2.2.2.2.2.1 b.1.2.2.2.2.2.2.2.1 b.1.2.2.2.2.2.2.2.2.1 b.1.2.2.2.2.2.2.2.2.2.1 b.1.2.2.2.2.2.2.2.2.2.2.1 b.1.2.2.2.2.2.2.2.2.2.2.2.1 b.1.2.2.2.2.2.2.2.2.2.2.2.2.1 b.1.2.2.2.2.2.2.2.2.2.2.2.2.2.1 kn kr) (fun a b kn kr => nl_ref18_peers_7 a.1 a.2.1 b.1.1 b.1.2.1 b.1.2.2.1 b.1.2.2.2.1 b.1.2.2.2.2.1 b.1.2.2.2.2.2.1 b.1.2.2.2.2.2.2.1 b.1.2.2.2.2.2.2.2.1 b.1.2.2.2.2.2.2.2.2.1 b.1.2.2.2.2.2.2.2.2.2.1 b.1.2.2.2.2.2.2.2.2.2.2.1 b.1.2.2.2.2.2.2.2.2.2.2.2.1 b.1.2.2.2.2.2.2.2.2.2.2.2.2.1 b.1.2.2.2.2.2.2.2.2.2.2.2.2.2.1 kn kr) (x1, (x2, ())) ((x3, (x4, (x5, (x6, (x7, (x8, (x9, (x10, (x11, (x12, (x13, (x14, (x15, (x16, ())))))))))))))), ())
def ltmps_ref18_peers_2 : SkL := (.cons (.const .dead) (.cons (.const (.ptr 1032 0 0)) (.cons (.const .dead) (.cons (.leaf (.int .i64)) (dz 36 .nil)))))
def lmem_ref18_peers_2 : MSk := [(1032, .cells (.cons (.leaf (.int .u64)) (.cons (.leaf (.slc 22 (.cons (.int .u64) .nil))) (.cons (.leaf (.int .u64)) (.cons (.leaf (.int .u64)) (.cons (.leaf (.int .u64)) (.cons (.leaf (.int .u64)) (.cons (.leaf (.slc 75 (.cons (.int .u64) (.cons (.int .i64) (.cons .str .nil))))) (.cons (.leaf .str) (.cons (.leaf (.int .i64)) (.cons (.leaf (.int .u64)) (.cons (.leaf (.int .u64)) (.cons (.leaf (.slc 22 (.cons (.int .u64) .nil))) (.cons (.leaf (.slc 54 (.cons (.int .u64) (.cons (.int .u64) (.cons (.int .u64) .nil))))) (.cons (.leaf (.int .i64)) .nil)))))))))))))))]
def louts_ref18_peers_2 : List OutL := [⟨.ret, (dz 2 (.cons (.leaf .bool) (dz 37 .nil))), []⟩, ⟨(.exit 0), (dz 40 .nil), []⟩]
abbrev LT_ref18_peers_2 : Type := (Int × Unit)
abbrev LM_ref18_peers_2 : Type := ((Int × List Int × Int × Int × Int × Int × (List (Int × Int × ByteArray)) × ByteArray × Int × Int × Int × List Int × (List (Int × Int × Int)) × Int × Unit) × Unit)
abbrev LO_ref18_peers_2 : Type := ((Bool × Unit) × Unit) ⊕ (Unit × Unit)
def ltree_ref18_peers_2 (F_ref15_Last : A_ref15_Last → M_ref15_Last → Option O_ref15_Last) (L_ref18_peers_7 : LT_ref18_peers_7 → LM_ref18_peers_7 → Option LO_ref18_peers_7) {α : Type} (x1 : Int) (x2 : Int) (x3 : List Int) (x4 : Int) (x5 : Int) (x6 : Int) (x7 : Int) (x8 : List (Int × Int × ByteArray)) (x9 : ByteArray) (x10 : Int) (x11 : Int) (x12 : Int) (x13 : List Int) (x14 : List (Int × Int × Int)) (x15 : Int) (kn : LT_ref18_peers_2 → LM_ref18_peers_2 → Option α) (kr : LO_ref18_peers_2 → Option α) : Option α :=
  cond (decide (x1 < (↑x14.length : Int)))
  (cond (decide (0 ≤ x1))
   (cond (decide (x1 < (↑x14.length : Int)))
    ((F_ref15_Last ((x6, x7, x8, ()), ()) ()).bind fun r1 =>
     cond (decide ((x14.getD x1.toNat (0, 0, 0)).snd.snd > r1.fst))
     (kr (.inl ((false, ()), ())))
     ((L_ref18_peers_7 (x1, 0, ())   ((x2, x3, x4, x5, x6, x7, x8, x9, x10, x11, x12, x13, x14, x15, ()), ())).bind fun r2 =>
      Sum.elim (fun u3 =>
       kr (.inl ((u3.fst.fst, ()), ())))
      (fun u3 =>
       kn (IntKind.i64.wrap (u3.fst.fst + 1), ()) ((u3.snd.fst.fst, (u3.snd.fst.snd.fst, (u3.snd.fst.snd.snd.fst, (u3.snd.fst.snd.snd.snd.fst, (u3.snd.fst.snd.snd.snd.snd.fst, (u3.snd.fst.snd.snd.snd.snd.snd.fst, (u3.snd.fst.snd.snd.snd.snd.snd.snd.fst, (u3.snd.fst.snd.snd.snd.snd.snd.snd.snd.fst, (u3.snd.fst.snd.snd.snd.snd.snd.snd.snd.snd.fst, (u3.snd.fst.snd.snd.snd.snd.snd.snd.snd.snd.snd.fst, (u3.snd.fst.snd.snd.snd.snd.snd.snd.snd.snd.snd.snd.fst, (u3.snd.fst.snd.snd.snd.snd.snd.snd.snd.snd.snd.snd.snd.fst, (u3.snd.fst.snd.snd.snd.snd.snd.snd.snd.snd.snd.snd.snd.snd.fst, (u3.snd.fst.snd.snd.snd.snd.snd.snd.snd.snd.snd.snd.snd.snd.snd.fst, ())))))))))))))), ())) (r2)))
    (none))
   (none))
  (kr (.inr ((), ())))
noncomputable def L_ref18_peers_2 : LT_ref18_peers_2 → LM_ref18_peers_2 → Option LO_ref18_peers_2 := fun x y => runL (fun p => (fun (a : LT_ref18_peers_2) (b : LM_ref18_peers_2) => ltree_ref18_peers_2 F_ref15_Last L_ref18_peers_7 a.1 b.1.1 b.1.2.1 b.1.2.2.1 b.1.2.2.2.1 b.1.2.2.2.2.1 b.1.2.2.2.2.2.1 b.1.2.2.2.2.2.2.1 b.1.2.2.2.2.2.2.2.1 b.1.2.2.2.2.2.2.2.2.1 b.1.2.2.2.2.2.2.2.2.2.1 b.1.2.2.2.2.2.2.2.2.2.2.1 b.1.2.2.2.2.2.2.2.2.2.2.2.1 b.1.2.2.2.2.2.2.2.2.2.2.2.2.1 b.1.2.2.2.2.2.2.2.2.2.2.2.2.2.1 (fun a' b' => some (.inl (a', b'))) fun r => some (.inr r)) p.1 p.2) (x, y)
theorem nl_ref18_peers_2 (F_ref15_Last : A_ref15_Last → M_ref15_Last → Option O_ref15_Last) (L_ref18_peers_7 : LT_ref18_peers_7 → LM_ref18_peers_7 → Option LO_ref18_peers_7) (x1 : Int) (x2 : Int) (x3 : List Int) (x4 : Int) (x5 : Int) (x6 : Int) (x7 : Int) (x8 : List (Int × Int × ByteArray)) (x9 : ByteArray) (x10 : Int) (x11 : Int) (x12 : Int) (x13 : List Int) (x14 : List (Int × Int × Int)) (x15 : Int) {α : Type} (kn : LT_ref18_peers_2 → LM_ref18_peers_2 → Option α) (kr : LO_ref18_peers_2 → Option α) : ltree_ref18_peers_2 F_ref15_Last L_ref18_peers_7 x1 x2 x3 x4 x5 x6 x7 x8 x9 x10 x11 x12 x13 x14 x15 kn kr = (ltree_ref18_peers_2 F_ref15_Last L_ref18_peers_7 x1 x2 x3 x4 x5 x6 x7 x8 x9 x10 x11 x12 x13 x14 x15 (fun a b => some (.inl (a, b))) fun r => some (.inr r)).bind (Sum.elim (fun p : LT_ref18_peers_2 × LM_ref18_peers_2 => kn p.1 p.2) kr) := by simp only [ltree_ref18_peers_2, bind_cond, bind_none', bind_some', bind_bind', bind_sum, Sum.elim_inl, Sum.elim_inr]
theorem Le_ref18_peers_2 (x1 : Int) (x2 : Int) (x3 : List Int) (x4 : Int) (x5 : Int) (x6 : Int) (x7 : Int) (x8 : List (Int × Int × ByteArray)) (x9 : ByteArray) (x10 : Int) (x11 : Int) (x12 : Int) (x13 : List Int) (x14 : List (Int × Int × Int)) (x15 : Int) : L_ref18_peers_2 (x1, ()) ((x2, (x3, (x4, (x5, (x6, (x7, (x8, (x9, (x10, (x11, (x12, (x13, (x14, (x15, ())))))))))))))), ()) = ltree_ref18_peers_2 F_ref15_Last L_ref18_peers_7 x1 x2 x3 x4 x5 x6 x7 x8 x9 x10 x11 x12 x13 x14 x15 L_ref18_peers_2 some := runL_tree (A := LT_ref18_peers_2) (B := LM_ref18_peers_2) (R := LO_ref18_peers_2) (fun a b kn kr => ltree_ref18_peers_2 F_ref15_Last L_ref18_peers_7 a.1 b.1.1 b.1.2.1 b.1.2.2.1 b.1.2.2.2.1 b.1.2.2.2.2.1 b.1.2.2.2.2.2.1 b.1.2.2.2.2.2.2.1 b.1.2.2.2.2.2.2.2.1 b.1.2.2.2.2.2.2.2.2.1 b.1.2.2.2.2.2.2.2.2.2.1 b.1.2.2.2.2.2.2.2.2.2.2.1 b.1.2.2.2.2.2.2.2.2.2.2.2.1 b.1.2.2.2.2.2.2.2.2.2.2.2.2.1 b.1.2.2.2.2.2.2.2.2.2.2.2.2.2.1 kn kr) (fun a b kn kr => nl_ref18_peers_2 F_ref15_Last L_ref18_peers_7 a.1 b.1.1 b.1.2.1 b.1.2.2.1 b.1.2.2.2.1 b.1.2.2.2.2.1 b.1.2.2.2.2.2.1 b.1.2.2.2.2.2.2.1 b.1.2.2.2.2.2.2.2.1 b.1.2.2.2.2.2.2.2.2.1 b.1.2.2.2.2.2.2.2.2.2.1 b.1.2.2.2.2.2.2.2.2.2.2.1 b.1.2.2.2.2.2.2.2.2.2.2.2.1 b.1.2.2.2.2.2.2.2.2.2.2.2.2.1 b.1.2.2.2.2.2.2.2.2.2.2.2.2.2.1 kn kr) (x1, ()) ((x2, (x3, (x4, (x5, (x6, (x7, (x8, (x9, (x10, (x11, (x12, (x13, (x14, (x15, ())))))))))))))), ())
def tree_ref18_peers (L_ref18_peers_2 : LT_ref18_peers_2 → LM_ref18_peers_2 → Option LO_ref18_peers_2) {α : Type} (x1 : Int) (x2 : List Int) (x3 : Int) (x4 : Int) (x5 : Int) (x6 : Int) (x7 : List (Int × Int × ByteArray)) (x8 : ByteArray) (x9 : Int) (x10 : Int) (x11 : Int) (x12 : List Int) (x13 : List (Int × Int × Int)) (x14 : Int) (K : O_ref18_peers → Option α) : Option α :=
  (L_ref18_peers_2 (0, ()) ((x1, x2, x3, x4, x5, x6, x7, x8, x9, x10, x11, x12, x13, x14, ()), ())).bind fun r1 =>
  Sum.elim (fun u2 =>
   K (u2.fst.fst, ()))
  (fun u2 =>
   K (true, ())) (r1)
noncomputable def F_ref18_peers : A_ref18_peers → M_ref18_peers → Option O_ref18_peers := fun a b => tree_ref18_peers L_ref18_peers_2 a.1.1 a.1.2.1 a.1.2.2.1 a.1.2.2.2.1 a.1.2.2.2.2.1 a.1.2.2.2.2.2.1 a.1.2.2.2.2.2.2.1 a.1.2.2.2.2.2.2.2.1 a.1.2.2.2.2.2.2.2.2.1 a.1.2.2.2.2.2.2.2.2.2.1 a.1.2.2.2.2.2.2.2.2.2.2.1 a.1.2.2.2.2.2.2.2.2.2.2.2.1 a.1.2.2.2.2.2.2.2.2.2.2.2.2.1 a.1.2.2.2.2.2.2.2.2.2.2.2.2.2.1 some
theorem n_ref18_peers (L_ref18_peers_2 : LT_ref18_peers_2 → LM_ref18_peers_2 → Option LO_ref18_peers_2) (x1 : Int) (x2 : List Int) (x3 : Int) (x4 : Int) (x5 : Int) (x6 : Int) (x7 : List (Int × Int × ByteArray)) (x8 : ByteArray) (x9 : Int) (x10 : Int) (x11 : Int) (x12 : List Int) (x13 : List (Int × Int × Int)) (x14 : Int) {α : Type} (K : O_ref18_peers → Option α) : tree_ref18_peers L_ref18_peers_2 x1 x2 x3 x4 x5 x6 x7 x8 x9 x10 x11 x12 x13 x14 K = (tree_ref18_peers L_ref18_peers_2 x1 x2 x3 x4 x5 x6 x7 x8 x9 x10 x11 x12 x13 x14 some).bind K := by simp only [tree_ref18_peers, bind_cond, bind_none', bind_some', bind_bind', bind_sum]
theorem Fe_ref18_peers (x1 : Int) (x2 : List Int) (x3 : Int) (x4 : Int) (x5 : Int) (x6 : Int) (x7 : List (Int × Int × ByteArray)) (x8 : ByteArray) (x9 : Int) (x10 : Int) (x11 : Int) (x12 : List Int) (x13 : List (Int × Int × Int)) (x14 : Int) : F_ref18_peers ((x1, (x2, (x3, (x4, (x5, (x6, (x7, (x8, (x9, (x10, (x11, (x12, (x13, (x14, ())))))))))))))), ()) () = tree_ref18_peers L_ref18_peers_2 x1 x2 x3 x4 x5 x6 x7 x8 x9 x10 x11 x12 x13 x14 some := rfl
def args_ref18_May : SkL := (.cons (.agg (.cons (.leaf (.int .u64)) (.cons (.leaf (.slc 22 (.cons (.int .u64) .nil))) (.cons (.leaf (.int .u64)) (.cons (.leaf (.int .u64)) (.cons (.leaf (.int .u64)) (.cons (.leaf (.int .u64)) (.cons (.leaf (.slc 75 (.cons (.int .u64) (.cons (.int .i64) (.cons .str .nil))))) (.cons (.leaf .str) (.cons (.leaf (.int .i64)) (.cons (.leaf (.int .u64)) (.cons (.leaf (.int .u64)) (.cons (.leaf (.slc 22 (.cons (.int .u64) .nil))) (.cons (.leaf (.slc 54 (.cons (.int .u64) (.cons (.int .u64) (.cons (.int .u64) .nil))))) (.cons (.leaf (.int .i64)) .nil))))))))))))))) .nil)
def mem_ref18_May : MSk := []
def outs_ref18_May : List OutC := [⟨(.leaf .bool), []⟩]
abbrev A_ref18_May : Type := ((Int × List Int × Int × Int × Int × Int × (List (Int × Int × ByteArray)) × ByteArray × Int × Int × Int × List Int × (List (Int × Int × Int)) × Int × Unit) × Unit)
abbrev M_ref18_May : Type := Unit
abbrev O_ref18_May : Type := Bool × Unit
def tree_ref18_May (F_ref15_May : A_ref15_May → M_ref15_May → Option O_ref15_May) (F_ref15_Last : A_ref15_Last → M_ref15_Last → Option O_ref15_Last) (F_ref18_peers : A_ref18_peers → M_ref18_peers → Option O_ref18_peers) {α : Type} (x1 : Int) (x2 : List Int) (x3 : Int) (x4 : Int) (x5 : Int) (x6 : Int) (x7 : List (Int × Int × ByteArray)) (x8 : ByteArray) (x9 : Int) (x10 : Int) (x11 : Int) (x12 : List Int) (x13 : List (Int × Int × Int)) (x14 : Int) (K : O_ref18_May → Option α) : Option α :=
  (F_ref15_May ((x5, x6, x7, ()), ()) ()).bind fun r1 =>
  cond (r1.fst)
  (cond (decide (x11 ≥ x5))
   ((F_ref15_Last ((x5, x6, x7, ()), ()) ()).bind fun r2 =>
    cond (decide (x11 ≤ r2.fst))
    (cond (decide ((↑x13.length : Int) ≤ 20))
     (cond (decide ((↑x12.length : Int) ≤ 20))
      (cond (decide ((↑x2.length : Int) ≤ 20))
       ((F_ref18_peers ((x1, x2, x3, x4, x5, x6, x7, x8, x9, x10, x11, x12, x13, x14, ()), ()) ()).bind fun r3 =>
        K (r3.fst, ()))
       (K (false, ())))
      (K (false, ())))
     (K (false, ())))
    (K (false, ())))
   (K (false, ())))
  (K (false, ()))
noncomputable def F_ref18_May : A_ref18_May → M_ref18_May → Option O_ref18_May := fun a b => tree_ref18_May F_ref15_May F_ref15_Last F_ref18_peers a.1.1 a.1.2.1 a.1.2.2.1 a.1.2.2.2.1 a.1.2.2.2.2.1 a.1.2.2.2.2.2.1 a.1.2.2.2.2.2.2.1 a.1.2.2.2.2.2.2.2.1 a.1.2.2.2.2.2.2.2.2.1 a.1.2.2.2.2.2.2.2.2.2.1 a.1.2.2.2.2.2.2.2.2.2.2.1 a.1.2.2.2.2.2.2.2.2.2.2.2.1 a.1.2.2.2.2.2.2.2.2.2.2.2.2.1 a.1.2.2.2.2.2.2.2.2.2.2.2.2.2.1 some
theorem n_ref18_May (F_ref15_May : A_ref15_May → M_ref15_May → Option O_ref15_May) (F_ref15_Last : A_ref15_Last → M_ref15_Last → Option O_ref15_Last) (F_ref18_peers : A_ref18_peers → M_ref18_peers → Option O_ref18_peers) (x1 : Int) (x2 : List Int) (x3 : Int) (x4 : Int) (x5 : Int) (x6 : Int) (x7 : List (Int × Int × ByteArray)) (x8 : ByteArray) (x9 : Int) (x10 : Int) (x11 : Int) (x12 : List Int) (x13 : List (Int × Int × Int)) (x14 : Int) {α : Type} (K : O_ref18_May → Option α) : tree_ref18_May F_ref15_May F_ref15_Last F_ref18_peers x1 x2 x3 x4 x5 x6 x7 x8 x9 x10 x11 x12 x13 x14 K = (tree_ref18_May F_ref15_May F_ref15_Last F_ref18_peers x1 x2 x3 x4 x5 x6 x7 x8 x9 x10 x11 x12 x13 x14 some).bind K := by simp only [tree_ref18_May, bind_cond, bind_none', bind_some', bind_bind', bind_sum]
theorem Fe_ref18_May (x1 : Int) (x2 : List Int) (x3 : Int) (x4 : Int) (x5 : Int) (x6 : Int) (x7 : List (Int × Int × ByteArray)) (x8 : ByteArray) (x9 : Int) (x10 : Int) (x11 : Int) (x12 : List Int) (x13 : List (Int × Int × Int)) (x14 : Int) : F_ref18_May ((x1, (x2, (x3, (x4, (x5, (x6, (x7, (x8, (x9, (x10, (x11, (x12, (x13, (x14, ())))))))))))))), ()) () = tree_ref18_May F_ref15_May F_ref15_Last F_ref18_peers x1 x2 x3 x4 x5 x6 x7 x8 x9 x10 x11 x12 x13 x14 some := rfl
end Go.Proofs.YtgakbdikappdbaaGreat.S2
