/- Plain forms of the program's functions, by program. -/
import Derived.Test.YtgakbdikappdbaaGreatGis
set_option maxRecDepth 100000
set_option maxHeartbeats 0
set_option linter.unusedVariables false
set_option linter.unusedSimpArgs false
namespace Go.Proofs.YtgakbdikappdbaaGreat.S2
open Go
def args_ref01_Texts : SkL := (.cons (.leaf (.slc 9 (.cons .str .nil))) (.cons (.leaf (.slc 9 (.cons .str .nil))) .nil))
def mem_ref01_Texts : MSk := []
def outs_ref01_Texts : List OutC := [⟨(.leaf .bool), []⟩]
abbrev A_ref01_Texts : Type := (List ByteArray × List ByteArray × Unit)
abbrev M_ref01_Texts : Type := Unit
abbrev O_ref01_Texts : Type := Bool × Unit
def ltmps_ref01_Texts_4 : SkL := (.cons (.leaf (.slc 9 (.cons .str .nil))) (.cons (.leaf (.slc 9 (.cons .str .nil))) (dz 3 (.cons (.leaf (.int .i64)) (dz 20 .nil)))))
def lmem_ref01_Texts_4 : MSk := []
def louts_ref01_Texts_4 : List OutL := [⟨.ret, (dz 4 (.cons (.leaf .bool) (dz 21 .nil))), []⟩, ⟨(.exit 0), (dz 26 .nil), []⟩]
abbrev LT_ref01_Texts_4 : Type := (List ByteArray × List ByteArray × Int × Unit)
abbrev LM_ref01_Texts_4 : Type := Unit
abbrev LO_ref01_Texts_4 : Type := ((Bool × Unit) × Unit) ⊕ (Unit × Unit)
def ltree_ref01_Texts_4 {α : Type} (x1 : List ByteArray) (x2 : List ByteArray) (x3 : Int) (kn : LT_ref01_Texts_4 → LM_ref01_Texts_4 → Option α) (kr : LO_ref01_Texts_4 → Option α) : Option α :=
  cond (decide (x3 < (↑x1.length : Int)))
  (cond (decide (0 ≤ x3))
   (cond (decide (x3 < (↑x1.length : Int)))
    (cond (decide (0 ≤ x3))
     (cond (decide (x3 < (↑x2.length : Int)))
      (cond (!(x1.getD x3.toNat ByteArray.empty).toList == (x2.getD x3.toNat ByteArray.empty).toList)
       (kr (.inl ((false, ()), ())))
       (kn (x1, (x2, (IntKind.i64.wrap (x3 + 1), ()))) ()))
      (none))
     (none))
    (none))
   (none))
  (kr (.inr ((), ())))
noncomputable def L_ref01_Texts_4 : LT_ref01_Texts_4 → LM_ref01_Texts_4 → Option LO_ref01_Texts_4 := fun x y => runL (fun p => (fun (a : LT_ref01_Texts_4) (b : LM_ref01_Texts_4) => ltree_ref01_Texts_4 a.1 a.2.1 a.2.2.1 (fun a' b' => some (.inl (a', b'))) fun r => some (.inr r)) p.1 p.2) (x, y)
theorem nl_ref01_Texts_4 (x1 : List ByteArray) (x2 : List ByteArray) (x3 : Int) {α : Type} (kn : LT_ref01_Texts_4 → LM_ref01_Texts_4 → Option α) (kr : LO_ref01_Texts_4 → Option α) : ltree_ref01_Texts_4 x1 x2 x3 kn kr = (ltree_ref01_Texts_4 x1 x2 x3 (fun a b => some (.inl (a, b))) fun r => some (.inr r)).bind (Sum.elim (fun p : LT_ref01_Texts_4 × LM_ref01_Texts_4 => kn p.1 p.2) kr) := by simp only [ltree_ref01_Texts_4, bind_cond, bind_none', bind_some', bind_bind', bind_sum, Sum.elim_inl, Sum.elim_inr]
theorem Le_ref01_Texts_4 (x1 : List ByteArray) (x2 : List ByteArray) (x3 : Int) : L_ref01_Texts_4 (x1, (x2, (x3, ()))) () = ltree_ref01_Texts_4 x1 x2 x3 L_ref01_Texts_4 some := runL_tree (A := LT_ref01_Texts_4) (B := LM_ref01_Texts_4) (R := LO_ref01_Texts_4) (fun a b kn kr => ltree_ref01_Texts_4 a.1 a.2.1 a.2.2.1 kn kr) (fun a b kn kr => nl_ref01_Texts_4 a.1 a.2.1 a.2.2.1 kn kr) (x1, (x2, (x3, ()))) ()
def tree_ref01_Texts (L_ref01_Texts_4 : LT_ref01_Texts_4 → LM_ref01_Texts_4 → Option LO_ref01_Texts_4) {α : Type} (x1 : List ByteArray) (x2 : List ByteArray) (K : O_ref01_Texts → Option α) : Option α :=
  cond ((↑x1.length : Int) != (↑x2.length : Int))
  (K (false, ()))
  ((L_ref01_Texts_4 (x1, x2, 0, ()) ()).bind fun r1 =>
   Sum.elim (fun u2 =>
    K (u2.fst.fst, ()))
   (fun u2 =>
    K (true, ())) (r1))
noncomputable def F_ref01_Texts : A_ref01_Texts → M_ref01_Texts → Option O_ref01_Texts := fun a b => tree_ref01_Texts L_ref01_Texts_4 a.1 a.2.1 some
theorem n_ref01_Texts (L_ref01_Texts_4 : LT_ref01_Texts_4 → LM_ref01_Texts_4 → Option LO_ref01_Texts_4) (x1 : List ByteArray) (x2 : List ByteArray) {α : Type} (K : O_ref01_Texts → Option α) : tree_ref01_Texts L_ref01_Texts_4 x1 x2 K = (tree_ref01_Texts L_ref01_Texts_4 x1 x2 some).bind K := by simp only [tree_ref01_Texts, bind_cond, bind_none', bind_some', bind_bind', bind_sum]
theorem Fe_ref01_Texts (x1 : List ByteArray) (x2 : List ByteArray) : F_ref01_Texts (x1, (x2, ())) () = tree_ref01_Texts L_ref01_Texts_4 x1 x2 some := rfl
def args_ref02_Is : SkL := (.cons (.agg (.cons (.leaf (.int .i64)) (.cons (.leaf (.slc 22 (.cons (.int .u64) .nil))) (.cons (.leaf (.slc 9 (.cons .str .nil))) .nil)))) (.cons (.agg (.cons (.leaf (.int .i64)) (.cons (.leaf (.slc 22 (.cons (.int .u64) .nil))) (.cons (.leaf (.slc 9 (.cons .str .nil))) .nil)))) .nil))
def mem_ref02_Is : MSk := []
def outs_ref02_Is : List OutC := [⟨(.leaf .bool), []⟩]
abbrev A_ref02_Is : Type := ((Int × List Int × List ByteArray × Unit) × (Int × List Int × List ByteArray × Unit) × Unit)
abbrev M_ref02_Is : Type := Unit
abbrev O_ref02_Is : Type := Bool × Unit
def tree_ref02_Is (F_ref01_Nums : A_ref01_Nums → M_ref01_Nums → Option O_ref01_Nums) (F_ref01_Texts : A_ref01_Texts → M_ref01_Texts → Option O_ref01_Texts) {α : Type} (x1 : Int) (x2 : List Int) (x3 : List ByteArray) (x4 : Int) (x5 : List Int) (x6 : List ByteArray) (K : O_ref02_Is → Option α) : Option α :=
  cond (x1 == x4)
  ((F_ref01_Nums (x2, x5, ()) ()).bind fun r1 =>
   cond (r1.fst)
   ((F_ref01_Texts (x3, x6, ()) ()).bind fun r2 =>
    K (r2.fst, ()))
   (K (false, ())))
  (K (false, ()))
noncomputable def F_ref02_Is : A_ref02_Is → M_ref02_Is → Option O_ref02_Is := fun a b => tree_ref02_Is F_ref01_Nums F_ref01_Texts a.1.1 a.1.2.1 a.1.2.2.1 a.2.1.1 a.2.1.2.1 a.2.1.2.2.1 some
theorem n_ref02_Is (F_ref01_Nums : A_ref01_Nums → M_ref01_Nums → Option O_ref01_Nums) (F_ref01_Texts : A_ref01_Texts → M_ref01_Texts → Option O_ref01_Texts) (x1 : Int) (x2 : List Int) (x3 : List ByteArray) (x4 : Int) (x5 : List Int) (x6 : List ByteArray) {α : Type} (K : O_ref02_Is → Option α) : tree_ref02_Is F_ref01_Nums F_ref01_Texts x1 x2 x3 x4 x5 x6 K = (tree_ref02_Is F_ref01_Nums F_ref01_Texts x1 x2 x3 x4 x5 x6 some).bind K := by simp only [tree_ref02_Is, bind_cond, bind_none', bind_some', bind_bind', bind_sum]
theorem Fe_ref02_Is (x1 : Int) (x2 : List Int) (x3 : List ByteArray) (x4 : Int) (x5 : List Int) (x6 : List ByteArray) : F_ref02_Is ((x1, (x2, (x3, ()))), ((x4, (x5, (x6, ()))), ())) () = tree_ref02_Is F_ref01_Nums F_ref01_Texts x1 x2 x3 x4 x5 x6 some := rfl
def args_ref18_Outs : SkL := (.cons (.leaf (.slc 49 (.cons (.int .u64) (.cons (.int .i64) (.cons (.slc 22 (.cons (.int .u64) .nil)) (.cons (.slc 9 (.cons .str .nil)) .nil)))))) (.cons (.leaf (.slc 49 (.cons (.int .u64) (.cons (.int .i64) (.cons (.slc 22 (.cons (.int .u64) .nil)) (.cons (.slc 9 (.cons .str .nil)) .nil)))))) .nil))
def mem_ref18_Outs : MSk := []
def outs_ref18_Outs : List OutC := [⟨(.leaf .bool), []⟩]
abbrev A_ref18_Outs : Type := ((List (Int × Int × List Int × List ByteArray)) × (List (Int × Int × List Int × List ByteArray)) × Unit)
abbrev M_ref18_Outs : Type := Unit
abbrev O_ref18_Outs : Type := Bool × Unit
def ltmps_ref18_Outs_4 : SkL := (.cons (.leaf (.slc 49 (.cons (.int .u64) (.cons (.int .i64) (.cons (.slc 22 (.cons (.int .u64) .nil)) (.cons (.slc 9 (.cons .str .nil)) .nil)))))) (.cons (.leaf (.slc 49 (.cons (.int .u64) (.cons (.int .i64) (.cons (.slc 22 (.cons (.int .u64) .nil)) (.cons (.slc 9 (.cons .str .nil)) .nil)))))) (dz 3 (.cons (.leaf (.int .i64)) (dz 36 .nil)))))
def lmem_ref18_Outs_4 : MSk := []
def louts_ref18_Outs_4 : List OutL := [⟨.ret, (dz 4 (.cons (.leaf .bool) (dz 37 .nil))), []⟩, ⟨(.exit 0), (dz 42 .nil), []⟩]
abbrev LT_ref18_Outs_4 : Type := ((List (Int × Int × List Int × List ByteArray)) × (List (Int × Int × List Int × List ByteArray)) × Int × Unit)
abbrev LM_ref18_Outs_4 : Type := Unit
abbrev LO_ref18_Outs_4 : Type := ((Bool × Unit) × Unit) ⊕ (Unit × Unit)
def ltree_ref18_Outs_4 (F_ref02_Is : A_ref02_Is → M_ref02_Is → Option O_ref02_Is) {α : Type} (x1 : List (Int × Int × List Int × List ByteArray)) (x2 : List (Int × Int × List Int × List ByteArray)) (x3 : Int) (kn : LT_ref18_Outs_4 → LM_ref18_Outs_4 → Option α) (kr : LO_ref18_Outs_4 → Option α) : Option α :=
  cond (decide (x3 < (↑x1.length : Int)))
  (cond (decide (0 ≤ x3))
   (cond (decide (x3 < (↑x1.length : Int)))
    (cond (decide (0 ≤ x3))
     (cond (decide (x3 < (↑x2.length : Int)))
      (cond ((x1.getD x3.toNat (0, 0, [], [])).fst != (x2.getD x3.toNat (0, 0, [], [])).fst)
       (kr (.inl ((false, ()), ())))
       (cond (decide (0 ≤ x3))
        (cond (decide (x3 < (↑x1.length : Int)))
         (cond (decide (0 ≤ x3))
          (cond (decide (x3 < (↑x2.length : Int)))
           ((F_ref02_Is   (((x1.getD x3.toNat (0, 0, [], [])).snd.fst, (x1.getD x3.toNat (0, 0, [], [])).snd.snd.fst,       (x1.getD x3.toNat (0, 0, [], [])).snd.snd.snd, ()),     ((x2.getD x3.toNat (0, 0, [], [])).snd.fst, (x2.getD x3.toNat (0, 0, [], [])).snd.snd.fst,       (x2.getD x3.toNat (0, 0, [], [])).snd.snd.snd, ()),     ())   ()).bind fun r1 =>
            cond (!r1.fst)
            (kr (.inl ((false, ()), ())))
            (kn (x1, (x2, (IntKind.i64.wrap (x3 + 1), ()))) ()))
           (none))
          (none))
         (none))
        (none)))
      (none))
     (none))
    (none))
   (none))
  (kr (.inr ((), ())))
noncomputable def L_ref18_Outs_4 : LT_ref18_Outs_4 → LM_ref18_Outs_4 → Option LO_ref18_Outs_4 := fun x y => runL (fun p => (fun (a : LT_ref18_Outs_4) (b : LM_ref18_Outs_4) => ltree_ref18_Outs_4 F_ref02_Is a.1 a.2.1 a.2.2.1 (fun a' b' => some (.inl (a', b'))) fun r => some (.inr r)) p.1 p.2) (x, y)
theorem nl_ref18_Outs_4 (F_ref02_Is : A_ref02_Is → M_ref02_Is → Option O_ref02_Is) (x1 : List (Int × Int × List Int × List ByteArray)) (x2 : List (Int × Int × List Int × List ByteArray)) (x3 : Int) {α : Type} (kn : LT_ref18_Outs_4 → LM_ref18_Outs_4 → Option α) (kr : LO_ref18_Outs_4 → Option α) : ltree_ref18_Outs_4 F_ref02_Is x1 x2 x3 kn kr = (ltree_ref18_Outs_4 F_ref02_Is x1 x2 x3 (fun a b => some (.inl (a, b))) fun r => some (.inr r)).bind (Sum.elim (fun p : LT_ref18_Outs_4 × LM_ref18_Outs_4 => kn p.1 p.2) kr) := by simp only [ltree_ref18_Outs_4, bind_cond, bind_none', bind_some', bind_bind', bind_sum, Sum.elim_inl, Sum.elim_inr]
theorem Le_ref18_Outs_4 (x1 : List (Int × Int × List Int × List ByteArray)) (x2 : List (Int × Int × List Int × List ByteArray)) (x3 : Int) : L_ref18_Outs_4 (x1, (x2, (x3, ()))) () = ltree_ref18_Outs_4 F_ref02_Is x1 x2 x3 L_ref18_Outs_4 some := runL_tree (A := LT_ref18_Outs_4) (B := LM_ref18_Outs_4) (R := LO_ref18_Outs_4) (fun a b kn kr => ltree_ref18_Outs_4 F_ref02_Is a.1 a.2.1 a.2.2.1 kn kr) (fun a b kn kr => nl_ref18_Outs_4 F_ref02_Is a.1 a.2.1 a.2.2.1 kn kr) (x1, (x2, (x3, ()))) ()
def tree_ref18_Outs (L_ref18_Outs_4 : LT_ref18_Outs_4 → LM_ref18_Outs_4 → Option LO_ref18_Outs_4) {α : Type} (x1 : List (Int × Int × List Int × List ByteArray)) (x2 : List (Int × Int × List Int × List ByteArray)) (K : O_ref18_Outs → Option α) : Option α :=
  cond ((↑x1.length : Int) != (↑x2.length : Int))
  (K (false, ()))
  ((L_ref18_Outs_4 (x1, x2, 0, ()) ()).bind fun r1 =>
   Sum.elim (fun u2 =>
    K (u2.fst.fst, ()))
   (fun u2 =>
    K (true, ())) (r1))
noncomputable def F_ref18_Outs : A_ref18_Outs → M_ref18_Outs → Option O_ref18_Outs := fun a b => tree_ref18_Outs L_ref18_Outs_4 a.1 a.2.1 some
theorem n_ref18_Outs (L_ref18_Outs_4 : LT_ref18_Outs_4 → LM_ref18_Outs_4 → Option LO_ref18_Outs_4) (x1 : List (Int × Int × List Int × List ByteArray)) (x2 : List (Int × Int × List Int × List ByteArray)) {α : Type} (K : O_ref18_Outs → Option α) : tree_ref18_Outs L_ref18_Outs_4 x1 x2 K = (tree_ref18_Outs L_ref18_Outs_4 x1 x2 some).bind K := by simp only [tree_ref18_Outs, bind_cond, bind_none', bind_some', bind_bind', bind_sum]
theorem Fe_ref18_Outs (x1 : List (Int × Int × List Int × List ByteArray)) (x2 : List (Int × Int × List Int × List ByteArray)) : F_ref18_Outs (x1, (x2, ())) () = tree_ref18_Outs L_ref18_Outs_4 x1 x2 some := rfl
end Go.Proofs.YtgakbdikappdbaaGreat.S2
