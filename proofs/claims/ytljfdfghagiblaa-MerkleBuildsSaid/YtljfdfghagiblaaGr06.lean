/- Plain forms of the program's functions, by program. -/
import Derived.Test.YtljfdfghagiblaaGr03
import Derived.Test.YtljfdfghagiblaaGrwire
set_option maxRecDepth 100000
set_option maxHeartbeats 0
set_option linter.unusedVariables false
set_option linter.unusedSimpArgs false
namespace Go.Proofs.Ytljfdfghagiblaa.S2
open Go
/-! countersign/countersignref01.Nums -/
def args_ref01_Nums : SkL := (.cons (.leaf (.slc 41 (.cons (.int .u64) .nil))) (.cons (.leaf (.slc 41 (.cons (.int .u64) .nil))) .nil))
def mem_ref01_Nums : MSk := []
def outs_ref01_Nums : List OutC := [⟨(.leaf .bool), []⟩]
abbrev A_ref01_Nums : Type := (List Int × List Int × Unit)
abbrev M_ref01_Nums : Type := Unit
abbrev O_ref01_Nums : Type := Bool × Unit
def ltmps_ref01_Nums_4 : SkL := (.cons (.leaf (.slc 41 (.cons (.int .u64) .nil))) (.cons (.leaf (.slc 41 (.cons (.int .u64) .nil))) (dz 3 (.cons (.leaf (.int .i64)) (dz 20 .nil)))))
def lmem_ref01_Nums_4 : MSk := []
def louts_ref01_Nums_4 : List OutL := [⟨.ret, (dz 4 (.cons (.leaf .bool) (dz 21 .nil))), []⟩, ⟨(.exit 0), (dz 26 .nil), []⟩]
abbrev LT_ref01_Nums_4 : Type := (List Int × List Int × Int × Unit)
abbrev LM_ref01_Nums_4 : Type := Unit
abbrev LO_ref01_Nums_4 : Type := ((Bool × Unit) × Unit) ⊕ (Unit × Unit)
def ltree_ref01_Nums_4 {α : Type} (x1 : List Int) (x2 : List Int) (x3 : Int) (kn : LT_ref01_Nums_4 → LM_ref01_Nums_4 → Option α) (kr : LO_ref01_Nums_4 → Option α) : Option α :=
 cond (decide (x3 < (↑x1.length : Int)))
 (cond (decide (0 ≤ x3))
 (cond (decide (x3 < (↑x1.length : Int)))
 (cond (decide (0 ≤ x3))
 (cond (decide (x3 < (↑x2.length : Int)))
 (cond (x1.getD x3.toNat 0 != x2.getD x3.toNat 0)
 (kr (.inl ((false, ()), ())))
 (kn (x1, (x2, (IntKind.i64.wrap (x3 + 1), ()))) ()))
 (none))
 (none))
 (none))
 (none))
 (kr (.inr ((), ())))
noncomputable def L_ref01_Nums_4 : LT_ref01_Nums_4 → LM_ref01_Nums_4 → Option LO_ref01_Nums_4 := fun x y => runL (fun p => (fun (a : LT_ref01_Nums_4) (b : LM_ref01_Nums_4) => ltree_ref01_Nums_4 a.1 a.2.1 a.2.2.1 (fun a' b' => some (.inl (a', b'))) fun r => some (.inr r)) p.1 p.2) (x, y)
theorem nl_ref01_Nums_4 (x1 : List Int) (x2 : List Int) (x3 : Int) {α : Type} (kn : LT_ref01_Nums_4 → LM_ref01_Nums_4 → Option α) (kr : LO_ref01_Nums_4 → Option α) : ltree_ref01_Nums_4 x1 x2 x3 kn kr = (ltree_ref01_Nums_4 x1 x2 x3 (fun a b => some (.inl (a, b))) fun r => some (.inr r)).bind (Sum.elim (fun p : LT_ref01_Nums_4 × LM_ref01_Nums_4 => kn p.1 p.2) kr) := by simp only [ltree_ref01_Nums_4, bind_cond, bind_none', bind_some', bind_bind', bind_sum, Sum.elim_inl, Sum.elim_inr]
theorem Le_ref01_Nums_4 (x1 : List Int) (x2 : List Int) (x3 : Int) : L_ref01_Nums_4 (x1, (x2, (x3, ()))) () = ltree_ref01_Nums_4 x1 x2 x3 L_ref01_Nums_4 some := runL_tree (A := LT_ref01_Nums_4) (B := LM_ref01_Nums_4) (R := LO_ref01_Nums_4) (fun a b kn kr => ltree_ref01_Nums_4 a.1 a.2.1 a.2.2.1 kn kr) (fun a b kn kr => nl_ref01_Nums_4 a.1 a.2.1 a.2.2.1 kn kr) (x1, (x2, (x3, ()))) ()
def tree_ref01_Nums (L_ref01_Nums_4 : LT_ref01_Nums_4 → LM_ref01_Nums_4 → Option LO_ref01_Nums_4) {α : Type} (x1 : List Int) (x2 : List Int) (K : O_ref01_Nums → Option α) : Option α :=
 cond ((↑x1.length : Int) != (↑x2.length : Int))
 (K (false, ()))
 ((L_ref01_Nums_4 (x1, x2, 0, ()) ()).bind fun r1 =>
 Sum.elim (fun u2 =>
 K (u2.fst.fst, ()))
 (fun u2 =>
 K (true, ())) (r1))
noncomputable def F_ref01_Nums : A_ref01_Nums → M_ref01_Nums → Option O_ref01_Nums := fun a b => tree_ref01_Nums L_ref01_Nums_4 a.1 a.2.1 some
theorem n_ref01_Nums (L_ref01_Nums_4 : LT_ref01_Nums_4 → LM_ref01_Nums_4 → Option LO_ref01_Nums_4) (x1 : List Int) (x2 : List Int) {α : Type} (K : O_ref01_Nums → Option α) : tree_ref01_Nums L_ref01_Nums_4 x1 x2 K = (tree_ref01_Nums L_ref01_Nums_4 x1 x2 some).bind K := by simp only [tree_ref01_Nums, bind_cond, bind_none', bind_some', bind_bind', bind_sum]
theorem Fe_ref01_Nums (x1 : List Int) (x2 : List Int) : F_ref01_Nums (x1, (x2, ())) () = tree_ref01_Nums L_ref01_Nums_4 x1 x2 some := rfl

/-! countersign/countersignref06.Power -/
def args_ref06_Power : SkL := (.cons (.leaf (.int .i64)) .nil)
def mem_ref06_Power : MSk := []
def outs_ref06_Power : List OutC := [⟨(.leaf (.int .i64)), []⟩]
abbrev A_ref06_Power : Type := (Int × Unit)
abbrev M_ref06_Power : Type := Unit
abbrev O_ref06_Power : Type := Int × Unit
def ltmps_ref06_Power_3 : SkL := (.cons (.leaf (.int .i64)) (dz 2 (.cons (.leaf (.int .i64)) (.cons (.leaf (.int .i64)) (dz 8 .nil)))))
def lmem_ref06_Power_3 : MSk := []
def louts_ref06_Power_3 : List OutL := [⟨(.exit 0), (dz 3 (.cons (.leaf (.int .i64)) (dz 9 .nil))), []⟩]
abbrev LT_ref06_Power_3 : Type := (Int × Int × Int × Unit)
abbrev LM_ref06_Power_3 : Type := Unit
abbrev LO_ref06_Power_3 : Type := (Int × Unit) × Unit
def ltree_ref06_Power_3 {α : Type} (x1 : Int) (x2 : Int) (x3 : Int) (kn : LT_ref06_Power_3 → LM_ref06_Power_3 → Option α) (kr : LO_ref06_Power_3 → Option α) : Option α :=
 cond (decide (x3 < x1))
 (kn (x1, (IntKind.i64.wrap (2 * x2), (IntKind.i64.wrap (x3 + 1), ()))) ())
 (kr ((x2, ()), ()))
noncomputable def L_ref06_Power_3 : LT_ref06_Power_3 → LM_ref06_Power_3 → Option LO_ref06_Power_3 := fun x y => runL (fun p => (fun (a : LT_ref06_Power_3) (b : LM_ref06_Power_3) => ltree_ref06_Power_3 a.1 a.2.1 a.2.2.1 (fun a' b' => some (.inl (a', b'))) fun r => some (.inr r)) p.1 p.2) (x, y)
theorem nl_ref06_Power_3 (x1 : Int) (x2 : Int) (x3 : Int) {α : Type} (kn : LT_ref06_Power_3 → LM_ref06_Power_3 → Option α) (kr : LO_ref06_Power_3 → Option α) : ltree_ref06_Power_3 x1 x2 x3 kn kr = (ltree_ref06_Power_3 x1 x2 x3 (fun a b => some (.inl (a, b))) fun r => some (.inr r)).bind (Sum.elim (fun p : LT_ref06_Power_3 × LM_ref06_Power_3 => kn p.1 p.2) kr) := by simp only [ltree_ref06_Power_3, bind_cond, bind_none', bind_some', bind_bind', bind_sum, Sum.elim_inl, Sum.elim_inr]
theorem Le_ref06_Power_3 (x1 : Int) (x2 : Int) (x3 : Int) : L_ref06_Power_3 (x1, (x2, (x3, ()))) () = ltree_ref06_Power_3 x1 x2 x3 L_ref06_Power_3 some := runL_tree (A := LT_ref06_Power_3) (B := LM_ref06_Power_3) (R := LO_ref06_Power_3) (fun a b kn kr => ltree_ref06_Power_3 a.1 a.2.1 a.2.2.1 kn kr) (fun a b kn kr => nl_ref06_Power_3 a.1 a.2.1 a.2.2.1 kn kr) (x1, (x2, (x3, ()))) ()
def tree_ref06_Power (L_ref06_Power_3 : LT_ref06_Power_3 → LM_ref06_Power_3 → Option LO_ref06_Power_3) {α : Type} (x1 : Int) (K : O_ref06_Power → Option α) : Option α :=
 (L_ref06_Power_3 (x1, 1, 0, ()) ()).bind fun r1 =>
 K (r1.fst.fst, ())
noncomputable def F_ref06_Power : A_ref06_Power → M_ref06_Power → Option O_ref06_Power := fun a b => tree_ref06_Power L_ref06_Power_3 a.1 some
theorem n_ref06_Power (L_ref06_Power_3 : LT_ref06_Power_3 → LM_ref06_Power_3 → Option LO_ref06_Power_3) (x1 : Int) {α : Type} (K : O_ref06_Power → Option α) : tree_ref06_Power L_ref06_Power_3 x1 K = (tree_ref06_Power L_ref06_Power_3 x1 some).bind K := by simp only [tree_ref06_Power, bind_cond, bind_none', bind_some', bind_bind', bind_sum]
theorem Fe_ref06_Power (x1 : Int) : F_ref06_Power (x1, ()) () = tree_ref06_Power L_ref06_Power_3 x1 some := rfl

/-! countersign/countersignref06.Leaf -/
def args_ref06_Leaf : SkL := (.cons (.const (.ptr 0 0 0)) (.cons (.leaf .str) .nil))
def mem_ref06_Leaf : MSk := [(0, .cells (.cons (.const (.slw 1)) (.cons (.const (.slw 2)) (.cons (.const (.slw 3)) (.cons (.leaf (.int .i64)) .nil))))), (1, .row 41 (.cons (.int .u64) .nil)), (2, .row 153 (.cons (.int .i64) (.cons (.int .u64) (.cons (.int .u64) (.cons .str (.cons .str (.cons (.int .u64) .nil))))))), (3, .row 41 (.cons (.int .u64) .nil))]
def outs_ref06_Leaf : List OutC := [⟨(.leaf (.int .u64)), [(0, .cells (.cons (.const (.slw 1)) (.cons (.const (.slw 4)) (.cons (.const (.slw 3)) (.cons (.leaf (.int .i64)) .nil))))), (1, .row 41 (.cons (.int .u64) .nil)), (2, .gone), (3, .row 41 (.cons (.int .u64) .nil)), (4, .row 153 (.cons (.int .i64) (.cons (.int .u64) (.cons (.int .u64) (.cons .str (.cons .str (.cons (.int .u64) .nil)))))))]⟩]
abbrev A_ref06_Leaf : Type := (ByteArray × Unit)
abbrev M_ref06_Leaf : Type := ((Int × Unit) × List Int × (List (Int × Int × Int × ByteArray × ByteArray × Int)) × List Int × Unit)
abbrev O_ref06_Leaf : Type := Int × ((Int × Unit) × List Int × Unit × List Int × (List (Int × Int × Int × ByteArray × ByteArray × Int)) × Unit)
def tree_ref06_Leaf (F_ref03_Oracle_Hash : A_ref03_Oracle_Hash → M_ref03_Oracle_Hash → Option O_ref03_Oracle_Hash) {α : Type} (x1 : ByteArray) (x2 : Int) (x3 : List Int) (x4 : List (Int × Int × Int × ByteArray × ByteArray × Int)) (x5 : List Int) (K : O_ref06_Leaf → Option α) : Option α :=
 cond (decide (4 + x1.size ≤ 9223372036854775807))
 ((F_ref03_Oracle_Hash ((ByteArray.mk #[108, 101, 97, 102]) ++ x1, ()) ((x2, ()), x3, x4, x5, ())).bind fun r1 =>
 K (r1.fst, ((r1.snd.fst.fst, ()), (r1.snd.snd.fst, ((), (r1.snd.snd.snd.snd.fst, (r1.snd.snd.snd.snd.snd.fst, ())))))))
 (none)
noncomputable def F_ref06_Leaf : A_ref06_Leaf → M_ref06_Leaf → Option O_ref06_Leaf := fun a b => tree_ref06_Leaf F_ref03_Oracle_Hash a.1 b.1.1 b.2.1 b.2.2.1 b.2.2.2.1 some
theorem n_ref06_Leaf (F_ref03_Oracle_Hash : A_ref03_Oracle_Hash → M_ref03_Oracle_Hash → Option O_ref03_Oracle_Hash) (x1 : ByteArray) (x2 : Int) (x3 : List Int) (x4 : List (Int × Int × Int × ByteArray × ByteArray × Int)) (x5 : List Int) {α : Type} (K : O_ref06_Leaf → Option α) : tree_ref06_Leaf F_ref03_Oracle_Hash x1 x2 x3 x4 x5 K = (tree_ref06_Leaf F_ref03_Oracle_Hash x1 x2 x3 x4 x5 some).bind K := by simp only [tree_ref06_Leaf, bind_cond, bind_none', bind_some', bind_bind', bind_sum]
theorem Fe_ref06_Leaf (x1 : ByteArray) (x2 : Int) (x3 : List Int) (x4 : List (Int × Int × Int × ByteArray × ByteArray × Int)) (x5 : List Int) : F_ref06_Leaf (x1, ()) ((x2, ()), (x3, (x4, (x5, ())))) = tree_ref06_Leaf F_ref03_Oracle_Hash x1 x2 x3 x4 x5 some := rfl

/-! countersign/countersignref06.Node -/
def args_ref06_Node : SkL := (.cons (.const (.ptr 0 0 0)) (.cons (.leaf (.int .u64)) (.cons (.leaf (.int .u64)) .nil)))
def mem_ref06_Node : MSk := [(0, .cells (.cons (.const (.slw 1)) (.cons (.const (.slw 2)) (.cons (.const (.slw 3)) (.cons (.leaf (.int .i64)) .nil))))), (1, .row 41 (.cons (.int .u64) .nil)), (2, .row 153 (.cons (.int .i64) (.cons (.int .u64) (.cons (.int .u64) (.cons .str (.cons .str (.cons (.int .u64) .nil))))))), (3, .row 41 (.cons (.int .u64) .nil))]
def outs_ref06_Node : List OutC := [⟨(.leaf (.int .u64)), [(0, .cells (.cons (.const (.slw 1)) (.cons (.const (.slw 4)) (.cons (.const (.slw 3)) (.cons (.leaf (.int .i64)) .nil))))), (1, .row 41 (.cons (.int .u64) .nil)), (2, .gone), (3, .row 41 (.cons (.int .u64) .nil)), (4, .row 153 (.cons (.int .i64) (.cons (.int .u64) (.cons (.int .u64) (.cons .str (.cons .str (.cons (.int .u64) .nil)))))))]⟩]
abbrev A_ref06_Node : Type := (Int × Int × Unit)
abbrev M_ref06_Node : Type := ((Int × Unit) × List Int × (List (Int × Int × Int × ByteArray × ByteArray × Int)) × List Int × Unit)
abbrev O_ref06_Node : Type := Int × ((Int × Unit) × List Int × Unit × List Int × (List (Int × Int × Int × ByteArray × ByteArray × Int)) × Unit)
def tree_ref06_Node (F_ref01_PutUint : A_ref01_PutUint → M_ref01_PutUint → Option O_ref01_PutUint) (F_ref03_Oracle_Hash : A_ref03_Oracle_Hash → M_ref03_Oracle_Hash → Option O_ref03_Oracle_Hash) {α : Type} (x1 : Int) (x2 : Int) (x3 : Int) (x4 : List Int) (x5 : List (Int × Int × Int × ByteArray × ByteArray × Int)) (x6 : List Int) (K : O_ref06_Node → Option α) : Option α :=
 (F_ref01_PutUint (x1, ()) ()).bind fun r1 =>
 cond (decide (4 + r1.fst.size ≤ 9223372036854775807))
 ((F_ref01_PutUint (x2, ()) ()).bind fun r2 =>
 cond (decide (((ByteArray.mk #[110, 111, 100, 101]) ++ r1.fst).size + r2.fst.size ≤ 9223372036854775807))
 ((F_ref03_Oracle_Hash ((ByteArray.mk #[110, 111, 100, 101]) ++ r1.fst ++ r2.fst, ()) ((x3, ()), x4, x5, x6, ())).bind fun r3 =>
 K (r3.fst, ((r3.snd.fst.fst, ()), (r3.snd.snd.fst, ((), (r3.snd.snd.snd.snd.fst, (r3.snd.snd.snd.snd.snd.fst, ())))))))
 (none))
 (none)
noncomputable def F_ref06_Node : A_ref06_Node → M_ref06_Node → Option O_ref06_Node := fun a b => tree_ref06_Node F_ref01_PutUint F_ref03_Oracle_Hash a.1 a.2.1 b.1.1 b.2.1 b.2.2.1 b.2.2.2.1 some
theorem n_ref06_Node (F_ref01_PutUint : A_ref01_PutUint → M_ref01_PutUint → Option O_ref01_PutUint) (F_ref03_Oracle_Hash : A_ref03_Oracle_Hash → M_ref03_Oracle_Hash → Option O_ref03_Oracle_Hash) (x1 : Int) (x2 : Int) (x3 : Int) (x4 : List Int) (x5 : List (Int × Int × Int × ByteArray × ByteArray × Int)) (x6 : List Int) {α : Type} (K : O_ref06_Node → Option α) : tree_ref06_Node F_ref01_PutUint F_ref03_Oracle_Hash x1 x2 x3 x4 x5 x6 K = (tree_ref06_Node F_ref01_PutUint F_ref03_Oracle_Hash x1 x2 x3 x4 x5 x6 some).bind K := by simp only [tree_ref06_Node, bind_cond, bind_none', bind_some', bind_bind', bind_sum]
theorem Fe_ref06_Node (x1 : Int) (x2 : Int) (x3 : Int) (x4 : List Int) (x5 : List (Int × Int × Int × ByteArray × ByteArray × Int)) (x6 : List Int) : F_ref06_Node (x1, (x2, ())) ((x3, ()), (x4, (x5, (x6, ())))) = tree_ref06_Node F_ref01_PutUint F_ref03_Oracle_Hash x1 x2 x3 x4 x5 x6 some := rfl

/-! countersign/countersignref06.Build -/
def args_ref06_Build : SkL := (.cons (.const (.ptr 0 0 0)) (.cons (.leaf (.int .i64)) (.cons (.leaf (.slc 9 (.cons .str .nil))) .nil)))
def mem_ref06_Build : MSk := [(0, .cells (.cons (.const (.slw 1)) (.cons (.const (.slw 2)) (.cons (.const (.slw 3)) (.cons (.leaf (.int .i64)) .nil))))), (1, .row 41 (.cons (.int .u64) .nil)), (2, .row 153 (.cons (.int .i64) (.cons (.int .u64) (.cons (.int .u64) (.cons .str (.cons .str (.cons (.int .u64) .nil))))))), (3, .row 41 (.cons (.int .u64) .nil))]
def outs_ref06_Build : List OutC := [⟨(.tup (.cons (.leaf (.slc 22 (.cons (.slc 41 (.cons (.int .u64) .nil)) .nil))) (.cons (.leaf .bool) .nil))), [(0, .cells (.cons (.const (.slw 1)) (.cons (.const (.slw 4)) (.cons (.const (.slw 3)) (.cons (.leaf (.int .i64)) .nil))))), (1, .row 41 (.cons (.int .u64) .nil)), (2, .gone), (3, .row 41 (.cons (.int .u64) .nil)), (4, .row 153 (.cons (.int .i64) (.cons (.int .u64) (.cons (.int .u64) (.cons .str (.cons .str (.cons (.int .u64) .nil)))))))]⟩]
abbrev A_ref06_Build : Type := (Int × List ByteArray × Unit)
abbrev M_ref06_Build : Type := ((Int × Unit) × List Int × (List (Int × Int × Int × ByteArray × ByteArray × Int)) × List Int × Unit)
abbrev O_ref06_Build : Type := (List (List Int) × Bool × Unit) × ((Int × Unit) × List Int × Unit × List Int × (List (Int × Int × Int × ByteArray × ByteArray × Int)) × Unit)
def ltmps_ref06_Build_5 : SkL := (.cons (.const (.ptr 0 0 0)) (.cons (.leaf (.int .i64)) (.cons (.leaf (.slc 9 (.cons .str .nil))) (dz 5 (.cons (.const (.slw 508)) (.cons (.leaf (.int .i64)) (dz 73 .nil)))))))
def lmem_ref06_Build_5 : MSk := [(0, .cells (.cons (.const (.slw 1)) (.cons (.const (.slw 600)) (.cons (.const (.slw 3)) (.cons (.leaf (.int .i64)) .nil))))), (1, .row 41 (.cons (.int .u64) .nil)), (2, .gone), (3, .row 41 (.cons (.int .u64) .nil)), (508, .row 41 (.cons (.int .u64) .nil)), (600, .row 153 (.cons (.int .i64) (.cons (.int .u64) (.cons (.int .u64) (.cons .str (.cons .str (.cons (.int .u64) .nil)))))))]
def louts_ref06_Build_5 : List OutL := [⟨(.exit 0), (.cons (.const (.ptr 0 0 0)) (dz 7 (.cons (.const (.slw 508)) (dz 74 .nil)))), [(0, .cells (.cons (.const (.slw 1)) (.cons (.const (.slw 600)) (.cons (.const (.slw 3)) (.cons (.leaf (.int .i64)) .nil))))), (1, .row 41 (.cons (.int .u64) .nil)), (2, .gone), (3, .row 41 (.cons (.int .u64) .nil)), (508, .row 41 (.cons (.int .u64) .nil)), (600, .row 153 (.cons (.int .i64) (.cons (.int .u64) (.cons (.int .u64) (.cons .str (.cons .str (.cons (.int .u64) .nil)))))))]⟩]
abbrev LT_ref06_Build_5 : Type := (Int × List ByteArray × Int × Unit)
abbrev LM_ref06_Build_5 : Type := ((Int × Unit) × List Int × Unit × List Int × List Int × (List (Int × Int × Int × ByteArray × ByteArray × Int)) × Unit)
abbrev LO_ref06_Build_5 : Type := Unit × ((Int × Unit) × List Int × Unit × List Int × List Int × (List (Int × Int × Int × ByteArray × ByteArray × Int)) × Unit)
def ltree_ref06_Build_5 (F_ref06_Power : A_ref06_Power → M_ref06_Power → Option O_ref06_Power) (F_ref06_Leaf : A_ref06_Leaf → M_ref06_Leaf → Option O_ref06_Leaf) {α : Type} (x1 : Int) (x2 : List ByteArray) (x3 : Int) (x4 : Int) (x5 : List Int) (x6 : List Int) (x7 : List Int) (x8 : List (Int × Int × Int × ByteArray × ByteArray × Int)) (kn : LT_ref06_Build_5 → LM_ref06_Build_5 → Option α) (kr : LO_ref06_Build_5 → Option α) : Option α :=
 (F_ref06_Power (x1, ()) ()).bind fun r1 =>
 cond (decide (x3 < r1.fst))
 (cond (decide (x3 < (↑x2.length : Int)))
 (cond (decide (0 ≤ x3))
 (cond (decide (x3 < (↑x2.length : Int)))
 ((F_ref06_Leaf (x2.getD x3.toNat ByteArray.empty, ()) ((x4, ()), x5, x8, x6, ())).bind fun r2 =>
 cond (decide ((x7.length + 1) * 8 ≤ 140737488355328))
 (kn (x1, (x2, (IntKind.i64.wrap (x3 + 1), ()))) ((r2.snd.fst.fst, ()), (r2.snd.snd.fst, ((), (r2.snd.snd.snd.snd.fst, (x7 ++ ([] ++ [r2.fst]), (r2.snd.snd.snd.snd.snd.fst, ())))))))
 (none))
 (none))
 (none))
 ((F_ref06_Leaf (ByteArray.empty, ()) ((x4, ()), x5, x8, x6, ())).bind fun r3 =>
 cond (decide ((x7.length + 1) * 8 ≤ 140737488355328))
 (kn (x1, (x2, (IntKind.i64.wrap (x3 + 1), ()))) ((r3.snd.fst.fst, ()), (r3.snd.snd.fst, ((), (r3.snd.snd.snd.snd.fst, (x7 ++ ([] ++ [r3.fst]), (r3.snd.snd.snd.snd.snd.fst, ())))))))
 (none)))
 (kr ((), ((x4, ()), (x5, ((), (x6, (x7, (x8, ()))))))))
noncomputable def L_ref06_Build_5 : LT_ref06_Build_5 → LM_ref06_Build_5 → Option LO_ref06_Build_5 := fun x y => runL (fun p => (fun (a : LT_ref06_Build_5) (b : LM_ref06_Build_5) => ltree_ref06_Build_5 F_ref06_Power F_ref06_Leaf a.1 a.2.1 a.2.2.1 b.1.1 b.2.1 b.2.2.2.1 b.2.2.2.2.1 b.2.2.2.2.2.1 (fun a' b' => some (.inl (a', b'))) fun r => some (.inr r)) p.1 p.2) (x, y)
theorem nl_ref06_Build_5 (F_ref06_Power : A_ref06_Power → M_ref06_Power → Option O_ref06_Power) (F_ref06_Leaf : A_ref06_Leaf → M_ref06_Leaf → Option O_ref06_Leaf) (x1 : Int) (x2 : List ByteArray) (x3 : Int) (x4 : Int) (x5 : List Int) (x6 : List Int) (x7 : List Int) (x8 : List (Int × Int × Int × ByteArray × ByteArray × Int)) {α : Type} (kn : LT_ref06_Build_5 → LM_ref06_Build_5 → Option α) (kr : LO_ref06_Build_5 → Option α) : ltree_ref06_Build_5 F_ref06_Power F_ref06_Leaf x1 x2 x3 x4 x5 x6 x7 x8 kn kr = (ltree_ref06_Build_5 F_ref06_Power F_ref06_Leaf x1 x2 x3 x4 x5 x6 x7 x8 (fun a b => some (.inl (a, b))) fun r => some (.inr r)).bind (Sum.elim (fun p : LT_ref06_Build_5 × LM_ref06_Build_5 => kn p.1 p.2) kr) := by simp only [ltree_ref06_Build_5, bind_cond, bind_none', bind_some', bind_bind', bind_sum, Sum.elim_inl, Sum.elim_inr]
theorem Le_ref06_Build_5 (x1 : Int) (x2 : List ByteArray) (x3 : Int) (x4 : Int) (x5 : List Int) (x6 : List Int) (x7 : List Int) (x8 : List (Int × Int × Int × ByteArray × ByteArray × Int)) : L_ref06_Build_5 (x1, (x2, (x3, ()))) ((x4, ()), (x5, ((), (x6, (x7, (x8, ())))))) = ltree_ref06_Build_5 F_ref06_Power F_ref06_Leaf x1 x2 x3 x4 x5 x6 x7 x8 L_ref06_Build_5 some := runL_tree (A := LT_ref06_Build_5) (B := LM_ref06_Build_5) (R := LO_ref06_Build_5) (fun a b kn kr => ltree_ref06_Build_5 F_ref06_Power F_ref06_Leaf a.1 a.2.1 a.2.2.1 b.1.1 b.2.1 b.2.2.2.1 b.2.2.2.2.1 b.2.2.2.2.2.1 kn kr) (fun a b kn kr => nl_ref06_Build_5 F_ref06_Power F_ref06_Leaf a.1 a.2.1 a.2.2.1 b.1.1 b.2.1 b.2.2.2.1 b.2.2.2.2.1 b.2.2.2.2.2.1 kn kr) (x1, (x2, (x3, ()))) ((x4, ()), (x5, ((), (x6, (x7, (x8, ()))))))
def ltmps_ref06_Build_14 : SkL := (.cons (.const (.ptr 0 0 0)) (dz 7 (.cons (.leaf (.slc 41 (.cons (.int .u64) .nil))) (.cons (.const .dead) (.cons (.const (.slw 510)) (.cons (.const (.slw 511)) (.cons (.leaf (.int .i64)) (dz 70 .nil))))))))
def lmem_ref06_Build_14 : MSk := [(0, .cells (.cons (.const (.slw 1)) (.cons (.const (.slw 620)) (.cons (.const (.slw 3)) (.cons (.leaf (.int .i64)) .nil))))), (1, .row 41 (.cons (.int .u64) .nil)), (2, .gone), (3, .row 41 (.cons (.int .u64) .nil)), (510, .row 22 (.cons (.slc 41 (.cons (.int .u64) .nil)) .nil)), (511, .row 41 (.cons (.int .u64) .nil)), (620, .row 153 (.cons (.int .i64) (.cons (.int .u64) (.cons (.int .u64) (.cons .str (.cons .str (.cons (.int .u64) .nil)))))))]
def louts_ref06_Build_14 : List OutL := [⟨(.exit 4), (.cons (.const (.ptr 0 0 0)) (dz 9 (.cons (.const (.slw 510)) (.cons (.const (.slw 511)) (dz 71 .nil))))), [(0, .cells (.cons (.const (.slw 1)) (.cons (.const (.slw 620)) (.cons (.const (.slw 3)) (.cons (.leaf (.int .i64)) .nil))))), (1, .row 41 (.cons (.int .u64) .nil)), (2, .gone), (3, .row 41 (.cons (.int .u64) .nil)), (510, .row 22 (.cons (.slc 41 (.cons (.int .u64) .nil)) .nil)), (511, .row 41 (.cons (.int .u64) .nil)), (620, .row 153 (.cons (.int .i64) (.cons (.int .u64) (.cons (.int .u64) (.cons .str (.cons .str (.cons (.int .u64) .nil)))))))]⟩]
abbrev LT_ref06_Build_14 : Type := (List Int × Int × Unit)
abbrev LM_ref06_Build_14 : Type := ((Int × Unit) × List Int × Unit × List Int × List (List Int) × List Int × (List (Int × Int × Int × ByteArray × ByteArray × Int)) × Unit)
abbrev LO_ref06_Build_14 : Type := Unit × ((Int × Unit) × List Int × Unit × List Int × List (List Int) × List Int × (List (Int × Int × Int × ByteArray × ByteArray × Int)) × Unit)
def ltree_ref06_Build_14 (F_ref06_Node : A_ref06_Node → M_ref06_Node → Option O_ref06_Node) {α : Type} (x1 : List Int) (x2 : Int) (x3 : Int) (x4 : List Int) (x5 : List Int) (x6 : List (List Int)) (x7 : List Int) (x8 : List (Int × Int × Int × ByteArray × ByteArray × Int)) (kn : LT_ref06_Build_14 → LM_ref06_Build_14 → Option α) (kr : LO_ref06_Build_14 → Option α) : Option α :=
 cond (decide (x2 < (↑x1.length : Int)))
 (cond (decide (0 ≤ x2))
 (cond (decide (x2 < (↑x1.length : Int)))
 (cond (decide (0 ≤ IntKind.i64.wrap (x2 + 1)))
 (cond (decide (IntKind.i64.wrap (x2 + 1) < (↑x1.length : Int)))
 ((F_ref06_Node (x1.getD x2.toNat 0, x1.getD (IntKind.i64.wrap (x2 + 1)).toNat 0, ()) ((x3, ()), x4, x8, x5, ())).bind fun r1 =>
 cond (decide ((x7.length + 1) * 8 ≤ 140737488355328))
 (kn (x1, (IntKind.i64.wrap (x2 + 2), ())) ((r1.snd.fst.fst, ()), (r1.snd.snd.fst, ((), (r1.snd.snd.snd.snd.fst, (x6, (x7 ++ ([] ++ [r1.fst]), (r1.snd.snd.snd.snd.snd.fst, ()))))))))
 (none))
 (none))
 (none))
 (none))
 (none))
 (kr ((), ((x3, ()), (x4, ((), (x5, (x6, (x7, (x8, ())))))))))
noncomputable def L_ref06_Build_14 : LT_ref06_Build_14 → LM_ref06_Build_14 → Option LO_ref06_Build_14 := fun x y => runL (fun p => (fun (a : LT_ref06_Build_14) (b : LM_ref06_Build_14) => ltree_ref06_Build_14 F_ref06_Node a.1 a.2.1 b.1.1 b.2.1 b.2.2.2.1 b.2.2.2.2.1 b.2.2.2.2.2.1 b.2.2.2.2.2.2.1 (fun a' b' => some (.inl (a', b'))) fun r => some (.inr r)) p.1 p.2) (x, y)
theorem nl_ref06_Build_14 (F_ref06_Node : A_ref06_Node → M_ref06_Node → Option O_ref06_Node) (x1 : List Int) (x2 : Int) (x3 : Int) (x4 : List Int) (x5 : List Int) (x6 : List (List Int)) (x7 : List Int) (x8 : List (Int × Int × Int × ByteArray × ByteArray × Int)) {α : Type} (kn : LT_ref06_Build_14 → LM_ref06_Build_14 → Option α) (kr : LO_ref06_Build_14 → Option α) : ltree_ref06_Build_14 F_ref06_Node x1 x2 x3 x4 x5 x6 x7 x8 kn kr = (ltree_ref06_Build_14 F_ref06_Node x1 x2 x3 x4 x5 x6 x7 x8 (fun a b => some (.inl (a, b))) fun r => some (.inr r)).bind (Sum.elim (fun p : LT_ref06_Build_14 × LM_ref06_Build_14 => kn p.1 p.2) kr) := by simp only [ltree_ref06_Build_14, bind_cond, bind_none', bind_some', bind_bind', bind_sum, Sum.elim_inl, Sum.elim_inr]
theorem Le_ref06_Build_14 (x1 : List Int) (x2 : Int) (x3 : Int) (x4 : List Int) (x5 : List Int) (x6 : List (List Int)) (x7 : List Int) (x8 : List (Int × Int × Int × ByteArray × ByteArray × Int)) : L_ref06_Build_14 (x1, (x2, ())) ((x3, ()), (x4, ((), (x5, (x6, (x7, (x8, ()))))))) = ltree_ref06_Build_14 F_ref06_Node x1 x2 x3 x4 x5 x6 x7 x8 L_ref06_Build_14 some := runL_tree (A := LT_ref06_Build_14) (B := LM_ref06_Build_14) (R := LO_ref06_Build_14) (fun a b kn kr => ltree_ref06_Build_14 F_ref06_Node a.1 a.2.1 b.1.1 b.2.1 b.2.2.2.1 b.2.2.2.2.1 b.2.2.2.2.2.1 b.2.2.2.2.2.2.1 kn kr) (fun a b kn kr => nl_ref06_Build_14 F_ref06_Node a.1 a.2.1 b.1.1 b.2.1 b.2.2.2.1 b.2.2.2.2.1 b.2.2.2.2.2.1 b.2.2.2.2.2.2.1 kn kr) (x1, (x2, ())) ((x3, ()), (x4, ((), (x5, (x6, (x7, (x8, ())))))))
def ltmps_ref06_Build_11 : SkL := (.cons (.const (.ptr 0 0 0)) (dz 7 (.cons (.leaf (.slc 41 (.cons (.int .u64) .nil))) (.cons (.const .dead) (.cons (.const (.slw 510)) (dz 72 .nil))))))
def lmem_ref06_Build_11 : MSk := [(0, .cells (.cons (.const (.slw 1)) (.cons (.const (.slw 640)) (.cons (.const (.slw 3)) (.cons (.leaf (.int .i64)) .nil))))), (1, .row 41 (.cons (.int .u64) .nil)), (2, .gone), (3, .row 41 (.cons (.int .u64) .nil)), (510, .row 22 (.cons (.slc 41 (.cons (.int .u64) .nil)) .nil)), (640, .row 153 (.cons (.int .i64) (.cons (.int .u64) (.cons (.int .u64) (.cons .str (.cons .str (.cons (.int .u64) .nil)))))))]
def louts_ref06_Build_11 : List OutL := [⟨(.exit 2), (dz 10 (.cons (.const (.slw 510)) (dz 72 .nil))), [(0, .cells (.cons (.const (.slw 1)) (.cons (.const (.slw 640)) (.cons (.const (.slw 3)) (.cons (.leaf (.int .i64)) .nil))))), (1, .row 41 (.cons (.int .u64) .nil)), (2, .gone), (3, .row 41 (.cons (.int .u64) .nil)), (510, .row 22 (.cons (.slc 41 (.cons (.int .u64) .nil)) .nil)), (640, .row 153 (.cons (.int .i64) (.cons (.int .u64) (.cons (.int .u64) (.cons .str (.cons .str (.cons (.int .u64) .nil)))))))]⟩]
abbrev LT_ref06_Build_11 : Type := (List Int × Unit)
abbrev LM_ref06_Build_11 : Type := ((Int × Unit) × List Int × Unit × List Int × List (List Int) × (List (Int × Int × Int × ByteArray × ByteArray × Int)) × Unit)
abbrev LO_ref06_Build_11 : Type := Unit × ((Int × Unit) × List Int × Unit × List Int × List (List Int) × (List (Int × Int × Int × ByteArray × ByteArray × Int)) × Unit)
def ltree_ref06_Build_11 (L_ref06_Build_14 : LT_ref06_Build_14 → LM_ref06_Build_14 → Option LO_ref06_Build_14) {α : Type} (x1 : List Int) (x2 : Int) (x3 : List Int) (x4 : List Int) (x5 : List (List Int)) (x6 : List (Int × Int × Int × ByteArray × ByteArray × Int)) (kn : LT_ref06_Build_11 → LM_ref06_Build_11 → Option α) (kr : LO_ref06_Build_11 → Option α) : Option α :=
 cond (decide ((↑x1.length : Int) > 1))
 ((L_ref06_Build_14 (x1, 0, ()) ((x2, ()), x3, (), x4, x5, [], x6, ())).bind fun r1 =>
 cond (decide ((r1.snd.snd.snd.snd.snd.fst.length + 1) * 24 ≤ 140737488355328))
 (kn (r1.snd.snd.snd.snd.snd.snd.fst, ()) ((r1.snd.fst.fst, ()), (r1.snd.snd.fst, ((), (r1.snd.snd.snd.snd.fst, (r1.snd.snd.snd.snd.snd.fst ++ ([] ++ [r1.snd.snd.snd.snd.snd.snd.fst]), (r1.snd.snd.snd.snd.snd.snd.snd.fst, ())))))))
 (none))
 (kr ((), ((x2, ()), (x3, ((), (x4, (x5, (x6, ()))))))))
noncomputable def L_ref06_Build_11 : LT_ref06_Build_11 → LM_ref06_Build_11 → Option LO_ref06_Build_11 := fun x y => runL (fun p => (fun (a : LT_ref06_Build_11) (b : LM_ref06_Build_11) => ltree_ref06_Build_11 L_ref06_Build_14 a.1 b.1.1 b.2.1 b.2.2.2.1 b.2.2.2.2.1 b.2.2.2.2.2.1 (fun a' b' => some (.inl (a', b'))) fun r => some (.inr r)) p.1 p.2) (x, y)
theorem nl_ref06_Build_11 (L_ref06_Build_14 : LT_ref06_Build_14 → LM_ref06_Build_14 → Option LO_ref06_Build_14) (x1 : List Int) (x2 : Int) (x3 : List Int) (x4 : List Int) (x5 : List (List Int)) (x6 : List (Int × Int × Int × ByteArray × ByteArray × Int)) {α : Type} (kn : LT_ref06_Build_11 → LM_ref06_Build_11 → Option α) (kr : LO_ref06_Build_11 → Option α) : ltree_ref06_Build_11 L_ref06_Build_14 x1 x2 x3 x4 x5 x6 kn kr = (ltree_ref06_Build_11 L_ref06_Build_14 x1 x2 x3 x4 x5 x6 (fun a b => some (.inl (a, b))) fun r => some (.inr r)).bind (Sum.elim (fun p : LT_ref06_Build_11 × LM_ref06_Build_11 => kn p.1 p.2) kr) := by simp only [ltree_ref06_Build_11, bind_cond, bind_none', bind_some', bind_bind', bind_sum, Sum.elim_inl, Sum.elim_inr]
theorem Le_ref06_Build_11 (x1 : List Int) (x2 : Int) (x3 : List Int) (x4 : List Int) (x5 : List (List Int)) (x6 : List (Int × Int × Int × ByteArray × ByteArray × Int)) : L_ref06_Build_11 (x1, ()) ((x2, ()), (x3, ((), (x4, (x5, (x6, ())))))) = ltree_ref06_Build_11 L_ref06_Build_14 x1 x2 x3 x4 x5 x6 L_ref06_Build_11 some := runL_tree (A := LT_ref06_Build_11) (B := LM_ref06_Build_11) (R := LO_ref06_Build_11) (fun a b kn kr => ltree_ref06_Build_11 L_ref06_Build_14 a.1 b.1.1 b.2.1 b.2.2.2.1 b.2.2.2.2.1 b.2.2.2.2.2.1 kn kr) (fun a b kn kr => nl_ref06_Build_11 L_ref06_Build_14 a.1 b.1.1 b.2.1 b.2.2.2.1 b.2.2.2.2.1 b.2.2.2.2.2.1 kn kr) (x1, ()) ((x2, ()), (x3, ((), (x4, (x5, (x6, ()))))))
def tree_ref06_Build (F_ref06_Power : A_ref06_Power → M_ref06_Power → Option O_ref06_Power) (L_ref06_Build_5 : LT_ref06_Build_5 → LM_ref06_Build_5 → Option LO_ref06_Build_5) (L_ref06_Build_11 : LT_ref06_Build_11 → LM_ref06_Build_11 → Option LO_ref06_Build_11) {α : Type} (x1 : Int) (x2 : List ByteArray) (x3 : Int) (x4 : List Int) (x5 : List (Int × Int × Int × ByteArray × ByteArray × Int)) (x6 : List Int) (K : O_ref06_Build → Option α) : Option α :=
 cond (decide (x1 < 0))
 (K (([], (false, ())), ((x3, ()), (x4, ((), (x6, (x5, ())))))))
 (cond (decide (x1 > 8))
 (K (([], (false, ())), ((x3, ()), (x4, ((), (x6, (x5, ())))))))
 ((F_ref06_Power (x1, ()) ()).bind fun r1 =>
 cond (decide ((↑x2.length : Int) > r1.fst))
 (K (([], (false, ())), ((x3, ()), (x4, ((), (x6, (x5, ())))))))
 ((L_ref06_Build_5 (x1, x2, 0, ()) ((x3, ()), x4, (), x6, [], x5, ())).bind fun r2 =>
 (L_ref06_Build_11 (r2.snd.snd.snd.snd.snd.fst, ()) ((r2.snd.fst.fst, ()), r2.snd.snd.fst, (), r2.snd.snd.snd.snd.fst, [] ++ [r2.snd.snd.snd.snd.snd.fst], r2.snd.snd.snd.snd.snd.snd.fst, ())).bind fun r3 =>
 K ((r3.snd.snd.snd.snd.snd.fst, (true, ())), ((r3.snd.fst.fst, ()), (r3.snd.snd.fst, ((), (r3.snd.snd.snd.snd.fst, (r3.snd.snd.snd.snd.snd.snd.fst, ())))))))))
noncomputable def F_ref06_Build : A_ref06_Build → M_ref06_Build → Option O_ref06_Build := fun a b => tree_ref06_Build F_ref06_Power L_ref06_Build_5 L_ref06_Build_11 a.1 a.2.1 b.1.1 b.2.1 b.2.2.1 b.2.2.2.1 some
theorem n_ref06_Build (F_ref06_Power : A_ref06_Power → M_ref06_Power → Option O_ref06_Power) (L_ref06_Build_5 : LT_ref06_Build_5 → LM_ref06_Build_5 → Option LO_ref06_Build_5) (L_ref06_Build_11 : LT_ref06_Build_11 → LM_ref06_Build_11 → Option LO_ref06_Build_11) (x1 : Int) (x2 : List ByteArray) (x3 : Int) (x4 : List Int) (x5 : List (Int × Int × Int × ByteArray × ByteArray × Int)) (x6 : List Int) {α : Type} (K : O_ref06_Build → Option α) : tree_ref06_Build F_ref06_Power L_ref06_Build_5 L_ref06_Build_11 x1 x2 x3 x4 x5 x6 K = (tree_ref06_Build F_ref06_Power L_ref06_Build_5 L_ref06_Build_11 x1 x2 x3 x4 x5 x6 some).bind K := by simp only [tree_ref06_Build, bind_cond, bind_none', bind_some', bind_bind', bind_sum]
theorem Fe_ref06_Build (x1 : Int) (x2 : List ByteArray) (x3 : Int) (x4 : List Int) (x5 : List (Int × Int × Int × ByteArray × ByteArray × Int)) (x6 : List Int) : F_ref06_Build (x1, (x2, ())) ((x3, ()), (x4, (x5, (x6, ())))) = tree_ref06_Build F_ref06_Power L_ref06_Build_5 L_ref06_Build_11 x1 x2 x3 x4 x5 x6 some := rfl

/-! countersign/countersignref06.Is -/
def args_ref06_Is : SkL := (.cons (.leaf (.slc 22 (.cons (.slc 41 (.cons (.int .u64) .nil)) .nil))) (.cons (.leaf (.slc 22 (.cons (.slc 41 (.cons (.int .u64) .nil)) .nil))) .nil))
def mem_ref06_Is : MSk := []
def outs_ref06_Is : List OutC := [⟨(.leaf .bool), []⟩]
abbrev A_ref06_Is : Type := (List (List Int) × List (List Int) × Unit)
abbrev M_ref06_Is : Type := Unit
abbrev O_ref06_Is : Type := Bool × Unit
def ltmps_ref06_Is_4 : SkL := (.cons (.leaf (.slc 22 (.cons (.slc 41 (.cons (.int .u64) .nil)) .nil))) (.cons (.leaf (.slc 22 (.cons (.slc 41 (.cons (.int .u64) .nil)) .nil))) (dz 3 (.cons (.leaf (.int .i64)) (dz 21 .nil)))))
def lmem_ref06_Is_4 : MSk := []
def louts_ref06_Is_4 : List OutL := [⟨.ret, (dz 4 (.cons (.leaf .bool) (dz 22 .nil))), []⟩, ⟨(.exit 0), (dz 27 .nil), []⟩]
abbrev LT_ref06_Is_4 : Type := (List (List Int) × List (List Int) × Int × Unit)
abbrev LM_ref06_Is_4 : Type := Unit
abbrev LO_ref06_Is_4 : Type := ((Bool × Unit) × Unit) ⊕ (Unit × Unit)
def ltree_ref06_Is_4 (F_ref01_Nums : A_ref01_Nums → M_ref01_Nums → Option O_ref01_Nums) {α : Type} (x1 : List (List Int)) (x2 : List (List Int)) (x3 : Int) (kn : LT_ref06_Is_4 → LM_ref06_Is_4 → Option α) (kr : LO_ref06_Is_4 → Option α) : Option α :=
 cond (decide (x3 < (↑x1.length : Int)))
 (cond (decide (0 ≤ x3))
 (cond (decide (x3 < (↑x1.length : Int)))
 (cond (decide (0 ≤ x3))
 (cond (decide (x3 < (↑x2.length : Int)))
 ((F_ref01_Nums (x1.getD x3.toNat [], x2.getD x3.toNat [], ()) ()).bind fun r1 =>
 cond (!r1.fst)
 (kr (.inl ((false, ()), ())))
 (kn (x1, (x2, (IntKind.i64.wrap (x3 + 1), ()))) ()))
 (none))
 (none))
 (none))
 (none))
 (kr (.inr ((), ())))
noncomputable def L_ref06_Is_4 : LT_ref06_Is_4 → LM_ref06_Is_4 → Option LO_ref06_Is_4 := fun x y => runL (fun p => (fun (a : LT_ref06_Is_4) (b : LM_ref06_Is_4) => ltree_ref06_Is_4 F_ref01_Nums a.1 a.2.1 a.2.2.1 (fun a' b' => some (.inl (a', b'))) fun r => some (.inr r)) p.1 p.2) (x, y)
theorem nl_ref06_Is_4 (F_ref01_Nums : A_ref01_Nums → M_ref01_Nums → Option O_ref01_Nums) (x1 : List (List Int)) (x2 : List (List Int)) (x3 : Int) {α : Type} (kn : LT_ref06_Is_4 → LM_ref06_Is_4 → Option α) (kr : LO_ref06_Is_4 → Option α) : ltree_ref06_Is_4 F_ref01_Nums x1 x2 x3 kn kr = (ltree_ref06_Is_4 F_ref01_Nums x1 x2 x3 (fun a b => some (.inl (a, b))) fun r => some (.inr r)).bind (Sum.elim (fun p : LT_ref06_Is_4 × LM_ref06_Is_4 => kn p.1 p.2) kr) := by simp only [ltree_ref06_Is_4, bind_cond, bind_none', bind_some', bind_bind', bind_sum, Sum.elim_inl, Sum.elim_inr]
theorem Le_ref06_Is_4 (x1 : List (List Int)) (x2 : List (List Int)) (x3 : Int) : L_ref06_Is_4 (x1, (x2, (x3, ()))) () = ltree_ref06_Is_4 F_ref01_Nums x1 x2 x3 L_ref06_Is_4 some := runL_tree (A := LT_ref06_Is_4) (B := LM_ref06_Is_4) (R := LO_ref06_Is_4) (fun a b kn kr => ltree_ref06_Is_4 F_ref01_Nums a.1 a.2.1 a.2.2.1 kn kr) (fun a b kn kr => nl_ref06_Is_4 F_ref01_Nums a.1 a.2.1 a.2.2.1 kn kr) (x1, (x2, (x3, ()))) ()
def tree_ref06_Is (L_ref06_Is_4 : LT_ref06_Is_4 → LM_ref06_Is_4 → Option LO_ref06_Is_4) {α : Type} (x1 : List (List Int)) (x2 : List (List Int)) (K : O_ref06_Is → Option α) : Option α :=
 cond ((↑x1.length : Int) != (↑x2.length : Int))
 (K (false, ()))
 ((L_ref06_Is_4 (x1, x2, 0, ()) ()).bind fun r1 =>
 Sum.elim (fun u2 =>
 K (u2.fst.fst, ()))
 (fun u2 =>
 K (true, ())) (r1))
noncomputable def F_ref06_Is : A_ref06_Is → M_ref06_Is → Option O_ref06_Is := fun a b => tree_ref06_Is L_ref06_Is_4 a.1 a.2.1 some
theorem n_ref06_Is (L_ref06_Is_4 : LT_ref06_Is_4 → LM_ref06_Is_4 → Option LO_ref06_Is_4) (x1 : List (List Int)) (x2 : List (List Int)) {α : Type} (K : O_ref06_Is → Option α) : tree_ref06_Is L_ref06_Is_4 x1 x2 K = (tree_ref06_Is L_ref06_Is_4 x1 x2 some).bind K := by simp only [tree_ref06_Is, bind_cond, bind_none', bind_some', bind_bind', bind_sum]
theorem Fe_ref06_Is (x1 : List (List Int)) (x2 : List (List Int)) : F_ref06_Is (x1, (x2, ())) () = tree_ref06_Is L_ref06_Is_4 x1 x2 some := rfl

end Go.Proofs.Ytljfdfghagiblaa.S2
