/- Plain forms of the program's functions, by program. -/
import Derived.Test.YtljfdfghagiblaaS2y
import Derived.Lib.Repeat
set_option maxRecDepth 100000
set_option maxHeartbeats 0
set_option linter.unusedVariables false
set_option linter.unusedSimpArgs false
namespace Go.Proofs.Ytljfdfghagiblaa.S2
open Go
/-! countersign/countersignref03.New -/
def args_ref03_New : SkL := (.cons (.leaf (.slc 41 (.cons (.int .u64) .nil))) .nil)
def mem_ref03_New : MSk := []
def outs_ref03_New : List OutC := [⟨(.const (.ptr 0 0 0)), [(0, .cells (.cons (.const (.slw 1)) (.cons (.const (.slw 2)) (.cons (.const (.slw 3)) (.cons (.leaf (.int .i64)) .nil))))), (1, .row 41 (.cons (.int .u64) .nil)), (2, .row 153 (.cons (.int .i64) (.cons (.int .u64) (.cons (.int .u64) (.cons .str (.cons .str (.cons (.int .u64) .nil))))))), (3, .row 41 (.cons (.int .u64) .nil))]⟩]
abbrev A_ref03_New : Type := (List Int × Unit)
abbrev M_ref03_New : Type := Unit
abbrev O_ref03_New : Type := Unit × ((Int × Unit) × List Int × (List (Int × Int × Int × ByteArray × ByteArray × Int)) × List Int × Unit)
def tree_ref03_New {α : Type} (x1 : List Int) (K : O_ref03_New → Option α) : Option α :=
 cond (decide ((0 + x1.length) * 8 ≤ 140737488355328))
 (K ((), ((0, ()), ([] ++ x1, ([], ([], ()))))))
 (none)
noncomputable def F_ref03_New : A_ref03_New → M_ref03_New → Option O_ref03_New := fun a b => tree_ref03_New a.1 some
theorem n_ref03_New (x1 : List Int) {α : Type} (K : O_ref03_New → Option α) : tree_ref03_New x1 K = (tree_ref03_New x1 some).bind K := by simp only [tree_ref03_New, bind_cond, bind_none', bind_some', bind_bind', bind_sum]
theorem Fe_ref03_New (x1 : List Int) : F_ref03_New (x1, ()) () = tree_ref03_New x1 some := rfl

/-! (*countersign/countersignref03.Oracle).Drawn -/
def args_ref03_Oracle_Drawn : SkL := (.cons (.const (.ptr 0 0 0)) .nil)
def mem_ref03_Oracle_Drawn : MSk := [(0, .cells (.cons (.const (.slw 1)) (.cons (.const (.slw 2)) (.cons (.const (.slw 3)) (.cons (.leaf (.int .i64)) .nil))))), (1, .row 41 (.cons (.int .u64) .nil)), (2, .row 153 (.cons (.int .i64) (.cons (.int .u64) (.cons (.int .u64) (.cons .str (.cons .str (.cons (.int .u64) .nil))))))), (3, .row 41 (.cons (.int .u64) .nil))]
def outs_ref03_Oracle_Drawn : List OutC := [⟨(.leaf (.int .i64)), []⟩]
abbrev A_ref03_Oracle_Drawn : Type := Unit
abbrev M_ref03_Oracle_Drawn : Type := ((Int × Unit) × List Int × (List (Int × Int × Int × ByteArray × ByteArray × Int)) × List Int × Unit)
abbrev O_ref03_Oracle_Drawn : Type := Int × Unit
def routs_ref03_Oracle_Drawn : List OutC := [⟨(.leaf (.int .i64)), [(0, .cells (.cons (.const (.slw 1)) (.cons (.const (.slw 2)) (.cons (.const (.slw 3)) (.cons (.leaf (.int .i64)) .nil))))), (1, .row 41 (.cons (.int .u64) .nil)), (2, .row 153 (.cons (.int .i64) (.cons (.int .u64) (.cons (.int .u64) (.cons .str (.cons .str (.cons (.int .u64) .nil))))))), (3, .row 41 (.cons (.int .u64) .nil))]⟩]
abbrev RO_ref03_Oracle_Drawn : Type := Int × ((Int × Unit) × List Int × (List (Int × Int × Int × ByteArray × ByteArray × Int)) × List Int × Unit)
def tree_ref03_Oracle_Drawn {α : Type} (x1 : Int) (x2 : List Int) (x3 : List (Int × Int × Int × ByteArray × ByteArray × Int)) (x4 : List Int) (K : RO_ref03_Oracle_Drawn → Option α) : Option α :=
 K ((↑x3.length : Int), ((x1, ()), (x2, (x3, (x4, ())))))
noncomputable def R_ref03_Oracle_Drawn : A_ref03_Oracle_Drawn → M_ref03_Oracle_Drawn → Option RO_ref03_Oracle_Drawn := fun a b => tree_ref03_Oracle_Drawn b.1.1 b.2.1 b.2.2.1 b.2.2.2.1 some
theorem reads_ref03_Oracle_Drawn (a : A_ref03_Oracle_Drawn) (b : M_ref03_Oracle_Drawn) : Leaf (fun r : RO_ref03_Oracle_Drawn => r.2 = b) (R_ref03_Oracle_Drawn a b) := by
 show Leaf _ (tree_ref03_Oracle_Drawn b.1.1 b.2.1 b.2.2.1 b.2.2.2.1 some)
 unfold tree_ref03_Oracle_Drawn
 repeat (first | (with_reducible refine leaf_bind fun _ => ?_) | (with_reducible apply leaf_cond) | (with_reducible refine leaf_sum (fun _ => ?_) (fun _ => ?_)) | (with_reducible exact leaf_none) | exact leaf_some rfl)
noncomputable def F_ref03_Oracle_Drawn : A_ref03_Oracle_Drawn → M_ref03_Oracle_Drawn → Option O_ref03_Oracle_Drawn := fun a b => (R_ref03_Oracle_Drawn a b).map fun r => (r.1, ())
theorem n_ref03_Oracle_Drawn (x1 : Int) (x2 : List Int) (x3 : List (Int × Int × Int × ByteArray × ByteArray × Int)) (x4 : List Int) {α : Type} (K : RO_ref03_Oracle_Drawn → Option α) : tree_ref03_Oracle_Drawn x1 x2 x3 x4 K = (tree_ref03_Oracle_Drawn x1 x2 x3 x4 some).bind K := by simp only [tree_ref03_Oracle_Drawn, bind_cond, bind_none', bind_some', bind_bind', bind_sum]
theorem Fe_ref03_Oracle_Drawn (x1 : Int) (x2 : List Int) (x3 : List (Int × Int × Int × ByteArray × ByteArray × Int)) (x4 : List Int) : F_ref03_Oracle_Drawn () ((x1, ()), (x2, (x3, (x4, ())))) = (tree_ref03_Oracle_Drawn x1 x2 x3 x4 some).map fun r => (r.1, ()) := rfl

/-! (*countersign/countersignref03.Oracle).Bad -/
def args_ref03_Oracle_Bad : SkL := (.cons (.const (.ptr 0 0 0)) .nil)
def mem_ref03_Oracle_Bad : MSk := [(0, .cells (.cons (.const (.slw 1)) (.cons (.const (.slw 2)) (.cons (.const (.slw 3)) (.cons (.leaf (.int .i64)) .nil))))), (1, .row 41 (.cons (.int .u64) .nil)), (2, .row 153 (.cons (.int .i64) (.cons (.int .u64) (.cons (.int .u64) (.cons .str (.cons .str (.cons (.int .u64) .nil))))))), (3, .row 41 (.cons (.int .u64) .nil))]
def outs_ref03_Oracle_Bad : List OutC := [⟨(.leaf .bool), []⟩]
abbrev A_ref03_Oracle_Bad : Type := Unit
abbrev M_ref03_Oracle_Bad : Type := ((Int × Unit) × List Int × (List (Int × Int × Int × ByteArray × ByteArray × Int)) × List Int × Unit)
abbrev O_ref03_Oracle_Bad : Type := Bool × Unit
def routs_ref03_Oracle_Bad : List OutC := [⟨(.leaf .bool), [(0, .cells (.cons (.const (.slw 1)) (.cons (.const (.slw 2)) (.cons (.const (.slw 3)) (.cons (.leaf (.int .i64)) .nil))))), (1, .row 41 (.cons (.int .u64) .nil)), (2, .row 153 (.cons (.int .i64) (.cons (.int .u64) (.cons (.int .u64) (.cons .str (.cons .str (.cons (.int .u64) .nil))))))), (3, .row 41 (.cons (.int .u64) .nil))]⟩]
abbrev RO_ref03_Oracle_Bad : Type := Bool × ((Int × Unit) × List Int × (List (Int × Int × Int × ByteArray × ByteArray × Int)) × List Int × Unit)
def tree_ref03_Oracle_Bad {α : Type} (x1 : Int) (x2 : List Int) (x3 : List (Int × Int × Int × ByteArray × ByteArray × Int)) (x4 : List Int) (K : RO_ref03_Oracle_Bad → Option α) : Option α :=
 K (decide (x1 > 0), ((x1, ()), (x2, (x3, (x4, ())))))
noncomputable def R_ref03_Oracle_Bad : A_ref03_Oracle_Bad → M_ref03_Oracle_Bad → Option RO_ref03_Oracle_Bad := fun a b => tree_ref03_Oracle_Bad b.1.1 b.2.1 b.2.2.1 b.2.2.2.1 some
theorem reads_ref03_Oracle_Bad (a : A_ref03_Oracle_Bad) (b : M_ref03_Oracle_Bad) : Leaf (fun r : RO_ref03_Oracle_Bad => r.2 = b) (R_ref03_Oracle_Bad a b) := by
 show Leaf _ (tree_ref03_Oracle_Bad b.1.1 b.2.1 b.2.2.1 b.2.2.2.1 some)
 unfold tree_ref03_Oracle_Bad
 repeat (first | (with_reducible refine leaf_bind fun _ => ?_) | (with_reducible apply leaf_cond) | (with_reducible refine leaf_sum (fun _ => ?_) (fun _ => ?_)) | (with_reducible exact leaf_none) | exact leaf_some rfl)
noncomputable def F_ref03_Oracle_Bad : A_ref03_Oracle_Bad → M_ref03_Oracle_Bad → Option O_ref03_Oracle_Bad := fun a b => (R_ref03_Oracle_Bad a b).map fun r => (r.1, ())
theorem n_ref03_Oracle_Bad (x1 : Int) (x2 : List Int) (x3 : List (Int × Int × Int × ByteArray × ByteArray × Int)) (x4 : List Int) {α : Type} (K : RO_ref03_Oracle_Bad → Option α) : tree_ref03_Oracle_Bad x1 x2 x3 x4 K = (tree_ref03_Oracle_Bad x1 x2 x3 x4 some).bind K := by simp only [tree_ref03_Oracle_Bad, bind_cond, bind_none', bind_some', bind_bind', bind_sum]
theorem Fe_ref03_Oracle_Bad (x1 : Int) (x2 : List Int) (x3 : List (Int × Int × Int × ByteArray × ByteArray × Int)) (x4 : List Int) : F_ref03_Oracle_Bad () ((x1, ()), (x2, (x3, (x4, ())))) = (tree_ref03_Oracle_Bad x1 x2 x3 x4 some).map fun r => (r.1, ()) := rfl

/-! (*countersign/countersignref03.Oracle).Issued -/
def args_ref03_Oracle_Issued : SkL := (.cons (.const (.ptr 0 0 0)) (.cons (.leaf (.int .u64)) .nil))
def mem_ref03_Oracle_Issued : MSk := [(0, .cells (.cons (.const (.slw 1)) (.cons (.const (.slw 2)) (.cons (.const (.slw 3)) (.cons (.leaf (.int .i64)) .nil))))), (1, .row 41 (.cons (.int .u64) .nil)), (2, .row 153 (.cons (.int .i64) (.cons (.int .u64) (.cons (.int .u64) (.cons .str (.cons .str (.cons (.int .u64) .nil))))))), (3, .row 41 (.cons (.int .u64) .nil))]
def outs_ref03_Oracle_Issued : List OutC := [⟨(.leaf .bool), []⟩]
abbrev A_ref03_Oracle_Issued : Type := (Int × Unit)
abbrev M_ref03_Oracle_Issued : Type := ((Int × Unit) × List Int × (List (Int × Int × Int × ByteArray × ByteArray × Int)) × List Int × Unit)
abbrev O_ref03_Oracle_Issued : Type := Bool × Unit
def ltmps_ref03_Oracle_Issued_2 : SkL := (.cons (.const (.ptr 0 0 0)) (.cons (.leaf (.int .u64)) (dz 3 (.cons (.leaf (.int .i64)) (dz 19 .nil)))))
def lmem_ref03_Oracle_Issued_2 : MSk := [(0, .cells (.cons (.const (.slw 1)) (.cons (.const (.slw 2)) (.cons (.const (.slw 3)) (.cons (.leaf (.int .i64)) .nil))))), (1, .row 41 (.cons (.int .u64) .nil)), (2, .row 153 (.cons (.int .i64) (.cons (.int .u64) (.cons (.int .u64) (.cons .str (.cons .str (.cons (.int .u64) .nil))))))), (3, .row 41 (.cons (.int .u64) .nil))]
def louts_ref03_Oracle_Issued_2 : List OutL := [⟨.ret, (dz 4 (.cons (.leaf .bool) (dz 20 .nil))), [(0, .cells (.cons (.const (.slw 1)) (.cons (.const (.slw 2)) (.cons (.const (.slw 3)) (.cons (.leaf (.int .i64)) .nil))))), (1, .row 41 (.cons (.int .u64) .nil)), (2, .row 153 (.cons (.int .i64) (.cons (.int .u64) (.cons (.int .u64) (.cons .str (.cons .str (.cons (.int .u64) .nil))))))), (3, .row 41 (.cons (.int .u64) .nil))]⟩, ⟨(.exit 0), (dz 25 .nil), [(0, .cells (.cons (.const (.slw 1)) (.cons (.const (.slw 2)) (.cons (.const (.slw 3)) (.cons (.leaf (.int .i64)) .nil))))), (1, .row 41 (.cons (.int .u64) .nil)), (2, .row 153 (.cons (.int .i64) (.cons (.int .u64) (.cons (.int .u64) (.cons .str (.cons .str (.cons (.int .u64) .nil))))))), (3, .row 41 (.cons (.int .u64) .nil))]⟩]
abbrev LT_ref03_Oracle_Issued_2 : Type := (Int × Int × Unit)
abbrev LM_ref03_Oracle_Issued_2 : Type := ((Int × Unit) × List Int × (List (Int × Int × Int × ByteArray × ByteArray × Int)) × List Int × Unit)
abbrev LO_ref03_Oracle_Issued_2 : Type := ((Bool × Unit) × ((Int × Unit) × List Int × (List (Int × Int × Int × ByteArray × ByteArray × Int)) × List Int × Unit)) ⊕ (Unit × ((Int × Unit) × List Int × (List (Int × Int × Int × ByteArray × ByteArray × Int)) × List Int × Unit))
def ltree_ref03_Oracle_Issued_2 {α : Type} (x1 : Int) (x2 : Int) (x3 : Int) (x4 : List Int) (x5 : List (Int × Int × Int × ByteArray × ByteArray × Int)) (x6 : List Int) (kn : LT_ref03_Oracle_Issued_2 → LM_ref03_Oracle_Issued_2 → Option α) (kr : LO_ref03_Oracle_Issued_2 → Option α) : Option α :=
 cond (decide (x2 < (↑x5.length : Int)))
 (cond (decide (0 ≤ x2))
 (cond (decide (x2 < (↑x5.length : Int)))
 (cond ((x5.getD (0 + x2.toNat) (0, 0, 0, ByteArray.empty, ByteArray.empty, 0)).snd.snd.snd.snd.snd == x1)
 (kr (.inl ((true, ()), ((x3, ()), (x4, (x5, (x6, ())))))))
 (kn (x1, (IntKind.i64.wrap (x2 + 1), ())) ((x3, ()), (x4, (x5, (x6, ()))))))
 (none))
 (none))
 (kr (.inr ((), ((x3, ()), (x4, (x5, (x6, ())))))))
noncomputable def L_ref03_Oracle_Issued_2 : LT_ref03_Oracle_Issued_2 → LM_ref03_Oracle_Issued_2 → Option LO_ref03_Oracle_Issued_2 := fun x y => runL (fun p => (fun (a : LT_ref03_Oracle_Issued_2) (b : LM_ref03_Oracle_Issued_2) => ltree_ref03_Oracle_Issued_2 a.1 a.2.1 b.1.1 b.2.1 b.2.2.1 b.2.2.2.1 (fun a' b' => some (.inl (a', b'))) fun r => some (.inr r)) p.1 p.2) (x, y)
theorem nl_ref03_Oracle_Issued_2 (x1 : Int) (x2 : Int) (x3 : Int) (x4 : List Int) (x5 : List (Int × Int × Int × ByteArray × ByteArray × Int)) (x6 : List Int) {α : Type} (kn : LT_ref03_Oracle_Issued_2 → LM_ref03_Oracle_Issued_2 → Option α) (kr : LO_ref03_Oracle_Issued_2 → Option α) : ltree_ref03_Oracle_Issued_2 x1 x2 x3 x4 x5 x6 kn kr = (ltree_ref03_Oracle_Issued_2 x1 x2 x3 x4 x5 x6 (fun a b => some (.inl (a, b))) fun r => some (.inr r)).bind (Sum.elim (fun p : LT_ref03_Oracle_Issued_2 × LM_ref03_Oracle_Issued_2 => kn p.1 p.2) kr) := by simp only [ltree_ref03_Oracle_Issued_2, bind_cond, bind_none', bind_some', bind_bind', bind_sum, Sum.elim_inl, Sum.elim_inr]
theorem Le_ref03_Oracle_Issued_2 (x1 : Int) (x2 : Int) (x3 : Int) (x4 : List Int) (x5 : List (Int × Int × Int × ByteArray × ByteArray × Int)) (x6 : List Int) : L_ref03_Oracle_Issued_2 (x1, (x2, ())) ((x3, ()), (x4, (x5, (x6, ())))) = ltree_ref03_Oracle_Issued_2 x1 x2 x3 x4 x5 x6 L_ref03_Oracle_Issued_2 some := runL_tree (A := LT_ref03_Oracle_Issued_2) (B := LM_ref03_Oracle_Issued_2) (R := LO_ref03_Oracle_Issued_2) (fun a b kn kr => ltree_ref03_Oracle_Issued_2 a.1 a.2.1 b.1.1 b.2.1 b.2.2.1 b.2.2.2.1 kn kr) (fun a b kn kr => nl_ref03_Oracle_Issued_2 a.1 a.2.1 b.1.1 b.2.1 b.2.2.1 b.2.2.2.1 kn kr) (x1, (x2, ())) ((x3, ()), (x4, (x5, (x6, ()))))
def routs_ref03_Oracle_Issued : List OutC := [⟨(.leaf .bool), [(0, .cells (.cons (.const (.slw 1)) (.cons (.const (.slw 2)) (.cons (.const (.slw 3)) (.cons (.leaf (.int .i64)) .nil))))), (1, .row 41 (.cons (.int .u64) .nil)), (2, .row 153 (.cons (.int .i64) (.cons (.int .u64) (.cons (.int .u64) (.cons .str (.cons .str (.cons (.int .u64) .nil))))))), (3, .row 41 (.cons (.int .u64) .nil))]⟩]
abbrev RO_ref03_Oracle_Issued : Type := Bool × ((Int × Unit) × List Int × (List (Int × Int × Int × ByteArray × ByteArray × Int)) × List Int × Unit)
def tree_ref03_Oracle_Issued (L_ref03_Oracle_Issued_2 : LT_ref03_Oracle_Issued_2 → LM_ref03_Oracle_Issued_2 → Option LO_ref03_Oracle_Issued_2) {α : Type} (x1 : Int) (x2 : Int) (x3 : List Int) (x4 : List (Int × Int × Int × ByteArray × ByteArray × Int)) (x5 : List Int) (K : RO_ref03_Oracle_Issued → Option α) : Option α :=
 (L_ref03_Oracle_Issued_2 (x1, 0, ()) ((x2, ()), x3, x4, x5, ())).bind fun r1 =>
 Sum.elim (fun u2 =>
 K (u2.fst.fst, ((u2.snd.fst.fst, ()), (u2.snd.snd.fst, (u2.snd.snd.snd.fst, (u2.snd.snd.snd.snd.fst, ()))))))
 (fun u2 =>
 K (false, ((u2.snd.fst.fst, ()), (u2.snd.snd.fst, (u2.snd.snd.snd.fst, (u2.snd.snd.snd.snd.fst, ())))))) (r1)
noncomputable def R_ref03_Oracle_Issued : A_ref03_Oracle_Issued → M_ref03_Oracle_Issued → Option RO_ref03_Oracle_Issued := fun a b => tree_ref03_Oracle_Issued L_ref03_Oracle_Issued_2 a.1 b.1.1 b.2.1 b.2.2.1 b.2.2.2.1 some
theorem lr_ref03_Oracle_Issued_2 (x : LT_ref03_Oracle_Issued_2) (y : LM_ref03_Oracle_Issued_2) : Leaf (fun r : LO_ref03_Oracle_Issued_2 => ((Sum.elim (fun r => r.2 = y) (fun r => r.2 = y)) : LO_ref03_Oracle_Issued_2 → Prop) r) (L_ref03_Oracle_Issued_2 x y) := by
 refine leaf_loop (fun s => s.2 = y) (fun s hs => ?_) rfl
 obtain ⟨a, b⟩ := s
 cases hs
 dsimp only
 unfold ltree_ref03_Oracle_Issued_2
 repeat (first | (with_reducible refine leaf_bind fun _ => ?_) | (with_reducible apply leaf_cond) | (with_reducible refine leaf_sum (fun _ => ?_) (fun _ => ?_)) | (with_reducible exact leaf_none) | exact leaf_some rfl)
theorem reads_ref03_Oracle_Issued (a : A_ref03_Oracle_Issued) (b : M_ref03_Oracle_Issued) : Leaf (fun r : RO_ref03_Oracle_Issued => r.2 = b) (R_ref03_Oracle_Issued a b) := by
 show Leaf _ (tree_ref03_Oracle_Issued L_ref03_Oracle_Issued_2 a.1 b.1.1 b.2.1 b.2.2.1 b.2.2.2.1 some)
 unfold tree_ref03_Oracle_Issued
 repeat (first | ((with_reducible refine leaf_bindL (lr_ref03_Oracle_Issued_2 _ _) fun r hr => ?_); first | (rcases r with r | r <;> (have hr : r.2 = _ := hr; obtain ⟨r1, r2⟩ := r; cases hr; simp only [Sum.elim_inl, Sum.elim_inr])) | (have hr : r.2 = _ := hr; obtain ⟨r1, r2⟩ := r; cases hr)) | (with_reducible refine leaf_bind fun _ => ?_) | (with_reducible apply leaf_cond) | (with_reducible refine leaf_sum (fun _ => ?_) (fun _ => ?_)) | (with_reducible exact leaf_none) | exact leaf_some rfl)
noncomputable def F_ref03_Oracle_Issued : A_ref03_Oracle_Issued → M_ref03_Oracle_Issued → Option O_ref03_Oracle_Issued := fun a b => (R_ref03_Oracle_Issued a b).map fun r => (r.1, ())
theorem n_ref03_Oracle_Issued (L_ref03_Oracle_Issued_2 : LT_ref03_Oracle_Issued_2 → LM_ref03_Oracle_Issued_2 → Option LO_ref03_Oracle_Issued_2) (x1 : Int) (x2 : Int) (x3 : List Int) (x4 : List (Int × Int × Int × ByteArray × ByteArray × Int)) (x5 : List Int) {α : Type} (K : RO_ref03_Oracle_Issued → Option α) : tree_ref03_Oracle_Issued L_ref03_Oracle_Issued_2 x1 x2 x3 x4 x5 K = (tree_ref03_Oracle_Issued L_ref03_Oracle_Issued_2 x1 x2 x3 x4 x5 some).bind K := by simp only [tree_ref03_Oracle_Issued, bind_cond, bind_none', bind_some', bind_bind', bind_sum]
theorem Fe_ref03_Oracle_Issued (x1 : Int) (x2 : Int) (x3 : List Int) (x4 : List (Int × Int × Int × ByteArray × ByteArray × Int)) (x5 : List Int) : F_ref03_Oracle_Issued (x1, ()) ((x2, ()), (x3, (x4, (x5, ())))) = (tree_ref03_Oracle_Issued L_ref03_Oracle_Issued_2 x1 x2 x3 x4 x5 some).map fun r => (r.1, ()) := rfl

/-! (*countersign/countersignref03.Oracle).Shown -/
def args_ref03_Oracle_Shown : SkL := (.cons (.const (.ptr 0 0 0)) (.cons (.leaf (.int .u64)) .nil))
def mem_ref03_Oracle_Shown : MSk := [(0, .cells (.cons (.const (.slw 1)) (.cons (.const (.slw 2)) (.cons (.const (.slw 3)) (.cons (.leaf (.int .i64)) .nil))))), (1, .row 41 (.cons (.int .u64) .nil)), (2, .row 153 (.cons (.int .i64) (.cons (.int .u64) (.cons (.int .u64) (.cons .str (.cons .str (.cons (.int .u64) .nil))))))), (3, .row 41 (.cons (.int .u64) .nil))]
def outs_ref03_Oracle_Shown : List OutC := [⟨(.leaf .bool), []⟩]
abbrev A_ref03_Oracle_Shown : Type := (Int × Unit)
abbrev M_ref03_Oracle_Shown : Type := ((Int × Unit) × List Int × (List (Int × Int × Int × ByteArray × ByteArray × Int)) × List Int × Unit)
abbrev O_ref03_Oracle_Shown : Type := Bool × Unit
def ltmps_ref03_Oracle_Shown_2 : SkL := (.cons (.const (.ptr 0 0 0)) (.cons (.leaf (.int .u64)) (dz 3 (.cons (.leaf (.int .i64)) (dz 18 .nil)))))
def lmem_ref03_Oracle_Shown_2 : MSk := [(0, .cells (.cons (.const (.slw 1)) (.cons (.const (.slw 2)) (.cons (.const (.slw 3)) (.cons (.leaf (.int .i64)) .nil))))), (1, .row 41 (.cons (.int .u64) .nil)), (2, .row 153 (.cons (.int .i64) (.cons (.int .u64) (.cons (.int .u64) (.cons .str (.cons .str (.cons (.int .u64) .nil))))))), (3, .row 41 (.cons (.int .u64) .nil))]
def louts_ref03_Oracle_Shown_2 : List OutL := [⟨.ret, (dz 4 (.cons (.leaf .bool) (dz 19 .nil))), [(0, .cells (.cons (.const (.slw 1)) (.cons (.const (.slw 2)) (.cons (.const (.slw 3)) (.cons (.leaf (.int .i64)) .nil))))), (1, .row 41 (.cons (.int .u64) .nil)), (2, .row 153 (.cons (.int .i64) (.cons (.int .u64) (.cons (.int .u64) (.cons .str (.cons .str (.cons (.int .u64) .nil))))))), (3, .row 41 (.cons (.int .u64) .nil))]⟩, ⟨(.exit 0), (dz 24 .nil), [(0, .cells (.cons (.const (.slw 1)) (.cons (.const (.slw 2)) (.cons (.const (.slw 3)) (.cons (.leaf (.int .i64)) .nil))))), (1, .row 41 (.cons (.int .u64) .nil)), (2, .row 153 (.cons (.int .i64) (.cons (.int .u64) (.cons (.int .u64) (.cons .str (.cons .str (.cons (.int .u64) .nil))))))), (3, .row 41 (.cons (.int .u64) .nil))]⟩]
abbrev LT_ref03_Oracle_Shown_2 : Type := (Int × Int × Unit)
abbrev LM_ref03_Oracle_Shown_2 : Type := ((Int × Unit) × List Int × (List (Int × Int × Int × ByteArray × ByteArray × Int)) × List Int × Unit)
abbrev LO_ref03_Oracle_Shown_2 : Type := ((Bool × Unit) × ((Int × Unit) × List Int × (List (Int × Int × Int × ByteArray × ByteArray × Int)) × List Int × Unit)) ⊕ (Unit × ((Int × Unit) × List Int × (List (Int × Int × Int × ByteArray × ByteArray × Int)) × List Int × Unit))
def ltree_ref03_Oracle_Shown_2 {α : Type} (x1 : Int) (x2 : Int) (x3 : Int) (x4 : List Int) (x5 : List (Int × Int × Int × ByteArray × ByteArray × Int)) (x6 : List Int) (kn : LT_ref03_Oracle_Shown_2 → LM_ref03_Oracle_Shown_2 → Option α) (kr : LO_ref03_Oracle_Shown_2 → Option α) : Option α :=
 cond (decide (x2 < (↑x6.length : Int)))
 (cond (decide (0 ≤ x2))
 (cond (decide (x2 < (↑x6.length : Int)))
 (cond (x6.getD (0 + x2.toNat) 0 == x1)
 (kr (.inl ((true, ()), ((x3, ()), (x4, (x5, (x6, ())))))))
 (kn (x1, (IntKind.i64.wrap (x2 + 1), ())) ((x3, ()), (x4, (x5, (x6, ()))))))
 (none))
 (none))
 (kr (.inr ((), ((x3, ()), (x4, (x5, (x6, ())))))))
noncomputable def L_ref03_Oracle_Shown_2 : LT_ref03_Oracle_Shown_2 → LM_ref03_Oracle_Shown_2 → Option LO_ref03_Oracle_Shown_2 := fun x y => runL (fun p => (fun (a : LT_ref03_Oracle_Shown_2) (b : LM_ref03_Oracle_Shown_2) => ltree_ref03_Oracle_Shown_2 a.1 a.2.1 b.1.1 b.2.1 b.2.2.1 b.2.2.2.1 (fun a' b' => some (.inl (a', b'))) fun r => some (.inr r)) p.1 p.2) (x, y)
theorem nl_ref03_Oracle_Shown_2 (x1 : Int) (x2 : Int) (x3 : Int) (x4 : List Int) (x5 : List (Int × Int × Int × ByteArray × ByteArray × Int)) (x6 : List Int) {α : Type} (kn : LT_ref03_Oracle_Shown_2 → LM_ref03_Oracle_Shown_2 → Option α) (kr : LO_ref03_Oracle_Shown_2 → Option α) : ltree_ref03_Oracle_Shown_2 x1 x2 x3 x4 x5 x6 kn kr = (ltree_ref03_Oracle_Shown_2 x1 x2 x3 x4 x5 x6 (fun a b => some (.inl (a, b))) fun r => some (.inr r)).bind (Sum.elim (fun p : LT_ref03_Oracle_Shown_2 × LM_ref03_Oracle_Shown_2 => kn p.1 p.2) kr) := by simp only [ltree_ref03_Oracle_Shown_2, bind_cond, bind_none', bind_some', bind_bind', bind_sum, Sum.elim_inl, Sum.elim_inr]
theorem Le_ref03_Oracle_Shown_2 (x1 : Int) (x2 : Int) (x3 : Int) (x4 : List Int) (x5 : List (Int × Int × Int × ByteArray × ByteArray × Int)) (x6 : List Int) : L_ref03_Oracle_Shown_2 (x1, (x2, ())) ((x3, ()), (x4, (x5, (x6, ())))) = ltree_ref03_Oracle_Shown_2 x1 x2 x3 x4 x5 x6 L_ref03_Oracle_Shown_2 some := runL_tree (A := LT_ref03_Oracle_Shown_2) (B := LM_ref03_Oracle_Shown_2) (R := LO_ref03_Oracle_Shown_2) (fun a b kn kr => ltree_ref03_Oracle_Shown_2 a.1 a.2.1 b.1.1 b.2.1 b.2.2.1 b.2.2.2.1 kn kr) (fun a b kn kr => nl_ref03_Oracle_Shown_2 a.1 a.2.1 b.1.1 b.2.1 b.2.2.1 b.2.2.2.1 kn kr) (x1, (x2, ())) ((x3, ()), (x4, (x5, (x6, ()))))
def routs_ref03_Oracle_Shown : List OutC := [⟨(.leaf .bool), [(0, .cells (.cons (.const (.slw 1)) (.cons (.const (.slw 2)) (.cons (.const (.slw 3)) (.cons (.leaf (.int .i64)) .nil))))), (1, .row 41 (.cons (.int .u64) .nil)), (2, .row 153 (.cons (.int .i64) (.cons (.int .u64) (.cons (.int .u64) (.cons .str (.cons .str (.cons (.int .u64) .nil))))))), (3, .row 41 (.cons (.int .u64) .nil))]⟩]
abbrev RO_ref03_Oracle_Shown : Type := Bool × ((Int × Unit) × List Int × (List (Int × Int × Int × ByteArray × ByteArray × Int)) × List Int × Unit)
def tree_ref03_Oracle_Shown (L_ref03_Oracle_Shown_2 : LT_ref03_Oracle_Shown_2 → LM_ref03_Oracle_Shown_2 → Option LO_ref03_Oracle_Shown_2) {α : Type} (x1 : Int) (x2 : Int) (x3 : List Int) (x4 : List (Int × Int × Int × ByteArray × ByteArray × Int)) (x5 : List Int) (K : RO_ref03_Oracle_Shown → Option α) : Option α :=
 (L_ref03_Oracle_Shown_2 (x1, 0, ()) ((x2, ()), x3, x4, x5, ())).bind fun r1 =>
 Sum.elim (fun u2 =>
 K (u2.fst.fst, ((u2.snd.fst.fst, ()), (u2.snd.snd.fst, (u2.snd.snd.snd.fst, (u2.snd.snd.snd.snd.fst, ()))))))
 (fun u2 =>
 K (false, ((u2.snd.fst.fst, ()), (u2.snd.snd.fst, (u2.snd.snd.snd.fst, (u2.snd.snd.snd.snd.fst, ())))))) (r1)
noncomputable def R_ref03_Oracle_Shown : A_ref03_Oracle_Shown → M_ref03_Oracle_Shown → Option RO_ref03_Oracle_Shown := fun a b => tree_ref03_Oracle_Shown L_ref03_Oracle_Shown_2 a.1 b.1.1 b.2.1 b.2.2.1 b.2.2.2.1 some
theorem lr_ref03_Oracle_Shown_2 (x : LT_ref03_Oracle_Shown_2) (y : LM_ref03_Oracle_Shown_2) : Leaf (fun r : LO_ref03_Oracle_Shown_2 => ((Sum.elim (fun r => r.2 = y) (fun r => r.2 = y)) : LO_ref03_Oracle_Shown_2 → Prop) r) (L_ref03_Oracle_Shown_2 x y) := by
 refine leaf_loop (fun s => s.2 = y) (fun s hs => ?_) rfl
 obtain ⟨a, b⟩ := s
 cases hs
 dsimp only
 unfold ltree_ref03_Oracle_Shown_2
 repeat (first | (with_reducible refine leaf_bind fun _ => ?_) | (with_reducible apply leaf_cond) | (with_reducible refine leaf_sum (fun _ => ?_) (fun _ => ?_)) | (with_reducible exact leaf_none) | exact leaf_some rfl)
theorem reads_ref03_Oracle_Shown (a : A_ref03_Oracle_Shown) (b : M_ref03_Oracle_Shown) : Leaf (fun r : RO_ref03_Oracle_Shown => r.2 = b) (R_ref03_Oracle_Shown a b) := by
 show Leaf _ (tree_ref03_Oracle_Shown L_ref03_Oracle_Shown_2 a.1 b.1.1 b.2.1 b.2.2.1 b.2.2.2.1 some)
 unfold tree_ref03_Oracle_Shown
 repeat (first | ((with_reducible refine leaf_bindL (lr_ref03_Oracle_Shown_2 _ _) fun r hr => ?_); first | (rcases r with r | r <;> (have hr : r.2 = _ := hr; obtain ⟨r1, r2⟩ := r; cases hr; simp only [Sum.elim_inl, Sum.elim_inr])) | (have hr : r.2 = _ := hr; obtain ⟨r1, r2⟩ := r; cases hr)) | (with_reducible refine leaf_bind fun _ => ?_) | (with_reducible apply leaf_cond) | (with_reducible refine leaf_sum (fun _ => ?_) (fun _ => ?_)) | (with_reducible exact leaf_none) | exact leaf_some rfl)
noncomputable def F_ref03_Oracle_Shown : A_ref03_Oracle_Shown → M_ref03_Oracle_Shown → Option O_ref03_Oracle_Shown := fun a b => (R_ref03_Oracle_Shown a b).map fun r => (r.1, ())
theorem n_ref03_Oracle_Shown (L_ref03_Oracle_Shown_2 : LT_ref03_Oracle_Shown_2 → LM_ref03_Oracle_Shown_2 → Option LO_ref03_Oracle_Shown_2) (x1 : Int) (x2 : Int) (x3 : List Int) (x4 : List (Int × Int × Int × ByteArray × ByteArray × Int)) (x5 : List Int) {α : Type} (K : RO_ref03_Oracle_Shown → Option α) : tree_ref03_Oracle_Shown L_ref03_Oracle_Shown_2 x1 x2 x3 x4 x5 K = (tree_ref03_Oracle_Shown L_ref03_Oracle_Shown_2 x1 x2 x3 x4 x5 some).bind K := by simp only [tree_ref03_Oracle_Shown, bind_cond, bind_none', bind_some', bind_bind', bind_sum]
theorem Fe_ref03_Oracle_Shown (x1 : Int) (x2 : Int) (x3 : List Int) (x4 : List (Int × Int × Int × ByteArray × ByteArray × Int)) (x5 : List Int) : F_ref03_Oracle_Shown (x1, ()) ((x2, ()), (x3, (x4, (x5, ())))) = (tree_ref03_Oracle_Shown L_ref03_Oracle_Shown_2 x1 x2 x3 x4 x5 some).map fun r => (r.1, ()) := rfl

/-! (*countersign/countersignref03.Oracle).at -/
def args_ref03_Oracle_at : SkL := (.cons (.const (.ptr 0 0 0)) (.cons (.agg (.cons (.leaf (.int .i64)) (.cons (.leaf (.int .u64)) (.cons (.leaf (.int .u64)) (.cons (.leaf .str) (.cons (.leaf .str) (.cons (.leaf (.int .u64)) .nil))))))) .nil))
def mem_ref03_Oracle_at : MSk := [(0, .cells (.cons (.const (.slw 1)) (.cons (.const (.slw 2)) (.cons (.const (.slw 3)) (.cons (.leaf (.int .i64)) .nil))))), (1, .row 41 (.cons (.int .u64) .nil)), (2, .row 153 (.cons (.int .i64) (.cons (.int .u64) (.cons (.int .u64) (.cons .str (.cons .str (.cons (.int .u64) .nil))))))), (3, .row 41 (.cons (.int .u64) .nil))]
def outs_ref03_Oracle_at : List OutC := [⟨(.leaf (.int .i64)), [(0, .cells (.cons (.const (.slw 1)) (.cons (.const (.slw 2)) (.cons (.const (.slw 3)) (.cons (.leaf (.int .i64)) .nil))))), (1, .row 41 (.cons (.int .u64) .nil)), (2, .row 153 (.cons (.int .i64) (.cons (.int .u64) (.cons (.int .u64) (.cons .str (.cons .str (.cons (.int .u64) .nil))))))), (3, .row 41 (.cons (.int .u64) .nil))]⟩]
abbrev A_ref03_Oracle_at : Type := ((Int × Int × Int × ByteArray × ByteArray × Int × Unit) × Unit)
abbrev M_ref03_Oracle_at : Type := ((Int × Unit) × List Int × (List (Int × Int × Int × ByteArray × ByteArray × Int)) × List Int × Unit)
abbrev O_ref03_Oracle_at : Type := Int × ((Int × Unit) × List Int × (List (Int × Int × Int × ByteArray × ByteArray × Int)) × List Int × Unit)
def ltmps_ref03_Oracle_at_2 : SkL := (.cons (.const (.ptr 0 0 0)) (dz 2 (.cons (.const (.ptr 1096 0 0)) (.cons (.const .dead) (.cons (.leaf (.int .i64)) (dz 56 .nil))))))
def lmem_ref03_Oracle_at_2 : MSk := [(0, .cells (.cons (.const (.slw 1)) (.cons (.const (.slw 2)) (.cons (.const (.slw 3)) (.cons (.leaf (.int .i64)) .nil))))), (1, .row 41 (.cons (.int .u64) .nil)), (2, .row 153 (.cons (.int .i64) (.cons (.int .u64) (.cons (.int .u64) (.cons .str (.cons .str (.cons (.int .u64) .nil))))))), (3, .row 41 (.cons (.int .u64) .nil)), (1096, .cells (.cons (.leaf (.int .i64)) (.cons (.leaf (.int .u64)) (.cons (.leaf (.int .u64)) (.cons (.leaf .str) (.cons (.leaf .str) (.cons (.leaf (.int .u64)) .nil)))))))]
def louts_ref03_Oracle_at_2 : List OutL := [⟨.ret, (dz 4 (.cons (.leaf (.int .i64)) (dz 57 .nil))), [(0, .cells (.cons (.const (.slw 1)) (.cons (.const (.slw 2)) (.cons (.const (.slw 3)) (.cons (.leaf (.int .i64)) .nil))))), (1, .row 41 (.cons (.int .u64) .nil)), (2, .row 153 (.cons (.int .i64) (.cons (.int .u64) (.cons (.int .u64) (.cons .str (.cons .str (.cons (.int .u64) .nil))))))), (3, .row 41 (.cons (.int .u64) .nil))]⟩, ⟨(.exit 0), (dz 62 .nil), [(0, .cells (.cons (.const (.slw 1)) (.cons (.const (.slw 2)) (.cons (.const (.slw 3)) (.cons (.leaf (.int .i64)) .nil))))), (1, .row 41 (.cons (.int .u64) .nil)), (2, .row 153 (.cons (.int .i64) (.cons (.int .u64) (.cons (.int .u64) (.cons .str (.cons .str (.cons (.int .u64) .nil))))))), (3, .row 41 (.cons (.int .u64) .nil))]⟩]
abbrev LT_ref03_Oracle_at_2 : Type := (Int × Unit)
abbrev LM_ref03_Oracle_at_2 : Type := ((Int × Unit) × List Int × (List (Int × Int × Int × ByteArray × ByteArray × Int)) × List Int × (Int × Int × Int × ByteArray × ByteArray × Int × Unit) × Unit)
abbrev LO_ref03_Oracle_at_2 : Type := ((Int × Unit) × ((Int × Unit) × List Int × (List (Int × Int × Int × ByteArray × ByteArray × Int)) × List Int × Unit)) ⊕ (Unit × ((Int × Unit) × List Int × (List (Int × Int × Int × ByteArray × ByteArray × Int)) × List Int × Unit))
def ltree_ref03_Oracle_at_2 {α : Type} (x1 : Int) (x2 : Int) (x3 : List Int) (x4 : List (Int × Int × Int × ByteArray × ByteArray × Int)) (x5 : List Int) (x6 : Int) (x7 : Int) (x8 : Int) (x9 : ByteArray) (x10 : ByteArray) (x11 : Int) (kn : LT_ref03_Oracle_at_2 → LM_ref03_Oracle_at_2 → Option α) (kr : LO_ref03_Oracle_at_2 → Option α) : Option α :=
 cond (decide (x1 < (↑x4.length : Int)))
 (cond (decide (0 ≤ x1))
 (cond (decide (x1 < (↑x4.length : Int)))
 (cond (x6 != 0)
 (cond ((x4.getD (0 + x1.toNat) (0, 0, 0, ByteArray.empty, ByteArray.empty, 0)).fst == x6)
 (cond ((x4.getD (0 + x1.toNat) (0, 0, 0, ByteArray.empty, ByteArray.empty, 0)).snd.fst == x7)
 (cond ((x4.getD (0 + x1.toNat) (0, 0, 0, ByteArray.empty, ByteArray.empty, 0)).snd.snd.fst == x8)
 (cond ((x4.getD (0 + x1.toNat) (0, 0, 0, ByteArray.empty, ByteArray.empty, 0)).snd.snd.snd.fst.toList == x9.toList)
 (cond ((x4.getD (0 + x1.toNat) (0, 0, 0, ByteArray.empty, ByteArray.empty, 0)).snd.snd.snd.snd.fst.toList == x10.toList)
 (kr (.inl ((x1, ()), ((x2, ()), (x3, (x4, (x5, ())))))))
 (kn (IntKind.i64.wrap (x1 + 1), ()) ((x2, ()), (x3, (x4, (x5, ((x6, (x7, (x8, (x9, (x10, (x11, ())))))), ())))))))
 (kn (IntKind.i64.wrap (x1 + 1), ()) ((x2, ()), (x3, (x4, (x5, ((x6, (x7, (x8, (x9, (x10, (x11, ())))))), ())))))))
 (kn (IntKind.i64.wrap (x1 + 1), ()) ((x2, ()), (x3, (x4, (x5, ((x6, (x7, (x8, (x9, (x10, (x11, ())))))), ())))))))
 (kn (IntKind.i64.wrap (x1 + 1), ()) ((x2, ()), (x3, (x4, (x5, ((x6, (x7, (x8, (x9, (x10, (x11, ())))))), ())))))))
 (kn (IntKind.i64.wrap (x1 + 1), ()) ((x2, ()), (x3, (x4, (x5, ((x6, (x7, (x8, (x9, (x10, (x11, ())))))), ())))))))
 (kn (IntKind.i64.wrap (x1 + 1), ()) ((x2, ()), (x3, (x4, (x5, ((x6, (x7, (x8, (x9, (x10, (x11, ())))))), ())))))))
 (none))
 (none))
 (kr (.inr ((), ((x2, ()), (x3, (x4, (x5, ())))))))
noncomputable def L_ref03_Oracle_at_2 : LT_ref03_Oracle_at_2 → LM_ref03_Oracle_at_2 → Option LO_ref03_Oracle_at_2 := fun x y => runL (fun p => (fun (a : LT_ref03_Oracle_at_2) (b : LM_ref03_Oracle_at_2) => ltree_ref03_Oracle_at_2 a.1 b.1.1 b.2.1 b.2.2.1 b.2.2.2.1 b.2.2.2.2.1.1 b.2.2.2.2.1.2.1 b.2.2.2.2.1.2.2.1 b.2.2.2.2.1.2.2.2.1 b.2.2.2.2.1.2.2.2.2.1 b.2.2.2.2.1.2.2.2.2.2.1 (fun a' b' => some (.inl (a', b'))) fun r => some (.inr r)) p.1 p.2) (x, y)
theorem nl_ref03_Oracle_at_2 (x1 : Int) (x2 : Int) (x3 : List Int) (x4 : List (Int × Int × Int × ByteArray × ByteArray × Int)) (x5 : List Int) (x6 : Int) (x7 : Int) (x8 : Int) (x9 : ByteArray) (x10 : ByteArray) (x11 : Int) {α : Type} (kn : LT_ref03_Oracle_at_2 → LM_ref03_Oracle_at_2 → Option α) (kr : LO_ref03_Oracle_at_2 → Option α) : ltree_ref03_Oracle_at_2 x1 x2 x3 x4 x5 x6 x7 x8 x9 x10 x11 kn kr = (ltree_ref03_Oracle_at_2 x1 x2 x3 x4 x5 x6 x7 x8 x9 x10 x11 (fun a b => some (.inl (a, b))) fun r => some (.inr r)).bind (Sum.elim (fun p : LT_ref03_Oracle_at_2 × LM_ref03_Oracle_at_2 => kn p.1 p.2) kr) := by simp only [ltree_ref03_Oracle_at_2, bind_cond, bind_none', bind_some', bind_bind', bind_sum, Sum.elim_inl, Sum.elim_inr]
theorem Le_ref03_Oracle_at_2 (x1 : Int) (x2 : Int) (x3 : List Int) (x4 : List (Int × Int × Int × ByteArray × ByteArray × Int)) (x5 : List Int) (x6 : Int) (x7 : Int) (x8 : Int) (x9 : ByteArray) (x10 : ByteArray) (x11 : Int) : L_ref03_Oracle_at_2 (x1, ()) ((x2, ()), (x3, (x4, (x5, ((x6, (x7, (x8, (x9, (x10, (x11, ())))))), ()))))) = ltree_ref03_Oracle_at_2 x1 x2 x3 x4 x5 x6 x7 x8 x9 x10 x11 L_ref03_Oracle_at_2 some := runL_tree (A := LT_ref03_Oracle_at_2) (B := LM_ref03_Oracle_at_2) (R := LO_ref03_Oracle_at_2) (fun a b kn kr => ltree_ref03_Oracle_at_2 a.1 b.1.1 b.2.1 b.2.2.1 b.2.2.2.1 b.2.2.2.2.1.1 b.2.2.2.2.1.2.1 b.2.2.2.2.1.2.2.1 b.2.2.2.2.1.2.2.2.1 b.2.2.2.2.1.2.2.2.2.1 b.2.2.2.2.1.2.2.2.2.2.1 kn kr) (fun a b kn kr => nl_ref03_Oracle_at_2 a.1 b.1.1 b.2.1 b.2.2.1 b.2.2.2.1 b.2.2.2.2.1.1 b.2.2.2.2.1.2.1 b.2.2.2.2.1.2.2.1 b.2.2.2.2.1.2.2.2.1 b.2.2.2.2.1.2.2.2.2.1 b.2.2.2.2.1.2.2.2.2.2.1 kn kr) (x1, ()) ((x2, ()), (x3, (x4, (x5, ((x6, (x7, (x8, (x9, (x10, (x11, ())))))), ())))))
def tree_ref03_Oracle_at (L_ref03_Oracle_at_2 : LT_ref03_Oracle_at_2 → LM_ref03_Oracle_at_2 → Option LO_ref03_Oracle_at_2) {α : Type} (x1 : Int) (x2 : Int) (x3 : Int) (x4 : ByteArray) (x5 : ByteArray) (x6 : Int) (x7 : Int) (x8 : List Int) (x9 : List (Int × Int × Int × ByteArray × ByteArray × Int)) (x10 : List Int) (K : O_ref03_Oracle_at → Option α) : Option α :=
 (L_ref03_Oracle_at_2 (0, ()) ((x7, ()), x8, x9, x10, (x1, x2, x3, x4, x5, x6, ()), ())).bind fun r1 =>
 Sum.elim (fun u2 =>
 K (u2.fst.fst, ((u2.snd.fst.fst, ()), (u2.snd.snd.fst, (u2.snd.snd.snd.fst, (u2.snd.snd.snd.snd.fst, ()))))))
 (fun u2 =>
 K (-1, ((u2.snd.fst.fst, ()), (u2.snd.snd.fst, (u2.snd.snd.snd.fst, (u2.snd.snd.snd.snd.fst, ())))))) (r1)
noncomputable def F_ref03_Oracle_at : A_ref03_Oracle_at → M_ref03_Oracle_at → Option O_ref03_Oracle_at := fun a b => tree_ref03_Oracle_at L_ref03_Oracle_at_2 a.1.1 a.1.2.1 a.1.2.2.1 a.1.2.2.2.1 a.1.2.2.2.2.1 a.1.2.2.2.2.2.1 b.1.1 b.2.1 b.2.2.1 b.2.2.2.1 some
theorem n_ref03_Oracle_at (L_ref03_Oracle_at_2 : LT_ref03_Oracle_at_2 → LM_ref03_Oracle_at_2 → Option LO_ref03_Oracle_at_2) (x1 : Int) (x2 : Int) (x3 : Int) (x4 : ByteArray) (x5 : ByteArray) (x6 : Int) (x7 : Int) (x8 : List Int) (x9 : List (Int × Int × Int × ByteArray × ByteArray × Int)) (x10 : List Int) {α : Type} (K : O_ref03_Oracle_at → Option α) : tree_ref03_Oracle_at L_ref03_Oracle_at_2 x1 x2 x3 x4 x5 x6 x7 x8 x9 x10 K = (tree_ref03_Oracle_at L_ref03_Oracle_at_2 x1 x2 x3 x4 x5 x6 x7 x8 x9 x10 some).bind K := by simp only [tree_ref03_Oracle_at, bind_cond, bind_none', bind_some', bind_bind', bind_sum]
theorem Fe_ref03_Oracle_at (x1 : Int) (x2 : Int) (x3 : Int) (x4 : ByteArray) (x5 : ByteArray) (x6 : Int) (x7 : Int) (x8 : List Int) (x9 : List (Int × Int × Int × ByteArray × ByteArray × Int)) (x10 : List Int) : F_ref03_Oracle_at ((x1, (x2, (x3, (x4, (x5, (x6, ())))))), ()) ((x7, ()), (x8, (x9, (x10, ())))) = tree_ref03_Oracle_at L_ref03_Oracle_at_2 x1 x2 x3 x4 x5 x6 x7 x8 x9 x10 some := rfl

/-! (*countersign/countersignref03.Oracle).draw -/
def args_ref03_Oracle_draw : SkL := (.cons (.const (.ptr 0 0 0)) (.cons (.agg (.cons (.leaf (.int .i64)) (.cons (.leaf (.int .u64)) (.cons (.leaf (.int .u64)) (.cons (.leaf .str) (.cons (.leaf .str) (.cons (.leaf (.int .u64)) .nil))))))) .nil))
def mem_ref03_Oracle_draw : MSk := [(0, .cells (.cons (.const (.slw 1)) (.cons (.const (.slw 2)) (.cons (.const (.slw 3)) (.cons (.leaf (.int .i64)) .nil))))), (1, .row 41 (.cons (.int .u64) .nil)), (2, .row 153 (.cons (.int .i64) (.cons (.int .u64) (.cons (.int .u64) (.cons .str (.cons .str (.cons (.int .u64) .nil))))))), (3, .row 41 (.cons (.int .u64) .nil))]
def outs_ref03_Oracle_draw : List OutC := [⟨(.leaf (.int .u64)), [(0, .cells (.cons (.const (.slw 1)) (.cons (.const (.slw 4)) (.cons (.const (.slw 3)) (.cons (.leaf (.int .i64)) .nil))))), (1, .row 41 (.cons (.int .u64) .nil)), (2, .gone), (3, .row 41 (.cons (.int .u64) .nil)), (4, .row 153 (.cons (.int .i64) (.cons (.int .u64) (.cons (.int .u64) (.cons .str (.cons .str (.cons (.int .u64) .nil)))))))]⟩]
abbrev A_ref03_Oracle_draw : Type := ((Int × Int × Int × ByteArray × ByteArray × Int × Unit) × Unit)
abbrev M_ref03_Oracle_draw : Type := ((Int × Unit) × List Int × (List (Int × Int × Int × ByteArray × ByteArray × Int)) × List Int × Unit)
abbrev O_ref03_Oracle_draw : Type := Int × ((Int × Unit) × List Int × Unit × List Int × (List (Int × Int × Int × ByteArray × ByteArray × Int)) × Unit)
def tree_ref03_Oracle_draw (F_ref03_Oracle_Issued : A_ref03_Oracle_Issued → M_ref03_Oracle_Issued → Option O_ref03_Oracle_Issued) (F_ref03_Oracle_Shown : A_ref03_Oracle_Shown → M_ref03_Oracle_Shown → Option O_ref03_Oracle_Shown) {α : Type} (x1 : Int) (x2 : Int) (x3 : Int) (x4 : ByteArray) (x5 : ByteArray) (x6 : Int) (x7 : Int) (x8 : List Int) (x9 : List (Int × Int × Int × ByteArray × ByteArray × Int)) (x10 : List Int) (K : O_ref03_Oracle_draw → Option α) : Option α :=
 cond (decide ((↑x9.length : Int) < (↑x8.length : Int)))
 (cond (decide ((↑x9.length : Int) < (↑x8.length : Int)))
 (cond (x8.getD (0 + (↑x9.length : Int).toNat) 0 == 0)
 (cond (decide ((x9.length + 1) * 64 ≤ 140737488355328))
 (K (x8.getD (0 + (↑x9.length : Int).toNat) 0, ((IntKind.i64.wrap (x7 + 1), ()), (x8, ((), (x10, (x9 ++ ([] ++ [(x1, x2, x3, x4, x5, x8.getD (0 + (↑x9.length : Int).toNat) 0)]), ())))))))
 (none))
 ((F_ref03_Oracle_Issued (x8.getD (0 + (↑x9.length : Int).toNat) 0, ()) ((x7, ()), x8, x9, x10, ())).bind fun r1 =>
 cond (r1.fst)
 (cond (decide ((x9.length + 1) * 64 ≤ 140737488355328))
 (K (x8.getD (0 + (↑x9.length : Int).toNat) 0, ((IntKind.i64.wrap (x7 + 1), ()), (x8, ((), (x10, (x9 ++ ([] ++ [(x1, x2, x3, x4, x5, x8.getD (0 + (↑x9.length : Int).toNat) 0)]), ())))))))
 (none))
 ((F_ref03_Oracle_Shown (x8.getD (0 + (↑x9.length : Int).toNat) 0, ()) ((x7, ()), x8, x9, x10, ())).bind fun r2 =>
 cond (r2.fst)
 (cond (decide ((x9.length + 1) * 64 ≤ 140737488355328))
 (K (x8.getD (0 + (↑x9.length : Int).toNat) 0, ((IntKind.i64.wrap (x7 + 1), ()), (x8, ((), (x10, (x9 ++ ([] ++ [(x1, x2, x3, x4, x5, x8.getD (0 + (↑x9.length : Int).toNat) 0)]), ())))))))
 (none))
 (cond (decide ((x9.length + 1) * 64 ≤ 140737488355328))
 (K (x8.getD (0 + (↑x9.length : Int).toNat) 0, ((x7, ()), (x8, ((), (x10, (x9 ++ ([] ++ [(x1, x2, x3, x4, x5, x8.getD (0 + (↑x9.length : Int).toNat) 0)]), ())))))))
 (none)))))
 (none))
 (cond (IntKind.u64.wrap (9223372036854775808 + IntKind.u64.wrap (↑x9.length : Int)) == 0)
 (cond (decide ((x9.length + ([] ++ [(x1, x2, x3, x4, x5, IntKind.u64.wrap (9223372036854775808 + IntKind.u64.wrap (↑x9.length : Int)))]).length) * 64 ≤ 140737488355328))
 (K (IntKind.u64.wrap (9223372036854775808 + IntKind.u64.wrap (↑x9.length : Int)), ((IntKind.i64.wrap (x7 + 1), ()), (x8, ((), (x10, (x9 ++ ([] ++ [(x1, x2, x3, x4, x5, IntKind.u64.wrap (9223372036854775808 + IntKind.u64.wrap (↑x9.length : Int)))]), ())))))))
 (none))
 ((F_ref03_Oracle_Issued (IntKind.u64.wrap (9223372036854775808 + IntKind.u64.wrap (↑x9.length : Int)), ()) ((x7, ()), x8, x9, x10, ())).bind fun r3 =>
 cond (r3.fst)
 (cond (decide ((x9.length + ([] ++ [(x1, x2, x3, x4, x5, IntKind.u64.wrap (9223372036854775808 + IntKind.u64.wrap (↑x9.length : Int)))]).length) * 64 ≤ 140737488355328))
 (K (IntKind.u64.wrap (9223372036854775808 + IntKind.u64.wrap (↑x9.length : Int)), ((IntKind.i64.wrap (x7 + 1), ()), (x8, ((), (x10, (x9 ++ ([] ++ [(x1, x2, x3, x4, x5, IntKind.u64.wrap (9223372036854775808 + IntKind.u64.wrap (↑x9.length : Int)))]), ())))))))
 (none))
 ((F_ref03_Oracle_Shown (IntKind.u64.wrap (9223372036854775808 + IntKind.u64.wrap (↑x9.length : Int)), ()) ((x7, ()), x8, x9, x10, ())).bind fun r4 =>
 cond (r4.fst)
 (cond (decide ((x9.length + ([] ++ [(x1, x2, x3, x4, x5, IntKind.u64.wrap (9223372036854775808 + IntKind.u64.wrap (↑x9.length : Int)))]).length) * 64 ≤ 140737488355328))
 (K (IntKind.u64.wrap (9223372036854775808 + IntKind.u64.wrap (↑x9.length : Int)), ((IntKind.i64.wrap (x7 + 1), ()), (x8, ((), (x10, (x9 ++ ([] ++ [(x1, x2, x3, x4, x5, IntKind.u64.wrap (9223372036854775808 + IntKind.u64.wrap (↑x9.length : Int)))]), ())))))))
 (none))
 (cond (decide ((x9.length + ([] ++ [(x1, x2, x3, x4, x5, IntKind.u64.wrap (9223372036854775808 + IntKind.u64.wrap (↑x9.length : Int)))]).length) * 64 ≤ 140737488355328))
 (K (IntKind.u64.wrap (9223372036854775808 + IntKind.u64.wrap (↑x9.length : Int)), ((x7, ()), (x8, ((), (x10, (x9 ++ ([] ++ [(x1, x2, x3, x4, x5, IntKind.u64.wrap (9223372036854775808 + IntKind.u64.wrap (↑x9.length : Int)))]), ())))))))
 (none)))))
noncomputable def F_ref03_Oracle_draw : A_ref03_Oracle_draw → M_ref03_Oracle_draw → Option O_ref03_Oracle_draw := fun a b => tree_ref03_Oracle_draw F_ref03_Oracle_Issued F_ref03_Oracle_Shown a.1.1 a.1.2.1 a.1.2.2.1 a.1.2.2.2.1 a.1.2.2.2.2.1 a.1.2.2.2.2.2.1 b.1.1 b.2.1 b.2.2.1 b.2.2.2.1 some
theorem n_ref03_Oracle_draw (F_ref03_Oracle_Issued : A_ref03_Oracle_Issued → M_ref03_Oracle_Issued → Option O_ref03_Oracle_Issued) (F_ref03_Oracle_Shown : A_ref03_Oracle_Shown → M_ref03_Oracle_Shown → Option O_ref03_Oracle_Shown) (x1 : Int) (x2 : Int) (x3 : Int) (x4 : ByteArray) (x5 : ByteArray) (x6 : Int) (x7 : Int) (x8 : List Int) (x9 : List (Int × Int × Int × ByteArray × ByteArray × Int)) (x10 : List Int) {α : Type} (K : O_ref03_Oracle_draw → Option α) : tree_ref03_Oracle_draw F_ref03_Oracle_Issued F_ref03_Oracle_Shown x1 x2 x3 x4 x5 x6 x7 x8 x9 x10 K = (tree_ref03_Oracle_draw F_ref03_Oracle_Issued F_ref03_Oracle_Shown x1 x2 x3 x4 x5 x6 x7 x8 x9 x10 some).bind K := by simp only [tree_ref03_Oracle_draw, bind_cond, bind_none', bind_some', bind_bind', bind_sum]
theorem Fe_ref03_Oracle_draw (x1 : Int) (x2 : Int) (x3 : Int) (x4 : ByteArray) (x5 : ByteArray) (x6 : Int) (x7 : Int) (x8 : List Int) (x9 : List (Int × Int × Int × ByteArray × ByteArray × Int)) (x10 : List Int) : F_ref03_Oracle_draw ((x1, (x2, (x3, (x4, (x5, (x6, ())))))), ()) ((x7, ()), (x8, (x9, (x10, ())))) = tree_ref03_Oracle_draw F_ref03_Oracle_Issued F_ref03_Oracle_Shown x1 x2 x3 x4 x5 x6 x7 x8 x9 x10 some := rfl

/-! (*countersign/countersignref03.Oracle).value -/
def args_ref03_Oracle_value : SkL := (.cons (.const (.ptr 0 0 0)) (.cons (.agg (.cons (.leaf (.int .i64)) (.cons (.leaf (.int .u64)) (.cons (.leaf (.int .u64)) (.cons (.leaf .str) (.cons (.leaf .str) (.cons (.leaf (.int .u64)) .nil))))))) .nil))
def mem_ref03_Oracle_value : MSk := [(0, .cells (.cons (.const (.slw 1)) (.cons (.const (.slw 2)) (.cons (.const (.slw 3)) (.cons (.leaf (.int .i64)) .nil))))), (1, .row 41 (.cons (.int .u64) .nil)), (2, .row 153 (.cons (.int .i64) (.cons (.int .u64) (.cons (.int .u64) (.cons .str (.cons .str (.cons (.int .u64) .nil))))))), (3, .row 41 (.cons (.int .u64) .nil))]
def outs_ref03_Oracle_value : List OutC := [⟨(.leaf (.int .u64)), [(0, .cells (.cons (.const (.slw 1)) (.cons (.const (.slw 4)) (.cons (.const (.slw 3)) (.cons (.leaf (.int .i64)) .nil))))), (1, .row 41 (.cons (.int .u64) .nil)), (2, .gone), (3, .row 41 (.cons (.int .u64) .nil)), (4, .row 153 (.cons (.int .i64) (.cons (.int .u64) (.cons (.int .u64) (.cons .str (.cons .str (.cons (.int .u64) .nil)))))))]⟩]
abbrev A_ref03_Oracle_value : Type := ((Int × Int × Int × ByteArray × ByteArray × Int × Unit) × Unit)
abbrev M_ref03_Oracle_value : Type := ((Int × Unit) × List Int × (List (Int × Int × Int × ByteArray × ByteArray × Int)) × List Int × Unit)
abbrev O_ref03_Oracle_value : Type := Int × ((Int × Unit) × List Int × Unit × List Int × (List (Int × Int × Int × ByteArray × ByteArray × Int)) × Unit)
def tree_ref03_Oracle_value (F_ref03_Oracle_at : A_ref03_Oracle_at → M_ref03_Oracle_at → Option O_ref03_Oracle_at) (F_ref03_Oracle_draw : A_ref03_Oracle_draw → M_ref03_Oracle_draw → Option O_ref03_Oracle_draw) {α : Type} (x1 : Int) (x2 : Int) (x3 : Int) (x4 : ByteArray) (x5 : ByteArray) (x6 : Int) (x7 : Int) (x8 : List Int) (x9 : List (Int × Int × Int × ByteArray × ByteArray × Int)) (x10 : List Int) (K : O_ref03_Oracle_value → Option α) : Option α :=
 (F_ref03_Oracle_at ((x1, x2, x3, x4, x5, x6, ()), ()) ((x7, ()), x8, x9, x10, ())).bind fun r1 =>
 cond (decide (r1.fst ≥ 0))
 (cond (decide (0 ≤ r1.fst))
 (cond (decide (r1.fst < (↑r1.snd.snd.snd.fst.length : Int)))
 (K ((r1.snd.snd.snd.fst.getD (0 + r1.fst.toNat) (0, 0, 0, ByteArray.empty, ByteArray.empty, 0)).snd.snd.snd.snd.snd, ((r1.snd.fst.fst, ()), (r1.snd.snd.fst, ((), (r1.snd.snd.snd.snd.fst, (r1.snd.snd.snd.fst, ())))))))
 (none))
 (none))
 ((F_ref03_Oracle_draw ((x1, x2, x3, x4, x5, x6, ()), ()) ((r1.snd.fst.fst, ()), r1.snd.snd.fst, r1.snd.snd.snd.fst, r1.snd.snd.snd.snd.fst, ())).bind fun r2 =>
 K (r2.fst, ((r2.snd.fst.fst, ()), (r2.snd.snd.fst, ((), (r2.snd.snd.snd.snd.fst, (r2.snd.snd.snd.snd.snd.fst, ())))))))
noncomputable def F_ref03_Oracle_value : A_ref03_Oracle_value → M_ref03_Oracle_value → Option O_ref03_Oracle_value := fun a b => tree_ref03_Oracle_value F_ref03_Oracle_at F_ref03_Oracle_draw a.1.1 a.1.2.1 a.1.2.2.1 a.1.2.2.2.1 a.1.2.2.2.2.1 a.1.2.2.2.2.2.1 b.1.1 b.2.1 b.2.2.1 b.2.2.2.1 some
theorem n_ref03_Oracle_value (F_ref03_Oracle_at : A_ref03_Oracle_at → M_ref03_Oracle_at → Option O_ref03_Oracle_at) (F_ref03_Oracle_draw : A_ref03_Oracle_draw → M_ref03_Oracle_draw → Option O_ref03_Oracle_draw) (x1 : Int) (x2 : Int) (x3 : Int) (x4 : ByteArray) (x5 : ByteArray) (x6 : Int) (x7 : Int) (x8 : List Int) (x9 : List (Int × Int × Int × ByteArray × ByteArray × Int)) (x10 : List Int) {α : Type} (K : O_ref03_Oracle_value → Option α) : tree_ref03_Oracle_value F_ref03_Oracle_at F_ref03_Oracle_draw x1 x2 x3 x4 x5 x6 x7 x8 x9 x10 K = (tree_ref03_Oracle_value F_ref03_Oracle_at F_ref03_Oracle_draw x1 x2 x3 x4 x5 x6 x7 x8 x9 x10 some).bind K := by simp only [tree_ref03_Oracle_value, bind_cond, bind_none', bind_some', bind_bind', bind_sum]
theorem Fe_ref03_Oracle_value (x1 : Int) (x2 : Int) (x3 : Int) (x4 : ByteArray) (x5 : ByteArray) (x6 : Int) (x7 : Int) (x8 : List Int) (x9 : List (Int × Int × Int × ByteArray × ByteArray × Int)) (x10 : List Int) : F_ref03_Oracle_value ((x1, (x2, (x3, (x4, (x5, (x6, ())))))), ()) ((x7, ()), (x8, (x9, (x10, ())))) = tree_ref03_Oracle_value F_ref03_Oracle_at F_ref03_Oracle_draw x1 x2 x3 x4 x5 x6 x7 x8 x9 x10 some := rfl

/-! (*countersign/countersignref03.Oracle).Hash -/
def args_ref03_Oracle_Hash : SkL := (.cons (.const (.ptr 0 0 0)) (.cons (.leaf .str) .nil))
def mem_ref03_Oracle_Hash : MSk := [(0, .cells (.cons (.const (.slw 1)) (.cons (.const (.slw 2)) (.cons (.const (.slw 3)) (.cons (.leaf (.int .i64)) .nil))))), (1, .row 41 (.cons (.int .u64) .nil)), (2, .row 153 (.cons (.int .i64) (.cons (.int .u64) (.cons (.int .u64) (.cons .str (.cons .str (.cons (.int .u64) .nil))))))), (3, .row 41 (.cons (.int .u64) .nil))]
def outs_ref03_Oracle_Hash : List OutC := [⟨(.leaf (.int .u64)), [(0, .cells (.cons (.const (.slw 1)) (.cons (.const (.slw 4)) (.cons (.const (.slw 3)) (.cons (.leaf (.int .i64)) .nil))))), (1, .row 41 (.cons (.int .u64) .nil)), (2, .gone), (3, .row 41 (.cons (.int .u64) .nil)), (4, .row 153 (.cons (.int .i64) (.cons (.int .u64) (.cons (.int .u64) (.cons .str (.cons .str (.cons (.int .u64) .nil)))))))]⟩]
abbrev A_ref03_Oracle_Hash : Type := (ByteArray × Unit)
abbrev M_ref03_Oracle_Hash : Type := ((Int × Unit) × List Int × (List (Int × Int × Int × ByteArray × ByteArray × Int)) × List Int × Unit)
abbrev O_ref03_Oracle_Hash : Type := Int × ((Int × Unit) × List Int × Unit × List Int × (List (Int × Int × Int × ByteArray × ByteArray × Int)) × Unit)
def tree_ref03_Oracle_Hash (F_ref03_Oracle_value : A_ref03_Oracle_value → M_ref03_Oracle_value → Option O_ref03_Oracle_value) {α : Type} (x1 : ByteArray) (x2 : Int) (x3 : List Int) (x4 : List (Int × Int × Int × ByteArray × ByteArray × Int)) (x5 : List Int) (K : O_ref03_Oracle_Hash → Option α) : Option α :=
 (F_ref03_Oracle_value ((1, 0, 0, x1, ByteArray.empty, 0, ()), ()) ((x2, ()), x3, x4, x5, ())).bind fun r1 =>
 K (r1.fst, ((r1.snd.fst.fst, ()), (r1.snd.snd.fst, ((), (r1.snd.snd.snd.snd.fst, (r1.snd.snd.snd.snd.snd.fst, ()))))))
noncomputable def F_ref03_Oracle_Hash : A_ref03_Oracle_Hash → M_ref03_Oracle_Hash → Option O_ref03_Oracle_Hash := fun a b => tree_ref03_Oracle_Hash F_ref03_Oracle_value a.1 b.1.1 b.2.1 b.2.2.1 b.2.2.2.1 some
theorem n_ref03_Oracle_Hash (F_ref03_Oracle_value : A_ref03_Oracle_value → M_ref03_Oracle_value → Option O_ref03_Oracle_value) (x1 : ByteArray) (x2 : Int) (x3 : List Int) (x4 : List (Int × Int × Int × ByteArray × ByteArray × Int)) (x5 : List Int) {α : Type} (K : O_ref03_Oracle_Hash → Option α) : tree_ref03_Oracle_Hash F_ref03_Oracle_value x1 x2 x3 x4 x5 K = (tree_ref03_Oracle_Hash F_ref03_Oracle_value x1 x2 x3 x4 x5 some).bind K := by simp only [tree_ref03_Oracle_Hash, bind_cond, bind_none', bind_some', bind_bind', bind_sum]
theorem Fe_ref03_Oracle_Hash (x1 : ByteArray) (x2 : Int) (x3 : List Int) (x4 : List (Int × Int × Int × ByteArray × ByteArray × Int)) (x5 : List Int) : F_ref03_Oracle_Hash (x1, ()) ((x2, ()), (x3, (x4, (x5, ())))) = tree_ref03_Oracle_Hash F_ref03_Oracle_value x1 x2 x3 x4 x5 some := rfl

end Go.Proofs.Ytljfdfghagiblaa.S2
