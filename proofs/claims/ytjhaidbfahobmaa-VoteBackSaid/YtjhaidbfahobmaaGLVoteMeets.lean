/- Plain forms of the program's functions, by program. -/
import Derived.Test.YtjhaidbfahobmaaGlaw16
set_option maxRecDepth 100000
set_option maxHeartbeats 0
set_option linter.unusedVariables false
set_option linter.unusedSimpArgs false
namespace Go.Proofs.Ytjhaidbfahobmaa.S2
open Go
/-! countersign/countersignlaw16.VoteMeets -/
def args_law16_VoteMeets : SkL := (.cons (.leaf (.slc 22 (.cons (.int .u64) .nil))) (.cons (.leaf (.int .u64)) (.cons (.agg (.cons (.leaf (.slc 22 (.cons (.int .u64) .nil))) (.cons (.leaf (.slc 22 (.cons (.int .u64) .nil))) .nil))) .nil)))
def mem_law16_VoteMeets : MSk := []
def outs_law16_VoteMeets : List OutC := [⟨(.leaf .bool), []⟩]
abbrev A_law16_VoteMeets : Type := (List Int × Int × (List Int × List Int × Unit) × Unit)
abbrev M_law16_VoteMeets : Type := Unit
abbrev O_law16_VoteMeets : Type := Bool × Unit
def ltmps_law16_VoteMeets_9 : SkL := (.cons (.leaf (.slc 22 (.cons (.int .u64) .nil))) (dz 4 (.cons (.const (.ptr 1160 0 0)) (dz 3 (.cons (.leaf .bool) (.cons (.leaf .bool) (.cons (.leaf (.int .i64)) (dz 58 .nil))))))))
def lmem_law16_VoteMeets_9 : MSk := [(1160, .cells (.cons (.leaf (.slc 22 (.cons (.int .u64) .nil))) (.cons (.leaf (.slc 22 (.cons (.int .u64) .nil))) .nil)))]
def louts_law16_VoteMeets_9 : List OutL := [⟨.ret, (dz 6 (.cons (.leaf .bool) (dz 2 (.cons (.leaf .bool) (.cons (.leaf .bool) (dz 59 .nil)))))), []⟩, ⟨(.exit 0), (dz 9 (.cons (.leaf .bool) (.cons (.leaf .bool) (dz 59 .nil)))), []⟩]
abbrev LT_law16_VoteMeets_9 : Type := (List Int × Bool × Bool × Int × Unit)
abbrev LM_law16_VoteMeets_9 : Type := ((List Int × List Int × Unit) × Unit)
abbrev LO_law16_VoteMeets_9 : Type := ((Bool × Bool × Bool × Unit) × Unit) ⊕ ((Bool × Bool × Unit) × Unit)
def ltree_law16_VoteMeets_9 (F_ref16_Has : A_ref16_Has → M_ref16_Has → Option O_ref16_Has) {α : Type} (x1 : List Int) (x2 : Bool) (x3 : Bool) (x4 : Int) (x5 : List Int) (x6 : List Int) (kn : LT_law16_VoteMeets_9 → LM_law16_VoteMeets_9 → Option α) (kr : LO_law16_VoteMeets_9 → Option α) : Option α :=
  cond (decide (x4 < (↑x5.length : Int)))
  (cond (decide (0 ≤ x4))
   (cond (decide (x4 < (↑x5.length : Int)))
    ((F_ref16_Has (x6, x5.getD x4.toNat 0, ()) ()).bind fun r1 =>
     cond (r1.fst)
     ((F_ref16_Has (x1, x5.getD x4.toNat 0, ()) ()).bind fun r2 =>
      cond (r2.fst)
      (kr (.inl ((true, (x2, (x3, ()))), ())))
      (kn (x1, (x2, (x3, (IntKind.i64.wrap (x4 + 1), ())))) ((x5, (x6, ())), ())))
     (kn (x1, (x2, (x3, (IntKind.i64.wrap (x4 + 1), ())))) ((x5, (x6, ())), ())))
    (none))
   (none))
  (kr (.inr ((x2, (x3, ())), ())))
noncomputable def L_law16_VoteMeets_9 : LT_law16_VoteMeets_9 → LM_law16_VoteMeets_9 → Option LO_law16_VoteMeets_9 := fun x y => runL (fun p => (fun (a : LT_law16_VoteMeets_9) (b : LM_law16_VoteMeets_9) => ltree_law16_VoteMeets_9 F_ref16_Has a.1 a.2.1 a.2.2.1 a.2.2.2.1 b.1.1 b.1.2.1 (fun a' b' => some (.inl (a', b'))) fun r => some (.inr r)) p.1 p.2) (x, y)
theorem nl_law16_VoteMeets_9 (F_ref16_Has : A_ref16_Has → M_ref16_Has → Option O_ref16_Has) (x1 : List Int) (x2 : Bool) (x3 : Bool) (x4 : Int) (x5 : List Int) (x6 : List Int) {α : Type} (kn : LT_law16_VoteMeets_9 → LM_law16_VoteMeets_9 → Option α) (kr : LO_law16_VoteMeets_9 → Option α) : ltree_law16_VoteMeets_9 F_ref16_Has x1 x2 x3 x4 x5 x6 kn kr = (ltree_law16_VoteMeets_9 F_ref16_Has x1 x2 x3 x4 x5 x6 (fun a b => some (.inl (a, b))) fun r => some (.inr r)).bind (Sum.elim (fun p : LT_law16_VoteMeets_9 × LM_law16_VoteMeets_9 => kn p.1 p.2) kr) := by simp only [ltree_law16_VoteMeets_9, bind_cond, bind_none', bind_some', bind_bind', bind_sum, Sum.elim_inl, Sum.elim_inr]
theorem Le_law16_VoteMeets_9 (x1 : List Int) (x2 : Bool) (x3 : Bool) (x4 : Int) (x5 : List Int) (x6 : List Int) : L_law16_VoteMeets_9 (x1, (x2, (x3, (x4, ())))) ((x5, (x6, ())), ()) = ltree_law16_VoteMeets_9 F_ref16_Has x1 x2 x3 x4 x5 x6 L_law16_VoteMeets_9 some := runL_tree (A := LT_law16_VoteMeets_9) (B := LM_law16_VoteMeets_9) (R := LO_law16_VoteMeets_9) (fun a b kn kr => ltree_law16_VoteMeets_9 F_ref16_Has a.1 a.2.1 a.2.2.1 a.2.2.2.1 b.1.1 b.1.2.1 kn kr) (fun a b kn kr => nl_law16_VoteMeets_9 F_ref16_Has a.1 a.2.1 a.2.2.1 a.2.2.2.1 b.1.1 b.1.2.1 kn kr) (x1, (x2, (x3, (x4, ())))) ((x5, (x6, ())), ())
def tree_law16_VoteMeets (F_law16_fixed : A_law16_fixed → M_law16_fixed → Option O_law16_fixed) (F_vote_Change : A_vote_Change → M_vote_Change → Option O_vote_Change) (F_vote_Most : A_vote_Most → M_vote_Most → Option O_vote_Most) (L_law16_VoteMeets_9 : LT_law16_VoteMeets_9 → LM_law16_VoteMeets_9 → Option LO_law16_VoteMeets_9) {α : Type} (x1 : List Int) (x2 : Int) (x3 : List Int) (x4 : List Int) (K : O_law16_VoteMeets → Option α) : Option α :=
  (F_law16_fixed () ()).bind fun r1 =>
  cond (!r1.fst)
  ((F_law16_fixed () ()).bind fun r2 =>
   K (r2.fst, ()))
  (cond (decide ((↑x1.length : Int) > 100))
   ((F_law16_fixed () ()).bind fun r3 =>
    K (r3.fst, ()))
   ((F_vote_Change (x1, x2, ()) ()).bind fun r4 =>
    (F_vote_Most (x1, x3, ()) ()).bind fun r5 =>
    cond (!r5.fst)
    (K (true, ()))
    ((F_vote_Most (x1, x4, ()) ()).bind fun r6 =>
     cond (r4.fst.snd.fst)
     ((F_vote_Most (r4.fst.fst, x4, ()) ()).bind fun r7 =>
      (L_law16_VoteMeets_9 (x1, r6.fst, r7.fst, 0, ()) ((x3, x4, ()), ())).bind fun r8 =>
      Sum.elim (fun u9 =>
       K (u9.fst.fst, ()))
      (fun u9 =>
       cond (!u9.fst.fst)
       (K (!u9.fst.snd.fst, ()))
       (K (false, ()))) (r8))
     ((L_law16_VoteMeets_9 (x1, r6.fst, Bool.false, 0, ()) ((x3, x4, ()), ())).bind fun r10 =>
      Sum.elim (fun u11 =>
       K (u11.fst.fst, ()))
      (fun u11 =>
       cond (!u11.fst.fst)
       (K (!u11.fst.snd.fst, ()))
       (K (false, ()))) (r10)))))
noncomputable def F_law16_VoteMeets : A_law16_VoteMeets → M_law16_VoteMeets → Option O_law16_VoteMeets := fun a b => tree_law16_VoteMeets F_law16_fixed F_vote_Change F_vote_Most L_law16_VoteMeets_9 a.1 a.2.1 a.2.2.1.1 a.2.2.1.2.1 some
theorem n_law16_VoteMeets (F_law16_fixed : A_law16_fixed → M_law16_fixed → Option O_law16_fixed) (F_vote_Change : A_vote_Change → M_vote_Change → Option O_vote_Change) (F_vote_Most : A_vote_Most → M_vote_Most → Option O_vote_Most) (L_law16_VoteMeets_9 : LT_law16_VoteMeets_9 → LM_law16_VoteMeets_9 → Option LO_law16_VoteMeets_9) (x1 : List Int) (x2 : Int) (x3 : List Int) (x4 : List Int) {α : Type} (K : O_law16_VoteMeets → Option α) : tree_law16_VoteMeets F_law16_fixed F_vote_Change F_vote_Most L_law16_VoteMeets_9 x1 x2 x3 x4 K = (tree_law16_VoteMeets F_law16_fixed F_vote_Change F_vote_Most L_law16_VoteMeets_9 x1 x2 x3 x4 some).bind K := by simp only [tree_law16_VoteMeets, bind_cond, bind_none', bind_some', bind_bind', bind_sum]
theorem Fe_law16_VoteMeets (x1 : List Int) (x2 : Int) (x3 : List Int) (x4 : List Int) : F_law16_VoteMeets (x1, (x2, ((x3, (x4, ())), ()))) () = tree_law16_VoteMeets F_law16_fixed F_vote_Change F_vote_Most L_law16_VoteMeets_9 x1 x2 x3 x4 some := rfl

end Go.Proofs.Ytjhaidbfahobmaa.S2
