/- Plain forms of the program's functions, by program. -/
import Derived.Test.YtjhaidbfahobmaaGlaw16
set_option maxRecDepth 100000
set_option maxHeartbeats 0
set_option linter.unusedVariables false
set_option linter.unusedSimpArgs false
namespace Go.Proofs.Ytjhaidbfahobmaa.S2
open Go
/-! countersign/countersignlaw16.VoteOnce -/
def args_law16_VoteOnce : SkL := (.cons (.agg (.cons (.leaf (.int .u64)) (.cons (.leaf (.int .u64)) .nil))) (.cons (.agg (.cons (.leaf (.int .u64)) (.cons (.leaf (.int .u64)) (.cons (.leaf (.slc 70 (.cons (.int .u64) (.cons (.int .i64) (.cons .str .nil))))) .nil)))) (.cons (.leaf (.slc 49 (.cons (.int .u64) (.cons (.int .u64) (.cons (.int .u64) (.cons (.int .u64) .nil)))))) .nil)))
def mem_law16_VoteOnce : MSk := []
def outs_law16_VoteOnce : List OutC := [⟨(.leaf .bool), []⟩]
abbrev A_law16_VoteOnce : Type := ((Int × Int × Unit) × (Int × Int × (List (Int × Int × ByteArray)) × Unit) × (List (Int × Int × Int × Int)) × Unit)
abbrev M_law16_VoteOnce : Type := Unit
abbrev O_law16_VoteOnce : Type := Bool × Unit
def ltmps_law16_VoteOnce_12 : SkL := (dz 2 (.cons (.leaf (.slc 49 (.cons (.int .u64) (.cons (.int .u64) (.cons (.int .u64) (.cons (.int .u64) .nil)))))) (.cons (.const (.ptr 1096 0 0)) (.cons (.const (.ptr 1128 0 0)) (dz 2 (.cons (.const (.slw 507)) (.cons (.leaf (.int .i64)) (.cons (.const (.ptr 1288 0 0)) (.cons (.const (.ptr 1320 0 0)) (.cons (.leaf .bool) (.cons (.leaf (.int .i64)) (dz 112 .nil))))))))))))
def lmem_law16_VoteOnce_12 : MSk := [(507, .row 49 (.cons (.int .u64) (.cons (.int .u64) (.cons (.int .u64) (.cons (.int .u64) .nil))))), (1096, .cells (.cons (.leaf (.int .u64)) (.cons (.leaf (.int .u64)) .nil))), (1128, .cells (.cons (.leaf (.int .u64)) (.cons (.leaf (.int .u64)) (.cons (.leaf (.slc 70 (.cons (.int .u64) (.cons (.int .i64) (.cons .str .nil))))) .nil)))), (1288, .cells (.cons (.leaf (.int .u64)) (.cons (.leaf (.int .u64)) (.cons (.leaf (.int .u64)) (.cons (.leaf (.int .u64)) .nil))))), (1320, .cells (.cons (.leaf (.int .u64)) (.cons (.leaf (.int .u64)) .nil)))]
def louts_law16_VoteOnce_12 : List OutL := [⟨.ret, (dz 2 (.cons (.leaf (.slc 49 (.cons (.int .u64) (.cons (.int .u64) (.cons (.int .u64) (.cons (.int .u64) .nil)))))) (.cons (.const (.ptr 1096 0 0)) (.cons (.const (.ptr 1128 0 0)) (.cons (.const .dead) (.cons (.leaf .bool) (.cons (.const (.slw 507)) (.cons (.leaf (.int .i64)) (.cons (.const (.ptr 1288 0 0)) (.cons (.const (.ptr 1320 0 0)) (.cons (.leaf .bool) (dz 113 .nil)))))))))))), [(507, .row 49 (.cons (.int .u64) (.cons (.int .u64) (.cons (.int .u64) (.cons (.int .u64) .nil))))), (1096, .cells (.cons (.leaf (.int .u64)) (.cons (.leaf (.int .u64)) .nil))), (1128, .cells (.cons (.leaf (.int .u64)) (.cons (.leaf (.int .u64)) (.cons (.leaf (.slc 70 (.cons (.int .u64) (.cons (.int .i64) (.cons .str .nil))))) .nil)))), (1288, .cells (.cons (.leaf (.int .u64)) (.cons (.leaf (.int .u64)) (.cons (.leaf (.int .u64)) (.cons (.leaf (.int .u64)) .nil))))), (1320, .cells (.cons (.leaf (.int .u64)) (.cons (.leaf (.int .u64)) .nil)))]⟩, ⟨(.exit 2), (dz 2 (.cons (.leaf (.slc 49 (.cons (.int .u64) (.cons (.int .u64) (.cons (.int .u64) (.cons (.int .u64) .nil)))))) (.cons (.const (.ptr 1096 0 0)) (.cons (.const (.ptr 1128 0 0)) (dz 2 (.cons (.const (.slw 507)) (.cons (.leaf (.int .i64)) (.cons (.const (.ptr 1288 0 0)) (.cons (.const (.ptr 1320 0 0)) (.cons (.leaf .bool) (dz 113 .nil))))))))))), [(507, .row 49 (.cons (.int .u64) (.cons (.int .u64) (.cons (.int .u64) (.cons (.int .u64) .nil))))), (1096, .cells (.cons (.leaf (.int .u64)) (.cons (.leaf (.int .u64)) .nil))), (1128, .cells (.cons (.leaf (.int .u64)) (.cons (.leaf (.int .u64)) (.cons (.leaf (.slc 70 (.cons (.int .u64) (.cons (.int .i64) (.cons .str .nil))))) .nil)))), (1288, .cells (.cons (.leaf (.int .u64)) (.cons (.leaf (.int .u64)) (.cons (.leaf (.int .u64)) (.cons (.leaf (.int .u64)) .nil))))), (1320, .cells (.cons (.leaf (.int .u64)) (.cons (.leaf (.int .u64)) .nil)))]⟩]
abbrev LT_law16_VoteOnce_12 : Type := ((List (Int × Int × Int × Int)) × Int × Bool × Int × Unit)
abbrev LM_law16_VoteOnce_12 : Type := ((List (Int × Int × Int × Int)) × (Int × Int × Unit) × (Int × Int × (List (Int × Int × ByteArray)) × Unit) × (Int × Int × Int × Int × Unit) × (Int × Int × Unit) × Unit)
abbrev LO_law16_VoteOnce_12 : Type := (((List (Int × Int × Int × Int)) × Bool × Int × Bool × Unit) × ((List (Int × Int × Int × Int)) × (Int × Int × Unit) × (Int × Int × (List (Int × Int × ByteArray)) × Unit) × (Int × Int × Int × Int × Unit) × (Int × Int × Unit) × Unit)) ⊕ (((List (Int × Int × Int × Int)) × Int × Bool × Unit) × ((List (Int × Int × Int × Int)) × (Int × Int × Unit) × (Int × Int × (List (Int × Int × ByteArray)) × Unit) × (Int × Int × Int × Int × Unit) × (Int × Int × Unit) × Unit))
def ltree_law16_VoteOnce_12 {α : Type} (x1 : List (Int × Int × Int × Int)) (x2 : Int) (x3 : Bool) (x4 : Int) (x5 : List (Int × Int × Int × Int)) (x6 : Int) (x7 : Int) (x8 : Int) (x9 : Int) (x10 : List (Int × Int × ByteArray)) (x11 : Int) (x12 : Int) (x13 : Int) (x14 : Int) (x15 : Int) (x16 : Int) (kn : LT_law16_VoteOnce_12 → LM_law16_VoteOnce_12 → Option α) (kr : LO_law16_VoteOnce_12 → Option α) : Option α :=
  cond (x3)
  (cond (decide (x4 < (↑x5.length : Int)))
   (cond (decide (0 ≤ x4))
    (cond (decide (x4 < (↑x5.length : Int)))
     (cond ((x5.getD (0 + x4.toNat) (0, 0, 0, 0)).fst == x11)
      (cond (decide (0 ≤ x4))
       (cond (decide (x4 < (↑x5.length : Int)))
        (cond ((x5.getD (0 + x4.toNat) (0, 0, 0, 0)).snd.fst != x12)
         (kr (.inl ((x1, (false, (x2, (x3, ())))), (x5, ((x6, (x7, ())), ((x8, (x9, (x10, ()))), ((x11, (x12, (x13, (x14, ())))), ((x15, (x16, ())), ()))))))))
         (kn (x1, (x2, (x3, (IntKind.i64.wrap (x4 + 1), ())))) (x5, ((x6, (x7, ())), ((x8, (x9, (x10, ()))), ((x11, (x12, (x13, (x14, ())))), ((x15, (x16, ())), ())))))))
        (none))
       (none))
      (kn (x1, (x2, (x3, (IntKind.i64.wrap (x4 + 1), ())))) (x5, ((x6, (x7, ())), ((x8, (x9, (x10, ()))), ((x11, (x12, (x13, (x14, ())))), ((x15, (x16, ())), ())))))))
     (none))
    (none))
   (kr (.inr ((x1, (x2, (x3, ()))), (x5, ((x6, (x7, ())), ((x8, (x9, (x10, ()))), ((x11, (x12, (x13, (x14, ())))), ((x15, (x16, ())), ())))))))))
  (kr (.inr ((x1, (x2, (x3, ()))), (x5, ((x6, (x7, ())), ((x8, (x9, (x10, ()))), ((x11, (x12, (x13, (x14, ())))), ((x15, (x16, ())), ()))))))))
noncomputable def L_law16_VoteOnce_12 : LT_law16_VoteOnce_12 → LM_law16_VoteOnce_12 → Option LO_law16_VoteOnce_12 := fun x y => runL (fun p => (fun (a : LT_law16_VoteOnce_12) (b : LM_law16_VoteOnce_12) => ltree_law16_VoteOnce_12 a.1 a.2.1 a.2.2.1 a.2.2.2.1 b.1 b.2.1.1 b.2.1.2.1 b.2.2.1.1 b.2.2.1.2.1 b.2.2.1.2.2.1 b.2.2.2.1.1 b.2.2.2.1.2.1 b.2.2.2.1.2.2.1 b.2.2.2.1.2.2.2.1 b.2.2.2.2.1.1 b.2.2.2.2.1.2.1 (fun a' b' => some (.inl (a', b'))) fun r => some (.inr r)) p.1 p.2) (x, y)
theorem nl_law16_VoteOnce_12 (x1 : List (Int × Int × Int × Int)) (x2 : Int) (x3 : Bool) (x4 : Int) (x5 : List (Int × Int × Int × Int)) (x6 : Int) (x7 : Int) (x8 : Int) (x9 : Int) (x10 : List (Int × Int × ByteArray)) (x11 : Int) (x12 : Int) (x13 : Int) (x14 : Int) (x15 : Int) (x16 : Int) {α : Type} (kn : LT_law16_VoteOnce_12 → LM_law16_VoteOnce_12 → Option α) (kr : LO_law16_VoteOnce_12 → Option α) : ltree_law16_VoteOnce_12 x1 x2 x3 x4 x5 x6 x7 x8 x9 x10 x11 x12 x13 x14 x15 x16 kn kr = (ltree_law16_VoteOnce_12 x1 x2 x3 x4 x5 x6 x7 x8 x9 x10 x11 x12 x13 x14 x15 x16 (fun a b => some (.inl (a, b))) fun r => some (.inr r)).bind (Sum.elim (fun p : LT_law16_VoteOnce_12 × LM_law16_VoteOnce_12 => kn p.1 p.2) kr) := by simp only [ltree_law16_VoteOnce_12, bind_cond, bind_none', bind_some', bind_bind', bind_sum, Sum.elim_inl, Sum.elim_inr]
theorem Le_law16_VoteOnce_12 (x1 : List (Int × Int × Int × Int)) (x2 : Int) (x3 : Bool) (x4 : Int) (x5 : List (Int × Int × Int × Int)) (x6 : Int) (x7 : Int) (x8 : Int) (x9 : Int) (x10 : List (Int × Int × ByteArray)) (x11 : Int) (x12 : Int) (x13 : Int) (x14 : Int) (x15 : Int) (x16 : Int) : L_law16_VoteOnce_12 (x1, (x2, (x3, (x4, ())))) (x5, ((x6, (x7, ())), ((x8, (x9, (x10, ()))), ((x11, (x12, (x13, (x14, ())))), ((x15, (x16, ())), ()))))) = ltree_law16_VoteOnce_12 x1 x2 x3 x4 x5 x6 x7 x8 x9 x10 x11 x12 x13 x14 x15 x16 L_law16_VoteOnce_12 some := runL_tree (A := LT_law16_VoteOnce_12) (B := LM_law16_VoteOnce_12) (R := LO_law16_VoteOnce_12) (fun a b kn kr => ltree_law16_VoteOnce_12 a.1 a.2.1 a.2.2.1 a.2.2.2.1 b.1 b.2.1.1 b.2.1.2.1 b.2.2.1.1 b.2.2.1.2.1 b.2.2.1.2.2.1 b.2.2.2.1.1 b.2.2.2.1.2.1 b.2.2.2.1.2.2.1 b.2.2.2.1.2.2.2.1 b.2.2.2.2.1.1 b.2.2.2.2.1.2.1 kn kr) (fun a b kn kr => nl_law16_VoteOnce_12 a.1 a.2.1 a.2.2.1 a.2.2.2.1 b.1 b.2.1.1 b.2.1.2.1 b.2.2.1.1 b.2.2.1.2.1 b.2.2.1.2.2.1 b.2.2.2.1.1 b.2.2.2.1.2.1 b.2.2.2.1.2.2.1 b.2.2.2.1.2.2.2.1 b.2.2.2.2.1.1 b.2.2.2.2.1.2.1 kn kr) (x1, (x2, (x3, (x4, ())))) (x5, ((x6, (x7, ())), ((x8, (x9, (x10, ()))), ((x11, (x12, (x13, (x14, ())))), ((x15, (x16, ())), ())))))
def ltmps_law16_VoteOnce_5 : SkL := (dz 2 (.cons (.leaf (.slc 49 (.cons (.int .u64) (.cons (.int .u64) (.cons (.int .u64) (.cons (.int .u64) .nil)))))) (.cons (.const (.ptr 1096 0 0)) (.cons (.const (.ptr 1128 0 0)) (dz 2 (.cons (.const (.slw 507)) (.cons (.leaf (.int .i64)) (dz 116 .nil))))))))
def lmem_law16_VoteOnce_5 : MSk := [(507, .row 49 (.cons (.int .u64) (.cons (.int .u64) (.cons (.int .u64) (.cons (.int .u64) .nil))))), (1096, .cells (.cons (.leaf (.int .u64)) (.cons (.leaf (.int .u64)) .nil))), (1128, .cells (.cons (.leaf (.int .u64)) (.cons (.leaf (.int .u64)) (.cons (.leaf (.slc 70 (.cons (.int .u64) (.cons (.int .i64) (.cons .str .nil))))) .nil))))]
def louts_law16_VoteOnce_5 : List OutL := [⟨.ret, (dz 6 (.cons (.leaf .bool) (dz 118 .nil))), []⟩, ⟨(.exit 0), (dz 125 .nil), []⟩]
abbrev LT_law16_VoteOnce_5 : Type := ((List (Int × Int × Int × Int)) × Int × Unit)
abbrev LM_law16_VoteOnce_5 : Type := ((List (Int × Int × Int × Int)) × (Int × Int × Unit) × (Int × Int × (List (Int × Int × ByteArray)) × Unit) × Unit)
abbrev LO_law16_VoteOnce_5 : Type := ((Bool × Unit) × Unit) ⊕ (Unit × Unit)
def ltree_law16_VoteOnce_5 (F_vote_Ask : A_vote_Ask → M_vote_Ask → Option O_vote_Ask) (L_law16_VoteOnce_12 : LT_law16_VoteOnce_12 → LM_law16_VoteOnce_12 → Option LO_law16_VoteOnce_12) {α : Type} (x1 : List (Int × Int × Int × Int)) (x2 : Int) (x3 : List (Int × Int × Int × Int)) (x4 : Int) (x5 : Int) (x6 : Int) (x7 : Int) (x8 : List (Int × Int × ByteArray)) (kn : LT_law16_VoteOnce_5 → LM_law16_VoteOnce_5 → Option α) (kr : LO_law16_VoteOnce_5 → Option α) : Option α :=
  cond (decide (x2 < (↑x1.length : Int)))
  (cond (decide (x2 < 100))
   (cond (decide (0 ≤ x2))
    (cond (decide (x2 < (↑x1.length : Int)))
     ((F_vote_Ask   ((x4, x5, ()), (x6, x7, x8, ()), (x1.getD x2.toNat (0, 0, 0, 0)).fst, (x1.getD x2.toNat (0, 0, 0, 0)).snd.fst,     (x1.getD x2.toNat (0, 0, 0, 0)).snd.snd.fst, (x1.getD x2.toNat (0, 0, 0, 0)).snd.snd.snd, ())   ()).bind fun r1 =>
      cond (decide (r1.fst.fst.fst < x4))
      (kr (.inl ((false, ()), ())))
      (cond (r1.fst.snd.fst)
       (cond (r1.fst.fst.fst != (x1.getD x2.toNat (0, 0, 0, 0)).fst)
        (kr (.inl ((false, ()), ())))
        (cond (r1.fst.fst.snd.fst != IntKind.u64.wrap ((x1.getD x2.toNat (0, 0, 0, 0)).snd.fst + 1))
         (kr (.inl ((false, ()), ())))
         (cond (r1.fst.fst.fst == x4)
          (cond (x5 != 0)
           (cond (r1.fst.fst.snd.fst != x5)
            (kr (.inl ((false, ()), ())))
            ((L_law16_VoteOnce_12 (x1, x2, r1.fst.snd.fst, 0, ())   (x3, (x4, x5, ()), (x6, x7, x8, ()),     ((x1.getD x2.toNat (0, 0, 0, 0)).fst, (x1.getD x2.toNat (0, 0, 0, 0)).snd.fst,       (x1.getD x2.toNat (0, 0, 0, 0)).snd.snd.fst, (x1.getD x2.toNat (0, 0, 0, 0)).snd.snd.snd, ()),     (r1.fst.fst.fst, r1.fst.fst.snd.fst, ()), ())).bind fun r2 =>
             Sum.elim (fun u3 =>
              kr (.inl ((u3.fst.snd.fst, ()), ())))
             (fun u3 =>
              cond (u3.fst.snd.snd.fst)
              (cond (decide   ((u3.snd.fst.length +         ([] ++             [(u3.snd.snd.snd.snd.fst.fst, u3.snd.snd.snd.snd.fst.snd.fst, u3.snd.snd.snd.snd.fst.snd.snd.fst,                 u3.snd.snd.snd.snd.fst.snd.snd.snd.fst)]).length) *       32 ≤     140737488355328))
               (kn (u3.fst.fst, (IntKind.i64.wrap (u3.fst.snd.fst + 1), ())) (u3.snd.fst ++   ([] ++     [(u3.snd.snd.snd.snd.fst.fst, u3.snd.snd.snd.snd.fst.snd.fst, u3.snd.snd.snd.snd.fst.snd.snd.fst,         u3.snd.snd.snd.snd.fst.snd.snd.snd.fst)]), ((u3.snd.snd.snd.snd.snd.fst.fst, (u3.snd.snd.snd.snd.snd.fst.snd.fst, ())), ((u3.snd.snd.snd.fst.fst, (u3.snd.snd.snd.fst.snd.fst, (u3.snd.snd.snd.fst.snd.snd.fst, ()))), ()))))
               (none))
              (kn (u3.fst.fst, (IntKind.i64.wrap (u3.fst.snd.fst + 1), ())) (u3.snd.fst, ((u3.snd.snd.snd.snd.snd.fst.fst, (u3.snd.snd.snd.snd.snd.fst.snd.fst, ())), ((u3.snd.snd.snd.fst.fst, (u3.snd.snd.snd.fst.snd.fst, (u3.snd.snd.snd.fst.snd.snd.fst, ()))), ()))))) (r2)))
           ((L_law16_VoteOnce_12 (x1, x2, r1.fst.snd.fst, 0, ())   (x3, (x4, x5, ()), (x6, x7, x8, ()),     ((x1.getD x2.toNat (0, 0, 0, 0)).fst, (x1.getD x2.toNat (0, 0, 0, 0)).snd.fst,       (x1.getD x2.toNat (0, 0, 0, 0)).snd.snd.fst, (x1.getD x2.toNat (0, 0, 0, 0)).snd.snd.snd, ()),     (r1.fst.fst.fst, r1.fst.fst.snd.fst, ()), ())).bind fun r4 =>
            Sum.elim (fun u5 =>
             kr (.inl ((u5.fst.snd.fst, ()), ())))
            (fun u5 =>
             cond (u5.fst.snd.snd.fst)
             (cond (decide   ((u5.snd.fst.length +         ([] ++             [(u5.snd.snd.snd.snd.fst.fst, u5.snd.snd.snd.snd.fst.snd.fst, u5.snd.snd.snd.snd.fst.snd.snd.fst,                 u5.snd.snd.snd.snd.fst.snd.snd.snd.fst)]).length) *       32 ≤     140737488355328))
              (kn (u5.fst.fst, (IntKind.i64.wrap (u5.fst.snd.fst + 1), ())) (u5.snd.fst ++   ([] ++     [(u5.snd.snd.snd.snd.fst.fst, u5.snd.snd.snd.snd.fst.snd.fst, u5.snd.snd.snd.snd.fst.snd.snd.fst,         u5.snd.snd.snd.snd.fst.snd.snd.snd.fst)]), ((u5.snd.snd.snd.snd.snd.fst.fst, (u5.snd.snd.snd.snd.snd.fst.snd.fst, ())), ((u5.snd.snd.snd.fst.fst, (u5.snd.snd.snd.fst.snd.fst, (u5.snd.snd.snd.fst.snd.snd.fst, ()))), ()))))
              (none))
             (kn (u5.fst.fst, (IntKind.i64.wrap (u5.fst.snd.fst + 1), ())) (u5.snd.fst, ((u5.snd.snd.snd.snd.snd.fst.fst, (u5.snd.snd.snd.snd.snd.fst.snd.fst, ())), ((u5.snd.snd.snd.fst.fst, (u5.snd.snd.snd.fst.snd.fst, (u5.snd.snd.snd.fst.snd.snd.fst, ()))), ()))))) (r4)))
          ((L_law16_VoteOnce_12 (x1, x2, r1.fst.snd.fst, 0, ())   (x3, (x4, x5, ()), (x6, x7, x8, ()),     ((x1.getD x2.toNat (0, 0, 0, 0)).fst, (x1.getD x2.toNat (0, 0, 0, 0)).snd.fst,       (x1.getD x2.toNat (0, 0, 0, 0)).snd.snd.fst, (x1.getD x2.toNat (0, 0, 0, 0)).snd.snd.snd, ()),     (r1.fst.fst.fst, r1.fst.fst.snd.fst, ()), ())).bind fun r6 =>
           Sum.elim (fun u7 =>
            kr (.inl ((u7.fst.snd.fst, ()), ())))
           (fun u7 =>
            cond (u7.fst.snd.snd.fst)
            (cond (decide   ((u7.snd.fst.length +         ([] ++             [(u7.snd.snd.snd.snd.fst.fst, u7.snd.snd.snd.snd.fst.snd.fst, u7.snd.snd.snd.snd.fst.snd.snd.fst,                 u7.snd.snd.snd.snd.fst.snd.snd.snd.fst)]).length) *       32 ≤     140737488355328))
             (kn (u7.fst.fst, (IntKind.i64.wrap (u7.fst.snd.fst + 1), ())) (u7.snd.fst ++   ([] ++     [(u7.snd.snd.snd.snd.fst.fst, u7.snd.snd.snd.snd.fst.snd.fst, u7.snd.snd.snd.snd.fst.snd.snd.fst,         u7.snd.snd.snd.snd.fst.snd.snd.snd.fst)]), ((u7.snd.snd.snd.snd.snd.fst.fst, (u7.snd.snd.snd.snd.snd.fst.snd.fst, ())), ((u7.snd.snd.snd.fst.fst, (u7.snd.snd.snd.fst.snd.fst, (u7.snd.snd.snd.fst.snd.snd.fst, ()))), ()))))
             (none))
            (kn (u7.fst.fst, (IntKind.i64.wrap (u7.fst.snd.fst + 1), ())) (u7.snd.fst, ((u7.snd.snd.snd.snd.snd.fst.fst, (u7.snd.snd.snd.snd.snd.fst.snd.fst, ())), ((u7.snd.snd.snd.fst.fst, (u7.snd.snd.snd.fst.snd.fst, (u7.snd.snd.snd.fst.snd.snd.fst, ()))), ()))))) (r6)))))
       (cond (r1.fst.fst.fst == x4)
        (cond (x5 != 0)
         (cond (r1.fst.fst.snd.fst != x5)
          (kr (.inl ((false, ()), ())))
          ((L_law16_VoteOnce_12 (x1, x2, r1.fst.snd.fst, 0, ())   (x3, (x4, x5, ()), (x6, x7, x8, ()),     ((x1.getD x2.toNat (0, 0, 0, 0)).fst, (x1.getD x2.toNat (0, 0, 0, 0)).snd.fst,       (x1.getD x2.toNat (0, 0, 0, 0)).snd.snd.fst, (x1.getD x2.toNat (0, 0, 0, 0)).snd.snd.snd, ()),     (r1.fst.fst.fst, r1.fst.fst.snd.fst, ()), ())).bind fun r8 =>
           Sum.elim (fun u9 =>
            kr (.inl ((u9.fst.snd.fst, ()), ())))
           (fun u9 =>
            cond (u9.fst.snd.snd.fst)
            (cond (decide   ((u9.snd.fst.length +         ([] ++             [(u9.snd.snd.snd.snd.fst.fst, u9.snd.snd.snd.snd.fst.snd.fst, u9.snd.snd.snd.snd.fst.snd.snd.fst,                 u9.snd.snd.snd.snd.fst.snd.snd.snd.fst)]).length) *       32 ≤     140737488355328))
             (kn (u9.fst.fst, (IntKind.i64.wrap (u9.fst.snd.fst + 1), ())) (u9.snd.fst ++   ([] ++     [(u9.snd.snd.snd.snd.fst.fst, u9.snd.snd.snd.snd.fst.snd.fst, u9.snd.snd.snd.snd.fst.snd.snd.fst,         u9.snd.snd.snd.snd.fst.snd.snd.snd.fst)]), ((u9.snd.snd.snd.snd.snd.fst.fst, (u9.snd.snd.snd.snd.snd.fst.snd.fst, ())), ((u9.snd.snd.snd.fst.fst, (u9.snd.snd.snd.fst.snd.fst, (u9.snd.snd.snd.fst.snd.snd.fst, ()))), ()))))
             (none))
            (kn (u9.fst.fst, (IntKind.i64.wrap (u9.fst.snd.fst + 1), ())) (u9.snd.fst, ((u9.snd.snd.snd.snd.snd.fst.fst, (u9.snd.snd.snd.snd.snd.fst.snd.fst, ())), ((u9.snd.snd.snd.fst.fst, (u9.snd.snd.snd.fst.snd.fst, (u9.snd.snd.snd.fst.snd.snd.fst, ()))), ()))))) (r8)))
         ((L_law16_VoteOnce_12 (x1, x2, r1.fst.snd.fst, 0, ())   (x3, (x4, x5, ()), (x6, x7, x8, ()),     ((x1.getD x2.toNat (0, 0, 0, 0)).fst, (x1.getD x2.toNat (0, 0, 0, 0)).snd.fst,       (x1.getD x2.toNat (0, 0, 0, 0)).snd.snd.fst, (x1.getD x2.toNat (0, 0, 0, 0)).snd.snd.snd, ()),     (r1.fst.fst.fst, r1.fst.fst.snd.fst, ()), ())).bind fun r10 =>
          Sum.elim (fun u11 =>
           kr (.inl ((u11.fst.snd.fst, ()), ())))
          (fun u11 =>
           cond (u11.fst.snd.snd.fst)
           (cond (decide   ((u11.snd.fst.length +         ([] ++             [(u11.snd.snd.snd.snd.fst.fst, u11.snd.snd.snd.snd.fst.snd.fst, u11.snd.snd.snd.snd.fst.snd.snd.fst,                 u11.snd.snd.snd.snd.fst.snd.snd.snd.fst)]).length) *       32 ≤     140737488355328))
            (kn (u11.fst.fst, (IntKind.i64.wrap (u11.fst.snd.fst + 1), ())) (u11.snd.fst ++   ([] ++     [(u11.snd.snd.snd.snd.fst.fst, u11.snd.snd.snd.snd.fst.snd.fst, u11.snd.snd.snd.snd.fst.snd.snd.fst,         u11.snd.snd.snd.snd.fst.snd.snd.snd.fst)]), ((u11.snd.snd.snd.snd.snd.fst.fst, (u11.snd.snd.snd.snd.snd.fst.snd.fst, ())), ((u11.snd.snd.snd.fst.fst, (u11.snd.snd.snd.fst.snd.fst, (u11.snd.snd.snd.fst.snd.snd.fst, ()))), ()))))
            (none))
           (kn (u11.fst.fst, (IntKind.i64.wrap (u11.fst.snd.fst + 1), ())) (u11.snd.fst, ((u11.snd.snd.snd.snd.snd.fst.fst, (u11.snd.snd.snd.snd.snd.fst.snd.fst, ())), ((u11.snd.snd.snd.fst.fst, (u11.snd.snd.snd.fst.snd.fst, (u11.snd.snd.snd.fst.snd.snd.fst, ()))), ()))))) (r10)))
        ((L_law16_VoteOnce_12 (x1, x2, r1.fst.snd.fst, 0, ())   (x3, (x4, x5, ()), (x6, x7, x8, ()),     ((x1.getD x2.toNat (0, 0, 0, 0)).fst, (x1.getD x2.toNat (0, 0, 0, 0)).snd.fst,       (x1.getD x2.toNat (0, 0, 0, 0)).snd.snd.fst, (x1.getD x2.toNat (0, 0, 0, 0)).snd.snd.snd, ()),     (r1.fst.fst.fst, r1.fst.fst.snd.fst, ()), ())).bind fun r12 =>
         Sum.elim (fun u13 =>
          kr (.inl ((u13.fst.snd.fst, ()), ())))
         (fun u13 =>
          cond (u13.fst.snd.snd.fst)
          (cond (decide   ((u13.snd.fst.length +         ([] ++             [(u13.snd.snd.snd.snd.fst.fst, u13.snd.snd.snd.snd.fst.snd.fst, u13.snd.snd.snd.snd.fst.snd.snd.fst,                 u13.snd.snd.snd.snd.fst.snd.snd.snd.fst)]).length) *       32 ≤     140737488355328))
           (kn (u13.fst.fst, (IntKind.i64.wrap (u13.fst.snd.fst + 1), ())) (u13.snd.fst ++   ([] ++     [(u13.snd.snd.snd.snd.fst.fst, u13.snd.snd.snd.snd.fst.snd.fst, u13.snd.snd.snd.snd.fst.snd.snd.fst,         u13.snd.snd.snd.snd.fst.snd.snd.snd.fst)]), ((u13.snd.snd.snd.snd.snd.fst.fst, (u13.snd.snd.snd.snd.snd.fst.snd.fst, ())), ((u13.snd.snd.snd.fst.fst, (u13.snd.snd.snd.fst.snd.fst, (u13.snd.snd.snd.fst.snd.snd.fst, ()))), ()))))
           (none))
          (kn (u13.fst.fst, (IntKind.i64.wrap (u13.fst.snd.fst + 1), ())) (u13.snd.fst, ((u13.snd.snd.snd.snd.snd.fst.fst, (u13.snd.snd.snd.snd.snd.fst.snd.fst, ())), ((u13.snd.snd.snd.fst.fst, (u13.snd.snd.snd.fst.snd.fst, (u13.snd.snd.snd.fst.snd.snd.fst, ()))), ()))))) (r12)))))
     (none))
    (none))
   (kr (.inr ((), ()))))
  (kr (.inr ((), ())))
noncomputable def L_law16_VoteOnce_5 : LT_law16_VoteOnce_5 → LM_law16_VoteOnce_5 → Option LO_law16_VoteOnce_5 := fun x y => runL (fun p => (fun (a : LT_law16_VoteOnce_5) (b : LM_law16_VoteOnce_5) => ltree_law16_VoteOnce_5 F_vote_Ask L_law16_VoteOnce_12 a.1 a.2.1 b.1 b.2.1.1 b.2.1.2.1 b.2.2.1.1 b.2.2.1.2.1 b.2.2.1.2.2.1 (fun a' b' => some (.inl (a', b'))) fun r => some (.inr r)) p.1 p.2) (x, y)
theorem nl_law16_VoteOnce_5 (F_vote_Ask : A_vote_Ask → M_vote_Ask → Option O_vote_Ask) (L_law16_VoteOnce_12 : LT_law16_VoteOnce_12 → LM_law16_VoteOnce_12 → Option LO_law16_VoteOnce_12) (x1 : List (Int × Int × Int × Int)) (x2 : Int) (x3 : List (Int × Int × Int × Int)) (x4 : Int) (x5 : Int) (x6 : Int) (x7 : Int) (x8 : List (Int × Int × ByteArray)) {α : Type} (kn : LT_law16_VoteOnce_5 → LM_law16_VoteOnce_5 → Option α) (kr : LO_law16_VoteOnce_5 → Option α) : ltree_law16_VoteOnce_5 F_vote_Ask L_law16_VoteOnce_12 x1 x2 x3 x4 x5 x6 x7 x8 kn kr = (ltree_law16_VoteOnce_5 F_vote_Ask L_law16_VoteOnce_12 x1 x2 x3 x4 x5 x6 x7 x8 (fun a b => some (.inl (a, b))) fun r => some (.inr r)).bind (Sum.elim (fun p : LT_law16_VoteOnce_5 × LM_law16_VoteOnce_5 => kn p.1 p.2) kr) := by simp only [ltree_law16_VoteOnce_5, bind_cond, bind_none', bind_some', bind_bind', bind_sum, Sum.elim_inl, Sum.elim_inr]
theorem Le_law16_VoteOnce_5 (x1 : List (Int × Int × Int × Int)) (x2 : Int) (x3 : List (Int × Int × Int × Int)) (x4 : Int) (x5 : Int) (x6 : Int) (x7 : Int) (x8 : List (Int × Int × ByteArray)) : L_law16_VoteOnce_5 (x1, (x2, ())) (x3, ((x4, (x5, ())), ((x6, (x7, (x8, ()))), ()))) = ltree_law16_VoteOnce_5 F_vote_Ask L_law16_VoteOnce_12 x1 x2 x3 x4 x5 x6 x7 x8 L_law16_VoteOnce_5 some := runL_tree (A := LT_law16_VoteOnce_5) (B := LM_law16_VoteOnce_5) (R := LO_law16_VoteOnce_5) (fun a b kn kr => ltree_law16_VoteOnce_5 F_vote_Ask L_law16_VoteOnce_12 a.1 a.2.1 b.1 b.2.1.1 b.2.1.2.1 b.2.2.1.1 b.2.2.1.2.1 b.2.2.1.2.2.1 kn kr) (fun a b kn kr => nl_law16_VoteOnce_5 F_vote_Ask L_law16_VoteOnce_12 a.1 a.2.1 b.1 b.2.1.1 b.2.1.2.1 b.2.2.1.1 b.2.2.1.2.1 b.2.2.1.2.2.1 kn kr) (x1, (x2, ())) (x3, ((x4, (x5, ())), ((x6, (x7, (x8, ()))), ())))
def tree_law16_VoteOnce (F_law16_fixed : A_law16_fixed → M_law16_fixed → Option O_law16_fixed) (F_ref15_May : A_ref15_May → M_ref15_May → Option O_ref15_May) (L_law16_VoteOnce_5 : LT_law16_VoteOnce_5 → LM_law16_VoteOnce_5 → Option LO_law16_VoteOnce_5) {α : Type} (x1 : Int) (x2 : Int) (x3 : Int) (x4 : Int) (x5 : List (Int × Int × ByteArray)) (x6 : List (Int × Int × Int × Int)) (K : O_law16_VoteOnce → Option α) : Option α :=
  (F_law16_fixed () ()).bind fun r1 =>
  cond (!r1.fst)
  ((F_law16_fixed () ()).bind fun r2 =>
   K (r2.fst, ()))
  ((F_ref15_May ((x3, x4, x5, ()), ()) ()).bind fun r3 =>
   cond (!r3.fst)
   ((F_law16_fixed () ()).bind fun r4 =>
    K (r4.fst, ()))
   ((L_law16_VoteOnce_5 (x6, 0, ()) ([], (x1, x2, ()), (x3, x4, x5, ()), ())).bind fun r5 =>
    Sum.elim (fun u6 =>
     K (u6.fst.fst, ()))
    (fun u6 =>
     K (true, ())) (r5)))
noncomputable def F_law16_VoteOnce : A_law16_VoteOnce → M_law16_VoteOnce → Option O_law16_VoteOnce := fun a b => tree_law16_VoteOnce F_law16_fixed F_ref15_May L_law16_VoteOnce_5 a.1.1 a.1.2.1 a.2.1.1 a.2.1.2.1 a.2.1.2.2.1 a.2.2.1 some
theorem n_law16_VoteOnce (F_law16_fixed : A_law16_fixed → M_law16_fixed → Option O_law16_fixed) (F_ref15_May : A_ref15_May → M_ref15_May → Option O_ref15_May) (L_law16_VoteOnce_5 : LT_law16_VoteOnce_5 → LM_law16_VoteOnce_5 → Option LO_law16_VoteOnce_5) (x1 : Int) (x2 : Int) (x3 : Int) (x4 : Int) (x5 : List (Int × Int × ByteArray)) (x6 : List (Int × Int × Int × Int)) {α : Type} (K : O_law16_VoteOnce → Option α) : tree_law16_VoteOnce F_law16_fixed F_ref15_May L_law16_VoteOnce_5 x1 x2 x3 x4 x5 x6 K = (tree_law16_VoteOnce F_law16_fixed F_ref15_May L_law16_VoteOnce_5 x1 x2 x3 x4 x5 x6 some).bind K := by simp only [tree_law16_VoteOnce, bind_cond, bind_none', bind_some', bind_bind', bind_sum]
theorem Fe_law16_VoteOnce (x1 : Int) (x2 : Int) (x3 : Int) (x4 : Int) (x5 : List (Int × Int × ByteArray)) (x6 : List (Int × Int × Int × Int)) : F_law16_VoteOnce ((x1, (x2, ())), ((x3, (x4, (x5, ()))), (x6, ()))) () = tree_law16_VoteOnce F_law16_fixed F_ref15_May L_law16_VoteOnce_5 x1 x2 x3 x4 x5 x6 some := rfl

end Go.Proofs.Ytjhaidbfahobmaa.S2
