/- slices.AppendSeq (nil, the values of a list): walked, for lists of uint64. -/
import Derived.Test.YtgakbdikappdbaaGreatGapp
import Derived.Test.YtgakbdikappdbaaGreatHbase
import Derived.RangeFuncBox
import Derived.RangeFuncLeaves
import Derived.Shelf.Abstract
import Derived.WalkKit
import Derived.OwnWalkIn
import Derived.TacticsInMore
import Derived.LoopNIn
import Derived.LoopIn
import Derived.Maps.AppendAt
set_option linter.unusedVariables false
namespace Go.Proofs.YtgakbdikappdbaaGreat.S2
open Go Go.RowKit Go.Shelf
namespace AppSeq
attribute [local go_sem] Oper.semAt_some
def upto (f : Nat → Int) (k : Nat) : List Int := (List.range k).map f
theorem upto_succ (f : Nat → Int) (k : Nat) : upto f (k + 1) = upto f k ++ [f k] := by simp [upto, List.range_succ]
theorem upto_length (f : Nat → Int) (k : Nat) : (upto f k).length = k := by simp [upto]
theorem upto_all (zs : List Int) : upto (fun j => zs[j]?.getD 0) zs.length = zs := by
  apply List.ext_getElem
  · simp [upto]
  · intro i h1 h2
    simp [upto, h2]
set_option maxRecDepth 100000 in
set_option maxHeartbeats 2000000 in
theorem values_in (F : Fence) (n : Nat) (h7 : F.fn 66) (hro : F.round = none) (hn : 1 ≤ n) (l Bs n₀ : Nat) (ad : Addr) (len cap : Nat) (zs : List Int) (hreach : len * 8 ≤ 140737488351232) (hb : 0 < len → ad.block < n₀) (J Jx : List Int → World → Prop)
    (hY : ∀ pre x W, J pre W → pre.length < len → YieldAt F (n - 1) Tryz.prog l #[.int .u64 x] W fun e W' =>
      (e = .returned (.bool true) ∧ J (pre ++ [x]) W' ∧ Below n₀ W W') ∨ (e = .returned (.bool false) ∧ Jx (pre ++ [x]) W'))
    (W : World) (hBs : W.cell? ⟨Bs, 0, none⟩ = some (.slice (some ad) len cap)) (hc : ∀ j, j < len → W.cell? (ad.add j) = some (.int .u64 (zs[j]?.getD 0))) (h0 : J [] W) :
    CallsIn F n Tryz.prog 66 #[.func (.yield l) #[] #[], .pointer (some ⟨Bs, 0, none⟩)] W fun e W' => (∃ v, e = .returned v) ∧
      (J (upto (fun j => zs[j]?.getD 0) len) W' ∨ (∃ pre, Jx pre W')) := by
  refine callsIn_of_wp Tryz.func66 rfl h7 ?_ hro
  simp only [Tryz.ntmps66, List.size_toArray, List.length_cons, List.length_nil, Nat.reduceAdd, Nat.reduceSub, Array.replicate_succ, Array.replicate_zero, List.push_toArray, List.append_toArray, List.nil_append, List.cons_append]
  gi_wp2
  gi_loopw [7] (fun i wr => ∃ k : Nat, k ≤ len ∧ i = .int .i64 k ∧ J (upto (fun j => zs[j]?.getD 0) k) wr ∧ Below n₀ W wr)
    (fun i _ => len - (intOf i).toNat)
  case atStart => exact ⟨0, Nat.zero_le _, rfl, h0, Below.refl _ _⟩
  case round =>
    obtain ⟨k, hk, rfl, hJs, hnx⟩ := hrel
    have hcx : k < len → wr.cell? (ad.add k) = some (.int .u64 (zs[k]?.getD 0)) := fun h => (hnx.cell (p := ad.add k) (by rw [add_block]; exact hb (by omega))).trans (hc k h)
    by_cases hlt : k < len
    · obtain ⟨fn, tmps, assign, body, hy, hR⟩ := hY _ (zs[k]?.getD 0) wr hJs (by rw [upto_length]; exact hlt)
      have hcx' := hcx hlt
      gi_wp2
      refine hR.mono ?_
      rintro e W3 (⟨rfl, hJ3, hk3⟩ | ⟨rfl, hJx3⟩)
      · gi_wp2
        go_roundw
        case rel => exact ⟨k + 1, by omega, by simp, by rw [upto_succ]; exact hJ3, hnx.trans hk3⟩
        case measure => simp [intOf]; omega
      · gi_wp2
        refine bodyPost_ret (results_none rfl _ _ _) rfl ?_
        exact ⟨⟨_, rfl⟩, .inr ⟨_, hJx3⟩⟩
    · obtain rfl : k = len := by omega
      gi_wp2
      go_end0
      exact ⟨⟨_, rfl⟩, .inl hJs⟩
set_option maxRecDepth 100000 in
set_option maxHeartbeats 1000000 in
theorem values_nil (F : Fence) (n : Nat) (h7 : F.fn 66) (hro : F.round = none) (l Bs : Nat) (J : List Int → World → Prop) (W : World) (hBs : W.cell? ⟨Bs, 0, none⟩ = some (.slice none 0 0)) (h0 : J [] W) :
    CallsIn F n Tryz.prog 66 #[.func (.yield l) #[] #[], .pointer (some ⟨Bs, 0, none⟩)] W fun e W' => (∃ v, e = .returned v) ∧ J [] W' := by
  refine callsIn_of_wp Tryz.func66 rfl h7 ?_ hro
  simp only [Tryz.ntmps66, List.size_toArray, List.length_cons, List.length_nil, Nat.reduceAdd, Nat.reduceSub, Array.replicate_succ, Array.replicate_zero, List.push_toArray, List.append_toArray, List.nil_append, List.cons_append]
  gi_wp2
  gi_loopw [7] (fun i wr => i = .int .i64 0 ∧ J [] wr) (fun _ _ => 0)
  case atStart => exact ⟨rfl, h0⟩
  case round =>
    obtain ⟨rfl, hJs⟩ := hrel
    gi_wp2
    go_end0
    exact ⟨⟨_, rfl⟩, hJs⟩
def Nums (n₀ : Nat) (W : World) (sv : Value) (zs : List Int) : Prop :=
  (sv = .slice none 0 0 ∧ zs = []) ∨ ∃ (ad : Addr) (cap : Nat), sv = .slice (some ad) zs.length cap ∧ (0 < zs.length → ad.block < n₀) ∧ ∀ j, j < zs.length → W.cell? (ad.add j) = some (.int .u64 (zs[j]?.getD 0))
theorem Nums.below {n₀ : Nat} {A B : World} (h : Below n₀ A B) {sv : Value} {zs : List Int} : Nums n₀ A sv zs → Nums n₀ B sv zs
  | .inl e => .inl e
  | .inr ⟨ad, cap, e, hb, hc⟩ => .inr ⟨ad, cap, e, hb, fun j hj => (h.cell (p := ad.add j) (by rw [add_block]; exact hb (by omega))).trans (hc j hj)⟩
theorem values_stops (F : Fence) (n : Nat) (h7 : F.fn 66) (hro : F.round = none) (hn : 1 ≤ n) (Bs n₀ : Nat) (sv : Value) (zs : List Int) (hreach : zs.length * 8 ≤ 140737488351232) (w : World) (hBs : Bs < w.heap.size) (hn₀ : n₀ ≤ w.heap.size)
    (hc : w.cell? ⟨Bs, 0, none⟩ = some sv) (hI : Nums n₀ w sv zs) :
    SeqStopsK F n Tryz.prog 66 #[.pointer (some ⟨Bs, 0, none⟩)] (fun x : Int => #[Value.int .u64 x]) (Below n₀) (fun ys => ys = zs) (fun _ => True) zs.length w := fun l J Jx W hW _ _ hY h0 => by
  have hc' := (hW.cell (p := ⟨Bs, 0, none⟩) hBs).trans hc
  rcases hI.below (hW.mono hn₀) with ⟨rfl, rfl⟩ | ⟨ad, cap, rfl, hb, hcs⟩
  · exact (values_nil F n h7 hro l Bs J W hc' h0).mono fun e W' ⟨he, hj⟩ => ⟨he, .inl ⟨_, rfl, hj⟩⟩
  · refine (values_in F n h7 hro hn l Bs n₀ ad zs.length cap zs hreach hb J Jx hY W hc' hcs h0).mono ?_
    rintro e W' ⟨he, hj | ⟨pre, hj⟩⟩
    · exact ⟨he, .inl ⟨_, upto_all zs, hj⟩⟩
    · exact ⟨he, .inr ⟨pre, trivial, hj⟩⟩
theorem info22 : (Tryz.prog.info? 22).map (fun i => (i.zero, i.size, i.bytes)) = some (some (.int .u64 0), 1, 8) := by kernel_rfl
set_option maxRecDepth 100000 in
set_option maxHeartbeats 2000000 in
theorem append_in (F : Fence) (n : Nat) (h3 : F.fn 86) (h5 : F.fn 66) (hro : F.round = none) (hn : 3 ≤ n) (Bs : Nat) (sv : Value) (zs : List Int) (hreach : zs.length * 8 ≤ 140737488351232) (w : World) (hBs : Bs < w.heap.size) (hc0 : w.cell? ⟨Bs, 0, none⟩ = some sv) (hI : Nums w.heap.size w sv zs) :
    CallsIn F n Tryz.prog 86 #[.slice none 0 0, .func (.func 66) #[] #[.pointer (some ⟨Bs, 0, none⟩)]] w fun e W' => ∃ v, e = .returned v ∧ W'.ownsRow w.heap.size 22 1 v zs.length (zs.map (Value.int .u64)) ∧ Below w.heap.size w W' := by
  have h1 : 1 ≤ n := by omega
  obtain ⟨i0, hi, hz0, hz1, hz2⟩ := info_parts info22
  refine callsIn_of_wp_marks Tryz.func86 rfl h3 ?_ hro
  simp only [Tryz.ntmps86, List.size_toArray, List.length_cons, List.length_nil, Nat.reduceAdd, Nat.reduceSub, Array.replicate_succ, Array.replicate_zero, List.push_toArray, List.append_toArray, List.nil_append, List.cons_append]
  gi_wp2
  have bO := Boxed.new w 23 (.slice none 0 0)
  have hB0 : Below w.heap.size w (w.alloc (.cells #[.slice none 0 0] 23)) := (Below.refl _ w).alloc (Nat.le_refl _) _
  refine wpIn_rangeFunc_ownG hro h1 (gf := 66) (lb := #[.pointer (some ⟨Bs, 0, none⟩)]) rfl h5 (enters_of Tryz.func66 (by kernel_rfl) rfl)
    (values_stops F (n - 1) h5 hro (by omega) Bs w.heap.size sv zs hreach _ (by simp; omega) (by simp) ((hB0.cell (p := ⟨Bs, 0, none⟩) hBs).trans hc0) (hI.below hB0)) belowK_t (belowK_b (by simp)) (Below.refl _ _) (fun _ => rfl)
    (fun pre W => (∃ v, Boxed W w.heap.size 23 v ∧ W.ownsRow w.heap.size 22 1 v pre.length (pre.map (Value.int .u64)) ∧ True) ∧ Below w.heap.size w W)
    (fun _ _ _ => False)
    (OwnFrom.and (Own.from (holdsRow_own w.heap.size w.heap.size 23 22 1 (fun pre : List Int => pre.length) (fun pre => pre.map (Value.int .u64)) (fun pre v => True)) _) (ownFrom_below (Nat.le_refl _) (by simp)))
    (fun _ _ _ _ _ hs _ _ => hs)
    ⟨⟨_, bO, World.ownsRow_nil _ _ _ _, trivial⟩, hB0⟩
    (fun x => { tmps := #[.slice none 0 0, .func (.func 66) #[] #[.pointer (some ⟨Bs, 0, none⟩)], .pointer (some ⟨w.heap.size, 0, none⟩), undef, .slice none 0 0, .int .u64 x, .func (.func 66) #[] #[.pointer (some ⟨Bs, 0, none⟩)], .int .u64 x, undef, undef, undef, undef, undef], defers := [] }) ?assign ?body ?done ?stop
  case assign =>
    intro l x W K hK
    gi_wp2
    exact hK
  case body =>
    rintro l pre x W ⟨⟨v, hv, hrow, _⟩, hB⟩ hlt
    have hc := hv.cell
    gi_wp2_with (gi_at_builtin; refine wpListIn_append_own _ rfl _ _ 23 rfl w.heap.size 22 i0 (.int .u64 0) 1 8 Tryz.underlying23 hi hz0 hz1 hz2 rfl (by decide) _ _ _ rfl (hrow.alloc _) ⟨W.heap.size, 0, none⟩ 1 1 [.int .u64 x] rfl rfl (cell_one_new _ _ _) (by simp [Value.oneCell']) (by simp only [maxLen]; omega) (by omega) (by have := hB.size; simp; omega) ?_; intro v' w1 hown' hgrow _; obtain ⟨g', cap', rfl⟩ := ownsRow_succ hown'; obtain ⟨hv1, hv2, hr2, hk2, hb2⟩ := hv.appended (by decide) hrow hB.size (Nat.le_refl _) hown' hgrow; have hc1 := hv1.cell; have hf1 := hv1.frozen)
    exact ⟨hk2.from _, hb2, ⟨_, hv2, by simpa using hr2, trivial⟩, hB.trans hb2⟩
  case done =>
    rintro D ys W hD rfl ⟨⟨v, hv, hrow, _⟩, hB⟩ hK
    have hc := hv.cell
    gi_wp2
    refine ⟨by simp, .inl ⟨_, _, rfl, run_takeDeferred hK, ?_⟩⟩
    exact ⟨_, results_tmp rfl _ _ _, v, rfl, ownsRow_putObj hrow _ hK rfl, hB.trans (belowK_b (w := w) (Nat.le_refl _) W D _ _ (by simp at hD; omega) hK rfl rfl)⟩
  case stop =>
    rintro D c pre W _ _ h _
    exact h.elim
end AppSeq
noncomputable def C_slices_AppendSeq_uint64' : Con := ⟨args_slices_AppendSeq_uint64, mem_slices_AppendSeq_uint64, outs_slices_AppendSeq_uint64, F_slices_AppendSeq_uint64⟩
theorem AppSeq.nums {w : World} {A : Nat → Prop} {zs : List Int} {v : Value} (h : (Prim.slc 22 (.cons (.int .u64) .nil)).R w A zs v) : AppSeq.Nums w.heap.size w v zs := by
  simp only [Prim.R] at h
  obtain ⟨ad, cap, rfl, hcap, hall⟩ := h
  cases ad with
  | none =>
    have h0 := hcap.2 rfl
    have hl : List.length (α := Int) zs = 0 := by
      have h1 := hcap.1
      rw [h0] at h1
      exact Nat.le_zero.1 h1
    cases List.length_eq_zero_iff.1 hl
    subst h0
    exact .inl ⟨rfl, rfl⟩
  | some a =>
    refine .inr ⟨a, cap, rfl, fun h0 => ?_, fun j hj => ?_⟩
    · obtain ⟨a', cs, ha, _, hlt, _⟩ := hall 0 h0
      cases ha
      exact hlt
    · obtain ⟨a', cs, ha, _, hlt, hlen, hcs, hR⟩ := hall j hj
      cases ha
      simp only [Row.R, Prim.R] at hR
      obtain ⟨v, rfl, rfl⟩ := hR
      have := hcs 0 _ rfl
      have e : j * (Row.cons (Prim.int .u64) Row.nil).size + 0 = j := Nat.mul_one j
      rw [e] at this
      rw [this, List.getElem?_eq_getElem hj]
      rfl
theorem AppSeq.holds : ConOK Tryz.prog 86 C_slices_AppendSeq_uint64' := by
  rintro a ⟨⟨(zs : List Int), ⟨⟩⟩, ⟨⟩⟩ r hr
  have hr : cond (decide (zs.length * 8 ≤ 140737488351232)) (some ((), (zs, ()))) none = some r := hr
  by_cases hreach : zs.length * 8 ≤ 140737488351232
  · rw [decide_eq_true hreach] at hr
    cases hr
    intro w Z β vs hm hx
    have hx : SV.RL w (β.away Z) β [.nils, .fn 66 [.ptr 0 0 0]] vs := hx
    have hm : MR w Z β [(0, .cells [.ps 22 (.cons (.int .u64) .nil) zs])] := hm
    obtain ⟨v1, vs1, rfl, hv1, v2, vs2, rfl, hv2, hv3⟩ := hx
    simp only [SV.R, SV.RL] at hv1 hv2 hv3
    subst hv1 hv3
    obtain ⟨vs3, rfl, v3, vs4, rfl, hv3, rfl⟩ := hv2
    obtain ⟨l, hl, hp⟩ := hv3
    obtain ⟨l', hl', hob⟩ := hm.obs 0 _ rfl
    rw [hl] at hl'
    cases hl'
    cases l with
    | box b =>
      obtain ⟨us, t, hh, hR, h1⟩ := hob
      obtain ⟨u, us', hus, hu, hnil⟩ := hR
      have hus' : us.toList = u :: us' := hus
      have hcell : w.cell? ⟨b, 0, none⟩ = some u := by
        have e0 : us[0]? = some u := by rw [← Array.getElem?_toList, hus']; rfl
        simp [World.cell?, hh, e0]
      have hp : v3 = .pointer (some ⟨b, 0, none⟩) := hp
      subst hp
      have hN : AppSeq.Nums w.heap.size w u zs := AppSeq.nums hu
      have hc := callsIn_wide.1 (AppSeq.append_in Fence.wide 3 trivial trivial rfl (Nat.le_refl _) b u zs hreach w (Array.getElem?_eq_some_iff.1 hh).1 hcell hN)
      refine call_of_calls Tryz.func86 (by kernel_rfl) (by kernel_rfl) (hc.mono fun e w' ⟨v, he, hown, hb⟩ => ⟨v, he, ?_⟩)
      obtain ⟨ad, cap, rfl, ho, hbk⟩ := OwnsAt.of_row hown
      refine post_row (d := 1) (old := none) (bo := none) (ad := ad) (r := .cons (.int .u64) .nil) (xs := zs) hm rfl (by intro k l h; cases h) (by decide) ho (fun _ => rfl) ⟨hb.os, hb.tape, hb.output, hb.size, fun k hk _ => hb.block k hk⟩ (by intro b h; cases h) (fun b h => .inr ?_) (fun A' _ j hj => ?_) []
      · rw [← hbk] at h
        exact (hown.lt b h).1
      · have hj' : j < zs.length := hj
        simp only [Row.R, Prim.R]
        refine ⟨_, ?_, rfl⟩
        have e : j * (Row.cons (Prim.int .u64) Row.nil).size = j := Nat.mul_one j
        have e1 : (Row.cons (Prim.int .u64) Row.nil).size = 1 := rfl
        rw [e, e1]
        apply List.ext_getElem?
        intro i
        cases i with
        | zero =>
          simp [List.getElem?_drop, List.getElem?_eq_getElem hj']
          rfl
        | succ i => simp [List.getElem?_take]
    | _ => exact hob.elim
  · rw [decide_eq_false hreach] at hr
    cases hr
end Go.Proofs.YtgakbdikappdbaaGreat.S2
