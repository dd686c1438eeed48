/- merkle.above: a range over slices.Chunk: walked. -/
import Derived.Test.YtljfdfghagiblaaS2zb
import Derived.Test.YtljfdfghagiblaaGmerkle
import Derived.Test.YtljfdfghagiblaaHmerkle0
import Derived.Test.YtljfdfghagiblaaPmk2
import Derived.RangeFuncBox
import Derived.RangeFuncLeaves
import Derived.Shelf.Abstract
import Derived.WalkKit
import Derived.OwnWalkIn
import Derived.TacticsInMore
import Derived.LoopNIn
import Derived.LoopIn
import Derived.Maps.AppendAt
import Derived.Shelf.RegionOpen
import Derived.RegionIn
set_option linter.unusedVariables false
namespace Go.Proofs.Ytljfdfghagiblaa.S2
open Go Go.RowKit Go.Shelf
namespace Above
attribute [local go_sem] Oper.semAt_some

def Kp (Bs Bn : Nat) (A B : World) : Prop := B.heap[Bs]? = A.heap[Bs]? ∧ B.heap[Bn]? = A.heap[Bn]?

set_option maxRecDepth 100000 in
set_option maxHeartbeats 2000000 in
/-- The iterator over the pairs of a list. -/
theorem chunk_in {m : Nat} (F : Fence) (n : Nat) (h7 : F.fn 97) (hro : F.round = none) (hn : 1 ≤ n) (l Bs Bn : Nat) (ad : Addr) (cap : Nat) (hm : m ≤ 1000000000000000) (hcap : 2 * m ≤ cap) (J Jx : List (Fin m) → World → Prop) (hJd : ∀ s A, J s A → J s A.drew)
    (hY : ∀ pre x W, J pre W → pre.length < m → YieldAt F (n - 1) Try.prog l #[.slice (some (ad.add (2 * x.val))) 2 2] W fun e W' =>
      (e = .returned (.bool true) ∧ J (pre ++ [x]) W' ∧ Kp Bs Bn W W') ∨ (e = .returned (.bool false) ∧ Jx (pre ++ [x]) W'))
    (W : World) (hBs : W.cell? ⟨Bs, 0, none⟩ = some (.slice (some ad) (2 * m) cap)) (hBn : W.cell? ⟨Bn, 0, none⟩ = some (.int .i64 2)) (h0 : J [] W) :
    CallsIn F n Try.prog 97 #[.func (.yield l) #[] #[], .pointer (some ⟨Bs, 0, none⟩), .pointer (some ⟨Bn, 0, none⟩)] W fun e W' => (∃ v, e = .returned v) ∧
      (J (List.finRange m) W' ∨ (∃ pre, Jx pre W')) := by
  refine callsIn_of_wp Try.func97 rfl h7 ?_ hro
  simp only [Try.ntmps97, List.size_toArray, List.length_cons, List.length_nil, Nat.reduceAdd, Nat.reduceSub, Array.replicate_succ, Array.replicate_zero, List.push_toArray, List.append_toArray, List.nil_append, List.cons_append]
  gi_wp2
  gi_loopw [4] (fun i wr => ∃ k : Nat, k ≤ m ∧ i = .int .i64 ((2 * k : Nat) : Int) ∧ J ((List.finRange m).take k) wr ∧ wr.cell? ⟨Bs, 0, none⟩ = some (.slice (some ad) (2 * m) cap) ∧ wr.cell? ⟨Bn, 0, none⟩ = some (.int .i64 2))
    (fun i _ => 2 * m - (intOf i).toNat)
  case atStart => exact ⟨0, Nat.zero_le _, rfl, by simpa using h0, hBs, hBn⟩
  case round =>
    obtain ⟨k, hk, rfl, hJs, hs, hb⟩ := hrel
    by_cases hlt : k < m
    · have hmx : Try.prog.follows .mixedOrders = true := by kernel_rfl
      have hr1 : 2 * k ≤ 2 * m := by omega
      have htk : (List.finRange m).take (k + 1) = (List.finRange m).take k ++ [⟨k, hlt⟩] := by
        rw [List.take_add_one, List.getElem?_eq_getElem (by simp; omega)]
        simp
      have hr2 : 2 * k ≤ cap := by omega
      gi_wp2
      have hif : (if ((2 * m - 2 * k : Nat) : Int) < 2 then ((2 * m - 2 * k : Nat) : Int) else 2) = 2 := if_neg (by omega)
      gi_region
      all_goals
        obtain ⟨fn, tmps, assign, body, hy, hR⟩ := hY _ ⟨k, hlt⟩ wr.drew (hJd _ _ hJs) (by simp; omega)
        have hs' : wr.drew.cell? ⟨Bs, 0, none⟩ = some (.slice (some ad) (2 * m) cap) := hs
        have hb' : wr.drew.cell? ⟨Bn, 0, none⟩ = some (.int .i64 2) := hb
        gi_wp2
        refine hR.mono ?_
        rintro e W3 (⟨rfl, hJ3, hk3⟩ | ⟨rfl, hJx3⟩)
        · have hs3 : W3.cell? ⟨Bs, 0, none⟩ = some (.slice (some ad) (2 * m) cap) := (World.cell?_of_block hk3.1).trans hs'
          have hb3 : W3.cell? ⟨Bn, 0, none⟩ = some (.int .i64 2) := (World.cell?_of_block hk3.2).trans hb'
          gi_wp2
          go_roundw
          case rel => exact ⟨k + 1, by omega, by simp; omega, by rw [htk]; exact hJ3, hs3, hb3⟩
          case measure => simp [intOf]; omega
        · gi_wp2
          refine bodyPost_ret (results_none rfl _ _ _) rfl ?_
          exact ⟨⟨_, rfl⟩, .inr ⟨_, hJx3⟩⟩
    · obtain rfl : k = m := by omega
      gi_wp2
      go_end0
      exact ⟨⟨_, rfl⟩, .inl (by rw [List.take_of_length_le (by simp)] at hJs; exact hJs)⟩


set_option maxRecDepth 100000 in
set_option maxHeartbeats 1000000 in
/-- .. of an empty one. -/
theorem chunk_nil {m : Nat} (F : Fence) (n : Nat) (h7 : F.fn 97) (hro : F.round = none) (l Bs Bn : Nat) (ad : Option Addr) (cap : Nat) (J : List (Fin m) → World → Prop)
    (W : World) (hBs : W.cell? ⟨Bs, 0, none⟩ = some (.slice ad 0 cap)) (hBn : W.cell? ⟨Bn, 0, none⟩ = some (.int .i64 2)) (h0 : J [] W) :
    CallsIn F n Try.prog 97 #[.func (.yield l) #[] #[], .pointer (some ⟨Bs, 0, none⟩), .pointer (some ⟨Bn, 0, none⟩)] W fun e W' => (∃ v, e = .returned v) ∧ J [] W' := by
  refine callsIn_of_wp Try.func97 rfl h7 ?_ hro
  simp only [Try.ntmps97, List.size_toArray, List.length_cons, List.length_nil, Nat.reduceAdd, Nat.reduceSub, Array.replicate_succ, Array.replicate_zero, List.push_toArray, List.append_toArray, List.nil_append, List.cons_append]
  gi_wp2
  gi_loopw [4] (fun i wr => i = .int .i64 0 ∧ J [] wr ∧ wr.cell? ⟨Bs, 0, none⟩ = some (.slice ad 0 cap)) (fun _ _ => 0)
  case atStart => exact ⟨rfl, h0, hBs⟩
  case round =>
    obtain ⟨rfl, hJs, hs⟩ := hrel
    gi_wp2
    go_end0
    exact ⟨⟨_, rfl⟩, hJs⟩
end Above
end Go.Proofs.Ytljfdfghagiblaa.S2
