/- The document's numbers as bytes, in plain words. -/
import Derived.Test.YtgakbdikappdbaaGrwire
import Derived.Test.YtgakbdikappdbaaPwire
set_option linter.unusedVariables false
set_option linter.unusedSimpArgs false
namespace Go.Proofs.Ytgakbdikappdbaa.S2
open Go
theorem rput_loop : ∀ (k : Nat) (n : Int) (l : List Int), 0 ≤ n → n < ((128 ^ (k + 1) : Nat) : Int) → n < 18446744073709551616 → l.length + k ≤ 1000 →
    ∃ (m : Int) (l' : List Int), L_ref01_PutUint_2 (n, ()) (l, ()) = some ((m, ()), (l', ())) ∧ 0 ≤ m ∧ m < 128 ∧ l'.length ≤ l.length + k ∧ bytesI (l' ++ [m]) = bytesI l ++ putL n.toNat
  | 0, n, l, h0, h1, h64, hl => by
    refine ⟨n, l, ?_, h0, by simpa using h1, by omega, ?_⟩
    · rw [Le_ref01_PutUint_2]
      unfold ltree_ref01_PutUint_2
      rw [cd_f (by simp at h1; omega)]
    · rw [putL_small (by simp at h1; omega)]
      simp [bytesI]
  | k + 1, n, l, h0, h1, h64, hl => by
    by_cases hn : n > 127
    · have h2 : n / 128 < ((128 ^ (k + 1) : Nat) : Int) := by
        rw [Nat.pow_succ] at h1
        omega
      obtain ⟨m, l', e, g0, g1, g2, g3⟩ := rput_loop k (n / 128) (l ++ [n % 128 + 128]) (by omega) h2 (by omega) (by simp; omega)
      refine ⟨m, l', ?_, g0, g1, by simp at g2; omega, ?_⟩
      · rw [Le_ref01_PutUint_2]
        unfold ltree_ref01_PutUint_2
        rw [cd_t hn, cd_t (by omega), List.nil_append, Int.tdiv_eq_ediv_of_nonneg h0, Int.tmod_eq_emod_of_nonneg h0, u64id (n := n / 128) (by omega) (by omega), u64id (n := n % 128 + 128) (by omega) (by omega), u8w, show (n % 128 + 128) % 256 = n % 128 + 128 by omega]
        exact e
      · rw [g3, putL_big (n := n.toNat) (by omega)]
        simp only [bytesI, List.map_append, List.map_cons, List.map_nil, List.append_assoc, List.singleton_append]
        rw [show (n % 128 + 128).toNat = n.toNat % 128 + 128 by omega, show (n / 128).toNat = n.toNat / 128 by omega]
    · refine ⟨n, l, ?_, h0, by omega, by omega, ?_⟩
      · rw [Le_ref01_PutUint_2]
        unfold ltree_ref01_PutUint_2
        rw [cd_f (by omega)]
      · rw [putL_small (by omega)]
        simp [bytesI]
theorem r_PutUint {n : Int} (h0 : 0 ≤ n) (h1 : n < 18446744073709551616) : F_ref01_PutUint (n, ()) () = some (putB n, ()) := by
  rw [Fe_ref01_PutUint]
  unfold tree_ref01_PutUint
  obtain ⟨m, l', e, g0, g1, g2, g3⟩ := rput_loop 9 n [] h0 (by have : ((128 ^ (9 + 1) : Nat) : Int) = 1180591620717411303424 := (by decide); omega) h1 (by simp)
  rw [e]
  simp only [Option.bind_some]
  rw [cd_t (by simp at g2; omega)]
  simp only [Option.bind_some, Option.some.injEq, Prod.mk.injEq, and_true]
  apply bs_inj
  rw [bs_nums, bs_put, List.nil_append, u8w, show m % 256 = m by omega]
  exact g3
def valL : List UInt8 → Nat
  | [] => 0
  | c :: l => c.toNat % 128 + 128 * valL l
theorem valL_snoc : ∀ (l : List UInt8) (c : UInt8), valL (l ++ [c]) = valL l + c.toNat % 128 * 128 ^ l.length
  | [], c => by simp [valL]
  | d :: l, c => by
    simp only [List.cons_append, valL, valL_snoc l c, List.length_cons]
    rw [Nat.pow_succ, Nat.mul_add, ← Nat.add_assoc]
    congr 1
    rw [Nat.mul_comm (128 ^ l.length) 128, ← Nat.mul_assoc, ← Nat.mul_assoc, Nat.mul_comm 128]
theorem valL_put : ∀ (f n : Nat), n < 128 ^ f → valL (putL n) = n
  | 0, n, h => by
    have : n = 0 := by simpa using h
    subst this
    rw [putL_small (by decide)]
    rfl
  | f + 1, n, h => by
    by_cases hn : n < 128
    · rw [putL_small hn]
      have hb : (UInt8.ofNat n).toNat = n := by rw [UInt8.toNat_ofNat']; omega
      simp only [valL, hb]
      omega
    · rw [putL_big hn]
      have hb : (UInt8.ofNat (n % 128 + 128)).toNat = n % 128 + 128 := by rw [UInt8.toNat_ofNat']; omega
      simp only [valL, hb]
      rw [valL_put f (n / 128) (by rw [Nat.pow_succ] at h; omega)]
      omega
theorem putL_shape : ∀ (f n : Nat), n < 128 ^ f → ∃ (p : List UInt8) (c : UInt8), putL n = p ++ [c] ∧ (∀ b ∈ p, 128 ≤ b.toNat) ∧ c.toNat < 128
  | 0, n, h => by
    have : n = 0 := by simpa using h
    subst this
    exact ⟨[], 0, by rw [putL_small (by decide)]; rfl, by simp, by decide⟩
  | f + 1, n, h => by
    by_cases hn : n < 128
    · refine ⟨[], UInt8.ofNat n, by rw [putL_small hn]; rfl, by simp, ?_⟩
      rw [UInt8.toNat_ofNat']; omega
    · obtain ⟨p, c, e, h1, h2⟩ := putL_shape f (n / 128) (by rw [Nat.pow_succ] at h; omega)
      refine ⟨UInt8.ofNat (n % 128 + 128) :: p, c, by rw [putL_big hn, e]; rfl, ?_, h2⟩
      intro b hb
      rcases List.mem_cons.1 hb with rfl | hb
      · rw [UInt8.toNat_ofNat']; omega
      · exact h1 b hb
theorem first_small : ∀ (p p' : List UInt8) (c c' : UInt8) (l l' : List UInt8), (∀ b ∈ p, 128 ≤ b.toNat) → (∀ b ∈ p', 128 ≤ b.toNat) → c.toNat < 128 → c'.toNat < 128 → p ++ c :: l = p' ++ c' :: l' → p = p' ∧ c = c' ∧ l = l'
  | [], [], c, c', l, l', _, _, _, _, e => by simp at e; exact ⟨rfl, e.1, e.2⟩
  | [], d :: p', c, c', l, l', _, h', hc, _, e => by
    simp at e
    have := h' d List.mem_cons_self
    rw [← e.1] at this
    omega
  | d :: p, [], c, c', l, l', h, _, _, hc', e => by
    simp at e
    have := h d List.mem_cons_self
    rw [e.1] at this
    omega
  | d :: p, d' :: p', c, c', l, l', h, h', hc, hc', e => by
    simp at e
    obtain ⟨h1, h2, h3⟩ := first_small p p' c c' l l' (fun b hb => h b (List.mem_cons_of_mem _ hb)) (fun b hb => h' b (List.mem_cons_of_mem _ hb)) hc hc' e.2
    exact ⟨by rw [e.1, h1], h2, h3⟩
theorem lt10 {n : Nat} (h : n < 18446744073709551616) : n < 128 ^ 10 := by
  have : (128 : Nat) ^ 10 = 1180591620717411303424 := by decide
  omega
theorem tak_shape {s : ByteArray} {n : Nat} {l : List UInt8} (h : takL 0 0 (bs s) = some (n, l)) : ∃ (p : List UInt8) (c : UInt8), bs s = p ++ c :: l ∧ (∀ b ∈ p, 128 ≤ b.toNat) ∧ c.toNat < 128 ∧ p ++ [c] = putL n ∧ n < 18446744073709551616 ∧ p.length ≤ 9 := by
  obtain ⟨m, e1, e2, e3, e4⟩ := takL_back (bs s) 0 0 n l (by decide) h
  simp at e2 e4
  subst e2
  obtain ⟨p, c, e, h1, h2⟩ := putL_shape 10 n (lt10 (by omega))
  refine ⟨p, c, by rw [e1, e]; simp, h1, h2, e.symm, e4, ?_⟩
  have := putL_len10 e4
  rw [e] at this
  simp at this
  omega
theorem rTake_loop (s : ByteArray) : ∀ (l pre : List UInt8) (i : Nat), bs s = pre ++ l → pre.length = i → i ≤ 10 → (∀ b ∈ pre, 128 ≤ b.toNat) →
    L_ref01_TakeUint_4 (s, ((valL pre % 18446744073709551616 : Nat) : Int), ((128 ^ i % 18446744073709551616 : Nat) : Int), (i : Int), ()) () = match takL 0 0 (bs s) with | some (r, l') => some (.inr (((r : Int), ⟨l'.toArray⟩, true, ()), ())) | none => some (.inl ((), ()))
  | l, pre, i, hs, hi, h10, hpre => by
    have hnone : (l = [] ∨ i = 10) → takL 0 0 (bs s) = none := by
      intro h
      cases ht : takL 0 0 (bs s) with
      | none => rfl
      | some q =>
        obtain ⟨n, l'⟩ := q
        obtain ⟨p, c, e1, e2, e3, e4, e5, e6⟩ := tak_shape ht
        exfalso
        have hmem : c ∈ pre := by
          have hlt : p.length < pre.length := by
            rcases h with h | h
            · subst h
              have := congrArg List.length (hs.symm.trans e1)
              simp at this
              omega
            · omega
          have hg : (bs s)[p.length]? = some c := by rw [e1]; simp
          rw [hs, List.getElem?_append_left hlt] at hg
          exact List.mem_of_getElem? hg
        have := hpre c hmem
        omega
    rw [Le_ref01_TakeUint_4]
    unfold ltree_ref01_TakeUint_4
    cases l with
    | nil =>
      have hsz : s.size = i := by rw [← bs_len, hs]; simpa using hi
      rw [cd_f (by omega), hnone (.inl rfl)]
    | cons c l =>
      have hsz : s.size = i + (l.length + 1) := by rw [← bs_len, hs, List.length_append, hi, List.length_cons]
      have hc := c.toNat_lt
      have hat : strAt s (i : Int) = (c.toNat : Int) := by
        rw [strAt_bs, hs, List.getD_eq_getElem?_getD, List.getElem?_append_right (by omega), hi, Nat.sub_self]
        rfl
      rw [cd_t (by omega), cond_decide]
      by_cases h10' : i = 10
      · rw [if_neg (by omega), hnone (.inr h10')]
      · rw [if_pos (by omega), cd_t (by omega), cd_t (by omega), hat, u64id (n := (c.toNat : Int)) (by omega) (by omega), Int.tmod_eq_emod_of_nonneg (by omega), i64id (n := (i : Int) + 1) (by omega) (by omega)]
        have hval : IntKind.u64.wrap (((valL pre % 18446744073709551616 : Nat) : Int) + IntKind.u64.wrap (((128 ^ i % 18446744073709551616 : Nat) : Int) * ((c.toNat : Int) % 128))) = ((valL (pre ++ [c]) % 18446744073709551616 : Nat) : Int) := by
          rw [u64w, u64w, valL_snoc, hi]
          have e : ((128 ^ i % 18446744073709551616 : Nat) : Int) * ((c.toNat : Int) % 128) = ((128 ^ i % 18446744073709551616 * (c.toNat % 128) : Nat) : Int) := by simp
          rw [e]
          have e2 : (128 ^ i % 18446744073709551616 * (c.toNat % 128)) % 18446744073709551616 = (c.toNat % 128 * 128 ^ i) % 18446744073709551616 := by
            rw [Nat.mul_comm, Nat.mul_mod, Nat.mod_mod, ← Nat.mul_mod]
          omega
        rw [hval, cond_decide]
        by_cases h128 : c.toNat < 128
        · rw [if_pos (by omega), r_PutUint (by omega) (by have := Nat.mod_lt (valL (pre ++ [c])) (show 18446744073709551616 > 0 by decide); omega)]
          simp only [Option.bind_some]
          rw [cd_t (by omega), cd_t (by omega), bytes_beq]
          have htake : bs (s.extract 0 ((i : Int) + 1).toNat) = pre ++ [c] := by
            rw [bs_extract, hs, List.drop_zero, show ((i : Int) + 1).toNat - 0 = pre.length + 1 by omega]
            rw [List.take_append, List.take_of_length_le (by omega), show pre.length + 1 - pre.length = 1 by omega]
            rfl
          have hext : s.extract ((i : Int) + 1).toNat s.size = ⟨l.toArray⟩ := by
            apply bs_inj
            rw [bs_extract, hs, show ((i : Int) + 1).toNat = i + 1 by omega, List.drop_append, List.drop_of_length_le (by omega), List.nil_append, hi, show i + 1 - i = 1 by omega, List.drop_one, List.tail_cons, List.take_of_length_le (by omega), bs_mk]
          have hbs : bs s = (pre ++ [c]) ++ l := by rw [hs]; simp
          have hm := Nat.mod_lt (valL (pre ++ [c])) (show 18446744073709551616 > 0 by decide)
          by_cases hq : putB ((valL (pre ++ [c]) % 18446744073709551616 : Nat) : Int) = s.extract 0 ((i : Int) + 1).toNat
          · rw [decide_eq_true hq]
            simp only [Bool.not_true, cond_false]
            rw [cd_t (by omega), cd_t (by omega), hext]
            have hp : putL (valL (pre ++ [c]) % 18446744073709551616) = pre ++ [c] := by
              have h := congrArg bs hq
              rw [bs_put, Int.toNat_natCast, htake] at h
              exact h
            have hbs' : bs s = putL (valL (pre ++ [c]) % 18446744073709551616) ++ l := by rw [hbs, hp]
            rw [hbs', takL_put l 10 _ 0 0 (lt10 (by omega)) (by decide) (by simpa using hm) (.inl rfl)]
            simp only [Nat.zero_add, Nat.pow_zero, Nat.mul_one]
          · rw [decide_eq_false hq]
            simp only [Bool.not_false, cond_true]
            cases ht : takL 0 0 (bs s) with
            | none => rfl
            | some q =>
              obtain ⟨n, l'⟩ := q
              exfalso
              obtain ⟨p, c', e1, e2, e3, e4, e5, e6⟩ := tak_shape ht
              obtain ⟨g1, g2, g3⟩ := first_small pre p c c' l l' hpre e2 h128 e3 (by rw [← hs, e1])
              apply hq
              apply bs_inj
              have hv : valL (pre ++ [c]) = n := by
                rw [g1, g2, e4, valL_put 10 n (lt10 (by omega))]
              rw [htake, bs_put, Int.toNat_natCast, hv, Nat.mod_eq_of_lt e5, ← e4, g1, g2]
        · rw [if_neg (by omega)]
          have hk : IntKind.u64.wrap (((128 ^ i % 18446744073709551616 : Nat) : Int) * 128) = ((128 ^ (i + 1) % 18446744073709551616 : Nat) : Int) := by
            rw [u64w, Nat.pow_succ]
            omega
          rw [hk, show ((i : Int) + 1) = ((i + 1 : Nat) : Int) by omega]
          exact rTake_loop s l (pre ++ [c]) (i + 1) (by rw [hs]; simp) (by simp [hi]) (by omega) (by
            intro b hb
            rcases List.mem_append.1 hb with h | h
            · exact hpre b h
            · simp at h
              subst h
              omega)
termination_by l => l.length
theorem r_TakeUint {s : ByteArray} : F_ref01_TakeUint (s, ()) () = some (((takS s).1, (takS s).2.1, (takS s).2.2, ()), ()) := by
  rw [Fe_ref01_TakeUint]
  unfold tree_ref01_TakeUint takS
  have := rTake_loop s (bs s) [] 0 rfl rfl (by decide) (by simp)
  rw [show ((valL [] % 18446744073709551616 : Nat) : Int) = 0 from rfl, show ((128 ^ 0 % 18446744073709551616 : Nat) : Int) = 1 from rfl, show ((0 : Nat) : Int) = 0 from rfl] at this
  rw [this]
  cases takL 0 0 (bs s) with
  | none => rfl
  | some p => rfl
end Go.Proofs.Ytgakbdikappdbaa.S2
