/- Frames and slots, in plain words. -/
import Derived.Test.YtlfedmjjjbhnpaaGslot
import Derived.Test.YtlfedmjjjbhnpaaPdisk
set_option linter.unusedVariables false
set_option linter.unusedSimpArgs false
namespace Go.Proofs.Ytlfedmjjjbhnpaa.S2
open Go

def bs (s : ByteArray) : List UInt8 := s.data.toList

theorem bs_len (s : ByteArray) : (bs s).length = s.size := Array.length_toList

theorem bs_append (a b : ByteArray) : bs (a ++ b) = bs a ++ bs b := by simp [bs, ByteArray.data_append]

theorem bs_extract (s : ByteArray) (a b : Nat) : bs (s.extract a b) = ((bs s).drop a).take (b - a) := by
  simp [bs, ByteArray.data_extract, List.extract_eq_take_drop]

theorem bs_inj {a b : ByteArray} (h : bs a = bs b) : a = b := by
  cases a; cases b; simp only [bs] at h; rw [Array.toList_inj.1 h]

theorem bs_mk (l : List UInt8) : bs ⟨l.toArray⟩ = l := rfl

theorem bs_zeros (n : Nat) : bs (zerosB n) = List.replicate n 0 := rfl

theorem bs_nums (l : List Int) : bs (Go.strOfNums l) = l.map fun n => UInt8.ofNat n.toNat := by
  simp [bs, Go.strOfNums]

/-- The number that bytes say. -/
def nb (l : List UInt8) : Nat := l.foldl (fun n b => n * 256 + b.toNat) 0

theorem nb_snoc (l : List UInt8) (b : UInt8) : nb (l ++ [b]) = nb l * 256 + b.toNat := by simp [nb]

theorem nb_lt : ∀ (n : Nat) (l : List UInt8), l.length = n → nb l < 256 ^ n
  | 0, l, h => by rw [List.eq_nil_of_length_eq_zero h]; decide
  | n + 1, l, h => by
    have hne : l ≠ [] := by intro e; rw [e] at h; cases h
    rw [← List.dropLast_concat_getLast hne, nb_snoc]
    have h1 := nb_lt n l.dropLast (by simp [h])
    have h2 := (l.getLast hne).toNat_lt
    rw [Nat.pow_succ]
    omega

theorem nb_inj : ∀ (n : Nat) (l l' : List UInt8), l.length = n → l'.length = n → nb l = nb l' → l = l'
  | 0, l, l', h, h', _ => by rw [List.eq_nil_of_length_eq_zero h, List.eq_nil_of_length_eq_zero h']
  | n + 1, l, l', h, h', e => by
    have hne : l ≠ [] := by intro e; rw [e] at h; cases h
    have hne' : l' ≠ [] := by intro e; rw [e] at h'; cases h'
    rw [← List.dropLast_concat_getLast hne, ← List.dropLast_concat_getLast hne', nb_snoc, nb_snoc] at e
    have h1 := (l.getLast hne).toNat_lt
    have h2 := (l'.getLast hne').toNat_lt
    rw [← List.dropLast_concat_getLast hne, ← List.dropLast_concat_getLast hne', nb_inj n l.dropLast l'.dropLast (by simp [h]) (by simp [h']) (by omega), show l.getLast hne = l'.getLast hne' from UInt8.toNat_inj.1 (by omega)]

def eightL (n : Nat) : List UInt8 := [n / 72057594037927936, n / 281474976710656, n / 1099511627776, n / 4294967296, n / 16777216, n / 65536, n / 256, n].map UInt8.ofNat

theorem eightL_len (n : Nat) : (eightL n).length = 8 := rfl

theorem nb_eight {n : Nat} (h : n < 18446744073709551616) : nb (eightL n) = n := by
  simp only [eightL, nb, List.map_cons, List.map_nil, List.foldl_cons, List.foldl_nil, UInt8.toNat_ofNat']
  omega

theorem eight_inj {n m : Nat} (h : n < 18446744073709551616) (h' : m < 18446744073709551616) (e : eightL n = eightL m) : n = m := by
  rw [← nb_eight h, ← nb_eight h', e]

def eightB (n : Nat) : ByteArray := ⟨(eightL n).toArray⟩

theorem eightB_size (n : Nat) : (eightB n).size = 8 := rfl

theorem u8w (n : Int) : IntKind.u8.wrap n = n % 256 := by simp [IntKind.wrap, IntKind.bits, IntKind.signed]

theorem e_eight {n : Int} (h0 : 0 ≤ n) (h1 : n < 18446744073709551616) : F_slot_eight (n, ()) () = some (eightB n.toNat, ()) := by
  rw [Fe_slot_eight]
  unfold tree_slot_eight
  simp only [Option.map_some, Option.some.injEq, Prod.mk.injEq, and_true]
  apply bs_inj
  rw [bs_nums]
  simp only [eightB, bs_mk, eightL, List.map_cons, List.map_nil, u8w, Int.fdiv_eq_ediv_of_nonneg _ (by decide : (0:Int) ≤ 72057594037927936), Int.fdiv_eq_ediv_of_nonneg _ (by decide : (0:Int) ≤ 281474976710656), Int.fdiv_eq_ediv_of_nonneg _ (by decide : (0:Int) ≤ 1099511627776), Int.fdiv_eq_ediv_of_nonneg _ (by decide : (0:Int) ≤ 4294967296), Int.fdiv_eq_ediv_of_nonneg _ (by decide : (0:Int) ≤ 16777216), Int.fdiv_eq_ediv_of_nonneg _ (by decide : (0:Int) ≤ 65536), Int.fdiv_eq_ediv_of_nonneg _ (by decide : (0:Int) ≤ 256), Int.fdiv_eq_ediv_of_nonneg _ (by decide : (0:Int) ≤ 1)]
  have hb : ∀ (a : Int) (b : Nat), a.toNat % 256 = b % 256 → UInt8.ofNat a.toNat = UInt8.ofNat b := by
    intro a b hab
    apply UInt8.toNat_inj.1
    rw [UInt8.toNat_ofNat', UInt8.toNat_ofNat']
    exact hab
  congr 1
  · exact hb _ _ (by omega)
  congr 1
  · exact hb _ _ (by omega)
  congr 1
  · exact hb _ _ (by omega)
  congr 1
  · exact hb _ _ (by omega)
  congr 1
  · exact hb _ _ (by omega)
  congr 1
  · exact hb _ _ (by omega)
  congr 1
  · exact hb _ _ (by omega)
  congr 1
  · exact hb _ _ (by omega)

theorem strAt_bs (s : ByteArray) (i : Nat) : strAt s (i : Int) = ((bs s).getD i 0).toNat := rfl

theorem or_byte {n b : Nat} (hn : n < 18446744073709551616 / 256) (hb : b < 256) : IntKind.u64.wrap (((BitVec.ofInt 64 (IntKind.u64.wrap ((n : Int) * 256)) ||| BitVec.ofInt 64 (IntKind.u64.wrap (b : Int))).toNat : Nat) : Int) = ((n * 256 + b : Nat) : Int) := by
  rw [u64id (n := (n : Int) * 256) (by omega) (by omega), u64id (n := (b : Int)) (by omega) (by omega), show ((n : Int) * 256) = ((n * 256 : Nat) : Int) by omega, BitVec.ofInt_natCast, BitVec.ofInt_natCast, BitVec.toNat_or, BitVec.toNat_ofNat, BitVec.toNat_ofNat, Nat.mod_eq_of_lt (by omega), Nat.mod_eq_of_lt (by omega)]
  have := Nat.two_pow_add_eq_or_of_lt (show b < 2 ^ 8 by omega) n
  rw [show n * 256 = 2 ^ 8 * n by omega, ← this, u64id (by omega) (by omega)]

theorem number_loop (s : ByteArray) (hs : s.size ≤ 8) : ∀ (d i : Nat), i + d = s.size →
    L_slot_number_3 (s, (nb ((bs s).take i) : Int), (s.size : Int), (i : Int), ()) () = some (((nb (bs s) : Int), ()), ())
  | 0, i, h => by
    rw [Le_slot_number_3]
    unfold ltree_slot_number_3
    rw [cd_f (by omega), List.take_of_length_le (by rw [bs_len]; omega)]
  | d + 1, i, h => by
    rw [Le_slot_number_3]
    unfold ltree_slot_number_3
    have hi : i < (bs s).length := by rw [bs_len]; omega
    have hlt := nb_lt i ((bs s).take i) (by rw [List.length_take]; omega)
    have hp : 256 ^ i ≤ 256 ^ 7 := Nat.pow_le_pow_right (by decide) (by omega)
    have h7 : (256 : Nat) ^ 7 = 72057594037927936 := by decide
    have hb : ((bs s).getD i 0).toNat < 256 := UInt8.toNat_lt _
    rw [cd_t (by omega), cd_t (by omega), cd_t (by omega), strAt_bs, or_byte (by omega) hb, i64id (by omega) (by omega), show ((i : Int) + 1) = ((i + 1 : Nat) : Int) by omega]
    have e : nb ((bs s).take i) * 256 + ((bs s).getD i 0).toNat = nb ((bs s).take (i + 1)) := by
      rw [List.take_succ_eq_append_getElem hi, nb_snoc, List.getD_eq_getElem?_getD, List.getElem?_eq_getElem hi, Option.getD_some]
    rw [e]
    exact number_loop s hs d (i + 1) (by omega)

theorem e_number {s : ByteArray} (hs : s.size ≤ 8) : F_slot_number (s, ()) () = some ((nb (bs s) : Int), ()) := by
  rw [Fe_slot_number]
  unfold tree_slot_number
  have := number_loop s hs s.size 0 (by omega)
  rw [List.take_zero, show nb [] = 0 from rfl] at this
  rw [show ((0 : Nat) : Int) = 0 from rfl] at this
  rw [this]
  rfl

/-! ### frames -/

def okF (n : Int) (t : ByteArray) (size : Int) : Prop := 32 ≤ size ∧ size ≤ 512 ∧ n ≠ 0 ∧ (t.size : Int) ≤ size - 18

instance (n : Int) (t : ByteArray) (size : Int) : Decidable (okF n t size) := by unfold okF; exact inferInstance

def lenB (k : Nat) : ByteArray := ⟨#[UInt8.ofNat (k / 256), UInt8.ofNat k]⟩

def frameB (n : Int) (t : ByteArray) (size : Int) : ByteArray := eightB n.toNat ++ lenB t.size ++ t ++ zerosB (size - 18 - t.size).toNat ++ eightB n.toNat

theorem lenB_size (k : Nat) : (lenB k).size = 2 := rfl

theorem frameB_size {n : Int} {t : ByteArray} {size : Int} (h : okF n t size) : ((frameB n t size).size : Int) = size := by
  obtain ⟨h1, h2, h3, h4⟩ := h
  unfold frameB
  simp only [ByteArray.size_append, eightB_size, lenB_size, zerosB_size]
  omega

theorem e_sized {n : Int} : F_slot_sized (n, ()) () = some (decide (32 ≤ n ∧ n ≤ 512), ()) := by
  rw [Fe_slot_sized]
  unfold tree_slot_sized
  simp only [cond_decide]
  by_cases h : n ≥ 32
  · rw [if_pos h, show decide (32 ≤ n ∧ n ≤ 512) = decide (n ≤ 512) by rw [Bool.eq_iff_iff]; simp; omega]
  · rw [if_neg h, decide_eq_false (show ¬ (32 ≤ n ∧ n ≤ 512) by omega)]

theorem len_nums {k : Nat} (h : k ≤ 494) : Go.strOfNums ([] ++ [IntKind.u8.wrap ((k : Int).fdiv 256)] ++ [IntKind.u8.wrap (k : Int)]) = lenB k := by
  apply bs_inj
  rw [bs_nums]
  have hb : ∀ (a : Int) (b : Nat), a.toNat % 256 = b % 256 → UInt8.ofNat a.toNat = UInt8.ofNat b := by
    intro a b hab
    apply UInt8.toNat_inj.1
    rw [UInt8.toNat_ofNat', UInt8.toNat_ofNat']
    exact hab
  show [_, _] = [_, _]
  rw [u8w, u8w, Int.fdiv_eq_ediv_of_nonneg _ (by decide)]
  congr 1
  · exact hb _ _ (by omega)
  congr 1
  · exact hb _ _ (by omega)

/-- What a call for a frame gives. -/
def frameS (n : Int) (t : ByteArray) (size : Int) : ByteArray × Bool := if okF n t size then (frameB n t size, true) else (ByteArray.empty, false)

theorem e_Frame {n : Int} {t : ByteArray} {size : Int} (h0 : 0 ≤ n) (h1 : n < 18446744073709551616) : F_slot_Frame (n, t, size, ()) () = some (((frameS n t size).1, (frameS n t size).2, ()), ()) := by
  rw [Fe_slot_Frame]
  unfold tree_slot_Frame
  rw [e_sized]
  simp only [Option.bind_some]
  unfold frameS
  by_cases hs : 32 ≤ size ∧ size ≤ 512
  · rw [decide_eq_true hs]
    simp only [Bool.not_true, cond_false, cond_eqi, cond_decide]
    by_cases hn : n = 0
    · rw [if_pos hn, if_neg (fun h => h.2.2.1 hn)]
    · rw [if_neg hn, i64id (n := size - 18) (by omega) (by omega)]
      by_cases ht : (t.size : Int) > size - 18
      · rw [if_pos ht, if_neg (fun h => by have := h.2.2.2; omega)]
      · have hk : t.size ≤ 494 := by omega
        have hz : (zerosB (size - 18 - t.size).toNat).size ≤ 512 := by rw [zerosB_size]; omega
        rw [if_neg ht, e_eight h0 h1, len_nums hk, i64id (n := size - 18 - (t.size : Int)) (by omega) (by omega), e_Repeat0 (by omega) (by omega)]
        simp only [Option.bind_some]
        rw [if_pos (by rw [eightB_size, lenB_size]; omega), if_pos (by rw [ByteArray.size_append, eightB_size, lenB_size]; omega), if_pos (by simp only [ByteArray.size_append, eightB_size, lenB_size]; omega), if_pos (by simp only [ByteArray.size_append, eightB_size, lenB_size]; omega), if_pos ⟨hs.1, hs.2, hn, by omega⟩]
        rfl
  · rw [decide_eq_false hs, if_neg (fun h => hs ⟨h.1, h.2.1⟩)]; rfl

/-! ### what a sector says -/

def okU (s : ByteArray) : Prop := 32 ≤ s.size ∧ s.size ≤ 512 ∧ (bs s).take 8 = (bs s).drop (s.size - 8) ∧ nb ((bs s).take 8) ≠ 0 ∧ nb (((bs s).drop 8).take 2) ≤ s.size - 18

instance (s : ByteArray) : Decidable (okU s) := by unfold okU; exact inferInstance

def unfS (s : ByteArray) : Int × ByteArray × Bool := if okU s then ((nb ((bs s).take 8) : Int), s.extract 10 (10 + nb (((bs s).drop 8).take 2)), true) else (0, ByteArray.empty, false)

theorem unfS_lt (s : ByteArray) : 0 ≤ (unfS s).1 ∧ (unfS s).1 < 18446744073709551616 := by
  unfold unfS
  split
  · rename_i h
    have := nb_lt 8 ((bs s).take 8) (by rw [List.length_take, bs_len]; have := h.1; omega)
    have h8 : (256 : Nat) ^ 8 = 18446744073709551616 := by decide
    dsimp only
    omega
  · exact ⟨Int.le_refl _, by decide⟩

theorem e_Unframe {s : ByteArray} : F_slot_Unframe (s, ()) () = some (((unfS s).1, (unfS s).2.1, (unfS s).2.2, ()), ()) := by
  rw [Fe_slot_Unframe]
  unfold tree_slot_Unframe unfS
  rw [e_sized]
  simp only [Option.bind_some]
  by_cases hs : 32 ≤ (s.size : Int) ∧ (s.size : Int) ≤ 512
  · rw [decide_eq_true hs]
    simp only [Bool.not_true, cond_false]
    have b8 : bs (s.extract 0 8) = (bs s).take 8 := by rw [bs_extract, List.drop_zero]
    have b2 : bs (s.extract 8 10) = ((bs s).drop 8).take 2 := by rw [bs_extract]
    have bl : bs (s.extract (s.size - 8) s.size) = (bs s).drop (s.size - 8) := by
      rw [bs_extract, List.take_of_length_le]
      rw [List.length_drop, bs_len]; omega
    have e8 : ((s.size : Int) - 8).toNat = s.size - 8 := by omega
    have l2 := nb_lt 2 (((bs s).drop 8).take 2) (by rw [List.length_take, List.length_drop, bs_len]; omega)
    have h2 : (256 : Nat) ^ 2 = 65536 := by decide
    rw [cd_t (by omega), e_number (s := s.extract 0 8) (by rw [ByteArray.size_extract]; omega)]
    simp only [Option.bind_some]
    rw [cd_t (by omega), e_number (s := s.extract 8 10) (by rw [ByteArray.size_extract]; omega)]
    simp only [Option.bind_some]
    rw [i64id (n := (s.size : Int) - 8) (by omega) (by omega), i64id (n := (s.size : Int) - 18) (by omega) (by omega), e8, b8, b2, i64id (n := (nb (((bs s).drop 8).take 2) : Int)) (by omega) (by omega), i64id (n := 10 + (nb (((bs s).drop 8).take 2) : Int)) (by omega) (by omega), cond_eqi]
    by_cases hn : (nb ((bs s).take 8) : Int) = 0
    · rw [if_pos hn, if_neg (fun h => h.2.2.2.1 (by omega))]
    · rw [if_neg hn, cd_t (by omega), cd_t (by omega), e_number (s := s.extract (s.size - 8) s.size) (by rw [ByteArray.size_extract]; omega)]
      simp only [Option.bind_some]
      rw [bl, cond_nei]
      by_cases he : (nb ((bs s).take 8) : Int) = (nb ((bs s).drop (s.size - 8)) : Int)
      · have he' : (bs s).take 8 = (bs s).drop (s.size - 8) := nb_inj 8 _ _ (by rw [List.length_take, bs_len]; omega) (by rw [List.length_drop, bs_len]; omega) (by omega)
        rw [if_pos he, cond_decide]
        by_cases hl : (nb (((bs s).drop 8).take 2) : Int) > (s.size : Int) - 18
        · rw [if_pos hl, if_neg (fun h => by have := h.2.2.2.2; omega)]
        · rw [if_neg hl, cd_t (by omega), cd_t (by omega), if_pos ⟨by omega, by omega, he', by omega, by omega⟩, show (10 + (nb (((bs s).drop 8).take 2) : Int)).toNat = 10 + nb (((bs s).drop 8).take 2) by omega]
      · rw [if_neg he, if_neg (fun h => he (by rw [h.2.2.1]))]
  · rw [decide_eq_false hs, if_neg (fun h => hs ⟨by have := h.1; omega, by have := h.2.1; omega⟩)]; rfl

theorem nb_zero : ∀ (n : Nat) (l : List UInt8), l.length = n → (nb l = 0 ↔ l = List.replicate n 0) := by
  intro n l h
  have h0 : ∀ n : Nat, nb (List.replicate n 0) = 0 := by
    intro n
    induction n with
    | zero => rfl
    | succ n ih => rw [List.replicate_succ', nb_snoc, ih]; rfl
  constructor
  · intro e
    exact nb_inj n _ _ h (by rw [List.length_replicate]) (by rw [e, h0])
  · intro e
    rw [e, h0]

theorem getD_two (l : List UInt8) (h : 10 ≤ l.length) : nb ((l.drop 8).take 2) = 256 * (l.getD 8 0).toNat + (l.getD 9 0).toNat := by
  have h8 : 8 < l.length := by omega
  have h9 : 9 < l.length := by omega
  rw [List.drop_eq_getElem_cons h8, List.drop_eq_getElem_cons h9]
  simp only [List.take_succ_cons, List.take_zero, nb, List.foldl_cons, List.foldl_nil, List.getD_eq_getElem?_getD, List.getElem?_eq_getElem h8, List.getElem?_eq_getElem h9, Option.getD_some]
  omega

/-! ### what is framed is unframed -/

theorem frame_bs (n : Int) (t : ByteArray) (size : Int) : bs (frameB n t size) = eightL n.toNat ++ ([UInt8.ofNat (t.size / 256), UInt8.ofNat t.size] ++ (bs t ++ (List.replicate (size - 18 - t.size).toNat 0 ++ eightL n.toNat))) := by
  unfold frameB
  simp only [bs_append, bs_zeros]
  show ((((eightL n.toNat ++ [UInt8.ofNat (t.size / 256), UInt8.ofNat t.size]) ++ _) ++ _) ++ eightL n.toNat) = _
  simp only [List.append_assoc]

theorem frame_head (n : Int) (t : ByteArray) (size : Int) : (bs (frameB n t size)).take 8 = eightL n.toNat := by
  rw [frame_bs, List.take_append_of_le_length (by rw [eightL_len]; omega), List.take_of_length_le (by rw [eightL_len]; omega)]

theorem frame_tail {n : Int} {t : ByteArray} {size : Int} (h : okF n t size) : (bs (frameB n t size)).drop ((frameB n t size).size - 8) = eightL n.toNat := by
  have hs := frameB_size h
  obtain ⟨h1, h2, h3, h4⟩ := h
  have : bs (frameB n t size) = (eightL n.toNat ++ ([UInt8.ofNat (t.size / 256), UInt8.ofNat t.size] ++ (bs t ++ List.replicate (size - 18 - t.size).toNat 0))) ++ eightL n.toNat := by
    rw [frame_bs]; simp only [List.append_assoc]
  rw [this, List.drop_left']
  simp only [List.length_append, eightL_len, List.length_cons, List.length_nil, bs_len, List.length_replicate]
  omega

theorem unf_frame {n : Int} {t : ByteArray} {size : Int} (h : okF n t size) (h0 : 0 ≤ n) (h1 : n < 18446744073709551616) : unfS (frameB n t size) = (n, t, true) := by
  have hs := frameB_size h
  have hh := frame_head n t size
  have ht := frame_tail h
  obtain ⟨k1, k2, k3, k4⟩ := h
  have hn : nb (eightL n.toNat) = n.toNat := nb_eight (by omega)
  have h2 : ((bs (frameB n t size)).drop 8).take 2 = [UInt8.ofNat (t.size / 256), UInt8.ofNat t.size] := by
    rw [frame_bs, List.drop_left' (eightL_len _)]
    rfl
  have h2n : nb [UInt8.ofNat (t.size / 256), UInt8.ofNat t.size] = t.size := by
    simp only [nb, List.foldl_cons, List.foldl_nil, UInt8.toNat_ofNat']
    omega
  have ho : okU (frameB n t size) := ⟨by omega, by omega, by rw [hh, ht], by rw [hh, hn]; omega, by rw [h2, h2n]; omega⟩
  unfold unfS
  rw [if_pos ho, hh, hn, h2, h2n]
  have he : (frameB n t size).extract 10 (10 + t.size) = t := by
    apply bs_inj
    rw [bs_extract, frame_bs, show (10 : Nat) = 8 + 2 by rfl, ← List.drop_drop, List.drop_left' (eightL_len _)]
    show List.take _ (bs t ++ _) = _
    rw [List.take_left' (by rw [bs_len]; omega)]
  rw [he, show ((n.toNat : Nat) : Int) = n by omega]

/-! ### a write that is cut short -/

theorem mix_list {la lb : List UInt8} {N c : Nat} (hN : 32 ≤ N) (hla : la.length = N) (hlb : lb.length = N) (ha : la.take 8 = la.drop (N - 8)) (hb : lb.take 8 = lb.drop (N - 8)) (hne : la.take 8 ≠ lb.take 8) (hc : c ≤ N)
    (hm : (lb.take c ++ la.drop c).take 8 = (lb.take c ++ la.drop c).drop (N - 8)) : lb.take c ++ la.drop c = la ∨ lb.take c ++ la.drop c = lb := by
  have hlc : (lb.take c).length = c := by rw [List.length_take]; omega
  by_cases h8 : c ≤ 8
  · left
    have e1 : (lb.take c ++ la.drop c).drop (N - 8) = la.drop (N - 8) := by
      rw [List.drop_append, List.drop_of_length_le (by omega), List.nil_append, hlc, List.drop_drop, show c + (N - 8 - c) = N - 8 by omega]
    have e2 : (lb.take c ++ la.drop c).take 8 = lb.take c ++ (la.drop c).take (8 - c) := by
      rw [List.take_append, List.take_of_length_le (by omega), hlc]
    have e3 : la.take 8 = la.take c ++ (la.drop c).take (8 - c) := by
      rw [show (8 : Nat) = c + (8 - c) by omega, List.take_add, show c + (8 - c) - c = 8 - c by omega]
    rw [e1, e2, ← ha, e3] at hm
    have := List.append_cancel_right hm
    rw [this, List.take_append_drop]
  · by_cases hn : c ≤ N - 8
    · exfalso
      have e1 : (lb.take c ++ la.drop c).drop (N - 8) = la.drop (N - 8) := by
        rw [List.drop_append, List.drop_of_length_le (by omega), List.nil_append, hlc, List.drop_drop, show c + (N - 8 - c) = N - 8 by omega]
      have e2 : (lb.take c ++ la.drop c).take 8 = lb.take 8 := by
        rw [List.take_append_of_le_length (by omega), List.take_take, Nat.min_eq_left (by omega)]
      rw [e1, e2, ← ha] at hm
      exact hne hm.symm
    · right
      have e2 : (lb.take c ++ la.drop c).take 8 = lb.take 8 := by
        rw [List.take_append_of_le_length (by omega), List.take_take, Nat.min_eq_left (by omega)]
      have e1 : (lb.take c ++ la.drop c).drop (N - 8) = (lb.take c).drop (N - 8) ++ la.drop c := by
        rw [List.drop_append_of_le_length (by omega)]
      have e3 : lb.drop (N - 8) = (lb.take c).drop (N - 8) ++ lb.drop c := by
        conv => lhs; rw [← List.take_append_drop c lb]
        rw [List.drop_append_of_le_length (by omega)]
      rw [e1, e2, hb, e3] at hm
      rw [← List.append_cancel_left hm, List.take_append_drop]

/-- A sector that is framed, or all 0: what it says. -/
structure Sect (size : Int) (s : ByteArray) (n : Int) (t : ByteArray) : Prop where
  lo : 32 ≤ size
  hi : size ≤ 512
  sz : (s.size : Int) = size
  n0 : 0 ≤ n
  n1 : n < 18446744073709551616
  head : (bs s).take 8 = eightL n.toNat
  tail : (bs s).drop (s.size - 8) = eightL n.toNat
  says : unfS s = (if n = 0 then (0, ByteArray.empty, false) else (n, t, true))

theorem sect_frame {n : Int} {t : ByteArray} {size : Int} (h : okF n t size) (h0 : 0 ≤ n) (h1 : n < 18446744073709551616) : Sect size (frameB n t size) n t :=
  ⟨h.1, h.2.1, frameB_size h, h0, h1, frame_head n t size, frame_tail h, by rw [if_neg h.2.2.1]; exact unf_frame h h0 h1⟩

theorem sect_zero {size : Int} (lo : 32 ≤ size) (hi : size ≤ 512) (t : ByteArray) : Sect size (zerosB size.toNat) 0 t := by
  have e8 : eightL (0 : Int).toNat = List.replicate 8 0 := rfl
  refine ⟨lo, hi, by rw [zerosB_size]; omega, Int.le_refl _, by decide, ?_, ?_, ?_⟩
  · rw [bs_zeros, List.take_replicate, Nat.min_eq_left (by omega), e8]
  · rw [bs_zeros, zerosB_size, List.drop_replicate, show size.toNat - (size.toNat - 8) = 8 by omega, e8]
  · unfold unfS
    rw [if_neg, if_pos rfl]
    intro h
    apply h.2.2.2.1
    rw [bs_zeros, List.take_replicate, Nat.min_eq_left (by omega)]
    rfl

/-- Cut short anywhere it says what it said, or the new one, or nothing. -/
theorem torn {size n m : Int} {a b t u : ByteArray} (ha : Sect size a n t) (hb : Sect size b m u) (hne : n ≠ m) {c : Nat} (hc : (c : Int) ≤ size) :
    (b.extract 0 c ++ a.extract c a.size = a ∨ b.extract 0 c ++ a.extract c a.size = b) ∨ unfS (b.extract 0 c ++ a.extract c a.size) = (0, ByteArray.empty, false) := by
  have hsa := ha.sz
  have hsb := hb.sz
  have hlo := ha.lo
  have hm : bs (b.extract 0 c ++ a.extract c a.size) = (bs b).take c ++ (bs a).drop c := by
    rw [bs_append, bs_extract, bs_extract, List.drop_zero, Nat.sub_zero, List.take_of_length_le (l := (bs a).drop c) (by rw [List.length_drop, bs_len]; omega)]
  have hsz : (b.extract 0 c ++ a.extract c a.size).size = a.size := by
    rw [ByteArray.size_append, ByteArray.size_extract, ByteArray.size_extract]; omega
  by_cases ho : okU (b.extract 0 c ++ a.extract c a.size)
  · left
    have h := ho.2.2.1
    rw [hm, hsz] at h
    have hba : b.size = a.size := by omega
    rcases mix_list (N := a.size) (by omega) (bs_len a) (by rw [bs_len, hba]) (by rw [ha.head, ha.tail]) (by rw [hb.head, ← hba, hb.tail]) (by
      rw [ha.head, hb.head]
      intro e
      have := eight_inj (by have := ha.n0; have := ha.n1; omega) (by have := hb.n0; have := hb.n1; omega) e
      have := ha.n0; have := hb.n0
      omega) (by omega) h with h | h
    · exact .inl (bs_inj (by rw [hm, h]))
    · exact .inr (bs_inj (by rw [hm, h]))
  · right
    unfold unfS
    rw [if_neg ho]

def newS (a b : Int) (s t : ByteArray) : Int × Int × ByteArray :=
  if (unfS t).2.2 = true ∧ ((unfS s).2.2 = false ∨ (unfS t).1 > (unfS s).1) then (b, (unfS t).1, (unfS t).2.1)
  else if (unfS s).2.2 = true then (a, (unfS s).1, (unfS s).2.1) else (b, 0, ByteArray.empty)

theorem newS_lt (a b : Int) (s t : ByteArray) : 0 ≤ (newS a b s t).2.1 ∧ (newS a b s t).2.1 < 18446744073709551616 := by
  unfold newS
  split
  · exact unfS_lt t
  · split
    · exact unfS_lt s
    · exact ⟨Int.le_refl 0, show (0 : Int) < 18446744073709551616 by decide⟩

section

variable {size : Int} {S : List ByteArray} {P : List W2}

def newD (S : List ByteArray) (P : List W2) (a b : Int) : Int × Int × ByteArray := newS a b (readS S P a).1 (readS S P b).1

theorem e_newest {a b : Int} (hP : P.length ≤ 1000000) : F_slot_newest (a, b, ()) ((size, ()), S, P, ()) = some (((newD S P a b).1, (newD S P a b).2.1, (newD S P a b).2.2, ()), ()) := by
  rw [Fe_slot_newest]
  unfold tree_slot_newest newD newS
  rw [e_Read hP, e_Read hP]
  simp only [Option.bind_some]
  rw [e_Unframe, e_Unframe]
  simp only [Option.bind_some]
  cases h1 : (unfS (readS S P b).1).2.2 <;> cases h2 : (unfS (readS S P a).1).2.2 <;> simp [cond_decide]
  split <;> simp_all

theorem e_Load {a b : Int} (hP : P.length ≤ 1000000) : F_slot_Load (a, b, ()) ((size, ()), S, P, ()) = some (((newD S P a b).2.1, (newD S P a b).2.2, ()), ()) := by
  rw [Fe_slot_Load]
  unfold tree_slot_Load
  rw [e_newest hP]
  rfl

/-- What a beginning writes. -/
def begD (size : Int) (S : List ByteArray) (P : List W2) (a b : Int) (t : ByteArray) : Option W2 :=
  if (a ≠ b ∧ 0 ≤ a ∧ 0 ≤ b ∧ a < S.length ∧ b < S.length) ∧ (newD S P a b).2.1 ≠ 18446744073709551615 ∧ okF ((newD S P a b).2.1 + 1) t size then
    some (if (newD S P a b).1 = a then b else a, frameB ((newD S P a b).2.1 + 1) t size) else none

theorem pad_full {t : ByteArray} (h : (t.size : Int) = size) : padW size t = t := by
  unfold padW
  rw [show (size - t.size).toNat = 0 by omega]
  apply bs_inj
  rw [bs_append, bs_zeros]
  simp

theorem e_Begin {a b : Int} {t : ByteArray} (hd : DInv size S P) : F_slot_Begin (a, b, t, ()) ((size, ()), S, P, ()) =
    some ((begD size S P a b t).isSome, ((size, ()), S, (), P ++ (begD size S P a b t).toList, ())) := by
  rw [Fe_slot_Begin]
  unfold tree_slot_Begin begD
  have hP := hd.few
  have hnone : ∀ {α : Type} (x : α), (some (false, ((size, ()), S, (), P, ())) : Option _) = some ((none : Option W2).isSome, ((size, ()), S, (), P ++ (none : Option W2).toList, ())) := by intro α x; simp
  simp only [cond_eqi, cond_decide]
  by_cases h1 : a = b
  · rw [if_pos h1, if_neg (fun h => h.1.1 h1)]; simp
  rw [if_neg h1]
  by_cases h2 : a < 0
  · rw [if_pos h2, if_neg (fun h => by have := h.1.2.1; omega)]; simp
  rw [if_neg h2]
  by_cases h3 : b < 0
  · rw [if_pos h3, if_neg (fun h => by have := h.1.2.2.1; omega)]; simp
  rw [if_neg h3, e_Sectors]
  simp only [Option.bind_some]
  by_cases h4 : a ≥ S.length
  · rw [if_pos h4, if_neg (fun h => by have := h.1.2.2.2.1; omega)]; simp
  rw [if_neg h4]
  by_cases h5 : b ≥ S.length
  · rw [if_pos h5, if_neg (fun h => by have := h.1.2.2.2.2; omega)]; simp
  rw [if_neg h5, e_newest hP]
  simp only [Option.bind_some]
  have hlt := newS_lt a b (readS S P a).1 (readS S P b).1
  by_cases h6 : (newD S P a b).2.1 = 18446744073709551615
  · rw [if_pos h6, if_neg (fun h => h.2.1 h6)]; simp
  have hl2 : 0 ≤ (newD S P a b).2.1 + 1 ∧ (newD S P a b).2.1 + 1 < 18446744073709551616 := by unfold newD at h6 ⊢; omega
  rw [if_neg h6, e_Size]
  simp only [Option.bind_some]
  rw [u64id hl2.1 hl2.2, e_Frame hl2.1 hl2.2]
  simp only [Option.bind_some]
  unfold frameS
  by_cases h7 : okF ((newD S P a b).2.1 + 1) t size
  · have hsz := frameB_size h7
    have hall : (a ≠ b ∧ 0 ≤ a ∧ 0 ≤ b ∧ a < S.length ∧ b < S.length) ∧ (newD S P a b).2.1 ≠ 18446744073709551615 ∧ okF ((newD S P a b).2.1 + 1) t size := ⟨⟨h1, by omega, by omega, by omega, by omega⟩, h6, h7⟩
    rw [if_pos h7, if_pos hall]
    simp only [Bool.not_true, cond_false]
    by_cases h8 : (newD S P a b).1 = a
    · simp only [if_pos h8]
      rw [e_Write hd]
      have hm : mayW size S b (frameB ((newD S P a b).2.1 + 1) t size) = true := by unfold mayW; rw [decide_eq_true]; exact ⟨⟨by omega, by omega⟩, by omega⟩
      rw [hm, pad_full hsz]
      rfl
    · simp only [if_neg h8]
      rw [e_Write hd]
      have hm : mayW size S a (frameB ((newD S P a b).2.1 + 1) t size) = true := by unfold mayW; rw [decide_eq_true]; exact ⟨⟨by omega, by omega⟩, by omega⟩
      rw [hm, pad_full hsz]
      rfl
  · have hall : ¬ ((a ≠ b ∧ 0 ≤ a ∧ 0 ≤ b ∧ a < S.length ∧ b < S.length) ∧ (newD S P a b).2.1 ≠ 18446744073709551615 ∧ okF ((newD S P a b).2.1 + 1) t size) := fun h => h7 h.2.2
    rw [if_neg h7, if_neg hall]
    simp

theorem beg_in {a b : Int} {t : ByteArray} {p : W2} (h : begD size S P a b t = some p) : 0 ≤ p.1 ∧ p.1 < S.length ∧ (p.2.size : Int) = size := by
  unfold begD at h
  split at h
  · rename_i hc
    cases h
    refine ⟨?_, ?_, frameB_size hc.2.2⟩ <;> dsimp only <;> split <;> have := hc.1 <;> omega
  · cases h

theorem beg_DInv {a b : Int} {t : ByteArray} (hd : DInv size S P) (hl : P.length < 1000000) : DInv size S (P ++ (begD size S P a b t).toList) := by
  cases hb : begD size S P a b t with
  | none => simpa using hd
  | some p =>
    have hin := beg_in hb
    refine ⟨hd.lo, hd.hi, hd.n2, hd.sz, fun q hq => ?_, by simp; omega⟩
    rcases List.mem_append.1 hq with h | h
    · exact hd.pd q h
    · simp at h
      subst h
      exact hin

theorem e_Save {a b : Int} {t : ByteArray} (hd : DInv size S P) (hl : P.length < 1000000) : F_slot_Save (a, b, t, ()) ((size, ()), S, P, ()) =
    some ((begD size S P a b t).isSome, ((size, ()), (if (begD size S P a b t).isSome then flushS size S (P ++ (begD size S P a b t).toList) else S), (), (if (begD size S P a b t).isSome then [] else P), ())) := by
  rw [Fe_slot_Save]
  unfold tree_slot_Save
  rw [e_Begin hd]
  simp only [Option.bind_some]
  cases hb : begD size S P a b t with
  | none => simp
  | some p =>
    have := beg_DInv (a := a) (b := b) (t := t) hd hl
    rw [hb] at this
    simp only [Option.isSome_some, Bool.not_true, cond_false, if_true]
    rw [e_Flush this]
    rfl

end

/-! ### the fixed calls -/

/-! ### frames: as the document says -/

theorem bytes_self (a : ByteArray) : (a.toList == a.toList) = true := beq_self_eq_true _

theorem torn_says {size n m : Int} {a b t u : ByteArray} (ha : Sect size a n t) (hb : Sect size b m u) (hm : m ≠ 0) (hne : n ≠ m) {c : Nat} (hc : (c : Int) ≤ size) :
    (unfS (b.extract 0 c ++ a.extract c a.size)).2.2 = false ∨ (unfS (b.extract 0 c ++ a.extract c a.size) = (n, t, true) ∧ n ≠ 0) ∨ unfS (b.extract 0 c ++ a.extract c a.size) = (m, u, true) := by
  rcases torn ha hb hne hc with (h | h) | h
  · rw [h, ha.says]
    by_cases hn : n = 0
    · rw [if_pos hn]; exact .inl rfl
    · rw [if_neg hn]; exact .inr (.inl ⟨rfl, hn⟩)
  · rw [h, hb.says, if_neg hm]
    exact .inr (.inr rfl)
  · rw [h]; exact .inl rfl

end Go.Proofs.Ytlfedmjjjbhnpaa.S2
