/- config: what the printed functions answer, second part: what lies where (image and its reference). No program here. -/
import Derived.Test.YtedmikeamgebjaaCPureA
set_option linter.unusedVariables false
set_option linter.unusedSimpArgs false
namespace Go.Proofs.Ytedmikeamgebjaa.R
open Go.RowKit Go.Proofs.YtedmikeamgebjaaW.PrintWords Go.Proofs.YtedmikeamgebjaaW.PrintLast Go.Proofs.YtedmikeamgebjaaW.PrintMore

def maskV (a n : Nat) : BitVec 64 := BitVec.ofNat 64 ((2 ^ n - 1) * 2 ^ a)
theorem mask_bit (a n j : Nat) : (maskV a n).getLsbD j = (decide (j < 64) && decide (a ≤ j) && decide (j < a + n)) := by
  unfold maskV
  rw [BitVec.getLsbD_ofNat, Nat.testBit_mul_two_pow, Nat.testBit_two_pow_sub_one]
  by_cases h1 : j < 64 <;> by_cases h2 : a ≤ j <;> by_cases h3 : j < a + n <;> simp [h1, h2, h3] <;> omega
theorem wrap_nat (x : Nat) (h : x < 2 ^ 64) : IntKind.u64.wrap (x : Int) = (x : Int) := by
  simp only [IntKind.wrap, IntKind.signed, IntKind.bits]
  simp
  omega
theorem ofInt_nat (v : BitVec 64) : BitVec.ofInt 64 (v.toNat : Int) = v := by
  rw [BitVec.ofInt_natCast]
  simp
theorem bits_and (v m : BitVec 64) : Go.bits .and .u64 (v.toNat : Int) (m.toNat : Int) = ((v &&& m).toNat : Int) := by
  show IntKind.u64.wrap (((BitVec.ofInt 64 (v.toNat : Int)) &&& BitVec.ofInt 64 (m.toNat : Int)).toNat : Int) = _
  rw [ofInt_nat, ofInt_nat, wrap_nat _ (v &&& m).isLt]
theorem bits_or (v m : BitVec 64) : Go.bits .or .u64 (v.toNat : Int) (m.toNat : Int) = ((v ||| m).toNat : Int) := by
  show IntKind.u64.wrap (((BitVec.ofInt 64 (v.toNat : Int)) ||| BitVec.ofInt 64 (m.toNat : Int)).toNat : Int) = _
  rw [ofInt_nat, ofInt_nat, wrap_nat _ (v ||| m).isLt]
theorem shl_nat (x y : Nat) (hy : y ≤ 64) : shl .u64 (x : Int) (y : Int) = ((x * 2 ^ y % 2 ^ 64 : Nat) : Int) := by
  unfold shl
  rw [show min (y : Int).toNat IntKind.u64.bits = y by simp [IntKind.bits]; omega]
  simp only [IntKind.wrap, IntKind.signed, IntKind.bits]
  simp
theorem image_mask_f (a n : Nat) (h : a + n ≤ 64) : image_mask.f (a : Int) (n : Int) = some ((maskV a n).toNat : Int) := by
  have e : (maskV a n).toNat = (2 ^ n - 1) * 2 ^ a % 2 ^ 64 := by unfold maskV; rw [BitVec.toNat_ofNat]
  unfold image_mask.f
  by_cases h1 : (n : Int) ≥ 64
  · rw [if_pos h1, if_pos (by omega)]
    obtain rfl : n = 64 := by omega
    rw [e, show (18446744073709551615 : Int) = ((2 ^ 64 - 1 : Nat) : Int) from rfl, shl_nat _ _ (by omega)]
  · rw [if_neg h1, if_pos (by omega), if_pos (by omega), e]
    have hn : n < 64 := by omega
    have h2 : 2 ^ n < 2 ^ 64 := Nat.pow_lt_pow_right (by omega) hn
    have h3 : 0 < 2 ^ n := Nat.pos_of_ne_zero (by simp)
    rw [show (1 : Int) = ((1 : Nat) : Int) from rfl, shl_nat 1 n (by omega), Nat.one_mul, Nat.mod_eq_of_lt h2]
    rw [show (((2 ^ n : Nat) : Int) - ((1 : Nat) : Int)) = ((2 ^ n - 1 : Nat) : Int) by omega, wrap_nat _ (by omega), shl_nat _ _ (by omega)]

def ovB (v : BitVec 64) : Nat → Nat → Bool
  | _, 0 => false
  | j, e + 1 => v.getLsbD j || ovB v (j + 1) e
theorem ovB_iff (v : BitVec 64) : ∀ (e j : Nat), ovB v j e = true ↔ ∃ x, j ≤ x ∧ x < j + e ∧ v.getLsbD x = true
  | 0, j => by
    simp only [ovB]
    constructor
    · intro h; cases h
    · rintro ⟨x, h1, h2, -⟩; omega
  | e + 1, j => by
    rw [ovB, Bool.or_eq_true, ovB_iff v e (j + 1)]
    constructor
    · rintro (h | ⟨x, h1, h2, h3⟩)
      · exact ⟨j, by omega, by omega, h⟩
      · exact ⟨x, by omega, by omega, h3⟩
    · rintro ⟨x, h1, h2, h3⟩
      rcases Nat.lt_or_ge j x with h | h
      · exact .inr ⟨x, by omega, by omega, h3⟩
      · obtain rfl : x = j := by omega
        exact .inl h3
theorem and_mask (v : BitVec 64) (a n : Nat) (h : a + n ≤ 64) : (((v &&& maskV a n).toNat : Int) = 0) ↔ ovB v a n = false := by
  constructor
  · intro h0
    cases ho : ovB v a n with
    | false => rfl
    | true =>
      obtain ⟨x, h1, h2, h3⟩ := (ovB_iff v n a).1 ho
      have e : v &&& maskV a n = 0#64 := by
        apply BitVec.eq_of_toNat_eq
        simpa using h0
      have : (v &&& maskV a n).getLsbD x = true := by
        rw [BitVec.getLsbD_and, h3, mask_bit, decide_eq_true (by omega : x < 64), decide_eq_true h1, decide_eq_true h2]
        rfl
      rw [e] at this
      simp at this
  · intro ho
    have e : v &&& maskV a n = 0#64 := by
      apply BitVec.eq_of_getLsbD_eq
      intro i hi
      rw [BitVec.getLsbD_and, mask_bit]
      by_cases h1 : a ≤ i
      · by_cases h2 : i < a + n
        · have : v.getLsbD i = false := by
            cases hv : v.getLsbD i with
            | false => rfl
            | true =>
              have := (ovB_iff v n a).2 ⟨i, h1, h2, hv⟩
              rw [ho] at this
              cases this
          rw [this]
          simp
        · simp [h2]
      · simp [h1]
    rw [e]
    rfl

theorem errS_zero {s : S56} {bef : List S56} {b : S63 × Bool} (h : errS s bef b = 0) : b.2 = true ∧ 0 ≤ s.f1 ∧ s.f1 ≤ 64 ∧ 0 ≤ b.1.f2 ∧ b.1.f2 ≤ 64 - s.f1 := by
  unfold errS at h
  split at h
  · omega
  split at h
  · omega
  split at h
  · omega
  split at h
  · omega
  split at h
  · omega
  split at h
  · omega
  rename_i h1 h2 h3 h4 h5 h6
  exact ⟨by cases hb : b.2 with | true => rfl | false => exact absurd hb h1, by omega, by omega, by omega, by omega⟩
def layS (l1 : List S56) (l2 : List S63) (over : Bool) : Nat → Nat → BitVec 64 → Int × Int
  | 0, _, _ => (0, 0)
  | d + 1, i, v =>
    if errS (rd_T56 l1 i) (l1.take i) (findB l2 (rd_T56 l1 i).f0) = 0 then
      if over = true ∧ ovB v (rd_T56 l1 i).f1.toNat (findB l2 (rd_T56 l1 i).f0).1.f2.toNat = true then (15, (i : Int))
      else layS l1 l2 over d (i + 1) (v ||| maskV (rd_T56 l1 i).f1.toNat (findB l2 (rd_T56 l1 i).f0).1.f2.toNat)
    else (errS (rd_T56 l1 i) (l1.take i) (findB l2 (rd_T56 l1 i).f0), (i : Int))
theorem spot_f (l1 : List S56) (i : Nat) (hi : i < l1.length) (l2 : List S63) : image_spot.f l1 (i : Int) l2 = some ((findB l2 (rd_T56 l1 i).f0).1.f0, (findB l2 (rd_T56 l1 i).f0).1.f1, (findB l2 (rd_T56 l1 i).f0).1.f2, (findB l2 (rd_T56 l1 i).f0).1.f3, errS (rd_T56 l1 i) (l1.take i) (findB l2 (rd_T56 l1 i).f0)) := by
  unfold image_spot.f
  rw [if_pos (by omega), if_pos (by omega), Int.toNat_natCast]
theorem image_lay_l0 (l1 : List S56) (l2 : List S63) (over : Bool) (hl : l1.length ≤ 1000) : ∀ (d i : Nat) (v : BitVec 64), i + d = l1.length → image_lay.l0 (d + 1) (v.toNat : Int) l1 l2 over l1 (l1.length : Int) (i : Int) = some (layS l1 l2 over d i v)
  | 0, i, v, h => by
    unfold image_lay.l0 layS
    rw [if_neg (by omega)]
  | d + 1, i, v, h => by
    have hi : i < l1.length := by omega
    have ih := image_lay_l0 l1 l2 over hl d (i + 1)
    unfold image_lay.l0 layS
    rw [if_pos (by omega), if_pos (by omega), if_pos (by omega), spot_f l1 i hi l2]
    simp only [Option.bind_some]
    generalize findB l2 (rd_T56 l1 i).f0 = b
    generalize rd_T56 l1 i = s
    by_cases he : errS s (l1.take i) b = 0
    · rw [if_pos he, if_pos he]
      obtain ⟨-, h1, h2, h3, h4⟩ := errS_zero he
      obtain ⟨a, ha⟩ : ∃ a : Nat, s.f1 = (a : Int) := ⟨s.f1.toNat, by omega⟩
      obtain ⟨n, hn⟩ : ∃ n : Nat, b.1.f2 = (n : Int) := ⟨b.1.f2.toNat, by omega⟩
      rw [ha, hn]
      rw [image_mask_f a n (by omega)]
      simp only [Option.bind_some, Int.toNat_natCast]
      rw [bits_and, bits_or, wrapS (by omega), ih _ (by omega)]
      have hz := and_mask v a n (by omega)
      cases over with
      | false => simp
      | true =>
        simp only [if_true, true_and]
        cases ho : ovB v a n with
        | false => rw [if_pos (hz.2 ho)]; simp
        | true => rw [if_neg (fun h0 => by have := hz.1 h0; rw [ho] at this; cases this)]; simp
    · rw [if_neg he, if_neg he]

/-! the reference -/
def Rel (over : Bool) (u : List Bool) (v : BitVec 64) : Prop := u.length = 64 ∧ (over = true → ∀ j, j < 64 → u[j]? = some (v.getLsbD j))
theorem rdOf_at {u : List Bool} {j : Nat} {b : Bool} (h : u[j]? = some b) : rdOf false u (j : Int) = b := by
  simp [rdOf, List.getD, h]
theorem Rel.set {over : Bool} {u : List Bool} {v : BitVec 64} {a m : Nat} (h : Rel over u (v ||| maskV a m)) (ha : a + m < 64) : Rel over (u.set (a + m) true) (v ||| maskV a (m + 1)) := by
  refine ⟨by rw [List.length_set]; exact h.1, fun ho j hj => ?_⟩
  rw [List.getElem?_set]
  by_cases e : a + m = j
  · subst e
    rw [if_pos rfl, if_pos (by rw [h.1]; exact ha), BitVec.getLsbD_or, mask_bit, decide_eq_true ha, decide_eq_true (by omega : a ≤ a + m), decide_eq_true (by omega : a + m < a + (m + 1))]
    simp
  · rw [if_neg e, h.2 ho j hj, BitVec.getLsbD_or, BitVec.getLsbD_or, mask_bit, mask_bit]
    have : decide (j < a + m) = decide (j < a + (m + 1)) ∨ decide (a ≤ j) = false := by
      by_cases h1 : a ≤ j
      · left
        by_cases h2 : j < a + m
        · rw [decide_eq_true h2, decide_eq_true (by omega)]
        · rw [decide_eq_false h2, decide_eq_false (by omega)]
      · right; exact decide_eq_false h1
    rcases this with h1 | h1 <;> rw [h1]
    simp
theorem mask_nil (v : BitVec 64) (a : Nat) : v ||| maskV a 0 = v := by
  apply BitVec.eq_of_getLsbD_eq
  intro i hi
  rw [BitVec.getLsbD_or, mask_bit]
  by_cases h : a ≤ i
  · rw [decide_eq_false (by omega : ¬ i < a + 0)]
    simp
  · rw [decide_eq_false h]
    simp
end Go.Proofs.Ytedmikeamgebjaa.R
