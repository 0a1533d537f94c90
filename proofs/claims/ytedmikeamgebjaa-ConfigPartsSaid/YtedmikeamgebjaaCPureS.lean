/- config: what the printed functions answer, without the references: a cluster that may be without one of its stations, and with other numbers. No program here. -/
import Derived.Test.YtedmikeamgebjaaSx5
set_option linter.unusedVariables false
set_option linter.unusedSimpArgs false
namespace Go.Proofs.Ytedmikeamgebjaa.S
open Go.RowKit Go.Proofs.YtedmikeamgebjaaW.PrintWords Go.Proofs.YtedmikeamgebjaaW.PrintLast Go.Proofs.YtedmikeamgebjaaW.PrintMore


theorem wrapS {k : Nat} (h : k ≤ 1000000) : wrap64 ((k : Int) + 1) = ((k + 1 : Nat) : Int) := by
  rw [IntWalk.wrap64_in _ (by omega)]
  omega
/-- The first that fits is ahead of i: one of the first i fits. -/
theorem firstP_take {α : Type} (p : α → Bool) (l : List α) (i : Nat) (hi : i < l.length) (hp : p l[i] = true) : (firstP p l < (i : Int)) ↔ (l.take i).any p = true := by
  unfold firstP
  cases h : l.findIdx? p with
  | none =>
    rw [List.findIdx?_eq_none_iff] at h
    have := h _ (List.getElem_mem hi)
    rw [hp] at this
    cases this
  | some k =>
    rw [List.findIdx?_eq_some_iff_getElem] at h
    obtain ⟨hk, hpk, hn⟩ := h
    constructor
    · intro hlt
      simp only at hlt
      refine List.any_eq_true.2 ⟨l[k], ?_, hpk⟩
      rw [List.mem_take_iff_getElem]
      exact ⟨k, by omega, rfl⟩
    · intro ha
      obtain ⟨x, hx, hpx⟩ := List.any_eq_true.1 ha
      rw [List.mem_take_iff_getElem] at hx
      obtain ⟨j, hj, rfl⟩ := hx
      simp only
      rcases Nat.lt_or_ge j k with h1 | h1
      · exact absurd hpx (hn j h1)
      · omega

def badB (x : S63) : Bool := decide (x.f0 < 0) || decide (x.f0 > 15) || decide (x.f1 < 0) || decide (x.f1 > 31) || decide (x.f2 < 1) || decide (x.f2 > 64)
def dupB (l : List S63) (i : Nat) : Bool := (l.take i).any fun x => x.f0 == (rd_T63 l i).f0
def bcS (l : List S63) : Nat → Nat → Int × Int
  | 0, _ => (0, 0)
  | d + 1, i => if badB (rd_T63 l i) = true then (3, (i : Int)) else if dupB l i = true then (14, (i : Int)) else bcS l d (i + 1)
def bcP (l : List S63) : Int × Int := if (l.length : Int) > 16 then (2, 16) else bcS l l.length 0
theorem rd63 {l : List S63} {i : Nat} (h : i < l.length) : rd_T63 l (i : Int) = l[i] := by
  simp [rd_T63, List.getD, h]
theorem rd56 {l : List S56} {i : Nat} (h : i < l.length) : rd_T56 l (i : Int) = l[i] := by
  simp [rd_T56, List.getD, h]
theorem rd37 {l : List S37} {i : Nat} (h : i < l.length) : rd_T37 l (i : Int) = l[i] := by
  simp [rd_T37, List.getD, h]
theorem blocks_right_f (x : S63) : blocks_right.f x.f0 x.f1 x.f2 x.f3 = some (!badB x) := by
  obtain ⟨a, b, c, d⟩ := x
  unfold blocks_right.f blocks_Parts.f badB
  simp only
  by_cases h1 : a ≥ 0
  · rw [if_pos h1]
    by_cases h2 : a < 16
    · rw [if_pos h2]
      by_cases h3 : b ≥ 0
      · rw [if_pos h3]
        by_cases h4 : b < 32
        · rw [if_pos h4]
          by_cases h5 : c < 1
          · rw [if_pos h5]; simp [h5]
          · rw [if_neg h5]
            by_cases h6 : c > 64
            · rw [if_pos h6]; simp [h6]
            · rw [if_neg h6]
              simp only [Option.bind_some]
              have e1 : wrap64 (c + 16) = c + 16 := IntWalk.wrap64_in _ (by omega)
              have e2 : wrap64 (c + 16 - 1) = c + 15 := by rw [IntWalk.wrap64_in _ (by omega)]; omega
              have e3 : Int.tdiv (c + 15) 16 = (c + 15) / 16 := Int.tdiv_eq_ediv_of_nonneg (by omega)
              rw [e1, e2, e3, IntWalk.wrap64_in _ (by omega)]
              have p1 : decide ((c + 15) / 16 > 0) = true := decide_eq_true (by omega)
              have q1 : decide (a < 0) = false := decide_eq_false (by omega)
              have q2 : decide (a > 15) = false := decide_eq_false (by omega)
              have q3 : decide (b < 0) = false := decide_eq_false (by omega)
              have q4 : decide (b > 31) = false := decide_eq_false (by omega)
              have q5 : decide (c < 1) = false := decide_eq_false (by omega)
              have q6 : decide (c > 64) = false := decide_eq_false (by omega)
              rw [p1, q1, q2, q3, q4, q5, q6]
              rfl
        · rw [if_neg h4]
          have q4 : decide (b > 31) = true := decide_eq_true (by omega)
          rw [q4]; simp
      · rw [if_neg h3]
        have q3 : decide (b < 0) = true := decide_eq_true (by omega)
        rw [q3]; simp
    · rw [if_neg h2]
      have q2 : decide (a > 15) = true := decide_eq_true (by omega)
      rw [q2]; simp
  · rw [if_neg h1]
    have q1 : decide (a < 0) = true := decide_eq_true (by omega)
    rw [q1]; simp
theorem blocks_l0 (l : List S63) (hl : l.length ≤ 1000) : ∀ d i : Nat, i + d = l.length → blocks_Check.l0 (d + 1) l l (l.length : Int) (i : Int) = some (bcS l d i)
  | 0, i, h => by
    unfold blocks_Check.l0 bcS
    rw [if_neg (by omega)]
  | d + 1, i, h => by
    have hi : i < l.length := by omega
    have ih := blocks_l0 l hl d (i + 1) (by omega)
    unfold blocks_Check.l0 bcS
    rw [if_pos (by omega), if_pos (by omega), if_pos (by omega), blocks_right_f]
    simp only [Option.bind_some]
    cases hb : badB (rd_T63 l i) with
    | true => rfl
    | false =>
      simp only [Bool.not_false, if_true, Bool.false_eq_true, if_false]
      unfold blocks_place.f
      simp only [Option.bind_some]
      have hiff := firstP_take (fun x : S63 => x.f0 == (rd_T63 l i).f0) l i hi (by rw [rd63 hi]; simp)
      cases hd : dupB l i with
      | true => rw [if_pos (hiff.2 hd)]; rfl
      | false =>
        rw [if_neg (fun hlt => by have := hiff.1 hlt; unfold dupB at hd; rw [hd] at this; cases this), wrapS (by omega), ih]
        rfl
theorem blocks_f (l : List S63) (hl : l.length ≤ 1000) : blocks_Check.f (l.length + 1) l = some (bcP l) := by
  unfold blocks_Check.f bcP
  by_cases h : (l.length : Int) > 16
  · rw [if_pos h, if_pos h]
  · rw [if_neg h, if_neg h]
    exact blocks_l0 l hl l.length 0 (by omega)
/-- From the place j on: does one fit, ahead of i? -/
theorem any_from {α : Type} (p : α → Bool) (l : List α) (i j : Nat) (hj : j < i) (hi : i ≤ l.length) : ((l.take i).drop j).any p = (p (l[j]'(by omega)) || ((l.take i).drop (j + 1)).any p) := by
  have hlen : j < (l.take i).length := by rw [List.length_take]; omega
  rw [List.drop_eq_getElem_cons hlen, List.any_cons, List.getElem_take]
theorem firstP_cons {α : Type} (p : α → Bool) (x : α) (l : List α) : firstP p (x :: l) = if p x = true then 0 else if firstP p l < 0 then -1 else firstP p l + 1 := by
  unfold firstP
  rw [List.findIdx?_cons]
  cases hx : p x with
  | true => simp
  | false =>
    simp only [Bool.false_eq_true, if_false]
    cases h : l.findIdx? p with
    | none => simp
    | some k =>
      simp only [Option.map_some]
      rw [if_neg (by omega)]
      omega
theorem findB_cons (x : S63) (l : List S63) (a : Int) : findB (x :: l) a = if (x.f0 == a) = true then (x, true) else findB l a := by
  unfold findB
  rw [firstP_cons]
  cases hx : (x.f0 == a) with
  | true => simp [rd_T63]
  | false =>
    simp only [Bool.false_eq_true, if_false]
    by_cases h : firstP (fun x : S63 => x.f0 == a) l < 0
    · rw [if_pos h, if_pos h, if_pos (by omega)]
    · rw [if_neg h, if_neg h, if_neg (by omega)]
      have e : (firstP (fun x : S63 => x.f0 == a) l + 1).toNat = (firstP (fun x : S63 => x.f0 == a) l).toNat + 1 := by omega
      simp [rd_T63, e]
theorem more {α : Type} {F : Nat → Option α} (h : ∀ k, LeO (F k) (F (k + 1))) {K K' : Nat} {r : α} (hK : F K = some r) (hle : K ≤ K') : F K' = some r := by
  induction hle with
  | refl => exact hK
  | step _ ih => exact h _ _ ih

def smallB (l6 : List S63) (l7 : List S37) : Bool := decide (l7.length ≤ 40) && decide (l6.length ≤ 40) && l7.all fun s => decide (s.f3.length ≤ 210) && decide (s.f4.length ≤ 40) && decide (s.f5.length ≤ 40)
theorem small_l0 (l : List S37) (hl : l.length ≤ 1000) : ∀ d i : Nat, i + d = l.length → fuglemanlaw20_Small.l0 (d + 1) l (l.length : Int) (i : Int) = some ((l.drop i).all fun s => decide (s.f3.length ≤ 210) && decide (s.f4.length ≤ 40) && decide (s.f5.length ≤ 40))
  | 0, i, h => by
    unfold fuglemanlaw20_Small.l0
    rw [if_neg (by omega), List.drop_of_length_le (by omega)]
    rfl
  | d + 1, i, h => by
    have hi : i < l.length := by omega
    have ih := small_l0 l hl d (i + 1) (by omega)
    unfold fuglemanlaw20_Small.l0
    rw [if_pos (by omega), if_pos (by omega), if_pos (by omega), List.drop_eq_getElem_cons hi, List.all_cons, rd37 hi]
    by_cases h1 : (l[i].f3.length : Int) > 210
    · rw [if_pos h1, decide_eq_false (by omega : ¬ l[i].f3.length ≤ 210)]; rfl
    rw [if_neg h1, decide_eq_true (by omega : l[i].f3.length ≤ 210)]
    by_cases h2 : (l[i].f4.length : Int) > 40
    · rw [if_pos h2, decide_eq_false (by omega : ¬ l[i].f4.length ≤ 40)]; rfl
    rw [if_neg h2, decide_eq_true (by omega : l[i].f4.length ≤ 40)]
    by_cases h3 : (l[i].f5.length : Int) > 40
    · rw [if_pos h3, decide_eq_false (by omega : ¬ l[i].f5.length ≤ 40)]; rfl
    rw [if_neg h3, decide_eq_true (by omega : l[i].f5.length ≤ 40), wrapS (by omega), ih]
    rfl
theorem small_f (a0 a1 a2 a3 a4 a5 : Int) (l6 : List S63) (l7 : List S37) : ∃ K, fuglemanlaw20_Small.f K a0 a1 a2 a3 a4 a5 l6 l7 = some (smallB l6 l7) := by
  refine ⟨l7.length + 2, ?_⟩
  unfold fuglemanlaw20_Small.f smallB
  by_cases h1 : (l7.length : Int) > 40
  · rw [if_pos h1, decide_eq_false (by omega : ¬ l7.length ≤ 40)]
    rfl
  rw [if_neg h1, decide_eq_true (by omega : l7.length ≤ 40)]
  unfold fuglemanlaw20_Small.j0
  by_cases h2 : (l6.length : Int) > 40
  · rw [decide_eq_true h2, decide_eq_false (by omega : ¬ l6.length ≤ 40)]
    rfl
  rw [decide_eq_false h2, decide_eq_true (by omega : l6.length ≤ 40)]
  show (if false = true then some false else fuglemanlaw20_Small.l0 (l7.length + 1) l7 (l7.length : Int) 0) = _
  rw [if_neg (by simp)]
  exact small_l0 l7 (by omega) l7.length 0 (by omega)


def maskV (a n : Nat) : BitVec 64 := BitVec.ofNat 64 ((2 ^ n - 1) * 2 ^ a)
theorem mask_bit (a n j : Nat) : (maskV a n).getLsbD j = (decide (j < 64) && decide (a ≤ j) && decide (j < a + n)) := by
  unfold maskV
  rw [BitVec.getLsbD_ofNat, Nat.testBit_mul_two_pow, Nat.testBit_two_pow_sub_one]
  by_cases h1 : j < 64 <;> by_cases h2 : a ≤ j <;> by_cases h3 : j < a + n <;> simp [h1, h2, h3] <;> omega
theorem wrap_nat (x : Nat) (h : x < 2 ^ 64) : IntKind.u64.wrap (x : Int) = (x : Int) := by
  simp only [IntKind.wrap, IntKind.signed, IntKind.bits]
  simp
  omega
theorem ofInt_nat (v : BitVec 64) : BitVec.ofInt 64 (v.toNat : Int) = v := by
  rw [BitVec.ofInt_natCast]
  simp
theorem bits_and (v m : BitVec 64) : Go.bits .and .u64 (v.toNat : Int) (m.toNat : Int) = ((v &&& m).toNat : Int) := by
  show IntKind.u64.wrap (((BitVec.ofInt 64 (v.toNat : Int)) &&& BitVec.ofInt 64 (m.toNat : Int)).toNat : Int) = _
  rw [ofInt_nat, ofInt_nat, wrap_nat _ (v &&& m).isLt]
theorem bits_or (v m : BitVec 64) : Go.bits .or .u64 (v.toNat : Int) (m.toNat : Int) = ((v ||| m).toNat : Int) := by
  show IntKind.u64.wrap (((BitVec.ofInt 64 (v.toNat : Int)) ||| BitVec.ofInt 64 (m.toNat : Int)).toNat : Int) = _
  rw [ofInt_nat, ofInt_nat, wrap_nat _ (v ||| m).isLt]
theorem shl_nat (x y : Nat) (hy : y ≤ 64) : shl .u64 (x : Int) (y : Int) = ((x * 2 ^ y % 2 ^ 64 : Nat) : Int) := by
  unfold shl
  rw [show min (y : Int).toNat IntKind.u64.bits = y by simp [IntKind.bits]; omega]
  simp only [IntKind.wrap, IntKind.signed, IntKind.bits]
  simp
theorem image_mask_f (a n : Nat) (h : a + n ≤ 64) : image_mask.f (a : Int) (n : Int) = some ((maskV a n).toNat : Int) := by
  have e : (maskV a n).toNat = (2 ^ n - 1) * 2 ^ a % 2 ^ 64 := by unfold maskV; rw [BitVec.toNat_ofNat]
  unfold image_mask.f
  by_cases h1 : (n : Int) ≥ 64
  · rw [if_pos h1, if_pos (by omega)]
    obtain rfl : n = 64 := by omega
    rw [e, show (18446744073709551615 : Int) = ((2 ^ 64 - 1 : Nat) : Int) from rfl, shl_nat _ _ (by omega)]
  · rw [if_neg h1, if_pos (by omega), if_pos (by omega), e]
    have hn : n < 64 := by omega
    have h2 : 2 ^ n < 2 ^ 64 := Nat.pow_lt_pow_right (by omega) hn
    have h3 : 0 < 2 ^ n := Nat.pos_of_ne_zero (by simp)
    rw [show (1 : Int) = ((1 : Nat) : Int) from rfl, shl_nat 1 n (by omega), Nat.one_mul, Nat.mod_eq_of_lt h2]
    rw [show (((2 ^ n : Nat) : Int) - ((1 : Nat) : Int)) = ((2 ^ n - 1 : Nat) : Int) by omega, wrap_nat _ (by omega), shl_nat _ _ (by omega)]

def ovB (v : BitVec 64) : Nat → Nat → Bool
  | _, 0 => false
  | j, e + 1 => v.getLsbD j || ovB v (j + 1) e
theorem ovB_iff (v : BitVec 64) : ∀ (e j : Nat), ovB v j e = true ↔ ∃ x, j ≤ x ∧ x < j + e ∧ v.getLsbD x = true
  | 0, j => by
    simp only [ovB]
    constructor
    · intro h; cases h
    · rintro ⟨x, h1, h2, -⟩; omega
  | e + 1, j => by
    rw [ovB, Bool.or_eq_true, ovB_iff v e (j + 1)]
    constructor
    · rintro (h | ⟨x, h1, h2, h3⟩)
      · exact ⟨j, by omega, by omega, h⟩
      · exact ⟨x, by omega, by omega, h3⟩
    · rintro ⟨x, h1, h2, h3⟩
      rcases Nat.lt_or_ge j x with h | h
      · exact .inr ⟨x, by omega, by omega, h3⟩
      · obtain rfl : x = j := by omega
        exact .inl h3
theorem and_mask (v : BitVec 64) (a n : Nat) (h : a + n ≤ 64) : (((v &&& maskV a n).toNat : Int) = 0) ↔ ovB v a n = false := by
  constructor
  · intro h0
    cases ho : ovB v a n with
    | false => rfl
    | true =>
      obtain ⟨x, h1, h2, h3⟩ := (ovB_iff v n a).1 ho
      have e : v &&& maskV a n = 0#64 := by
        apply BitVec.eq_of_toNat_eq
        simpa using h0
      have : (v &&& maskV a n).getLsbD x = true := by
        rw [BitVec.getLsbD_and, h3, mask_bit, decide_eq_true (by omega : x < 64), decide_eq_true h1, decide_eq_true h2]
        rfl
      rw [e] at this
      simp at this
  · intro ho
    have e : v &&& maskV a n = 0#64 := by
      apply BitVec.eq_of_getLsbD_eq
      intro i hi
      rw [BitVec.getLsbD_and, mask_bit]
      by_cases h1 : a ≤ i
      · by_cases h2 : i < a + n
        · have : v.getLsbD i = false := by
            cases hv : v.getLsbD i with
            | false => rfl
            | true =>
              have := (ovB_iff v n a).2 ⟨i, h1, h2, hv⟩
              rw [ho] at this
              cases this
          rw [this]
          simp
        · simp [h2]
      · simp [h1]
    rw [e]
    rfl

theorem errS_zero {s : S56} {bef : List S56} {b : S63 × Bool} (h : errS s bef b = 0) : b.2 = true ∧ 0 ≤ s.f1 ∧ s.f1 ≤ 64 ∧ 0 ≤ b.1.f2 ∧ b.1.f2 ≤ 64 - s.f1 := by
  unfold errS at h
  split at h
  · omega
  split at h
  · omega
  split at h
  · omega
  split at h
  · omega
  split at h
  · omega
  split at h
  · omega
  rename_i h1 h2 h3 h4 h5 h6
  exact ⟨by cases hb : b.2 with | true => rfl | false => exact absurd hb h1, by omega, by omega, by omega, by omega⟩
def layS (l1 : List S56) (l2 : List S63) (over : Bool) : Nat → Nat → BitVec 64 → Int × Int
  | 0, _, _ => (0, 0)
  | d + 1, i, v =>
    if errS (rd_T56 l1 i) (l1.take i) (findB l2 (rd_T56 l1 i).f0) = 0 then
      if over = true ∧ ovB v (rd_T56 l1 i).f1.toNat (findB l2 (rd_T56 l1 i).f0).1.f2.toNat = true then (15, (i : Int))
      else layS l1 l2 over d (i + 1) (v ||| maskV (rd_T56 l1 i).f1.toNat (findB l2 (rd_T56 l1 i).f0).1.f2.toNat)
    else (errS (rd_T56 l1 i) (l1.take i) (findB l2 (rd_T56 l1 i).f0), (i : Int))
theorem spot_f (l1 : List S56) (i : Nat) (hi : i < l1.length) (l2 : List S63) : image_spot.f l1 (i : Int) l2 = some ((findB l2 (rd_T56 l1 i).f0).1.f0, (findB l2 (rd_T56 l1 i).f0).1.f1, (findB l2 (rd_T56 l1 i).f0).1.f2, (findB l2 (rd_T56 l1 i).f0).1.f3, errS (rd_T56 l1 i) (l1.take i) (findB l2 (rd_T56 l1 i).f0)) := by
  unfold image_spot.f
  rw [if_pos (by omega), if_pos (by omega), Int.toNat_natCast]
theorem image_lay_l0 (l1 : List S56) (l2 : List S63) (over : Bool) (hl : l1.length ≤ 1000) : ∀ (d i : Nat) (v : BitVec 64), i + d = l1.length → image_lay.l0 (d + 1) (v.toNat : Int) l1 l2 over l1 (l1.length : Int) (i : Int) = some (layS l1 l2 over d i v)
  | 0, i, v, h => by
    unfold image_lay.l0 layS
    rw [if_neg (by omega)]
  | d + 1, i, v, h => by
    have hi : i < l1.length := by omega
    have ih := image_lay_l0 l1 l2 over hl d (i + 1)
    unfold image_lay.l0 layS
    rw [if_pos (by omega), if_pos (by omega), if_pos (by omega), spot_f l1 i hi l2]
    simp only [Option.bind_some]
    generalize findB l2 (rd_T56 l1 i).f0 = b
    generalize rd_T56 l1 i = s
    by_cases he : errS s (l1.take i) b = 0
    · rw [if_pos he, if_pos he]
      obtain ⟨-, h1, h2, h3, h4⟩ := errS_zero he
      obtain ⟨a, ha⟩ : ∃ a : Nat, s.f1 = (a : Int) := ⟨s.f1.toNat, by omega⟩
      obtain ⟨n, hn⟩ : ∃ n : Nat, b.1.f2 = (n : Int) := ⟨b.1.f2.toNat, by omega⟩
      rw [ha, hn]
      rw [image_mask_f a n (by omega)]
      simp only [Option.bind_some, Int.toNat_natCast]
      rw [bits_and, bits_or, wrapS (by omega), ih _ (by omega)]
      have hz := and_mask v a n (by omega)
      cases over with
      | false => simp
      | true =>
        simp only [if_true, true_and]
        cases ho : ovB v a n with
        | false => rw [if_pos (hz.2 ho)]; simp
        | true => rw [if_neg (fun h0 => by have := hz.1 h0; rw [ho] at this; cases this)]; simp
    · rw [if_neg he, if_neg he]

theorem rdOf_at {u : List Bool} {j : Nat} {b : Bool} (h : u[j]? = some b) : rdOf false u (j : Int) = b := by
  simp [rdOf, List.getD, h]
theorem mask_nil (v : BitVec 64) (a : Nat) : v ||| maskV a 0 = v := by
  apply BitVec.eq_of_getLsbD_eq
  intro i hi
  rw [BitVec.getLsbD_or, mask_bit]
  by_cases h : a ≤ i
  · rw [decide_eq_false (by omega : ¬ i < a + 0)]
    simp
  · rw [decide_eq_false h]
    simp


def layE (local_ : Int) (l1 : List S56) (l2 : List S63) : Int × Int := if local_ < 0 ∨ local_ > 64 then (2, -1) else layS l1 l2 true l1.length 0 (maskV 0 local_.toNat)
def reachE (l1 : List S56) (l2 : List S63) : Int × Int := layS l1 l2 false l1.length 0 0
theorem image_lay_f (l1 : List S56) (l2 : List S63) (over : Bool) (hl : l1.length ≤ 1000) (v : BitVec 64) : image_lay.f (l1.length + 1) (v.toNat : Int) l1 l2 over = some (layS l1 l2 over l1.length 0 v) := by
  unfold image_lay.f
  exact image_lay_l0 l1 l2 over hl l1.length 0 v (by omega)
theorem image_Lay_f (x : Int) (l1 : List S56) (l2 : List S63) (hl : l1.length ≤ 1000) : ∃ K, image_Lay.f K x l1 l2 = some (layE x l1 l2) := by
  refine ⟨l1.length + 2, ?_⟩
  have hj : ∀ b : Bool, image_Lay.j0 (l1.length + 2) x l1 l2 b = if b = true then some (2, -1) else ((image_mask.f 0 x).bind fun t => (image_lay.f (l1.length + 1) t l1 l2 true).bind fun bt => some (bt.1, bt.2)) := fun b => by
    rw [image_Lay.j0]
  unfold image_Lay.f layE
  by_cases h1 : x < 0
  · rw [if_pos h1, if_pos (.inl h1), hj]; rfl
  rw [if_neg h1, hj]
  by_cases h2 : x > 64
  · rw [decide_eq_true h2, if_pos rfl, if_pos (.inr h2)]
  rw [decide_eq_false h2, if_neg (by simp), if_neg (by omega)]
  obtain ⟨n, rfl⟩ : ∃ n : Nat, x = (n : Int) := ⟨x.toNat, by omega⟩
  rw [show (0 : Int) = ((0 : Nat) : Int) from rfl, image_mask_f 0 n (by omega)]
  simp only [Option.bind_some, Int.toNat_natCast]
  rw [image_lay_f l1 l2 true hl]
  rfl
theorem image_Reach_f (l1 : List S56) (l2 : List S63) (hl : l1.length ≤ 1000) : ∃ K, image_Reach.f K l1 l2 = some (reachE l1 l2) := by
  refine ⟨l1.length + 1, ?_⟩
  unfold image_Reach.f reachE
  have := image_lay_f l1 l2 false hl 0
  rw [show ((0 : BitVec 64).toNat : Int) = 0 from rfl] at this
  rw [this]
  rfl

def codeE (l : List S54) : Int := (allP (l.map toIns)).1
def codeOk (l : List S54) : Prop := (l.map toIns).all Ins.okB = true
theorem check_f (l : List S54) (h : codeOk l) : verify_Check.f l = some (codeE l, ((allP (l.map toIns)).2.1 : Int)) := by
  unfold verify_Check.f checkF codeE
  rw [if_pos (show (l.map toIns).all Ins.okB = true from h)]
def ownsB (l6 : List S63) (s : S37) : Bool := !s.f5.any fun x => (findB l6 x.f0).1.f1 != s.f0
def stE (top : Int) (l6 : List S63) (l7 : List S37) (i : Nat) : Int :=
  if (rd_T37 l7 i).f0 ≥ 0 ∧ (rd_T37 l7 i).f0 ≤ top ∧ (rd_T37 l7 i).f1 ≥ 1 ∧ (rd_T37 l7 i).f1 ≤ 1000 then
    if (l7.take i).any (fun x => x.f0 == (rd_T37 l7 i).f0) = true then 14
    else if (layE (rd_T37 l7 i).f2 (rd_T37 l7 i).f4 l6).1 = 0 then
      if codeE (rd_T37 l7 i).f3 = 0 then
        if (reachE (rd_T37 l7 i).f5 l6).1 = 0 then if ownsB l6 (rd_T37 l7 i) = true then 0 else 5
        else (reachE (rd_T37 l7 i).f5 l6).1
      else codeE (rd_T37 l7 i).f3
    else (layE (rd_T37 l7 i).f2 (rd_T37 l7 i).f4 l6).1
  else 3
def stOk (s : S37) : Prop := s.f4.length ≤ 1000 ∧ s.f5.length ≤ 1000 ∧ codeOk s.f3
theorem in_f (a b c : Int) : config_in.f a b c = some (decide (a ≥ b ∧ a ≤ c)) := by
  unfold config_in.f
  by_cases h : a ≥ b
  · rw [if_pos h]; simp [h]
  · rw [if_neg h]; simp [h]
theorem station_f (a0 a1 a2 a3 a4 a5 : Int) (l6 : List S63) (l7 : List S37) (i : Nat) (hi : i < l7.length) (hs : stOk (rd_T37 l7 i)) :
    ∃ K, config_station.f K a0 a1 a2 a3 a4 a5 l6 l7 (i : Int) = some (stE a5 l6 l7 i) := by
  obtain ⟨K1, h1⟩ := image_Lay_f (rd_T37 l7 i).f2 (rd_T37 l7 i).f4 l6 hs.1
  obtain ⟨K2, h2⟩ := image_Reach_f (rd_T37 l7 i).f5 l6 hs.2.1
  replace h1 := more (fun k => image_Lay.mono _ _ _ k) h1 (Nat.le_max_left K1 K2)
  replace h2 := more (fun k => image_Reach.mono _ _ k) h2 (Nat.le_max_right K1 K2)
  have h3 := check_f (rd_T37 l7 i).f3 hs.2.2
  refine ⟨max K1 K2 + 1, ?_⟩
  generalize max K1 K2 = K at h1 h2
  have hiff := firstP_take (fun x : S37 => x.f0 == (rd_T37 l7 i).f0) l7 i hi (by rw [rd37 hi]; simp)
  unfold config_station.f stE
  rw [if_pos (by omega), if_pos (by omega), in_f, in_f]
  simp only [Option.bind_some]
  have hj : ∀ b : Bool, config_station.j0 (K + 1) (i : Int) b a0 a1 a2 a3 a4 a5 l6 l7 (rd_T37 l7 i).f0 (rd_T37 l7 i).f1 (rd_T37 l7 i).f2 (rd_T37 l7 i).f3 (rd_T37 l7 i).f4 (rd_T37 l7 i).f5 = some (if b = true then 3 else
      if (l7.take i).any (fun x => x.f0 == (rd_T37 l7 i).f0) = true then 14
      else if (layE (rd_T37 l7 i).f2 (rd_T37 l7 i).f4 l6).1 = 0 then
        if codeE (rd_T37 l7 i).f3 = 0 then
          if (reachE (rd_T37 l7 i).f5 l6).1 = 0 then if ownsB l6 (rd_T37 l7 i) = true then 0 else 5
          else (reachE (rd_T37 l7 i).f5 l6).1
        else codeE (rd_T37 l7 i).f3
      else (layE (rd_T37 l7 i).f2 (rd_T37 l7 i).f4 l6).1) := fun b => by
    rw [config_station.j0]
    cases b with
    | true => rfl
    | false =>
      simp only [Bool.false_eq_true, if_false]
      unfold config_place.f
      simp only [Option.bind_some]
      cases hd : (l7.take i).any (fun x => x.f0 == (rd_T37 l7 i).f0) with
      | true => rw [if_pos (hiff.2 hd)]; rfl
      | false =>
        rw [if_neg (fun hlt => by have := hiff.1 hlt; rw [hd] at this; cases this), h1, h2, h3]
        simp only [Option.bind_some, Bool.false_eq_true, if_false]
        by_cases e1 : (layE (rd_T37 l7 i).f2 (rd_T37 l7 i).f4 l6).1 = 0
        · rw [if_pos e1, if_pos e1]
          by_cases e2 : codeE (rd_T37 l7 i).f3 = 0
          · rw [if_pos e2, if_pos e2]
            by_cases e3 : (reachE (rd_T37 l7 i).f5 l6).1 = 0
            · rw [if_pos e3, if_pos e3]
              unfold config_owns.f
              simp only [Option.bind_some]
              show (if ownsB l6 (rd_T37 l7 i) = true then some 0 else some 5) = _
              cases ownsB l6 (rd_T37 l7 i) <;> rfl
            · rw [if_neg e3, if_neg e3]
          · rw [if_neg e2, if_neg e2]
        · rw [if_neg e1, if_neg e1]
  rw [hj, hj]
  by_cases c1 : (rd_T37 l7 i).f0 ≥ 0 ∧ (rd_T37 l7 i).f0 ≤ a5
  · rw [decide_eq_true c1, if_pos rfl]
    by_cases c2 : (rd_T37 l7 i).f1 ≥ 1 ∧ (rd_T37 l7 i).f1 ≤ 1000
    · rw [decide_eq_true c2, if_pos (⟨c1.1, c1.2, c2.1, c2.2⟩ : _ ∧ _ ∧ _ ∧ _)]
      rfl
    · have hc : ¬ ((rd_T37 l7 i).f0 ≥ 0 ∧ (rd_T37 l7 i).f0 ≤ a5 ∧ (rd_T37 l7 i).f1 ≥ 1 ∧ (rd_T37 l7 i).f1 ≤ 1000) := fun h => c2 ⟨h.2.2.1, h.2.2.2⟩
      rw [decide_eq_false c2, if_neg hc]
      rfl
  · have hc : ¬ ((rd_T37 l7 i).f0 ≥ 0 ∧ (rd_T37 l7 i).f0 ≤ a5 ∧ (rd_T37 l7 i).f1 ≥ 1 ∧ (rd_T37 l7 i).f1 ≤ 1000) := fun h => c1 ⟨h.1, h.2.1⟩
    rw [decide_eq_false c1, if_neg hc]
    rfl


def numB (a0 a1 a2 a3 a4 a5 : Int) : Bool := decide (a0 ≥ 4 ∧ a0 ≤ 50) && (decide (a1 ≥ 1 ∧ a1 ≤ 10000) && (decide (a2 ≥ 1 ∧ a2 ≤ 50) && (decide (a3 ≥ 0 ∧ a3 ≤ 3) && (decide (a4 ≥ 1 ∧ a4 ≤ 65535) && decide (a5 ≥ 0 ∧ a5 ≤ 31)))))
def stS (top : Int) (l6 : List S63) (l7 : List S37) : Nat → Nat → Int × Int
  | 0, _ => (0, 0)
  | d + 1, i => if stE top l6 l7 i = 0 then stS top l6 l7 d (i + 1) else (stE top l6 l7 i, wrap64 (100 + (i : Int)))
def ckE (a0 a1 a2 a3 a4 a5 : Int) (l6 : List S63) (l7 : List S37) : Int × Int :=
  if numB a0 a1 a2 a3 a4 a5 = true then
    if (bcP l6).1 = 0 then if (l7.length : Int) ≥ 1 ∧ (l7.length : Int) ≤ 32 then stS a5 l6 l7 l7.length 0 else (2, 100)
    else ((bcP l6).1, wrap64 (1 + (bcP l6).2))
  else (3, 0)
theorem numbers_f (a0 a1 a2 a3 a4 a5 : Int) (l6 : List S63) (l7 : List S37) : config_numbers.f a0 a1 a2 a3 a4 a5 l6 l7 = some (numB a0 a1 a2 a3 a4 a5) := by
  unfold config_numbers.f numB
  simp only [in_f, Option.bind_some]
  generalize decide (a0 ≥ 4 ∧ a0 ≤ 50) = b0
  generalize decide (a1 ≥ 1 ∧ a1 ≤ 10000) = b1
  generalize decide (a2 ≥ 1 ∧ a2 ≤ 50) = b2
  generalize decide (a3 ≥ 0 ∧ a3 ≤ 3) = b3
  generalize decide (a4 ≥ 1 ∧ a4 ≤ 65535) = b4
  generalize decide (a5 ≥ 0 ∧ a5 ≤ 31) = b5
  cases b0 <;> cases b1 <;> cases b2 <;> cases b3 <;> cases b4 <;> cases b5 <;> rfl
section
variable (a0 a1 a2 a3 a4 a5 : Int) (l6 : List S63) (l7 : List S37) (hl6 : l6.length ≤ 1000) (hl7 : l7.length ≤ 1000) (hs : ∀ s ∈ l7, stOk s)
include hl7 hs
theorem config_l0 : ∀ d i : Nat, i + d = l7.length → ∃ K, config_Check.l0 K (l7.length : Int) (i : Int) a0 a1 a2 a3 a4 a5 l6 l7 = some (stS a5 l6 l7 d i)
  | 0, i, h => ⟨1, by
    rw [config_Check.l0, if_neg (by omega)]
    rfl⟩
  | d + 1, i, h => by
    have hi : i < l7.length := by omega
    obtain ⟨K1, h1⟩ := config_l0 d (i + 1) (by omega)
    obtain ⟨K2, h2⟩ := station_f a0 a1 a2 a3 a4 a5 l6 l7 i hi (by rw [rd37 hi]; exact hs _ (List.getElem_mem hi))
    have hK1 := more (fun k => config_Check.mono_l k _ _ _ _ _ _ _ _ _ _) h1 (Nat.le_max_left K1 K2)
    have hK2 := more (fun k => config_station.mono _ _ _ _ _ _ _ _ _ k) h2 (Nat.le_max_right K1 K2)
    refine ⟨max K1 K2 + 1, ?_⟩
    rw [config_Check.l0, if_pos (by omega), hK2, stS]
    simp only [Option.bind_some]
    by_cases e : stE a5 l6 l7 i = 0
    · rw [if_pos e, if_pos e, wrapS (by omega), hK1]
    · rw [if_neg e, if_neg e]
include hl6
theorem config_f : ∃ K, config_Check.f K a0 a1 a2 a3 a4 a5 l6 l7 = some (ckE a0 a1 a2 a3 a4 a5 l6 l7) := by
  obtain ⟨K1, h1⟩ := config_l0 a0 a1 a2 a3 a4 a5 l6 l7 hl7 hs l7.length 0 (by omega)
  have h2 := blocks_f l6 hl6
  have hK1 := more (fun k => config_Check.mono_l k _ _ _ _ _ _ _ _ _ _) h1 (Nat.le_max_left K1 (l6.length + 1))
  have hK2 := more (fun k => blocks_Check.mono _ k) h2 (Nat.le_max_right K1 (l6.length + 1))
  refine ⟨max K1 (l6.length + 1), ?_⟩
  unfold config_Check.f ckE
  rw [numbers_f, hK2, in_f]
  simp only [Option.bind_some]
  cases numB a0 a1 a2 a3 a4 a5 with
  | false => rfl
  | true =>
    simp only [if_true]
    by_cases e : (bcP l6).1 = 0
    · rw [if_pos e, if_pos e]
      by_cases c : (l7.length : Int) ≥ 1 ∧ (l7.length : Int) ≤ 32
      · rw [if_pos (decide_eq_true c), if_pos c]
        exact hK1
      · rw [if_neg (by simpa using c), if_neg c]
    · rw [if_neg e, if_neg e]
end
theorem smallOk (l6 : List S63) (l7 : List S37) (h : smallB l6 l7 = true) (hc : ∀ s ∈ l7, codeOk s.f3) : l6.length ≤ 1000 ∧ l7.length ≤ 1000 ∧ ∀ s ∈ l7, stOk s := by
  unfold smallB at h
  simp only [Bool.and_eq_true, decide_eq_true_eq, List.all_eq_true] at h
  refine ⟨by omega, by omega, fun s hm => ?_⟩
  have := h.2 s hm
  exact ⟨by omega, by omega, hc s hm⟩
theorem awake_f : fuglemanlaw20_awake.f 20 = some true := by decide +kernel
/-- The statement, over what the printed functions answer. -/

def goodS (top : Int) (l6 : List S63) (s : S37) : Prop :=
  (s.f0 ≥ 0 ∧ s.f0 ≤ top ∧ s.f1 ≥ 1 ∧ s.f1 ≤ 1000) ∧ (layE s.f2 s.f4 l6).1 = 0 ∧ codeE s.f3 = 0 ∧ (reachE s.f5 l6).1 = 0 ∧ ownsB l6 s = true
theorem stE_zero {top : Int} {l6 : List S63} {l7 : List S37} {i : Nat} : stE top l6 l7 i = 0 ↔ goodS top l6 (rd_T37 l7 i) ∧ (l7.take i).any (fun x => x.f0 == (rd_T37 l7 i).f0) = false := by
  unfold stE goodS
  generalize rd_T37 l7 i = s
  constructor
  · intro h
    split at h
    · rename_i h1
      split at h
      · omega
      · rename_i h2
        split at h
        · rename_i h3
          split at h
          · rename_i h4
            split at h
            · rename_i h5
              split at h
              · rename_i h6
                exact ⟨⟨h1, h3, h4, h5, h6⟩, by cases hb : (l7.take i).any (fun x => x.f0 == s.f0) with | true => exact absurd hb h2 | false => rfl⟩
              · omega
            · rename_i h5; exact absurd h h5
          · rename_i h4; exact absurd h h4
        · rename_i h3; exact absurd h h3
    · omega
  · rintro ⟨⟨h1, h3, h4, h5, h6⟩, h2⟩
    rw [if_pos h1, if_neg (by rw [h2]; simp), if_pos h3, if_pos h4, if_pos h5, if_pos h6]
theorem stS_zero {top : Int} {l6 : List S63} {l7 : List S37} : ∀ d i : Nat, (stS top l6 l7 d i).1 = 0 → ∀ j, i ≤ j → j < i + d → stE top l6 l7 j = 0
  | 0, i, _, j, h1, h2 => by omega
  | d + 1, i, h, j, h1, h2 => by
    unfold stS at h
    by_cases e : stE top l6 l7 i = 0
    · rw [if_pos e] at h
      rcases Nat.lt_or_ge i j with hj | hj
      · exact stS_zero d (i + 1) h j (by omega) (by omega)
      · obtain rfl : j = i := by omega
        exact e
    · rw [if_neg e] at h
      exact absurd h e
theorem stS_of {top : Int} {l6 : List S63} {l7 : List S37} : ∀ d i : Nat, (∀ j, i ≤ j → j < i + d → stE top l6 l7 j = 0) → stS top l6 l7 d i = (0, 0)
  | 0, i, _ => rfl
  | d + 1, i, h => by
    unfold stS
    rw [if_pos (h i (by omega) (by omega))]
    exact stS_of d (i + 1) fun j h1 h2 => h j (by omega) (by omega)
theorem ck_zero {a0 a1 a2 a3 a4 a5 : Int} {l6 : List S63} {l7 : List S37} (h : (ckE a0 a1 a2 a3 a4 a5 l6 l7).1 = 0) :
    numB a0 a1 a2 a3 a4 a5 = true ∧ (bcP l6).1 = 0 ∧ ((l7.length : Int) ≥ 1 ∧ (l7.length : Int) ≤ 32) ∧ ∀ j, j < l7.length → stE a5 l6 l7 j = 0 := by
  unfold ckE at h
  split at h
  · rename_i h1
    split at h
    · rename_i h2
      split at h
      · rename_i h3
        exact ⟨h1, h2, h3, fun j hj => stS_zero _ _ h j (by omega) (by omega)⟩
      · simp at h
    · rename_i h2; exact absurd h h2
  · simp at h
theorem ck_of {a0 a1 a2 a3 a4 a5 : Int} {l6 : List S63} {l7 : List S37} (h1 : numB a0 a1 a2 a3 a4 a5 = true) (h2 : (bcP l6).1 = 0) (h3 : (l7.length : Int) ≥ 1 ∧ (l7.length : Int) ≤ 32) (h4 : ∀ j, j < l7.length → stE a5 l6 l7 j = 0) :
    ckE a0 a1 a2 a3 a4 a5 l6 l7 = (0, 0) := by
  unfold ckE
  rw [if_pos h1, if_pos h2, if_pos h3]
  exact stS_of _ _ fun j _ hj => h4 j (by omega)
theorem stE_top {top : Int} {l6 : List S63} {l7 : List S37} {i : Nat} (ht : top ≤ 31) (h : stE top l6 l7 i = 0) : stE 31 l6 l7 i = 0 := by
  obtain ⟨⟨⟨h1, h2, h3, h4⟩, h5⟩, h6⟩ := stE_zero.1 h
  exact stE_zero.2 ⟨⟨⟨h1, by omega, h3, h4⟩, h5⟩, h6⟩
theorem num_top {a0 a1 a2 a3 a4 a5 : Int} (h : numB a0 a1 a2 a3 a4 a5 = true) : a5 ≤ 31 := by
  unfold numB at h
  simp only [Bool.and_eq_true, decide_eq_true_eq] at h
  exact h.2.2.2.2.2.2
/-- Where the m-th that stays stood. -/
def oldAt (k m : Nat) : Nat := if m < k then m else m + 1
theorem cut_at {l : List S37} {k m : Nat} (hk : k < l.length) (hm : m + 1 < l.length) : (l.take k ++ l.drop (k + 1))[m]? = l[oldAt k m]? := by
  unfold oldAt
  rw [List.getElem?_append, List.length_take]
  by_cases h : m < k
  · rw [if_pos (by omega), if_pos h, List.getElem?_take, if_pos h]
  · rw [if_neg (by omega), if_neg h, List.getElem?_drop]
    congr 1
    omega
theorem cut_len {l : List S37} {k : Nat} (hk : k < l.length) : (l.take k ++ l.drop (k + 1)).length = l.length - 1 := by
  rw [List.length_append, List.length_take, List.length_drop]
  omega
theorem cut_small {l : List S37} (k : Nat) (h : l.length ≤ 1000) : (l.take k).length < 1466015503701 ∧ (l.take k).length + (l.drop (k + 1)).length < 1466015503701 := by
  rw [List.length_take, List.length_drop]
  omega
theorem any_false {l : List S37} {p : S37 → Bool} (h : l.any p = false) : ∀ x ∈ l, p x = false := fun x hx => by
  cases hp : p x with
  | false => rfl
  | true =>
    have := List.any_eq_true.2 ⟨x, hx, hp⟩
    rw [h] at this
    cases this
theorem stE_cut {top : Int} {l6 : List S63} {l : List S37} {k : Nat} (hk : k < l.length) (h : ∀ j, j < l.length → stE top l6 l j = 0) (j : Nat) (hj : j + 1 < l.length) : stE top l6 (l.take k ++ l.drop (k + 1)) j = 0 := by
  have hold : oldAt k j < l.length := by unfold oldAt; split <;> omega
  have e := cut_at hk hj
  have hj' : j < (l.take k ++ l.drop (k + 1)).length := by rw [cut_len hk]; omega
  have er : rd_T37 (l.take k ++ l.drop (k + 1)) (j : Int) = rd_T37 l (oldAt k j : Nat) := by
    rw [rd37 hj', rd37 hold]
    rw [List.getElem?_eq_getElem hj', List.getElem?_eq_getElem hold] at e
    exact Option.some.inj e
  obtain ⟨h1, h2⟩ := stE_zero.1 (h (oldAt k j) hold)
  refine stE_zero.2 ⟨by rw [er]; exact h1, ?_⟩
  rw [er]
  cases hb : ((l.take k ++ l.drop (k + 1)).take j).any (fun x => x.f0 == (rd_T37 l (oldAt k j : Nat)).f0) with
  | false => rfl
  | true =>
    obtain ⟨x, hx, hpx⟩ := List.any_eq_true.1 hb
    rw [List.mem_take_iff_getElem] at hx
    obtain ⟨m, hm, rfl⟩ := hx
    have hm1 : m < j := by omega
    have hm2 : m < (l.take k ++ l.drop (k + 1)).length := by omega
    have e2 := cut_at (l := l) hk (show m + 1 < l.length by omega)
    have ho : oldAt k m < oldAt k j := by unfold oldAt; split <;> split <;> omega
    have hol : oldAt k m < l.length := by omega
    rw [List.getElem?_eq_getElem hm2, List.getElem?_eq_getElem hol] at e2
    have e3 := Option.some.inj e2
    rw [e3] at hpx
    have := any_false h2 (l[oldAt k m]) (by rw [List.mem_take_iff_getElem]; exact ⟨oldAt k m, by omega, rfl⟩)
    rw [this] at hpx
    cases hpx
/-- The statement, over what the printed functions answer. -/
theorem parts_f (a0 a1 a2 a3 a4 a5 : Int) (l6 : List S63) (l7 : List S37) (x y : Int) (hx : 0 ≤ x ∧ x < 256) (hy : 0 ≤ y ∧ y < 256) (hc : ∀ s ∈ l7, codeOk s.f3) : ∃ K, fuglemanlaw20_ConfigParts.f K a0 a1 a2 a3 a4 a5 l6 l7 x y = some true := by
  obtain ⟨K1, h1⟩ := small_f a0 a1 a2 a3 a4 a5 l6 l7
  cases hsm : smallB l6 l7 with
  | false =>
    rw [hsm] at h1
    have hK1 := more (fun k => fuglemanlaw20_Small.mono _ _ _ _ _ _ _ _ k) h1 (Nat.le_max_left K1 20)
    have hK0 := more (fun k => fuglemanlaw20_awake.mono k) awake_f (Nat.le_max_right K1 20)
    refine ⟨max K1 20, ?_⟩
    unfold fuglemanlaw20_ConfigParts.f
    rw [hK0, hK1]
    rfl
  | true =>
    rw [hsm] at h1
    obtain ⟨g6, g7, gs⟩ := smallOk l6 l7 hsm hc
    obtain ⟨K2, h2⟩ := config_f a0 a1 a2 a3 a4 a5 l6 l7 g6 g7 gs
    have w1 : wrap64 y = y := IntWalk.wrap64_in _ (by omega)
    have wx : wrap64 x = x := IntWalk.wrap64_in _ (by omega)
    have m1 : Int.tmod y 47 = y % 47 := Int.tmod_eq_emod_of_nonneg hy.1
    have m2 : Int.tmod y 50 = y % 50 := Int.tmod_eq_emod_of_nonneg hy.1
    have m3 : Int.tmod y 4 = y % 4 := Int.tmod_eq_emod_of_nonneg hy.1
    have b1 : wrap64 (4 + y % 47) = 4 + y % 47 := IntWalk.wrap64_in _ (by omega)
    have b2 : wrap64 (1 + y) = 1 + y := IntWalk.wrap64_in _ (by omega)
    have b3 : wrap64 (1 + y % 50) = 1 + y % 50 := IntWalk.wrap64_in _ (by omega)
    have hnum : numB (4 + y % 47) (1 + y) (1 + y % 50) (y % 4) (1 + y) 31 = true := by
      unfold numB
      simp only [Bool.and_eq_true, decide_eq_true_eq]
      omega
    obtain ⟨K3, h3⟩ := config_f (4 + y % 47) (1 + y) (1 + y % 50) (y % 4) (1 + y) 31 l6 l7 g6 g7 gs
    by_cases he : (ckE a0 a1 a2 a3 a4 a5 l6 l7).1 = 0
    · obtain ⟨z1, z2, z3, z4⟩ := ck_zero he
      have htop := num_top z1
      have hd := ck_of hnum z2 z3 (fun j hj => stE_top htop (z4 j hj))
      rw [hd] at h3
      by_cases hl : (l7.length : Int) < 2
      · have hK0 := more (fun k => fuglemanlaw20_awake.mono k) awake_f (show 20 ≤ 21 + K1 + K2 + K3 by omega)
        have hK1 := more (fun k => fuglemanlaw20_Small.mono _ _ _ _ _ _ _ _ k) h1 (show K1 ≤ 21 + K1 + K2 + K3 by omega)
        have hK2 := more (fun k => config_Check.mono _ _ _ _ _ _ _ _ k) h2 (show K2 ≤ 21 + K1 + K2 + K3 by omega)
        have hK3 := more (fun k => config_Check.mono _ _ _ _ _ _ _ _ k) h3 (show K3 ≤ 21 + K1 + K2 + K3 by omega)
        refine ⟨21 + K1 + K2 + K3, ?_⟩
        unfold fuglemanlaw20_ConfigParts.f
        rw [hK0, hK1, hK2]
        simp only [Option.bind_some, if_true, w1, m1, m2, m3, b1, b2, b3]
        rw [if_pos he, hK3]
        simp only [Option.bind_some, if_true]
        rw [show 21 + K1 + K2 + K3 = (20 + K1 + K2 + K3) + 1 by omega, fuglemanlaw20_ConfigParts.j0, if_neg (by simp), if_pos hl]
      · have hlp : 0 < l7.length := by omega
        have m4 : Int.tmod x (l7.length : Int) = ((x.toNat % l7.length : Nat) : Int) := by
          obtain ⟨n, rfl⟩ : ∃ n : Nat, x = (n : Int) := ⟨x.toNat, by omega⟩
          rw [Int.tmod_eq_emod_of_nonneg hx.1, Int.toNat_natCast]
          exact (Int.natCast_emod n l7.length).symm
        have hk : x.toNat % l7.length < l7.length := Nat.mod_lt _ hlp
        generalize x.toNat % l7.length = kk at m4 hk
        have hcut : ∀ s ∈ l7.take kk ++ l7.drop (kk + 1), stOk s := fun s hs => by
          rcases List.mem_append.1 hs with h | h
          · exact gs s (List.mem_of_mem_take h)
          · exact gs s (List.mem_of_mem_drop h)
        have hclen := cut_len hk
        obtain ⟨K4, h4⟩ := config_f (4 + y % 47) (1 + y) (1 + y % 50) (y % 4) (1 + y) 31 l6 (l7.take kk ++ l7.drop (kk + 1)) g6 (by omega) hcut
        have hd2 : ckE (4 + y % 47) (1 + y) (1 + y % 50) (y % 4) (1 + y) 31 l6 (l7.take kk ++ l7.drop (kk + 1)) = (0, 0) := ck_of hnum z2 (by rw [hclen]; omega) (fun j hj => stE_cut hk (fun j hj => stE_top htop (z4 j hj)) j (by omega))
        rw [hd2] at h4
        have hK0 := more (fun k => fuglemanlaw20_awake.mono k) awake_f (show 20 ≤ 21 + K1 + K2 + K3 + K4 by omega)
        have hK1 := more (fun k => fuglemanlaw20_Small.mono _ _ _ _ _ _ _ _ k) h1 (show K1 ≤ 21 + K1 + K2 + K3 + K4 by omega)
        have hK2 := more (fun k => config_Check.mono _ _ _ _ _ _ _ _ k) h2 (show K2 ≤ 21 + K1 + K2 + K3 + K4 by omega)
        have hK3 := more (fun k => config_Check.mono _ _ _ _ _ _ _ _ k) h3 (show K3 ≤ 21 + K1 + K2 + K3 + K4 by omega)
        have hK4 := more (fun k => config_Check.mono _ _ _ _ _ _ _ _ k) h4 (show K4 ≤ 20 + K1 + K2 + K3 + K4 by omega)
        refine ⟨21 + K1 + K2 + K3 + K4, ?_⟩
        unfold fuglemanlaw20_ConfigParts.f
        rw [hK0, hK1, hK2]
        simp only [Option.bind_some, if_true, w1, m1, m2, m3, b1, b2, b3]
        rw [if_pos he, hK3]
        simp only [Option.bind_some, if_true]
        have wk : wrap64 ((kk : Int) + 1) = ((kk + 1 : Nat) : Int) := wrapS (by omega)
        rw [show 21 + K1 + K2 + K3 + K4 = (20 + K1 + K2 + K3 + K4) + 1 by omega, fuglemanlaw20_ConfigParts.j0, if_neg (by simp), if_neg hl, if_neg (by omega)]
        simp only [Option.bind_some, wx, m4, wk, Int.toNat_natCast, List.nil_append, List.length_nil, Nat.zero_add]
        obtain ⟨q1, q2⟩ := cut_small (l := l7) kk g7
        have q3 : (0 : Int) ≤ (kk : Int) := Int.natCast_nonneg _
        have q4 : (kk : Int) ≤ (l7.length : Int) := Int.ofNat_le.2 (Nat.le_of_lt hk)
        have q5 : (0 : Int) ≤ ((kk + 1 : Nat) : Int) := Int.natCast_nonneg _
        have q6 : ((kk + 1 : Nat) : Int) ≤ (l7.length : Int) := Int.ofNat_le.2 hk
        simp only [q1, q2, q3, q4, q5, q6, if_true, hK4, Option.bind_some]
        trivial
    · have hK0 := more (fun k => fuglemanlaw20_awake.mono k) awake_f (show 20 ≤ 21 + K1 + K2 by omega)
      have hK1 := more (fun k => fuglemanlaw20_Small.mono _ _ _ _ _ _ _ _ k) h1 (show K1 ≤ 21 + K1 + K2 by omega)
      have hK2 := more (fun k => config_Check.mono _ _ _ _ _ _ _ _ k) h2 (show K2 ≤ 21 + K1 + K2 by omega)
      refine ⟨21 + K1 + K2, ?_⟩
      unfold fuglemanlaw20_ConfigParts.f
      rw [hK0, hK1, hK2]
      simp only [Option.bind_some, if_true]
      rw [if_neg he]

end Go.Proofs.Ytedmikeamgebjaa.S
