/- config: what the printed functions answer, first part: blocks, Find, Small. No program here. -/
import Derived.Test.YtedmikeamgebjaaRx11
set_option linter.unusedVariables false
set_option linter.unusedSimpArgs false
namespace Go.Proofs.Ytedmikeamgebjaa.R
open Go.RowKit Go.Proofs.YtedmikeamgebjaaW.PrintWords Go.Proofs.YtedmikeamgebjaaW.PrintLast Go.Proofs.YtedmikeamgebjaaW.PrintMore

theorem wrapS {k : Nat} (h : k ≤ 1000000) : wrap64 ((k : Int) + 1) = ((k + 1 : Nat) : Int) := by
  rw [IntWalk.wrap64_in _ (by omega)]
  omega
/-- The first that fits is ahead of i: one of the first i fits. -/
theorem firstP_take {α : Type} (p : α → Bool) (l : List α) (i : Nat) (hi : i < l.length) (hp : p l[i] = true) : (firstP p l < (i : Int)) ↔ (l.take i).any p = true := by
  unfold firstP
  cases h : l.findIdx? p with
  | none =>
    rw [List.findIdx?_eq_none_iff] at h
    have := h _ (List.getElem_mem hi)
    rw [hp] at this
    cases this
  | some k =>
    rw [List.findIdx?_eq_some_iff_getElem] at h
    obtain ⟨hk, hpk, hn⟩ := h
    constructor
    · intro hlt
      simp only at hlt
      refine List.any_eq_true.2 ⟨l[k], ?_, hpk⟩
      rw [List.mem_take_iff_getElem]
      exact ⟨k, by omega, rfl⟩
    · intro ha
      obtain ⟨x, hx, hpx⟩ := List.any_eq_true.1 ha
      rw [List.mem_take_iff_getElem] at hx
      obtain ⟨j, hj, rfl⟩ := hx
      simp only
      rcases Nat.lt_or_ge j k with h1 | h1
      · exact absurd hpx (hn j h1)
      · omega

def badB (x : S63) : Bool := decide (x.f0 < 0) || decide (x.f0 > 15) || decide (x.f1 < 0) || decide (x.f1 > 31) || decide (x.f2 < 1) || decide (x.f2 > 64)
def dupB (l : List S63) (i : Nat) : Bool := (l.take i).any fun x => x.f0 == (rd_T63 l i).f0
def bcS (l : List S63) : Nat → Nat → Int × Int
  | 0, _ => (0, 0)
  | d + 1, i => if badB (rd_T63 l i) = true then (3, (i : Int)) else if dupB l i = true then (14, (i : Int)) else bcS l d (i + 1)
def bcP (l : List S63) : Int × Int := if (l.length : Int) > 16 then (2, 16) else bcS l l.length 0
theorem rd63 {l : List S63} {i : Nat} (h : i < l.length) : rd_T63 l (i : Int) = l[i] := by
  simp [rd_T63, List.getD, h]
theorem rd56 {l : List S56} {i : Nat} (h : i < l.length) : rd_T56 l (i : Int) = l[i] := by
  simp [rd_T56, List.getD, h]
theorem rd37 {l : List S37} {i : Nat} (h : i < l.length) : rd_T37 l (i : Int) = l[i] := by
  simp [rd_T37, List.getD, h]
theorem blocks_right_f (x : S63) : blocks_right.f x.f0 x.f1 x.f2 x.f3 = some (!badB x) := by
  obtain ⟨a, b, c, d⟩ := x
  unfold blocks_right.f blocks_Parts.f badB
  simp only
  by_cases h1 : a ≥ 0
  · rw [if_pos h1]
    by_cases h2 : a < 16
    · rw [if_pos h2]
      by_cases h3 : b ≥ 0
      · rw [if_pos h3]
        by_cases h4 : b < 32
        · rw [if_pos h4]
          by_cases h5 : c < 1
          · rw [if_pos h5]; simp [h5]
          · rw [if_neg h5]
            by_cases h6 : c > 64
            · rw [if_pos h6]; simp [h6]
            · rw [if_neg h6]
              simp only [Option.bind_some]
              have e1 : wrap64 (c + 16) = c + 16 := IntWalk.wrap64_in _ (by omega)
              have e2 : wrap64 (c + 16 - 1) = c + 15 := by rw [IntWalk.wrap64_in _ (by omega)]; omega
              have e3 : Int.tdiv (c + 15) 16 = (c + 15) / 16 := Int.tdiv_eq_ediv_of_nonneg (by omega)
              rw [e1, e2, e3, IntWalk.wrap64_in _ (by omega)]
              have p1 : decide ((c + 15) / 16 > 0) = true := decide_eq_true (by omega)
              have q1 : decide (a < 0) = false := decide_eq_false (by omega)
              have q2 : decide (a > 15) = false := decide_eq_false (by omega)
              have q3 : decide (b < 0) = false := decide_eq_false (by omega)
              have q4 : decide (b > 31) = false := decide_eq_false (by omega)
              have q5 : decide (c < 1) = false := decide_eq_false (by omega)
              have q6 : decide (c > 64) = false := decide_eq_false (by omega)
              rw [p1, q1, q2, q3, q4, q5, q6]
              rfl
        · rw [if_neg h4]
          have q4 : decide (b > 31) = true := decide_eq_true (by omega)
          rw [q4]; simp
      · rw [if_neg h3]
        have q3 : decide (b < 0) = true := decide_eq_true (by omega)
        rw [q3]; simp
    · rw [if_neg h2]
      have q2 : decide (a > 15) = true := decide_eq_true (by omega)
      rw [q2]; simp
  · rw [if_neg h1]
    have q1 : decide (a < 0) = true := decide_eq_true (by omega)
    rw [q1]; simp
theorem blocks_l0 (l : List S63) (hl : l.length ≤ 1000) : ∀ d i : Nat, i + d = l.length → blocks_Check.l0 (d + 1) l l (l.length : Int) (i : Int) = some (bcS l d i)
  | 0, i, h => by
    unfold blocks_Check.l0 bcS
    rw [if_neg (by omega)]
  | d + 1, i, h => by
    have hi : i < l.length := by omega
    have ih := blocks_l0 l hl d (i + 1) (by omega)
    unfold blocks_Check.l0 bcS
    rw [if_pos (by omega), if_pos (by omega), if_pos (by omega), blocks_right_f]
    simp only [Option.bind_some]
    cases hb : badB (rd_T63 l i) with
    | true => rfl
    | false =>
      simp only [Bool.not_false, if_true, Bool.false_eq_true, if_false]
      unfold blocks_place.f
      simp only [Option.bind_some]
      have hiff := firstP_take (fun x : S63 => x.f0 == (rd_T63 l i).f0) l i hi (by rw [rd63 hi]; simp)
      cases hd : dupB l i with
      | true => rw [if_pos (hiff.2 hd)]; rfl
      | false =>
        rw [if_neg (fun hlt => by have := hiff.1 hlt; unfold dupB at hd; rw [hd] at this; cases this), wrapS (by omega), ih]
        rfl
theorem blocks_f (l : List S63) (hl : l.length ≤ 1000) : blocks_Check.f (l.length + 1) l = some (bcP l) := by
  unfold blocks_Check.f bcP
  by_cases h : (l.length : Int) > 16
  · rw [if_pos h, if_pos h]
  · rw [if_neg h, if_neg h]
    exact blocks_l0 l hl l.length 0 (by omega)
/-- From the place j on: does one fit, ahead of i? -/
theorem any_from {α : Type} (p : α → Bool) (l : List α) (i j : Nat) (hj : j < i) (hi : i ≤ l.length) : ((l.take i).drop j).any p = (p (l[j]'(by omega)) || ((l.take i).drop (j + 1)).any p) := by
  have hlen : j < (l.take i).length := by rw [List.length_take]; omega
  rw [List.drop_eq_getElem_cons hlen, List.any_cons, List.getElem_take]
theorem ref16_l1 (l : List S63) (hl : l.length ≤ 1000) (i : Nat) (hi : i < l.length) (y : S63) (r : Int × Int) (hr : ∃ K, fuglemanref16_Check.l0 K l ((i + 1 : Nat) : Int) = some r) :
    ∀ e j : Nat, j + e = i → ∃ K, fuglemanref16_Check.l1 K l (i : Int) (j : Int) y.f0 y.f1 y.f2 y.f3 = some (if ((l.take i).drop j).any (fun x => x.f0 == y.f0) = true then (14, (i : Int)) else r)
  | 0, j, h => by
    obtain ⟨K, hK⟩ := hr
    refine ⟨K + 1, ?_⟩
    unfold fuglemanref16_Check.l1
    rw [if_neg (by omega), wrapS (by omega), hK, List.drop_of_length_le (by rw [List.length_take]; omega)]
    rfl
  | e + 1, j, h => by
    obtain ⟨K, hK⟩ := ref16_l1 l hl i hi y r hr e (j + 1) (by omega)
    refine ⟨K + 1, ?_⟩
    unfold fuglemanref16_Check.l1
    rw [if_pos (by omega), if_pos (by omega), if_pos (by omega), any_from _ l i j (by omega) (by omega), rd63 (by omega)]
    by_cases hq : (l[j]'(by omega)).f0 = y.f0
    · rw [if_pos hq]; simp [hq]
    · rw [if_neg hq, wrapS (by omega), hK]; simp [hq]
theorem ref16_l0 (l : List S63) (hl : l.length ≤ 1000) : ∀ d i : Nat, i + d = l.length → ∃ K, fuglemanref16_Check.l0 K l (i : Int) = some (bcS l d i)
  | 0, i, h => ⟨1, by
    unfold fuglemanref16_Check.l0 bcS
    rw [if_neg (by omega)]⟩
  | d + 1, i, h => by
    have hi : i < l.length := by omega
    obtain ⟨K, hK⟩ := ref16_l1 l hl i hi (rd_T63 l i) _ (ref16_l0 l hl d (i + 1) (by omega)) i 0 (by omega)
    have hj : ∀ b : Bool, fuglemanref16_Check.j1 (K + 1) l (i : Int) b (rd_T63 l i).f0 (rd_T63 l i).f1 (rd_T63 l i).f2 (rd_T63 l i).f3 = some (if b = true then (3, (i : Int)) else if dupB l i = true then (14, (i : Int)) else bcS l d (i + 1)) := fun b => by
      unfold fuglemanref16_Check.j1
      cases b with
      | true => rfl
      | false =>
        simp only [Bool.false_eq_true, if_false]
        rw [show ((0 : Int)) = ((0 : Nat) : Int) from rfl, hK]
        rfl
    refine ⟨K + 2, ?_⟩
    unfold fuglemanref16_Check.l0 bcS
    rw [if_pos (by omega), if_pos (by omega)]
    simp only [hj]
    unfold badB
    by_cases h1 : (rd_T63 l i).f0 < 0
    · rw [if_pos h1, decide_eq_true h1]; rfl
    rw [if_neg h1, decide_eq_false h1]
    by_cases h2 : (rd_T63 l i).f0 > 15
    · rw [if_pos h2, decide_eq_true h2]; rfl
    rw [if_neg h2, decide_eq_false h2]
    by_cases h3 : (rd_T63 l i).f1 < 0
    · rw [if_pos h3, decide_eq_true h3]; rfl
    rw [if_neg h3, decide_eq_false h3]
    by_cases h4 : (rd_T63 l i).f1 > 31
    · rw [if_pos h4, decide_eq_true h4]; rfl
    rw [if_neg h4, decide_eq_false h4]
    by_cases h5 : (rd_T63 l i).f2 < 1
    · rw [if_pos h5, decide_eq_true h5]; rfl
    rw [if_neg h5, decide_eq_false h5]
    rfl
theorem ref16_f (l : List S63) (hl : l.length ≤ 1000) : ∃ K, fuglemanref16_Check.f K l = some (bcP l) := by
  unfold fuglemanref16_Check.f bcP
  by_cases h : (l.length : Int) > 16
  · exact ⟨0, by rw [if_pos h, if_pos h]⟩
  · obtain ⟨K, hK⟩ := ref16_l0 l hl l.length 0 (by omega)
    exact ⟨K, by rw [if_neg h, if_neg h]; exact hK⟩

/-! Find -/
theorem firstP_cons {α : Type} (p : α → Bool) (x : α) (l : List α) : firstP p (x :: l) = if p x = true then 0 else if firstP p l < 0 then -1 else firstP p l + 1 := by
  unfold firstP
  rw [List.findIdx?_cons]
  cases hx : p x with
  | true => simp
  | false =>
    simp only [Bool.false_eq_true, if_false]
    cases h : l.findIdx? p with
    | none => simp
    | some k =>
      simp only [Option.map_some]
      rw [if_neg (by omega)]
      omega
theorem findB_cons (x : S63) (l : List S63) (a : Int) : findB (x :: l) a = if (x.f0 == a) = true then (x, true) else findB l a := by
  unfold findB
  rw [firstP_cons]
  cases hx : (x.f0 == a) with
  | true => simp [rd_T63]
  | false =>
    simp only [Bool.false_eq_true, if_false]
    by_cases h : firstP (fun x : S63 => x.f0 == a) l < 0
    · rw [if_pos h, if_pos h, if_pos (by omega)]
    · rw [if_neg h, if_neg h, if_neg (by omega)]
      have e : (firstP (fun x : S63 => x.f0 == a) l + 1).toNat = (firstP (fun x : S63 => x.f0 == a) l).toNat + 1 := by omega
      simp [rd_T63, e]
theorem ref16_Find_l0 (l : List S63) (hl : l.length ≤ 1000) (a : Int) : ∀ d i : Nat, i + d = l.length → fuglemanref16_Find.l0 (d + 1) l a (i : Int) = some ((findB (l.drop i) a).1.f0, (findB (l.drop i) a).1.f1, (findB (l.drop i) a).1.f2, (findB (l.drop i) a).1.f3, (findB (l.drop i) a).2)
  | 0, i, h => by
    unfold fuglemanref16_Find.l0
    rw [if_neg (by omega), List.drop_of_length_le (by omega)]
    rfl
  | d + 1, i, h => by
    have hi : i < l.length := by omega
    have ih := ref16_Find_l0 l hl a d (i + 1) (by omega)
    unfold fuglemanref16_Find.l0
    rw [if_pos (by omega), if_pos (by omega), List.drop_eq_getElem_cons hi, findB_cons, rd63 hi]
    by_cases hq : l[i].f0 = a
    · rw [if_pos hq]; simp [hq]
    · rw [if_neg hq, wrapS (by omega), ih]; simp [hq]
theorem ref16_Find_f (l : List S63) (hl : l.length ≤ 1000) (a : Int) : fuglemanref16_Find.f (l.length + 1) l a = some ((findB l a).1.f0, (findB l a).1.f1, (findB l a).1.f2, (findB l a).1.f3, (findB l a).2) :=
  ref16_Find_l0 l hl a l.length 0 (by omega)

/-! more fuel -/
theorem more {α : Type} {F : Nat → Option α} (h : ∀ k, LeO (F k) (F (k + 1))) {K K' : Nat} {r : α} (hK : F K = some r) (hle : K ≤ K') : F K' = some r := by
  induction hle with
  | refl => exact hK
  | step _ ih => exact h _ _ ih

/-! Small -/
def smallB (l6 : List S63) (l7 : List S37) : Bool := decide (l7.length ≤ 40) && decide (l6.length ≤ 40) && l7.all fun s => decide (s.f3.length ≤ 210) && decide (s.f4.length ≤ 40) && decide (s.f5.length ≤ 40)
theorem small_l0 (l : List S37) (hl : l.length ≤ 1000) : ∀ d i : Nat, i + d = l.length → fuglemanlaw20_Small.l0 (d + 1) l (l.length : Int) (i : Int) = some ((l.drop i).all fun s => decide (s.f3.length ≤ 210) && decide (s.f4.length ≤ 40) && decide (s.f5.length ≤ 40))
  | 0, i, h => by
    unfold fuglemanlaw20_Small.l0
    rw [if_neg (by omega), List.drop_of_length_le (by omega)]
    rfl
  | d + 1, i, h => by
    have hi : i < l.length := by omega
    have ih := small_l0 l hl d (i + 1) (by omega)
    unfold fuglemanlaw20_Small.l0
    rw [if_pos (by omega), if_pos (by omega), if_pos (by omega), List.drop_eq_getElem_cons hi, List.all_cons, rd37 hi]
    by_cases h1 : (l[i].f3.length : Int) > 210
    · rw [if_pos h1, decide_eq_false (by omega : ¬ l[i].f3.length ≤ 210)]; rfl
    rw [if_neg h1, decide_eq_true (by omega : l[i].f3.length ≤ 210)]
    by_cases h2 : (l[i].f4.length : Int) > 40
    · rw [if_pos h2, decide_eq_false (by omega : ¬ l[i].f4.length ≤ 40)]; rfl
    rw [if_neg h2, decide_eq_true (by omega : l[i].f4.length ≤ 40)]
    by_cases h3 : (l[i].f5.length : Int) > 40
    · rw [if_pos h3, decide_eq_false (by omega : ¬ l[i].f5.length ≤ 40)]; rfl
    rw [if_neg h3, decide_eq_true (by omega : l[i].f5.length ≤ 40), wrapS (by omega), ih]
    rfl
theorem small_f (a0 a1 a2 a3 a4 a5 : Int) (l6 : List S63) (l7 : List S37) : ∃ K, fuglemanlaw20_Small.f K a0 a1 a2 a3 a4 a5 l6 l7 = some (smallB l6 l7) := by
  refine ⟨l7.length + 2, ?_⟩
  unfold fuglemanlaw20_Small.f smallB
  by_cases h1 : (l7.length : Int) > 40
  · rw [if_pos h1, decide_eq_false (by omega : ¬ l7.length ≤ 40)]
    rfl
  rw [if_neg h1, decide_eq_true (by omega : l7.length ≤ 40)]
  unfold fuglemanlaw20_Small.j0
  by_cases h2 : (l6.length : Int) > 40
  · rw [decide_eq_true h2, decide_eq_false (by omega : ¬ l6.length ≤ 40)]
    rfl
  rw [decide_eq_false h2, decide_eq_true (by omega : l6.length ≤ 40)]
  show (if false = true then some false else fuglemanlaw20_Small.l0 (l7.length + 1) l7 (l7.length : Int) 0) = _
  rw [if_neg (by simp)]
  exact small_l0 l7 (by omega) l7.length 0 (by omega)
end Go.Proofs.Ytedmikeamgebjaa.R
