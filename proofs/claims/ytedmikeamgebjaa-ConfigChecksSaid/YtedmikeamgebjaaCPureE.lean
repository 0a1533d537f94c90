/- config: what the printed functions answer, fifth part: the reference's station, both Checks, awake. No program here. -/
import Derived.Test.YtedmikeamgebjaaCPureD
set_option linter.unusedVariables false
set_option linter.unusedSimpArgs false
namespace Go.Proofs.Ytedmikeamgebjaa.R
open Go.RowKit Go.Proofs.YtedmikeamgebjaaW.PrintWords Go.Proofs.YtedmikeamgebjaaW.PrintLast Go.Proofs.YtedmikeamgebjaaW.PrintMore

section
variable (a0 a1 a2 a3 a4 a5 : Int) (l6 : List S63) (l7 : List S37) (hl6 : l6.length ≤ 1000)
include hl6
theorem refst_l1 (s : S37) (hp : s.f5.length ≤ 1000) : ∀ d j : Nat, j + d = s.f5.length → ∃ K, fuglemanref20_station.l1 K (j : Int) a0 a1 a2 a3 a4 a5 l6 l7 s.f0 s.f1 s.f2 s.f3 s.f4 s.f5 = some (if (s.f5.drop j).any (fun x => (findB l6 x.f0).1.f1 != s.f0) = true then 5 else 0)
  | 0, j, h => ⟨1, by
    unfold fuglemanref20_station.l1
    rw [if_neg (by omega), List.drop_of_length_le (by omega)]
    rfl⟩
  | d + 1, j, h => by
    have hj : j < s.f5.length := by omega
    obtain ⟨K, hK⟩ := refst_l1 s hp d (j + 1) (by omega)
    have hf := ref16_Find_f l6 hl6 (s.f5[j]).f0
    have hK1 := more (fun k => (fuglemanref20_station.mono_l k).2.2 _ _ _ _ _ _ _ _ _ _ _ _ _ _ _) hK (Nat.le_max_left K (l6.length + 1))
    have hf1 := more (fun k => fuglemanref16_Find.mono _ _ k) hf (Nat.le_max_right K (l6.length + 1))
    refine ⟨max K (l6.length + 1) + 1, ?_⟩
    unfold fuglemanref20_station.l1
    rw [if_pos (by omega), if_pos (by omega), rd56 hj, hf1, List.drop_eq_getElem_cons hj, List.any_cons]
    simp only [Option.bind_some]
    by_cases e : (findB l6 (s.f5[j]).f0).1.f1 = s.f0
    · rw [if_pos e, wrapS (by omega), hK1, bne_eq_false_iff_eq.2 e, Bool.false_or]
    · rw [if_neg e, bne_iff_ne.2 e, Bool.true_or]
      rfl
theorem refst_f (i : Nat) (hi : i < l7.length) (hl7 : l7.length ≤ 1000) (hs : stOk (rd_T37 l7 i)) :
    ∃ K, fuglemanref20_station.f K a0 a1 a2 a3 a4 a5 l6 l7 (i : Int) = some (stE a5 l6 l7 i) := by
  obtain ⟨K1, h1⟩ := ref19_f (rd_T37 l7 i).f2 (rd_T37 l7 i).f4 l6 hs.1 hl6
  obtain ⟨K2, h2⟩ := ref19_reach (rd_T37 l7 i).f5 l6 hs.2.1 hl6
  obtain ⟨K3, h3⟩ := refst_l1 a0 a1 a2 a3 a4 a5 l6 l7 hl6 (rd_T37 l7 i) hs.2.1 (rd_T37 l7 i).f5.length 0 (by omega)
  obtain ⟨x, y, h4⟩ := all_fR (rd_T37 l7 i).f3 hs.2.2
  have hK1 := more (fun k => fuglemanref19_Lay.mono _ _ _ _ k) h1 (show K1 ≤ K1 + K2 + K3 by omega)
  have hK2 := more (fun k => fuglemanref19_Lay.mono _ _ _ _ k) h2 (show K2 ≤ K1 + K2 + K3 by omega)
  have hK3 := more (fun k => (fuglemanref20_station.mono_l k).2.2 _ _ _ _ _ _ _ _ _ _ _ _ _ _ _) h3 (show K3 ≤ K1 + K2 + K3 by omega)
  generalize K1 + K2 + K3 = K at hK1 hK2 hK3
  clear h1 h2 h3
  have hbase : ∃ K, fuglemanref20_station.l0 K (i : Int) (i : Int) a0 a1 a2 a3 a4 a5 l6 l7 (rd_T37 l7 i).f0 (rd_T37 l7 i).f1 (rd_T37 l7 i).f2 (rd_T37 l7 i).f3 (rd_T37 l7 i).f4 (rd_T37 l7 i).f5 = some (
      if (layE (rd_T37 l7 i).f2 (rd_T37 l7 i).f4 l6).1 = 0 then
        if codeE (rd_T37 l7 i).f3 = 0 then
          if (reachE (rd_T37 l7 i).f5 l6).1 = 0 then if ownsB l6 (rd_T37 l7 i) = true then 0 else 5
          else (reachE (rd_T37 l7 i).f5 l6).1
        else codeE (rd_T37 l7 i).f3
      else (layE (rd_T37 l7 i).f2 (rd_T37 l7 i).f4 l6).1) := by
    refine ⟨K + 1, ?_⟩
    rw [fuglemanref20_station.l0, if_neg (by omega), hK1]
    simp only [Option.bind_some]
    by_cases e1 : (layE (rd_T37 l7 i).f2 (rd_T37 l7 i).f4 l6).1 = 0
    · rw [if_pos e1, if_pos e1, h4]
      simp only [Option.bind_some]
      by_cases e2 : codeE (rd_T37 l7 i).f3 = 0
      · rw [if_pos e2, if_pos e2, hK2]
        simp only [Option.bind_some]
        by_cases e3 : (reachE (rd_T37 l7 i).f5 l6).1 = 0
        · rw [if_pos e3, if_pos e3]
          refine hK3.trans ?_
          rw [List.drop_zero]
          unfold ownsB
          cases (rd_T37 l7 i).f5.any (fun x => (findB l6 x.f0).1.f1 != (rd_T37 l7 i).f0) <;> rfl
        · rw [if_neg e3, if_neg e3]
      · rw [if_neg e2, if_neg e2]
    · rw [if_neg e1, if_neg e1]
  unfold stE
  generalize (if (layE (rd_T37 l7 i).f2 (rd_T37 l7 i).f4 l6).1 = 0 then
        if codeE (rd_T37 l7 i).f3 = 0 then
          if (reachE (rd_T37 l7 i).f5 l6).1 = 0 then if ownsB l6 (rd_T37 l7 i) = true then (0 : Int) else 5
          else (reachE (rd_T37 l7 i).f5 l6).1
        else codeE (rd_T37 l7 i).f3
      else (layE (rd_T37 l7 i).f2 (rd_T37 l7 i).f4 l6).1) = r at hbase ⊢
  have hloop : ∀ e j : Nat, j + e = i → ∃ K, fuglemanref20_station.l0 K (i : Int) (j : Int) a0 a1 a2 a3 a4 a5 l6 l7 (rd_T37 l7 i).f0 (rd_T37 l7 i).f1 (rd_T37 l7 i).f2 (rd_T37 l7 i).f3 (rd_T37 l7 i).f4 (rd_T37 l7 i).f5 = some (if ((l7.take i).drop j).any (fun x => x.f0 == (rd_T37 l7 i).f0) = true then 14 else r) := by
    intro e
    induction e with
    | zero =>
      intro j h
      obtain rfl : j = i := by omega
      obtain ⟨K, hK⟩ := hbase
      refine ⟨K, ?_⟩
      rw [hK, List.drop_of_length_le (by rw [List.length_take]; omega)]
      rfl
    | succ e ih =>
      intro j h
      obtain ⟨K, hK⟩ := ih (j + 1) (by omega)
      refine ⟨K + 1, ?_⟩
      rw [fuglemanref20_station.l0, if_pos (by omega), if_pos (by omega), if_pos (by omega), any_from _ l7 i j (by omega) (by omega), rd37 (show j < l7.length by omega)]
      by_cases hq : (l7[j]'(by omega)).f0 = (rd_T37 l7 i).f0
      · rw [if_pos hq]; simp [hq]
      · rw [if_neg hq, wrapS (by omega), hK]; simp [hq]
  obtain ⟨K4, h5⟩ := hloop i 0 (by omega)
  refine ⟨K4 + 1, ?_⟩
  have hj : ∀ b : Bool, fuglemanref20_station.j0 (K4 + 1) (i : Int) b a0 a1 a2 a3 a4 a5 l6 l7 (rd_T37 l7 i).f0 (rd_T37 l7 i).f1 (rd_T37 l7 i).f2 (rd_T37 l7 i).f3 (rd_T37 l7 i).f4 (rd_T37 l7 i).f5 = some (if b = true then 3 else if (l7.take i).any (fun x => x.f0 == (rd_T37 l7 i).f0) = true then 14 else r) := fun b => by
    rw [fuglemanref20_station.j0]
    cases b with
    | true => rfl
    | false =>
      rw [if_neg (by simp), if_neg (by simp)]
      exact h5
  unfold fuglemanref20_station.f
  rw [if_pos (by omega), if_pos (by omega), in_fR, in_fR]
  simp only [Option.bind_some]
  rw [hj, hj]
  by_cases c1 : (rd_T37 l7 i).f0 ≥ 0 ∧ (rd_T37 l7 i).f0 ≤ a5
  · rw [decide_eq_true c1, if_pos rfl]
    by_cases c2 : (rd_T37 l7 i).f1 ≥ 1 ∧ (rd_T37 l7 i).f1 ≤ 1000
    · rw [decide_eq_true c2, if_pos (⟨c1.1, c1.2, c2.1, c2.2⟩ : _ ∧ _ ∧ _ ∧ _)]
      rfl
    · have hc : ¬ ((rd_T37 l7 i).f0 ≥ 0 ∧ (rd_T37 l7 i).f0 ≤ a5 ∧ (rd_T37 l7 i).f1 ≥ 1 ∧ (rd_T37 l7 i).f1 ≤ 1000) := fun h => c2 ⟨h.2.2.1, h.2.2.2⟩
      rw [decide_eq_false c2, if_neg hc]
      rfl
  · have hc : ¬ ((rd_T37 l7 i).f0 ≥ 0 ∧ (rd_T37 l7 i).f0 ≤ a5 ∧ (rd_T37 l7 i).f1 ≥ 1 ∧ (rd_T37 l7 i).f1 ≤ 1000) := fun h => c1 ⟨h.1, h.2.1⟩
    rw [decide_eq_false c1, if_neg hc]
    rfl
end
/-! a cluster -/
def numB (a0 a1 a2 a3 a4 a5 : Int) : Bool := decide (a0 ≥ 4 ∧ a0 ≤ 50) && (decide (a1 ≥ 1 ∧ a1 ≤ 10000) && (decide (a2 ≥ 1 ∧ a2 ≤ 50) && (decide (a3 ≥ 0 ∧ a3 ≤ 3) && (decide (a4 ≥ 1 ∧ a4 ≤ 65535) && decide (a5 ≥ 0 ∧ a5 ≤ 31)))))
def stS (top : Int) (l6 : List S63) (l7 : List S37) : Nat → Nat → Int × Int
  | 0, _ => (0, 0)
  | d + 1, i => if stE top l6 l7 i = 0 then stS top l6 l7 d (i + 1) else (stE top l6 l7 i, wrap64 (100 + (i : Int)))
def ckE (a0 a1 a2 a3 a4 a5 : Int) (l6 : List S63) (l7 : List S37) : Int × Int :=
  if numB a0 a1 a2 a3 a4 a5 = true then
    if (bcP l6).1 = 0 then if (l7.length : Int) ≥ 1 ∧ (l7.length : Int) ≤ 32 then stS a5 l6 l7 l7.length 0 else (2, 100)
    else ((bcP l6).1, wrap64 (1 + (bcP l6).2))
  else (3, 0)
theorem numbers_f (a0 a1 a2 a3 a4 a5 : Int) (l6 : List S63) (l7 : List S37) : config_numbers.f a0 a1 a2 a3 a4 a5 l6 l7 = some (numB a0 a1 a2 a3 a4 a5) := by
  unfold config_numbers.f numB
  simp only [in_f, Option.bind_some]
  generalize decide (a0 ≥ 4 ∧ a0 ≤ 50) = b0
  generalize decide (a1 ≥ 1 ∧ a1 ≤ 10000) = b1
  generalize decide (a2 ≥ 1 ∧ a2 ≤ 50) = b2
  generalize decide (a3 ≥ 0 ∧ a3 ≤ 3) = b3
  generalize decide (a4 ≥ 1 ∧ a4 ≤ 65535) = b4
  generalize decide (a5 ≥ 0 ∧ a5 ≤ 31) = b5
  cases b0 <;> cases b1 <;> cases b2 <;> cases b3 <;> cases b4 <;> cases b5 <;> rfl
section
variable (a0 a1 a2 a3 a4 a5 : Int) (l6 : List S63) (l7 : List S37) (hl6 : l6.length ≤ 1000) (hl7 : l7.length ≤ 1000) (hs : ∀ s ∈ l7, stOk s)
include hl7 hs
theorem config_l0 : ∀ d i : Nat, i + d = l7.length → ∃ K, config_Check.l0 K (l7.length : Int) (i : Int) a0 a1 a2 a3 a4 a5 l6 l7 = some (stS a5 l6 l7 d i)
  | 0, i, h => ⟨1, by
    rw [config_Check.l0, if_neg (by omega)]
    rfl⟩
  | d + 1, i, h => by
    have hi : i < l7.length := by omega
    obtain ⟨K1, h1⟩ := config_l0 d (i + 1) (by omega)
    obtain ⟨K2, h2⟩ := station_f a0 a1 a2 a3 a4 a5 l6 l7 i hi (by rw [rd37 hi]; exact hs _ (List.getElem_mem hi))
    have hK1 := more (fun k => config_Check.mono_l k _ _ _ _ _ _ _ _ _ _) h1 (Nat.le_max_left K1 K2)
    have hK2 := more (fun k => config_station.mono _ _ _ _ _ _ _ _ _ k) h2 (Nat.le_max_right K1 K2)
    refine ⟨max K1 K2 + 1, ?_⟩
    rw [config_Check.l0, if_pos (by omega), hK2, stS]
    simp only [Option.bind_some]
    by_cases e : stE a5 l6 l7 i = 0
    · rw [if_pos e, if_pos e, wrapS (by omega), hK1]
    · rw [if_neg e, if_neg e]
include hl6
theorem config_f : ∃ K, config_Check.f K a0 a1 a2 a3 a4 a5 l6 l7 = some (ckE a0 a1 a2 a3 a4 a5 l6 l7) := by
  obtain ⟨K1, h1⟩ := config_l0 a0 a1 a2 a3 a4 a5 l6 l7 hl7 hs l7.length 0 (by omega)
  have h2 := blocks_f l6 hl6
  have hK1 := more (fun k => config_Check.mono_l k _ _ _ _ _ _ _ _ _ _) h1 (Nat.le_max_left K1 (l6.length + 1))
  have hK2 := more (fun k => blocks_Check.mono _ k) h2 (Nat.le_max_right K1 (l6.length + 1))
  refine ⟨max K1 (l6.length + 1), ?_⟩
  unfold config_Check.f ckE
  rw [numbers_f, hK2, in_f]
  simp only [Option.bind_some]
  cases numB a0 a1 a2 a3 a4 a5 with
  | false => rfl
  | true =>
    simp only [if_true]
    by_cases e : (bcP l6).1 = 0
    · rw [if_pos e, if_pos e]
      by_cases c : (l7.length : Int) ≥ 1 ∧ (l7.length : Int) ≤ 32
      · rw [if_pos (decide_eq_true c), if_pos c]
        exact hK1
      · rw [if_neg (by simpa using c), if_neg c]
    · rw [if_neg e, if_neg e]
theorem ref20_l0 : ∀ d i : Nat, i + d = l7.length → ∃ K, fuglemanref20_Check.l0 K (i : Int) a0 a1 a2 a3 a4 a5 l6 l7 = some (stS a5 l6 l7 d i)
  | 0, i, h => ⟨1, by
    rw [fuglemanref20_Check.l0, if_neg (by omega)]
    rfl⟩
  | d + 1, i, h => by
    have hi : i < l7.length := by omega
    obtain ⟨K1, h1⟩ := ref20_l0 d (i + 1) (by omega)
    obtain ⟨K2, h2⟩ := refst_f a0 a1 a2 a3 a4 a5 l6 l7 hl6 i hi hl7 (by rw [rd37 hi]; exact hs _ (List.getElem_mem hi))
    have hK1 := more (fun k => (fuglemanref20_Check.mono_l k).2 _ _ _ _ _ _ _ _ _) h1 (Nat.le_max_left K1 K2)
    have hK2 := more (fun k => fuglemanref20_station.mono _ _ _ _ _ _ _ _ _ k) h2 (Nat.le_max_right K1 K2)
    refine ⟨max K1 K2 + 1, ?_⟩
    rw [fuglemanref20_Check.l0, if_pos (by omega), hK2, stS]
    simp only [Option.bind_some]
    by_cases e : stE a5 l6 l7 i = 0
    · rw [if_pos e, if_pos e, wrapS (by omega), hK1]
    · rw [if_neg e, if_neg e]
theorem ref20_f : ∃ K, fuglemanref20_Check.f K a0 a1 a2 a3 a4 a5 l6 l7 = some (ckE a0 a1 a2 a3 a4 a5 l6 l7) := by
  obtain ⟨K1, h1⟩ := ref20_l0 a0 a1 a2 a3 a4 a5 l6 l7 hl6 hl7 hs l7.length 0 (by omega)
  obtain ⟨K2, h2⟩ := ref16_f l6 hl6
  have hK1 := more (fun k => (fuglemanref20_Check.mono_l k).2 _ _ _ _ _ _ _ _ _) h1 (Nat.le_max_left K1 K2)
  have hK2 := more (fun k => fuglemanref16_Check.mono _ k) h2 (Nat.le_max_right K1 K2)
  refine ⟨max K1 K2 + 1, ?_⟩
  have hj : ∀ b : Bool, fuglemanref20_Check.j0 (max K1 K2 + 1) b a0 a1 a2 a3 a4 a5 l6 l7 = some (if b = true then (3, 0) else
    if (bcP l6).1 = 0 then if (l7.length : Int) ≥ 1 ∧ (l7.length : Int) ≤ 32 then stS a5 l6 l7 l7.length 0 else (2, 100)
    else ((bcP l6).1, wrap64 (1 + (bcP l6).2))) := fun b => by
    rw [fuglemanref20_Check.j0]
    cases b with
    | true => rfl
    | false =>
      rw [if_neg (by simp), if_neg (by simp), hK2, in_fR]
      simp only [Option.bind_some]
      by_cases e : (bcP l6).1 = 0
      · rw [if_pos e, if_pos e]
        by_cases c : (l7.length : Int) ≥ 1 ∧ (l7.length : Int) ≤ 32
        · rw [if_pos (decide_eq_true c), if_pos c]
          exact hK1
        · rw [if_neg (by simpa using c), if_neg c]
      · rw [if_neg e, if_neg e]
  unfold fuglemanref20_Check.f ckE numB
  simp only [in_fR, Option.bind_some, hj]
  generalize decide (a0 ≥ 4 ∧ a0 ≤ 50) = b0
  generalize decide (a1 ≥ 1 ∧ a1 ≤ 10000) = b1
  generalize decide (a2 ≥ 1 ∧ a2 ≤ 50) = b2
  generalize decide (a3 ≥ 0 ∧ a3 ≤ 3) = b3
  generalize decide (a4 ≥ 1 ∧ a4 ≤ 65535) = b4
  generalize decide (a5 ≥ 0 ∧ a5 ≤ 31) = b5
  cases b0 <;> cases b1 <;> cases b2 <;> cases b3 <;> cases b4 <;> cases b5 <;> rfl
end
theorem smallOk (l6 : List S63) (l7 : List S37) (h : smallB l6 l7 = true) (hc : ∀ s ∈ l7, codeOk s.f3) : l6.length ≤ 1000 ∧ l7.length ≤ 1000 ∧ ∀ s ∈ l7, stOk s := by
  unfold smallB at h
  simp only [Bool.and_eq_true, decide_eq_true_eq, List.all_eq_true] at h
  refine ⟨by omega, by omega, fun s hm => ?_⟩
  have := h.2 s hm
  exact ⟨by omega, by omega, hc s hm⟩
theorem awake_f : fuglemanlaw20_awake.f 20 = some true := by decide +kernel
/-- The statement, over what the printed functions answer. -/
theorem checks_f (a0 a1 a2 a3 a4 a5 : Int) (l6 : List S63) (l7 : List S37) (hc : ∀ s ∈ l7, codeOk s.f3) : ∃ K, fuglemanlaw20_ConfigChecks.f K a0 a1 a2 a3 a4 a5 l6 l7 = some true := by
  obtain ⟨K1, h1⟩ := small_f a0 a1 a2 a3 a4 a5 l6 l7
  cases hsm : smallB l6 l7 with
  | false =>
    rw [hsm] at h1
    have hK1 := more (fun k => fuglemanlaw20_Small.mono _ _ _ _ _ _ _ _ k) h1 (Nat.le_max_left K1 20)
    have hK0 := more (fun k => fuglemanlaw20_awake.mono k) awake_f (Nat.le_max_right K1 20)
    refine ⟨max K1 20, ?_⟩
    unfold fuglemanlaw20_ConfigChecks.f
    rw [hK0, hK1]
    rfl
  | true =>
    rw [hsm] at h1
    obtain ⟨g6, g7, gs⟩ := smallOk l6 l7 hsm hc
    obtain ⟨K2, h2⟩ := config_f a0 a1 a2 a3 a4 a5 l6 l7 g6 g7 gs
    obtain ⟨K3, h3⟩ := ref20_f a0 a1 a2 a3 a4 a5 l6 l7 g6 g7 gs
    have hK0 := more (fun k => fuglemanlaw20_awake.mono k) awake_f (show 20 ≤ 20 + K1 + K2 + K3 by omega)
    have hK1 := more (fun k => fuglemanlaw20_Small.mono _ _ _ _ _ _ _ _ k) h1 (show K1 ≤ 20 + K1 + K2 + K3 by omega)
    have hK2 := more (fun k => config_Check.mono _ _ _ _ _ _ _ _ k) h2 (show K2 ≤ 20 + K1 + K2 + K3 by omega)
    have hK3 := more (fun k => fuglemanref20_Check.mono _ _ _ _ _ _ _ _ k) h3 (show K3 ≤ 20 + K1 + K2 + K3 by omega)
    refine ⟨20 + K1 + K2 + K3, ?_⟩
    unfold fuglemanlaw20_ConfigChecks.f
    rw [hK0, hK1, hK2, hK3]
    simp
end Go.Proofs.Ytedmikeamgebjaa.R
