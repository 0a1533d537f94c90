/- config: what the printed functions answer, third part: the reference's Lay. No program here. -/
import Derived.Test.YtedmikeamgebjaaCPureB
set_option linter.unusedVariables false
set_option linter.unusedSimpArgs false
namespace Go.Proofs.Ytedmikeamgebjaa.R
open Go.RowKit Go.Proofs.YtedmikeamgebjaaW.PrintWords Go.Proofs.YtedmikeamgebjaaW.PrintLast Go.Proofs.YtedmikeamgebjaaW.PrintMore

section
variable (l1 : List S56) (l2 : List S63) (over : Bool) (hl1 : l1.length ≤ 1000) (hl2 : l2.length ≤ 1000)
include hl1
/-- The bytes of one block, from the place a + m on. -/
theorem ref_l3 (i : Nat) (hi : i < l1.length) (v : BitVec 64) (a n : Nat) (han : a + n ≤ 64) (b : S63) (hb : b.f2 = (n : Int)) (r : Int × Int)
    (hr : ∀ u, Rel over u (v ||| maskV a n) → ∃ K, fuglemanref19_Lay.l1 K l1 l2 over u ((i + 1 : Nat) : Int) = some r) :
    ∀ (e m : Nat) (u : List Bool), m + e = n → Rel over u (v ||| maskV a m) → ∃ K, fuglemanref19_Lay.l3 K l1 l2 over u (i : Int) (a : Int) ((a + m : Nat) : Int) b.f0 b.f1 b.f2 b.f3 = some (if over = true ∧ ovB v (a + m) e = true then (15, (i : Int)) else r)
  | 0, m, u, h, hu => by
    obtain rfl : m = n := by omega
    obtain ⟨K, hK⟩ := hr u hu
    refine ⟨K + 1, ?_⟩
    unfold fuglemanref19_Lay.l3
    rw [hb, show wrap64 ((a : Int) + (m : Int)) = ((a + m : Nat) : Int) by rw [IntWalk.wrap64_in _ (by omega)]; omega, if_neg (by omega), wrapS (by omega), hK]
    simp [ovB]
  | e + 1, m, u, h, hu => by
    obtain ⟨K, hK⟩ := ref_l3 i hi v a n han b hb r hr e (m + 1) (u.set (a + m) true) (by omega) (hu.set (by omega))
    refine ⟨K + 1, ?_⟩
    rw [hb] at hK
    unfold fuglemanref19_Lay.l3
    rw [hb, show wrap64 ((a : Int) + (n : Int)) = ((a + n : Nat) : Int) by rw [IntWalk.wrap64_in _ (by omega)]; omega, if_pos (by omega)]
    cases ho : over with
    | false =>
      subst ho
      simp only [Bool.false_eq_true, if_false, false_and] at hK ⊢
      rw [if_pos (by omega), if_pos (by rw [hu.1]; omega), Int.toNat_natCast, wrapS (by omega)]
      exact hK
    | true =>
      subst ho
      simp only [if_true, true_and] at hK ⊢
      have hbit : u[a + m]? = some (v.getLsbD (a + m)) := by
        rw [hu.2 rfl (a + m) (by omega), BitVec.getLsbD_or, mask_bit, decide_eq_false (by omega : ¬ a + m < a + m)]
        simp
      rw [if_pos (by omega), if_pos (by rw [hu.1]; omega), Int.toNat_natCast, wrapS (by omega), rdOf_at hbit, ovB]
      cases hv : v.getLsbD (a + m) with
      | true => simp
      | false =>
        simp only [Bool.false_eq_true, if_false, Bool.false_or]
        exact hK
/-- Is the block of a spot at one ahead? Then the rest of the spot. -/
theorem ref_l2 (i : Nat) (hi : i < l1.length) (u : List Bool) (v : BitVec 64) (hu : Rel over u v) (b : S63) (r : Int × Int)
    (hr : ∀ a n : Nat, (rd_T56 l1 i).f1 = (a : Int) → b.f2 = (n : Int) → a + n ≤ 64 → ∀ u, Rel over u (v ||| maskV a n) → ∃ K, fuglemanref19_Lay.l1 K l1 l2 over u ((i + 1 : Nat) : Int) = some r) :
    ∀ (e j : Nat), j + e = i → ∃ K, fuglemanref19_Lay.l2 K l1 l2 over u (i : Int) (j : Int) b.f0 b.f1 b.f2 b.f3 = some (if ((l1.take i).drop j).any (fun x => x.f0 == (rd_T56 l1 i).f0) = true then (14, (i : Int)) else
      if errS (rd_T56 l1 i) [] (b, true) = 0 then (if over = true ∧ ovB v (rd_T56 l1 i).f1.toNat b.f2.toNat = true then (15, (i : Int)) else r) else (errS (rd_T56 l1 i) [] (b, true), (i : Int)))
  | 0, j, h => by
    have hdrop : ((l1.take i).drop j).any (fun x => x.f0 == (rd_T56 l1 i).f0) = false := by rw [List.drop_of_length_le (by rw [List.length_take]; omega)]; rfl
    have hj4 : ∀ K x c, fuglemanref19_Lay.j4 (K + 1) l1 l2 over u (i : Int) x c b.f0 b.f1 b.f2 b.f3 = if c = true then some (2, (i : Int)) else fuglemanref19_Lay.l3 K l1 l2 over u (i : Int) x x b.f0 b.f1 b.f2 b.f3 := fun K x c => by
      rw [fuglemanref19_Lay.j4]
    by_cases h1 : (rd_T56 l1 i).f1 < 0
    · refine ⟨2, ?_⟩
      unfold fuglemanref19_Lay.l2
      rw [if_neg (by omega), if_pos (by omega), if_pos (by omega), if_pos h1, hj4, hdrop]
      simp [errS, h1]
    by_cases h2 : (rd_T56 l1 i).f1 > 64
    · refine ⟨2, ?_⟩
      unfold fuglemanref19_Lay.l2
      rw [if_neg (by omega), if_pos (by omega), if_pos (by omega), if_neg h1, if_pos h2, hj4, hdrop]
      simp [errS, h1, h2]
    by_cases h3 : b.f2 < 0
    · refine ⟨2, ?_⟩
      unfold fuglemanref19_Lay.l2
      rw [if_neg (by omega), if_pos (by omega), if_pos (by omega), if_neg h1, if_neg h2, if_pos h3, hj4, hdrop]
      simp [errS, h1, h2, h3]
    have hw : wrap64 (64 - (rd_T56 l1 i).f1) = 64 - (rd_T56 l1 i).f1 := by rw [IntWalk.wrap64_in _ (by omega)]
    by_cases h4 : b.f2 > 64 - (rd_T56 l1 i).f1
    · refine ⟨2, ?_⟩
      unfold fuglemanref19_Lay.l2
      rw [if_neg (by omega), if_pos (by omega), if_pos (by omega), if_neg h1, if_neg h2, if_neg h3, hj4, hdrop, hw, decide_eq_true h4]
      simp [errS, h1, h2, h3, h4]
    obtain ⟨a, ha⟩ : ∃ a : Nat, (rd_T56 l1 i).f1 = (a : Int) := ⟨(rd_T56 l1 i).f1.toNat, by omega⟩
    obtain ⟨n, hn⟩ : ∃ n : Nat, b.f2 = (n : Int) := ⟨b.f2.toNat, by omega⟩
    obtain ⟨K, hK⟩ := ref_l3 l1 l2 over hl1 i hi v a n (by omega) b hn r (hr a n ha hn (by omega)) n 0 u (by omega) (by rw [mask_nil]; exact hu)
    refine ⟨K + 2, ?_⟩
    unfold fuglemanref19_Lay.l2
    rw [if_neg (by omega), if_pos (by omega), if_pos (by omega), if_neg h1, if_neg h2, if_neg h3, hj4, hdrop, hw, decide_eq_false h4]
    have he : errS (rd_T56 l1 i) [] (b, true) = 0 := by simp [errS, h1, h2, h3, h4]
    rw [if_neg (by simp), if_neg (by simp), if_pos he, ha, hn]
    rw [hn] at hK
    simpa using hK
  | e + 1, j, h => by
    obtain ⟨K, hK⟩ := ref_l2 i hi u v hu b r hr e (j + 1) (by omega)
    refine ⟨K + 1, ?_⟩
    unfold fuglemanref19_Lay.l2
    rw [if_pos (by omega), if_pos (by omega), if_pos (by omega), if_pos (by omega), if_pos (by omega), any_from _ l1 i j (by omega) (by omega), rd56 (show j < l1.length by omega)]
    by_cases hq : (l1[j]'(by omega)).f0 = (rd_T56 l1 i).f0
    · rw [if_pos hq]; simp [hq]
    · rw [if_neg hq, wrapS (by omega), hK]; simp [hq]
include hl2
theorem ref_l1 : ∀ (d i : Nat) (u : List Bool) (v : BitVec 64), i + d = l1.length → Rel over u v → ∃ K, fuglemanref19_Lay.l1 K l1 l2 over u (i : Int) = some (layS l1 l2 over d i v)
  | 0, i, u, v, h, hu => ⟨1, by
    unfold fuglemanref19_Lay.l1 layS
    rw [if_neg (by omega)]⟩
  | d + 1, i, u, v, h, hu => by
    have hi : i < l1.length := by omega
    have hf := ref16_Find_f l2 hl2 (rd_T56 l1 i).f0
    obtain ⟨K, hK⟩ := ref_l2 l1 l2 over hl1 i hi u v hu (findB l2 (rd_T56 l1 i).f0).1 (layS l1 l2 over d (i + 1) (v ||| maskV (rd_T56 l1 i).f1.toNat (findB l2 (rd_T56 l1 i).f0).1.f2.toNat))
      (fun a n ha hn han u' hu' => by
        rw [ha, hn, Int.toNat_natCast, Int.toNat_natCast]
        exact ref_l1 d (i + 1) u' _ (by omega) hu') i 0 (by omega)
    have hK1 := more (fun k => fuglemanref19_Lay.mono_l k |>.2.2.2.1 _ _ _ _ _ _ _ _ _ _) hK (Nat.le_max_left K (l2.length + 1))
    have hf1 := more (fun k => fuglemanref16_Find.mono _ _ k) hf (Nat.le_max_right K (l2.length + 1))
    refine ⟨max K (l2.length + 1) + 1, ?_⟩
    unfold fuglemanref19_Lay.l1 layS
    rw [if_pos (by omega), if_pos (by omega), hf1]
    simp only [Option.bind_some]
    rw [show ((0 : Nat) : Int) = 0 from rfl] at hK1
    cases hb : (findB l2 (rd_T56 l1 i).f0).2 with
    | false =>
      have he : errS (rd_T56 l1 i) (l1.take i) (findB l2 (rd_T56 l1 i).f0) = 5 := by simp [errS, hb]
      rw [he]
      simp
    | true =>
      rw [if_pos rfl, hK1, List.drop_zero]
      cases ha : (l1.take i).any (fun x => x.f0 == (rd_T56 l1 i).f0) with
      | true =>
        have he : errS (rd_T56 l1 i) (l1.take i) (findB l2 (rd_T56 l1 i).f0) = 14 := by simp [errS, hb, ha]
        rw [he]
        simp
      | false =>
        have he : errS (rd_T56 l1 i) (l1.take i) (findB l2 (rd_T56 l1 i).f0) = errS (rd_T56 l1 i) [] ((findB l2 (rd_T56 l1 i).f0).1, true) := by simp [errS, hb, ha]
        rw [he]
        simp
end
end Go.Proofs.Ytedmikeamgebjaa.R
