/- config: what the printed functions answer, fourth part: Lay, a station, a cluster. No program here. -/
import Derived.Test.YtedmikeamgebjaaCPureC
set_option linter.unusedVariables false
set_option linter.unusedSimpArgs false
namespace Go.Proofs.Ytedmikeamgebjaa.R
open Go.RowKit Go.Proofs.YtedmikeamgebjaaW.PrintWords Go.Proofs.YtedmikeamgebjaaW.PrintLast Go.Proofs.YtedmikeamgebjaaW.PrintMore

def layE (local_ : Int) (l1 : List S56) (l2 : List S63) : Int × Int := if local_ < 0 ∨ local_ > 64 then (2, -1) else layS l1 l2 true l1.length 0 (maskV 0 local_.toNat)
def reachE (l1 : List S56) (l2 : List S63) : Int × Int := layS l1 l2 false l1.length 0 0
theorem image_lay_f (l1 : List S56) (l2 : List S63) (over : Bool) (hl : l1.length ≤ 1000) (v : BitVec 64) : image_lay.f (l1.length + 1) (v.toNat : Int) l1 l2 over = some (layS l1 l2 over l1.length 0 v) := by
  unfold image_lay.f
  exact image_lay_l0 l1 l2 over hl l1.length 0 v (by omega)
theorem image_Lay_f (x : Int) (l1 : List S56) (l2 : List S63) (hl : l1.length ≤ 1000) : ∃ K, image_Lay.f K x l1 l2 = some (layE x l1 l2) := by
  refine ⟨l1.length + 2, ?_⟩
  have hj : ∀ b : Bool, image_Lay.j0 (l1.length + 2) x l1 l2 b = if b = true then some (2, -1) else ((image_mask.f 0 x).bind fun t => (image_lay.f (l1.length + 1) t l1 l2 true).bind fun bt => some (bt.1, bt.2)) := fun b => by
    rw [image_Lay.j0]
  unfold image_Lay.f layE
  by_cases h1 : x < 0
  · rw [if_pos h1, if_pos (.inl h1), hj]; rfl
  rw [if_neg h1, hj]
  by_cases h2 : x > 64
  · rw [decide_eq_true h2, if_pos rfl, if_pos (.inr h2)]
  rw [decide_eq_false h2, if_neg (by simp), if_neg (by omega)]
  obtain ⟨n, rfl⟩ : ∃ n : Nat, x = (n : Int) := ⟨x.toNat, by omega⟩
  rw [show (0 : Int) = ((0 : Nat) : Int) from rfl, image_mask_f 0 n (by omega)]
  simp only [Option.bind_some, Int.toNat_natCast]
  rw [image_lay_f l1 l2 true hl]
  rfl
theorem image_Reach_f (l1 : List S56) (l2 : List S63) (hl : l1.length ≤ 1000) : ∃ K, image_Reach.f K l1 l2 = some (reachE l1 l2) := by
  refine ⟨l1.length + 1, ?_⟩
  unfold image_Reach.f reachE
  have := image_lay_f l1 l2 false hl 0
  rw [show ((0 : BitVec 64).toNat : Int) = 0 from rfl] at this
  rw [this]
  rfl

/-! the reference's Lay -/
theorem ref_l0 (x : Int) (l1 : List S56) (l2 : List S63) (over : Bool) (hl1 : l1.length ≤ 1000) (hl2 : l2.length ≤ 1000) (r : Int × Int)
    (hr : ∀ u : List Bool, u.length = 64 → (over = true → ∀ j : Nat, j < 64 → u[j]? = some (decide ((j : Int) < x))) → ∃ K, fuglemanref19_Lay.l1 K l1 l2 over u 0 = some r) :
    ∀ (e i : Nat) (u : List Bool), i + e = 64 → u.length = 64 → (over = true → ∀ j : Nat, j < i → u[j]? = some (decide ((j : Int) < x))) → ∃ K, fuglemanref19_Lay.l0 K x l1 l2 over u (i : Int) = some r
  | 0, i, u, h, hu, hb => by
    obtain ⟨K, hK⟩ := hr u hu (fun ho j hj => hb ho j (by omega))
    refine ⟨K + 1, ?_⟩
    unfold fuglemanref19_Lay.l0
    rw [if_neg (by omega), hK]
  | e + 1, i, u, h, hu, hb => by
    cases over with
    | false =>
      obtain ⟨K, hK⟩ := ref_l0 x l1 l2 false hl1 hl2 r hr e (i + 1) (u.set i false) (by omega) (by rw [List.length_set]; exact hu) (fun ho => by cases ho)
      refine ⟨K + 1, ?_⟩
      unfold fuglemanref19_Lay.l0
      rw [if_pos (by omega), if_neg (by simp), if_pos (by omega), if_pos (by rw [hu]; omega), Int.toNat_natCast, wrapS (by omega), hK]
    | true =>
      obtain ⟨K, hK⟩ := ref_l0 x l1 l2 true hl1 hl2 r hr e (i + 1) (u.set i (decide ((i : Int) < x))) (by omega) (by rw [List.length_set]; exact hu) (fun ho j hj => by
        rw [List.getElem?_set]
        by_cases e1 : i = j
        · subst e1
          rw [if_pos rfl, if_pos (by omega)]
        · rw [if_neg e1]
          exact hb ho j (by omega))
      refine ⟨K + 1, ?_⟩
      unfold fuglemanref19_Lay.l0
      rw [if_pos (by omega), if_pos rfl, if_pos (by omega), if_pos (by rw [hu]; omega), Int.toNat_natCast, wrapS (by omega), hK]
theorem ref19_f (x : Int) (l1 : List S56) (l2 : List S63) (hl1 : l1.length ≤ 1000) (hl2 : l2.length ≤ 1000) : ∃ K, fuglemanref19_Lay.f K x l1 l2 true = some (layE x l1 l2) := by
  have hj : ∀ K b, fuglemanref19_Lay.j0 (K + 1) x l1 l2 true b = if b = true then some (2, -1) else if 64 ≤ 281474976710656 then fuglemanref19_Lay.l0 K x l1 l2 true (List.replicate 64 false) 0 else none := fun K b => by
    rw [fuglemanref19_Lay.j0]
  unfold fuglemanref19_Lay.f layE
  by_cases h1 : x < 0
  · exact ⟨1, by rw [if_pos rfl, if_pos h1, if_pos (.inl h1), hj]; rfl⟩
  by_cases h2 : x > 64
  · exact ⟨1, by rw [if_pos rfl, if_neg h1, if_pos (.inr h2), hj, decide_eq_true h2]; rfl⟩
  obtain ⟨n, rfl⟩ : ∃ n : Nat, x = (n : Int) := ⟨x.toNat, by omega⟩
  obtain ⟨K, hK⟩ := ref_l0 (n : Int) l1 l2 true hl1 hl2 (layS l1 l2 true l1.length 0 (maskV 0 n)) (fun u hu hb => ref_l1 l1 l2 true hl1 hl2 l1.length 0 u (maskV 0 n) (by omega) ⟨hu, fun ho j hj => by
    rw [hb ho j hj, mask_bit, decide_eq_true hj, decide_eq_true (Nat.zero_le j)]
    by_cases h : j < n
    · rw [decide_eq_true (by omega : (j : Int) < n), decide_eq_true (by omega : j < 0 + n)]; rfl
    · rw [decide_eq_false (by omega : ¬ (j : Int) < n), decide_eq_false (by omega : ¬ j < 0 + n)]; rfl⟩) 64 0 (List.replicate 64 false) (by omega) (by rw [List.length_replicate]) (fun _ j hj => absurd hj (Nat.not_lt_zero _))
  refine ⟨K + 1, ?_⟩
  rw [if_pos rfl, if_neg h1, hj, decide_eq_false h2, if_neg (by simp), if_pos (by omega), if_neg (by omega), Int.toNat_natCast]
  exact hK
theorem ref19_reach (l1 : List S56) (l2 : List S63) (hl1 : l1.length ≤ 1000) (hl2 : l2.length ≤ 1000) : ∃ K, fuglemanref19_Lay.f K 0 l1 l2 false = some (reachE l1 l2) := by
  have hj : ∀ K b, fuglemanref19_Lay.j0 (K + 1) 0 l1 l2 false b = if b = true then some (2, -1) else if 64 ≤ 281474976710656 then fuglemanref19_Lay.l0 K 0 l1 l2 false (List.replicate 64 false) 0 else none := fun K b => by
    rw [fuglemanref19_Lay.j0]
  obtain ⟨K, hK⟩ := ref_l0 0 l1 l2 false hl1 hl2 (reachE l1 l2) (fun u hu hb => ref_l1 l1 l2 false hl1 hl2 l1.length 0 u 0 (by omega) ⟨hu, fun ho => by cases ho⟩) 64 0 (List.replicate 64 false) (by omega) (by rw [List.length_replicate]) (fun ho => by cases ho)
  refine ⟨K + 1, ?_⟩
  unfold fuglemanref19_Lay.f
  rw [if_neg (by simp), hj, if_neg (by simp), if_pos (by omega)]
  exact hK

/-! a station -/
def codeE (l : List S54) : Int := (allP (l.map toIns)).1
def codeOk (l : List S54) : Prop := (l.map toIns).all Ins.okB = true
theorem check_f (l : List S54) (h : codeOk l) : verify_Check.f l = some (codeE l, ((allP (l.map toIns)).2.1 : Int)) := by
  unfold verify_Check.f checkF codeE
  rw [if_pos (show (l.map toIns).all Ins.okB = true from h)]
theorem all_fR (l : List S54) (h : codeOk l) : ∃ a c, fuglemanref14_All.f l = some (a, codeE l, c) := by
  unfold fuglemanref14_All.f
  have e : (l.map fun x => toInsP (toP x)) = l.map toIns := rfl
  rw [e, if_pos (show (l.map toIns).all Ins.okB = true from h)]
  have : (resA (allP (l.map toIns))).2.1 = codeE l := by
    unfold resA codeE
    split
    · rfl
    · rename_i h0
      exact (Decidable.not_not.1 h0).symm
  rw [this]
  exact ⟨_, _, rfl⟩
def ownsB (l6 : List S63) (s : S37) : Bool := !s.f5.any fun x => (findB l6 x.f0).1.f1 != s.f0
def stE (top : Int) (l6 : List S63) (l7 : List S37) (i : Nat) : Int :=
  if (rd_T37 l7 i).f0 ≥ 0 ∧ (rd_T37 l7 i).f0 ≤ top ∧ (rd_T37 l7 i).f1 ≥ 1 ∧ (rd_T37 l7 i).f1 ≤ 1000 then
    if (l7.take i).any (fun x => x.f0 == (rd_T37 l7 i).f0) = true then 14
    else if (layE (rd_T37 l7 i).f2 (rd_T37 l7 i).f4 l6).1 = 0 then
      if codeE (rd_T37 l7 i).f3 = 0 then
        if (reachE (rd_T37 l7 i).f5 l6).1 = 0 then if ownsB l6 (rd_T37 l7 i) = true then 0 else 5
        else (reachE (rd_T37 l7 i).f5 l6).1
      else codeE (rd_T37 l7 i).f3
    else (layE (rd_T37 l7 i).f2 (rd_T37 l7 i).f4 l6).1
  else 3
def stOk (s : S37) : Prop := s.f4.length ≤ 1000 ∧ s.f5.length ≤ 1000 ∧ codeOk s.f3
theorem in_f (a b c : Int) : config_in.f a b c = some (decide (a ≥ b ∧ a ≤ c)) := by
  unfold config_in.f
  by_cases h : a ≥ b
  · rw [if_pos h]; simp [h]
  · rw [if_neg h]; simp [h]
theorem in_fR (a b c : Int) : fuglemanref20_in.f a b c = some (decide (a ≥ b ∧ a ≤ c)) := by
  unfold fuglemanref20_in.f
  by_cases h : a ≥ b
  · rw [if_pos h]; simp [h]
  · rw [if_neg h]; simp [h]
theorem station_f (a0 a1 a2 a3 a4 a5 : Int) (l6 : List S63) (l7 : List S37) (i : Nat) (hi : i < l7.length) (hs : stOk (rd_T37 l7 i)) :
    ∃ K, config_station.f K a0 a1 a2 a3 a4 a5 l6 l7 (i : Int) = some (stE a5 l6 l7 i) := by
  obtain ⟨K1, h1⟩ := image_Lay_f (rd_T37 l7 i).f2 (rd_T37 l7 i).f4 l6 hs.1
  obtain ⟨K2, h2⟩ := image_Reach_f (rd_T37 l7 i).f5 l6 hs.2.1
  replace h1 := more (fun k => image_Lay.mono _ _ _ k) h1 (Nat.le_max_left K1 K2)
  replace h2 := more (fun k => image_Reach.mono _ _ k) h2 (Nat.le_max_right K1 K2)
  have h3 := check_f (rd_T37 l7 i).f3 hs.2.2
  refine ⟨max K1 K2 + 1, ?_⟩
  generalize max K1 K2 = K at h1 h2
  have hiff := firstP_take (fun x : S37 => x.f0 == (rd_T37 l7 i).f0) l7 i hi (by rw [rd37 hi]; simp)
  unfold config_station.f stE
  rw [if_pos (by omega), if_pos (by omega), in_f, in_f]
  simp only [Option.bind_some]
  have hj : ∀ b : Bool, config_station.j0 (K + 1) (i : Int) b a0 a1 a2 a3 a4 a5 l6 l7 (rd_T37 l7 i).f0 (rd_T37 l7 i).f1 (rd_T37 l7 i).f2 (rd_T37 l7 i).f3 (rd_T37 l7 i).f4 (rd_T37 l7 i).f5 = some (if b = true then 3 else
      if (l7.take i).any (fun x => x.f0 == (rd_T37 l7 i).f0) = true then 14
      else if (layE (rd_T37 l7 i).f2 (rd_T37 l7 i).f4 l6).1 = 0 then
        if codeE (rd_T37 l7 i).f3 = 0 then
          if (reachE (rd_T37 l7 i).f5 l6).1 = 0 then if ownsB l6 (rd_T37 l7 i) = true then 0 else 5
          else (reachE (rd_T37 l7 i).f5 l6).1
        else codeE (rd_T37 l7 i).f3
      else (layE (rd_T37 l7 i).f2 (rd_T37 l7 i).f4 l6).1) := fun b => by
    rw [config_station.j0]
    cases b with
    | true => rfl
    | false =>
      simp only [Bool.false_eq_true, if_false]
      unfold config_place.f
      simp only [Option.bind_some]
      cases hd : (l7.take i).any (fun x => x.f0 == (rd_T37 l7 i).f0) with
      | true => rw [if_pos (hiff.2 hd)]; rfl
      | false =>
        rw [if_neg (fun hlt => by have := hiff.1 hlt; rw [hd] at this; cases this), h1, h2, h3]
        simp only [Option.bind_some, Bool.false_eq_true, if_false]
        by_cases e1 : (layE (rd_T37 l7 i).f2 (rd_T37 l7 i).f4 l6).1 = 0
        · rw [if_pos e1, if_pos e1]
          by_cases e2 : codeE (rd_T37 l7 i).f3 = 0
          · rw [if_pos e2, if_pos e2]
            by_cases e3 : (reachE (rd_T37 l7 i).f5 l6).1 = 0
            · rw [if_pos e3, if_pos e3]
              unfold config_owns.f
              simp only [Option.bind_some]
              show (if ownsB l6 (rd_T37 l7 i) = true then some 0 else some 5) = _
              cases ownsB l6 (rd_T37 l7 i) <;> rfl
            · rw [if_neg e3, if_neg e3]
          · rw [if_neg e2, if_neg e2]
        · rw [if_neg e1, if_neg e1]
  rw [hj, hj]
  by_cases c1 : (rd_T37 l7 i).f0 ≥ 0 ∧ (rd_T37 l7 i).f0 ≤ a5
  · rw [decide_eq_true c1, if_pos rfl]
    by_cases c2 : (rd_T37 l7 i).f1 ≥ 1 ∧ (rd_T37 l7 i).f1 ≤ 1000
    · rw [decide_eq_true c2, if_pos (⟨c1.1, c1.2, c2.1, c2.2⟩ : _ ∧ _ ∧ _ ∧ _)]
      rfl
    · have hc : ¬ ((rd_T37 l7 i).f0 ≥ 0 ∧ (rd_T37 l7 i).f0 ≤ a5 ∧ (rd_T37 l7 i).f1 ≥ 1 ∧ (rd_T37 l7 i).f1 ≤ 1000) := fun h => c2 ⟨h.2.2.1, h.2.2.2⟩
      rw [decide_eq_false c2, if_neg hc]
      rfl
  · have hc : ¬ ((rd_T37 l7 i).f0 ≥ 0 ∧ (rd_T37 l7 i).f0 ≤ a5 ∧ (rd_T37 l7 i).f1 ≥ 1 ∧ (rd_T37 l7 i).f1 ≤ 1000) := fun h => c1 ⟨h.1, h.2.1⟩
    rw [decide_eq_false c1, if_neg hc]
    rfl
end Go.Proofs.Ytedmikeamgebjaa.R
