/- What stands behind the first error plays no part; a program that may run may run with a RET and more behind it. No program here. -/
import Derived.Test.YtnehookocnijpaaVSpec
set_option linter.unusedVariables false
set_option linter.unusedSimpArgs false
namespace Go.Proofs.Ytnehookocnijpaa
open Go.RowKit

theorem take_get {α : Type} {t : List α} {m q : Nat} (h : q < m) : (t.take m)[q]? = t[q]? := by rw [List.getElem?_take, if_pos h]
theorem leadT_take {t : Tab} {m q : Nat} (h : q < m) (b : Ah) : leadT (t.take m) q b = (leadT t q b).take m := by
  unfold leadT
  rw [take_get h]
  rcases hx : t[q]? with _ | _ | a <;> simp only [List.take_set]
theorem leadB_take {t : Tab} {m q : Nat} (h : q < m) (b : Ah) : leadB (t.take m) q b = leadB t q b := by
  unfold leadB
  rw [take_get h]
def stepS (n : Nat) (t : Tab) (k : Nat) (i : Ins) (a : Ah) : Int × Tab :=
    if jumpsP i && (decide (i.at_ ≤ k) || decide ((n : Int) < i.at_)) then (7, t) else
    if errP a i ≠ 0 then (errP a i, t) else
    if onP i && !leadB t (k + 1) (nextP a i) then (7, t) else
    if jumpsP i && !leadB (if onP i then leadT t (k + 1) (nextP a i) else t) i.at_.toNat (nextP a i) then (7, t) else
    (0, if jumpsP i then leadT (if onP i then leadT t (k + 1) (nextP a i) else t) i.at_.toNat (nextP a i) else (if onP i then leadT t (k + 1) (nextP a i) else t))
theorem stepP_some {n : Nat} {t : Tab} {k : Nat} {i : Ins} {a : Ah} (hr : rightP i = true) (h : t[k]? = some (some a)) : stepP n t k i = stepS n t k i a := by
  unfold stepP
  rw [if_neg (by simp [hr])]
  simp only [h]
  rfl
theorem stepP_none {n : Nat} {t : Tab} {k : Nat} {i : Ins} (hr : rightP i = true) (h : ∀ a, t[k]? ≠ some (some a)) : stepP n t k i = (0, t) := by
  unfold stepP
  rw [if_neg (by simp [hr])]
  rcases hx : t[k]? with _ | _ | a
  · rfl
  · rfl
  · exact absurd hx (h a)
theorem stepP_form {n : Nat} {t : Tab} {k : Nat} {i : Ins} (hr : rightP i = false) : stepP n t k i = (3, t) := by
  unfold stepP
  rw [if_pos hr]
theorem step_take {n m k : Nat} {t : Tab} {i : Ins} (hk : k < m) (hm : m ≤ n) (hj : jumpsP i = true → i.at_ ≤ m) :
    stepP m (t.take (m + 1)) k i = ((stepP n t k i).1, (stepP n t k i).2.take (m + 1)) := by
  cases hr : rightP i
  · rw [stepP_form hr, stepP_form hr]
  rcases hx : t[k]? with _ | _ | a
  · rw [stepP_none hr (by rw [take_get (by omega), hx]; simp), stepP_none hr (by rw [hx]; simp)]
  · rw [stepP_none hr (by rw [take_get (by omega), hx]; simp), stepP_none hr (by rw [hx]; simp)]
  · rw [stepP_some hr (show (t.take (m + 1))[k]? = some (some a) by rw [take_get (by omega), hx]), stepP_some hr hx]
    unfold stepS
    have ej : (jumpsP i && (decide (i.at_ ≤ k) || decide ((m : Int) < i.at_))) = (jumpsP i && (decide (i.at_ ≤ k) || decide ((n : Int) < i.at_))) := by
      cases hJ : jumpsP i
      · rfl
      · have := hj hJ
        have e1 : decide ((m : Int) < i.at_) = false := by simp; omega
        have e2 : decide ((n : Int) < i.at_) = false := by simp; omega
        rw [e1, e2]
    rw [ej]
    by_cases h1 : (jumpsP i && (decide (i.at_ ≤ k) || decide ((n : Int) < i.at_))) = true
    · rw [if_pos h1, if_pos h1]
    rw [if_neg h1, if_neg h1]
    by_cases h2 : errP a i ≠ 0
    · rw [if_pos h2, if_pos h2]
    rw [if_neg h2, if_neg h2]
    have e3 : leadB (t.take (m + 1)) (k + 1) (nextP a i) = leadB t (k + 1) (nextP a i) := leadB_take (by omega) _
    have e4 : leadT (t.take (m + 1)) (k + 1) (nextP a i) = (leadT t (k + 1) (nextP a i)).take (m + 1) := leadT_take (by omega) _
    rw [e3, e4]
    by_cases h3 : (onP i && !leadB t (k + 1) (nextP a i)) = true
    · rw [if_pos h3, if_pos h3]
    rw [if_neg h3, if_neg h3]
    have e5 : (if onP i = true then (leadT t (k + 1) (nextP a i)).take (m + 1) else t.take (m + 1)) = (if onP i = true then leadT t (k + 1) (nextP a i) else t).take (m + 1) := by split <;> rfl
    rw [e5]
    generalize (if onP i = true then leadT t (k + 1) (nextP a i) else t) = t1
    cases hJ : jumpsP i
    · simp
    · have hq : i.at_.toNat < m + 1 := by have := hj hJ; omega
      rw [leadB_take hq, leadT_take hq]
      by_cases h4 : (true && !leadB t1 i.at_.toNat (nextP a i)) = true
      · rw [if_pos h4, if_pos h4]
      · rw [if_neg h4, if_neg h4]
        rfl
theorem goP_at_ge {n : Nat} : ∀ (l : List Ins) (k : Nat) (t : Tab), k + l.length = n → (goP n l k t).1 ≠ 0 → k ≤ (goP n l k t).2.1
  | [], k, t, hk, h => by
    unfold goP at h ⊢
    split at h
    · rename_i a ha
      split at h
      · rename_i h2
        simp only [ha, if_pos h2]
        simp at hk
        omega
      · simp at h
    · simp at h
  | i :: is, k, t, hk, h => by
    unfold goP at h ⊢
    by_cases h1 : (stepP n t k i).1 ≠ 0
    · rw [if_pos h1]; exact Nat.le_refl _
    · rw [if_neg h1] at h ⊢
      have := goP_at_ge is (k + 1) _ (by simp at hk; omega) h
      omega
theorem drop_cons {α : Type} {l : List α} {k : Nat} {x : α} (h : l[k]? = some x) : l.drop k = x :: l.drop (k + 1) := by
  obtain ⟨hk, e⟩ := List.getElem?_eq_some_iff.1 h
  rw [List.drop_eq_getElem_cons hk, e]
/-- The first error is that of the program that ends with it. -/
theorem goP_take {l : List Ins} {e : Int} {p : Nat} (he : e ≠ 0) (hp : p < l.length)
    (hj : ∀ i q, l[q]? = some i → q ≤ p → jumpsP i = true → i.at_ ≤ ((p + 1 : Nat) : Int)) : ∀ (d k : Nat) (t : Tab), k + d = p → (goP l.length (l.drop k) k t).1 = e → (goP l.length (l.drop k) k t).2.1 = p →
    (goP (p + 1) ((l.take (p + 1)).drop k) k (t.take (p + 1 + 1))).1 = e ∧ (goP (p + 1) ((l.take (p + 1)).drop k) k (t.take (p + 1 + 1))).2.1 = p := by
  intro d
  induction d with
  | zero =>
    intro k t hk h1 h2
    obtain rfl : k = p := by omega
    obtain ⟨i, hi⟩ : ∃ i, l[k]? = some i := ⟨_, List.getElem?_eq_getElem hp⟩
    have hi2 : (l.take (k + 1))[k]? = some i := by rw [take_get (by omega)]; exact hi
    rw [drop_cons hi] at h1 h2
    rw [drop_cons hi2]
    have hs := step_take (n := l.length) (t := t) (i := i) (m := k + 1) (k := k) (by omega) (by omega) (fun h => hj i k hi (by omega) h)
    unfold goP at h1 h2 ⊢
    rw [hs]
    by_cases h3 : (stepP l.length t k i).1 ≠ 0
    · rw [if_pos h3] at h1 h2
      simp only
      rw [if_pos h3]
      exact ⟨h1, rfl⟩
    · rw [if_neg h3] at h1 h2
      exfalso
      have := goP_at_ge (n := l.length) (l.drop (k + 1)) (k + 1) _ (by simp; omega) (by rw [h1]; exact he)
      omega
  | succ d ih =>
    intro k t hk h1 h2
    obtain ⟨i, hi⟩ : ∃ i, l[k]? = some i := ⟨_, List.getElem?_eq_getElem (by omega)⟩
    have hi2 : (l.take (p + 1))[k]? = some i := by rw [take_get (by omega)]; exact hi
    rw [drop_cons hi] at h1 h2
    rw [drop_cons hi2]
    have hs := step_take (n := l.length) (t := t) (i := i) (m := p + 1) (k := k) (by omega) (by omega) (fun h => hj i k hi (by omega) h)
    unfold goP at h1 h2 ⊢
    rw [hs]
    by_cases h3 : (stepP l.length t k i).1 ≠ 0
    · rw [if_pos h3] at h1 h2
      simp only at h2
      omega
    · rw [if_neg h3] at h1 h2
      simp only
      rw [if_neg h3]
      exact ih (k + 1) _ (by omega) h1 h2
theorem startT_take {n m : Nat} (h : m ≤ n) : (startT n).take (m + 1) = startT m := by
  unfold startT
  rw [List.take_set, List.take_replicate, Nat.min_eq_left (by omega)]
theorem allP_take {l : List Ins} {p : Nat} (hl : l.length ≤ 200) (he : (allP l).1 ≠ 0) (hat : (allP l).2.1 = p) (hp : p < l.length)
    (hj : ∀ i q, l[q]? = some i → q ≤ p → jumpsP i = true → i.at_ ≤ ((p + 1 : Nat) : Int)) : (allP (l.take (p + 1))).1 = (allP l).1 ∧ (allP (l.take (p + 1))).2.1 = p := by
  have h200 : ¬ (200 < l.length) := by omega
  have hlt : (l.take (p + 1)).length = p + 1 := by rw [List.length_take]; omega
  unfold allP at he hat ⊢
  rw [if_neg h200] at he hat ⊢
  rw [hlt, if_neg (by omega)]
  have := goP_take he hp hj p 0 (startT l.length) (by omega) (by rw [List.drop_zero]) (by rw [List.drop_zero]; exact hat)
  rw [List.drop_zero, startT_take (by omega)] at this
  exact this

/-! ### More behind -/
theorem leadT_app {t u : Tab} {q : Nat} (h : q < t.length) (b : Ah) : leadT (t ++ u) q b = leadT t q b ++ u := by
  unfold leadT
  rw [List.getElem?_append_left h]
  rcases hx : t[q]? with _ | _ | a <;> simp only [List.set_append_left _ _ h]
theorem leadB_app {t u : Tab} {q : Nat} (h : q < t.length) (b : Ah) : leadB (t ++ u) q b = leadB t q b := by
  unfold leadB
  rw [List.getElem?_append_left h]
theorem leadT_len (t : Tab) (q : Nat) (b : Ah) : (leadT t q b).length = t.length := by
  unfold leadT
  split <;> simp
theorem step_app {n N k : Nat} {t u : Tab} {i : Ins} (hk : k < n) (hN : n ≤ N) (ht : t.length = n + 1) (h0 : (stepP n t k i).1 = 0) :
    stepP N (t ++ u) k i = (0, (stepP n t k i).2 ++ u) ∧ (stepP n t k i).2.length = n + 1 := by
  cases hr : rightP i
  · rw [stepP_form hr] at h0; simp at h0
  have ea : (t ++ u)[k]? = t[k]? := List.getElem?_append_left (by omega)
  rcases hx : t[k]? with _ | _ | a
  · rw [stepP_none hr (by rw [ea, hx]; simp), stepP_none hr (by rw [hx]; simp)]; exact ⟨rfl, ht⟩
  · rw [stepP_none hr (by rw [ea, hx]; simp), stepP_none hr (by rw [hx]; simp)]; exact ⟨rfl, ht⟩
  · rw [stepP_some hr hx] at h0
    rw [stepP_some hr (ea.trans hx), stepP_some hr hx]
    unfold stepS at h0 ⊢
    by_cases h1 : (jumpsP i && (decide (i.at_ ≤ k) || decide ((n : Int) < i.at_))) = true
    · rw [if_pos h1] at h0; simp at h0
    rw [if_neg h1] at h0 ⊢
    have h1' : ¬ ((jumpsP i && (decide (i.at_ ≤ k) || decide ((N : Int) < i.at_))) = true) := by
      intro h
      apply h1
      simp only [Bool.and_eq_true, Bool.or_eq_true, decide_eq_true_eq] at h ⊢
      exact ⟨h.1, by omega⟩
    rw [if_neg h1']
    by_cases h2 : errP a i ≠ 0
    · rw [if_pos h2] at h0; exact absurd h0 h2
    rw [if_neg h2] at h0 ⊢
    rw [if_neg h2]
    have hk1 : k + 1 < t.length := by omega
    rw [leadB_app hk1, leadT_app hk1]
    by_cases h3 : (onP i && !leadB t (k + 1) (nextP a i)) = true
    · rw [if_pos h3] at h0; simp at h0
    rw [if_neg h3] at h0 ⊢
    rw [if_neg h3]
    have e5 : (if onP i = true then leadT t (k + 1) (nextP a i) ++ u else t ++ u) = (if onP i = true then leadT t (k + 1) (nextP a i) else t) ++ u := by split <;> rfl
    rw [e5]
    have hl1 : (if onP i = true then leadT t (k + 1) (nextP a i) else t).length = n + 1 := by split <;> simp [leadT_len, ht]
    generalize (if onP i = true then leadT t (k + 1) (nextP a i) else t) = t1 at *
    cases hJ : jumpsP i
    · simp [hl1]
    · rw [hJ] at h0 h1
      have hq : i.at_.toNat < t1.length := by
        simp only [Bool.true_and, Bool.or_eq_true, decide_eq_true_eq] at h1
        omega
      rw [leadB_app hq, leadT_app hq]
      by_cases h4 : (true && !leadB t1 i.at_.toNat (nextP a i)) = true
      · rw [if_pos h4] at h0; simp at h0
      · rw [if_neg h4, if_neg h4]
        simp [leadT_len, hl1]
theorem goP_app {n N : Nat} (hN : n ≤ N) (rest : List Ins) (u : Tab) : ∀ (l : List Ins) (k : Nat) (t : Tab), k + l.length = n → t.length = n + 1 → (goP n l k t).1 = 0 →
    ∃ t', t'.length = n + 1 ∧ goP N (l ++ rest) k (t ++ u) = goP N rest n (t' ++ u) ∧ (t'[n]? = some none ∨ ∃ a, t'[n]? = some (some a) ∧ a.opn = [])
  | [], k, t, hk, ht, h => by
    obtain rfl : k = n := by simpa using hk
    refine ⟨t, ht, rfl, ?_⟩
    unfold goP at h
    obtain ⟨x, hx⟩ : ∃ x, t[k]? = some x := ⟨_, List.getElem?_eq_getElem (by omega)⟩
    rw [hx] at h ⊢
    cases x with
    | none => exact .inl rfl
    | some a =>
      refine .inr ⟨a, rfl, ?_⟩
      simp only at h
      by_cases h1 : a.opn = []
      · exact h1
      · rw [if_pos h1] at h; simp at h
  | i :: is, k, t, hk, ht, h => by
    unfold goP at h
    by_cases h1 : (stepP n t k i).1 ≠ 0
    · rw [if_pos h1] at h; exact absurd h h1
    · rw [if_neg h1] at h
      have h0 : (stepP n t k i).1 = 0 := by simpa using h1
      obtain ⟨e1, e2⟩ := step_app (u := u) (i := i) (k := k) (by simp at hk; omega) hN ht h0
      obtain ⟨t', h2, h3, h4⟩ := goP_app hN rest u is (k + 1) (stepP n t k i).2 (by simp at hk; omega) e2 h
      refine ⟨t', h2, ?_, h4⟩
      rw [← h3]
      simp only [List.cons_append]
      rw [goP, e1, if_neg (by simp)]
theorem goP_idle {N : Nat} : ∀ (l : List Ins) (k : Nat) (T : Tab), k + l.length = N → (∀ i ∈ l, rightP i = true) → (∀ j, k ≤ j → j ≤ N → T[j]? = some none) → (goP N l k T).1 = 0
  | [], k, T, hk, hr, hT => by
    have := hT N (by simp at hk; omega) (Nat.le_refl _)
    unfold goP
    rw [this]
  | i :: is, k, T, hk, hr, hT => by
    have hs : stepP N T k i = (0, T) := stepP_none (hr i (by simp)) (by rw [hT k (Nat.le_refl _) (by simp at hk; omega)]; simp)
    unfold goP
    rw [hs, if_neg (by simp)]
    exact goP_idle is (k + 1) T (by simp at hk; omega) (fun j hj => hr j (by simp [hj])) (fun j h1 h2 => hT j (by omega) h2)
def retI : Ins := ⟨28, 0, 0, 0, 0⟩
theorem allP_more {l more : List Ins} (hlen : l.length + 1 + more.length ≤ 200) (h0 : (allP l).1 = 0) (hr : ∀ i ∈ more, rightP i = true) : (allP (l ++ [retI] ++ more)).1 = 0 := by
  have h200 : ¬ (200 < l.length) := by omega
  have hL : (l ++ [retI] ++ more).length = l.length + (1 + more.length) := by simp; omega
  unfold allP at h0 ⊢
  rw [if_neg h200] at h0
  rw [hL, if_neg (by omega)]
  have hst : startT (l.length + (1 + more.length)) = startT l.length ++ List.replicate (1 + more.length) none := by
    unfold startT
    rw [← List.set_append_left _ _ (by simp)]
    congr 1
    rw [List.replicate_append_replicate]
    congr 1
    omega
  rw [hst, List.append_assoc]
  obtain ⟨t', h1, h2, h3⟩ := goP_app (N := l.length + (1 + more.length)) (by omega) ([retI] ++ more) (List.replicate (1 + more.length) none) l 0 (startT l.length) (by omega) (by simp [startT]) h0
  rw [h2]
  have hn : ∀ j, l.length + 1 ≤ j → j ≤ l.length + (1 + more.length) → (t' ++ List.replicate (1 + more.length) none)[j]? = some none := by
    intro j a1 a2
    rw [List.getElem?_append_right (by omega), List.getElem?_replicate, if_pos (by omega)]
  have hs : stepP (l.length + (1 + more.length)) (t' ++ List.replicate (1 + more.length) none) l.length retI = (0, t' ++ List.replicate (1 + more.length) none) := by
    have ea : (t' ++ List.replicate (1 + more.length) none)[l.length]? = t'[l.length]? := List.getElem?_append_left (by omega)
    rcases h3 with h3 | ⟨a, h3, h4⟩
    · exact stepP_none (by decide) (by rw [ea, h3]; simp)
    · rw [stepP_some (by decide) (ea.trans h3)]
      have e1 : errP a retI = 0 := by simp [errP, retI, retE, h4]
      have e2 : jumpsP retI = false := by decide
      have e3 : onP retI = false := by decide
      simp [stepS, e1, e2, e3]
  rw [List.singleton_append, goP, hs, if_neg (by simp)]
  exact goP_idle more _ _ (by omega) hr hn
end Go.Proofs.Ytnehookocnijpaa
