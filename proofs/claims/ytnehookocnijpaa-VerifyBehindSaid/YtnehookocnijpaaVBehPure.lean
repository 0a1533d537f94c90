/- The law VerifyBehind, as it was printed, returns true. No program here. -/
import Derived.Test.YtnehookocnijpaaQx2
import Derived.Test.YtnehookocnijpaaVPre
set_option linter.unusedVariables false
set_option linter.unusedSimpArgs false
namespace Go.Proofs.Ytnehookocnijpaa
open Go.RowKit

theorem rdQ {l : List Q.S65} {k : Nat} {x : Q.S65} (h : l[k]? = some x) : Q.rd_T65 l (k : Int) = x := by
  simp [Q.rd_T65, List.getD, h]
theorem wrapn {k : Nat} (h : k ≤ 1000) : wrap64 ((k : Int) + 1) = ((k + 1 : Nat) : Int) := by
  rw [IntWalk.wrap64_in _ (by omega)]
  omega
theorem check_f {l : List Q.S65} (h : ∀ x ∈ l, (Q.toIns x).Ok) : Q.verify_Check.f l = some ((allP (l.map Q.toIns)).1, ((allP (l.map Q.toIns)).2.1 : Int)) := by
  unfold Q.verify_Check.f
  exact checkF_some (fun i hi => by
    obtain ⟨x, hx, rfl⟩ := List.mem_map.1 hi
    exact h x hx)
/-- Which jumps of code lead too far. -/
theorem beh_l0 (e f wh : Int) (p : Nat) (hp : p ≤ 100) (y : List Q.S65) (hy : y.length ≤ 200) : ∀ (d q : Nat) (b : Bool), q + d = y.length →
    (b = false → (∀ j x, q ≤ j → y[j]? = some x → jumpsP (Q.toIns x) = true → x.f3 ≤ ((p + 1 : Nat) : Int)) → f = e ∧ wh = (p : Int)) →
    ∃ k, Q.fuglemanlaw14_VerifyBehind.l0 k e (p : Int) f wh b y (y.length : Int) (q : Int) = some true := by
  intro d
  induction d with
  | zero =>
    intro q b hq H
    refine ⟨1, ?_⟩
    simp only [Q.fuglemanlaw14_VerifyBehind.l0]
    rw [if_neg (by omega)]
    cases b
    · obtain ⟨rfl, rfl⟩ := H rfl (fun j x hj hx => by
        have := (List.getElem?_eq_some_iff.1 hx).1
        omega)
      simp
    · simp
  | succ d ih =>
    intro q b hq H
    obtain ⟨x, hx⟩ : ∃ x, y[q]? = some x := ⟨_, List.getElem?_eq_getElem (by omega)⟩
    have step : ∀ b', (b' = false → b = false ∧ (jumpsP (Q.toIns x) = true → x.f3 ≤ ((p + 1 : Nat) : Int))) → ∃ k, Q.fuglemanlaw14_VerifyBehind.l0 k e (p : Int) f wh b' y (y.length : Int) ((q + 1 : Nat) : Int) = some true := by
      intro b' hb'
      refine ih (q + 1) b' (by omega) (fun h1 h2 => ?_)
      obtain ⟨h3, h4⟩ := hb' h1
      refine H h3 (fun j z hj hz => ?_)
      rcases Nat.lt_or_ge q j with h | h
      · exact h2 j z h hz
      · obtain rfl : j = q := by omega
        rw [hx] at hz
        injection hz with hz
        subst hz
        exact h4
    cases hb : b
    · have w1 : wrap64 ((p : Int) + 1) = ((p + 1 : Nat) : Int) := wrapn (by omega)
      by_cases h25 : x.f0 ≥ 25
      · by_cases h27 : x.f0 ≤ 27
        · have hj : jumpsP (Q.toIns x) = true := decide_eq_true (show 25 ≤ x.f0 ∧ x.f0 ≤ 27 by omega)
          obtain ⟨k, hk⟩ := step (decide (x.f3 > ((p + 1 : Nat) : Int))) (fun h => ⟨hb, fun _ => by simpa using h⟩)
          refine ⟨k + 1, ?_⟩
          simp only [Q.fuglemanlaw14_VerifyBehind.l0]
          rw [if_pos (by omega), if_pos (by omega), if_pos (by omega), if_neg (by simp), rdQ hx, if_pos h25, if_pos h27, w1, wrapn (k := q) (by omega)]
          exact hk
        · have hj : jumpsP (Q.toIns x) = false := decide_eq_false (show ¬ (25 ≤ x.f0 ∧ x.f0 ≤ 27) by omega)
          obtain ⟨k, hk⟩ := step false (fun h => ⟨hb, fun h => by rw [hj] at h; cases h⟩)
          refine ⟨k + 1, ?_⟩
          simp only [Q.fuglemanlaw14_VerifyBehind.l0]
          rw [if_pos (by omega), if_pos (by omega), if_pos (by omega), if_neg (by simp), rdQ hx, if_pos h25, if_neg h27, wrapn (by omega)]
          exact hk
      · have hj : jumpsP (Q.toIns x) = false := decide_eq_false (show ¬ (25 ≤ x.f0 ∧ x.f0 ≤ 27) by omega)
        obtain ⟨k, hk⟩ := step false (fun h => ⟨hb, fun h => by rw [hj] at h; cases h⟩)
        refine ⟨k + 1, ?_⟩
        simp only [Q.fuglemanlaw14_VerifyBehind.l0]
        rw [if_pos (by omega), if_pos (by omega), if_pos (by omega), if_neg (by simp), rdQ hx, if_neg h25, wrapn (by omega)]
        exact hk
    · obtain ⟨k, hk⟩ := step true (fun h => by cases h)
      refine ⟨k + 1, ?_⟩
      simp only [Q.fuglemanlaw14_VerifyBehind.l0]
      rw [if_pos (by omega), if_pos (by omega), if_pos (by omega), if_pos trivial, wrapn (by omega)]
      exact hk
theorem beh_l2 (l0 l1 : List Q.S65) (hl : l0.length ≤ 100) (hl1 : l1.length ≤ 90) (r : Int) (hc : Q.verify_Check.f ((l0 ++ [(⟨28, 0, 0, 0, 0⟩ : Q.S65)]) ++ l1) = some (0, r)) : ∀ (d q : Nat), q + d = l0.length →
    ∃ k, Q.fuglemanlaw14_VerifyBehind.l2 k l0 l1 l0 (l0.length : Int) (q : Int) = some true := by
  intro d
  induction d with
  | zero =>
    intro q hq
    refine ⟨1, ?_⟩
    simp only [Q.fuglemanlaw14_VerifyBehind.l2]
    rw [if_neg (by omega)]
    simp only [Option.bind_some, List.length_nil, List.nil_append, List.length_append, List.length_singleton]
    rw [if_pos (by omega)]
    rw [if_pos (by omega), if_pos (by omega), hc]
    rfl
  | succ d ih =>
    intro q hq
    obtain ⟨x, hx⟩ : ∃ x, l0[q]? = some x := ⟨_, List.getElem?_eq_getElem (by omega)⟩
    obtain ⟨k, hk⟩ := ih (q + 1) (by omega)
    refine ⟨k + 1, ?_⟩
    simp only [Q.fuglemanlaw14_VerifyBehind.l2]
    rw [if_pos (by omega), if_pos (by omega), if_pos (by omega), rdQ hx, wrapn (by omega), hk]
    split
    · split
      · split <;> rfl
      · rfl
    · rfl
theorem beh_l1 (l0 l1 : List Q.S65) (hl : l0.length ≤ 100) (hl1 : l1.length ≤ 90) (hok : ∀ x ∈ l1, (Q.toIns x).Ok)
    (H : (∀ x ∈ l1, rightP (Q.toIns x) = true) → ∃ k, Q.fuglemanlaw14_VerifyBehind.l2 k l0 l1 l0 (l0.length : Int) (0 : Int) = some true) : ∀ (d q : Nat), q + d = l1.length → (∀ x ∈ l1.take q, rightP (Q.toIns x) = true) →
    ∃ k, Q.fuglemanlaw14_VerifyBehind.l1 k l0 l1 l1 (l1.length : Int) (q : Int) = some true := by
  intro d
  induction d with
  | zero =>
    intro q hq hr
    obtain ⟨k, hk⟩ := H (by rw [List.take_of_length_le (by omega)] at hr; exact hr)
    refine ⟨k + 1, ?_⟩
    simp only [Q.fuglemanlaw14_VerifyBehind.l1]
    rw [if_neg (by omega)]
    exact hk
  | succ d ih =>
    intro q hq hr
    obtain ⟨x, hx⟩ : ∃ x, l1[q]? = some x := ⟨_, List.getElem?_eq_getElem (by omega)⟩
    have hR : Q.fuglemanref12_Right.f x.f0 x.f1 x.f2 x.f3 x.f4 = some (rightP (Q.toIns x)) := rightF_some (hok x (List.mem_of_getElem? hx))
    cases hx2 : rightP (Q.toIns x)
    · refine ⟨1, ?_⟩
      simp only [Q.fuglemanlaw14_VerifyBehind.l1]
      rw [if_pos (by omega), if_pos (by omega), if_pos (by omega), rdQ hx, hR]
      simp [hx2]
    · obtain ⟨k, hk⟩ := ih (q + 1) (by omega) (fun z hz => by
        rw [List.take_add_one, hx] at hz
        simp only [Option.toList_some, List.mem_append, List.mem_singleton] at hz
        rcases hz with hz | rfl
        · exact hr z hz
        · exact hx2)
      refine ⟨k + 1, ?_⟩
      simp only [Q.fuglemanlaw14_VerifyBehind.l1]
      rw [if_pos (by omega), if_pos (by omega), if_pos (by omega), rdQ hx, hR]
      simp only [Option.bind_some]
      rw [hx2, if_pos rfl, wrapn (by omega)]
      exact hk
theorem behind_f (l0 l1 : List Q.S65) (h0 : ∀ x ∈ l0, (Q.toIns x).Ok) (h1 : ∀ x ∈ l1, (Q.toIns x).Ok) : ∃ k, Q.fuglemanlaw14_VerifyBehind.f k l0 l1 = some true := by
  have done : ∀ k, Q.fuglemanlaw14_VerifyBehind.j0 (k + 1) l0 l1 true = some true := fun k => by simp [Q.fuglemanlaw14_VerifyBehind.j0]
  by_cases hl : 100 < l0.length
  · refine ⟨1, ?_⟩
    unfold Q.fuglemanlaw14_VerifyBehind.f Q.fuglemanlaw14_awake.f
    simp only [Option.bind_some]
    rw [if_pos trivial, if_pos (by omega)]
    exact done 0
  by_cases hm : 90 < l1.length
  · refine ⟨1, ?_⟩
    unfold Q.fuglemanlaw14_VerifyBehind.f Q.fuglemanlaw14_awake.f
    simp only [Option.bind_some]
    rw [if_pos trivial, if_neg (by omega), show decide ((l1.length : Int) > 90) = true by simp; omega]
    exact done 0
  have start : (∃ k, Q.fuglemanlaw14_VerifyBehind.j0 k l0 l1 false = some true) → ∃ k, Q.fuglemanlaw14_VerifyBehind.f k l0 l1 = some true := by
    rintro ⟨k, hk⟩
    refine ⟨k, ?_⟩
    unfold Q.fuglemanlaw14_VerifyBehind.f Q.fuglemanlaw14_awake.f
    simp only [Option.bind_some]
    rw [if_pos trivial, if_neg (by omega), show decide ((l1.length : Int) > 90) = false by simp; omega]
    exact hk
  apply start
  clear start done
  have hc := check_f h0
  by_cases he : (allP (l0.map Q.toIns)).1 = 0
  · -- it may run
    have hrest : ∃ k, Q.fuglemanlaw14_VerifyBehind.l1 k l0 l1 l1 (l1.length : Int) (0 : Int) = some true := by
      refine beh_l1 l0 l1 (by omega) (by omega) h1 (fun hr => ?_) l1.length 0 (by omega) (by simp)
      have hall : Q.verify_Check.f ((l0 ++ [(⟨28, 0, 0, 0, 0⟩ : Q.S65)]) ++ l1) = some (0, ((allP ((l0 ++ [(⟨28, 0, 0, 0, 0⟩ : Q.S65)] ++ l1).map Q.toIns)).2.1 : Int)) := by
        rw [check_f (fun x hx => by
          simp only [List.mem_append, List.mem_singleton] at hx
          rcases hx with (hx | rfl) | hx
          · exact h0 x hx
          · show (⟨28, 0, 0, 0, 0⟩ : Ins).Ok
            exact small_ok (by omega)
          · exact h1 x hx)]
        have e := allP_more (l := l0.map Q.toIns) (more := l1.map Q.toIns) (by simp; omega) he (fun i hi => by
          obtain ⟨x, hx, rfl⟩ := List.mem_map.1 hi
          exact hr x hx)
        have e2 : (l0 ++ [(⟨28, 0, 0, 0, 0⟩ : Q.S65)] ++ l1).map Q.toIns = l0.map Q.toIns ++ [retI] ++ l1.map Q.toIns := by simp [Q.toIns, retI]
        rw [e2, e]
      exact beh_l2 l0 l1 (by omega) (by omega) _ hall l0.length 0 (by omega)
    obtain ⟨k, hk⟩ := hrest
    refine ⟨k + 2, ?_⟩
    simp only [Q.fuglemanlaw14_VerifyBehind.j0]
    rw [if_neg (by simp), hc]
    simp only [Option.bind_some]
    rw [if_pos he]
    simp only [Q.fuglemanlaw14_VerifyBehind.j1]
    rw [if_neg (by simp), if_pos he]
    exact hk
  · have h200 : (l0.map Q.toIns).length ≤ 200 := by simp; omega
    by_cases hp : (allP (l0.map Q.toIns)).2.1 < l0.length
    · -- an error ahead of the end
      generalize hpp : (allP (l0.map Q.toIns)).2.1 = p at *
      obtain ⟨x, hx⟩ : ∃ x, l0[p]? = some x := ⟨_, List.getElem?_eq_getElem hp⟩
      have hfin : (jumpsP (Q.toIns x) = false) → ∃ k, Q.fuglemanlaw14_VerifyBehind.j2 k l0 (allP (l0.map Q.toIns)).1 (p : Int) false = some true := by
        intro hj
        have hct : Q.verify_Check.f (l0.take (p + 1)) = some ((allP ((l0.take (p + 1)).map Q.toIns)).1, ((allP ((l0.take (p + 1)).map Q.toIns)).2.1 : Int)) := check_f (fun z hz => h0 z (List.mem_of_mem_take hz))
        obtain ⟨k, hk⟩ := beh_l0 (allP (l0.map Q.toIns)).1 (allP ((l0.take (p + 1)).map Q.toIns)).1 ((allP ((l0.take (p + 1)).map Q.toIns)).2.1 : Int) p (by omega) (l0.take p) (by simp; omega) (l0.take p).length 0 false (by omega) (fun _ H => by
          have := allP_take (l := l0.map Q.toIns) (p := p) h200 he hpp (by simpa using hp) (fun i q hi hq hji => by
            rw [List.getElem?_map] at hi
            obtain ⟨z, hz, rfl⟩ := Option.map_eq_some_iff.1 hi
            rcases Nat.lt_or_ge q p with h | h
            · exact H q z (by omega) (by rw [List.getElem?_take, if_pos h]; exact hz) hji
            · obtain rfl : q = p := by omega
              rw [hx] at hz
              injection hz with hz
              subst hz
              rw [hj] at hji
              cases hji)
          rw [← List.map_take] at this
          exact ⟨this.1, by rw [this.2]⟩)
        refine ⟨k + 1, ?_⟩
        simp only [Q.fuglemanlaw14_VerifyBehind.j2]
        rw [if_neg (by simp), wrapn (by omega), if_pos (by omega), if_pos (by omega), Int.toNat_natCast, hct]
        simp only [Option.bind_some]
        rw [if_pos (by omega), if_pos (by omega), Int.toNat_natCast]
        exact hk
      have hj1 : ∃ k, Q.fuglemanlaw14_VerifyBehind.j1 k l0 l1 (allP (l0.map Q.toIns)).1 (p : Int) true = some true := by
        have pre : ∀ (b : Bool) (k : Nat), (if x.f0 ≥ 25 then (Q.fuglemanlaw14_VerifyBehind.j2 k l0 (allP (l0.map Q.toIns)).1 (p : Int) (decide (x.f0 ≤ 27))) else (Q.fuglemanlaw14_VerifyBehind.j2 k l0 (allP (l0.map Q.toIns)).1 (p : Int) false)) = some true → Q.fuglemanlaw14_VerifyBehind.j1 (k + 1) l0 l1 (allP (l0.map Q.toIns)).1 (p : Int) true = some true := by
          intro b k h
          simp only [Q.fuglemanlaw14_VerifyBehind.j1]
          rw [if_pos trivial, if_pos (by omega), if_pos (by omega), rdQ hx]
          exact h
        by_cases h25 : x.f0 ≥ 25
        · by_cases h27 : x.f0 ≤ 27
          · refine ⟨2, pre true 1 ?_⟩
            rw [if_pos h25, show decide (x.f0 ≤ 27) = true by simpa using h27]
            simp [Q.fuglemanlaw14_VerifyBehind.j2]
          · obtain ⟨k, hk⟩ := hfin (decide_eq_false (show ¬ (25 ≤ x.f0 ∧ x.f0 ≤ 27) by omega))
            refine ⟨k + 1, pre true k ?_⟩
            rw [if_pos h25, show decide (x.f0 ≤ 27) = false by simpa using h27]
            exact hk
        · obtain ⟨k, hk⟩ := hfin (decide_eq_false (show ¬ (25 ≤ x.f0 ∧ x.f0 ≤ 27) by omega))
          refine ⟨k + 1, pre true k ?_⟩
          rw [if_neg h25]
          exact hk
      obtain ⟨k, hk⟩ := hj1
      refine ⟨k + 1, ?_⟩
      simp only [Q.fuglemanlaw14_VerifyBehind.j0]
      rw [if_neg (by simp), hc]
      simp only [Option.bind_some]
      rw [if_neg he, show decide ((p : Int) < (l0.length : Int)) = true by simp; omega]
      exact hk
    · refine ⟨2, ?_⟩
      simp only [Q.fuglemanlaw14_VerifyBehind.j0]
      rw [if_neg (by simp), hc]
      simp only [Option.bind_some]
      rw [if_neg he, show decide (((allP (l0.map Q.toIns)).2.1 : Int) < (l0.length : Int)) = false by simp; omega]
      simp only [Q.fuglemanlaw14_VerifyBehind.j1]
      rw [if_neg (by simp), if_neg he]
end Go.Proofs.Ytnehookocnijpaa
