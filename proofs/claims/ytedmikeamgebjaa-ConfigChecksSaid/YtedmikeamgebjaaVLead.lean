/- verify: one more leads to an instruction. -/
import Derived.Test.YtedmikeamgebjaaVBehA
import Derived.Laws.StructEq
set_option linter.unusedVariables false
set_option linter.unusedSimpArgs false
namespace Go.Proofs.Ytedmikeamgebjaa
open Go.RowKit

theorem eqB (a b c d : Int) (w : World) : (Op.equalIn 10000 122 (.agg #[.int .i64 a, .int .i64 b]) (.agg #[.int .i64 c, .int .i64 d])).run Try.prog w = .ok (a == c && b == d) w := by
  have hS : Try.prog.underlying 122 = some (.struct (Try.prog.fieldsOf 122)) := by kernel_rfl
  have hp : Try.prog.stoodInHeld 122 = false := by kernel_rfl
  have u3 := Try.underlying3
  have a3 := Try.isAgg3
  have z3 := Try.sizeOf3
  rw [show (10000 : Nat) = 9999 + 1 from rfl, run_equalIn_agg w 9999 122 _ _ hS hp]
  simp only [Program.fieldsOf, Try.underlying122]
  go_simp
  by_cases h1 : a = c <;> by_cases h2 : b = d <;> simp [h1, h2]
theorem eqG : Try.prog.eqGuardType Try.prog.depth 122 = false := by kernel_rfl

set_option maxRecDepth 100000 in
set_option maxHeartbeats 800000 in
theorem v_jumps (i : Ins) (w : World) : Calls Try.prog 61 #[i.v] w fun e w' => e = .returned (.bool (jumpsP i)) ∧ Mod [] w w' := by
  obtain ⟨op, kind, area, at_, n⟩ := i
  unfold Ins.v
  by_cases h1 : 25 ≤ op
  · by_cases h2 : op ≤ 27
    · have e0 : jumpsP ⟨op, kind, area, at_, n⟩ = true := by simp [jumpsP]; omega
      rw [e0]; clear e0
      go_enter Try.func61, Try.ntmps61
      go_wp2_with (fail)
      go_ret
      refine ⟨by first | rfl | simp [*], ?_⟩
      repeat (with_reducible first | exact Mod.refl _ _ | refine Mod.drew ?_ | refine Mod.drewN ?_ _ | refine Mod.setCell ?_ _ (by simp) | refine Mod.alloc ?_ _ | refine Mod.trans ?_ (by assumption))
    · have e0 : jumpsP ⟨op, kind, area, at_, n⟩ = false := by simp [jumpsP]; omega
      rw [e0]; clear e0
      go_enter Try.func61, Try.ntmps61
      go_wp2_with (fail)
      go_ret
      refine ⟨by first | rfl | simp [*], ?_⟩
      repeat (with_reducible first | exact Mod.refl _ _ | refine Mod.drew ?_ | refine Mod.drewN ?_ _ | refine Mod.setCell ?_ _ (by simp) | refine Mod.alloc ?_ _ | refine Mod.trans ?_ (by assumption))
  · have e0 : jumpsP ⟨op, kind, area, at_, n⟩ = false := by simp [jumpsP]; omega
    rw [e0]; clear e0
    go_enter Try.func61, Try.ntmps61
    go_wp2_with (fail)
    go_ret
    refine ⟨by first | rfl | simp [*], ?_⟩
    repeat (with_reducible first | exact Mod.refl _ _ | refine Mod.drew ?_ | refine Mod.drewN ?_ _ | refine Mod.setCell ?_ _ (by simp) | refine Mod.alloc ?_ _ | refine Mod.trans ?_ (by assumption))

set_option maxRecDepth 100000 in
set_option maxHeartbeats 800000 in
theorem v_on (i : Ins) (w : World) : Calls Try.prog 63 #[i.v] w fun e w' => e = .returned (.bool (onP i)) ∧ Mod [] w w' := by
  obtain ⟨op, kind, area, at_, n⟩ := i
  unfold Ins.v
  by_cases h1 : op = 25
  · subst h1
    have e0 : onP ⟨25, kind, area, at_, n⟩ = false := by simp [onP]
    rw [e0]; clear e0
    go_enter Try.func63, Try.ntmps63
    go_wp2_with (fail)
    go_ret
    refine ⟨by first | rfl | simp [*], ?_⟩
    repeat (with_reducible first | exact Mod.refl _ _ | refine Mod.drew ?_ | refine Mod.drewN ?_ _ | refine Mod.setCell ?_ _ (by simp) | refine Mod.alloc ?_ _ | refine Mod.trans ?_ (by assumption))
  · have e0 : onP ⟨op, kind, area, at_, n⟩ = (op != 28) := Bool.eq_iff_iff.2 (by simp [onP, h1])
    have h2 : (op != 25) = true := by rw [bne_iff_ne]; exact h1
    rw [e0]; clear e0 h1
    go_enter Try.func63, Try.ntmps63
    go_wp2_with (fail)
    go_ret
    refine ⟨by first | rfl | simp [*], ?_⟩
    repeat (with_reducible first | exact Mod.refl _ _ | refine Mod.drew ?_ | refine Mod.drewN ?_ _ | refine Mod.setCell ?_ _ (by simp) | refine Mod.alloc ?_ _ | refine Mod.trans ?_ (by assumption))

set_option maxRecDepth 100000 in
set_option maxHeartbeats 1600000 in
theorem v_equal (ao1 ao2 : Option Addr) (n1 c1 n2 c2 : Nat) (l1 l2 : List (Int × Int)) (w : World) (h1 : BSl w (.slice ao1 n1 c1) l1) (h2 : BSl w (.slice ao2 n2 c2) l2) (hn1 : l1.length = n1) (hn2 : l2.length = n2) (hd : n1 ≤ 8) :
    Calls Try.prog 88 #[.slice ao1 n1 c1, .slice ao2 n2 c2] w fun e w' => e = .returned (.bool (decide (l1 = l2))) ∧ ∃ n, w' = w.drewN n := by
  by_cases hn : n1 = n2
  · subst hn
    have h3 : ((n1 : Int) != (n1 : Int)) = false := by simp
    obtain ⟨ob1, h1⟩ := h1
    obtain ⟨ob2, h2⟩ := h2
    have hlen : l1.length = l2.length := by omega
    rw [hn1] at h1
    rw [hn2] at h2
    have key : ∀ (ao : Option Addr) (c : Nat) (l : List (Int × Int)) (ob : Option Nat), l.length = n1 → Sl w 122 2 (.slice ao n1 c) n1 (l.flatMap encB) ob → ∀ k (x : Int × Int), l[k]? = some x → ∃ g off, ao = some ⟨g, off, none⟩ ∧ w.cell? ⟨g, off + k * 2, none⟩ = some (.int .i64 x.1) ∧ w.cell? ⟨g, off + k * 2 + 1, none⟩ = some (.int .i64 x.2) := by
      intro ao c l ob hl hs k x hx
      obtain ⟨ao', c', e, h4, h5⟩ := hs.form
      simp only [Value.slice.injEq] at e
      obtain ⟨rfl, _, rfl⟩ := e
      have hk : k < n1 := by rw [← hl]; exact (List.getElem?_eq_some_iff.1 hx).1
      obtain ⟨g, off, rfl, rfl⟩ := h5 (by omega)
      refine ⟨g, off, rfl, ?_, ?_⟩
      · have := hs.cell (k * 2 + 0) (by omega)
        rw [flat_get encB 2 (fun _ => rfl) l k 0 x hx (by omega)] at this
        exact this
      · have := hs.cell (k * 2 + 1) (by omega)
        rw [flat_get encB 2 (fun _ => rfl) l k 1 x hx (by omega)] at this
        exact this
    have k1 := key ao1 c1 l1 ob1 hn1 h1
    have k2 := key ao2 c2 l2 ob2 hn2 h2
    clear key h1 h2
    have heq := eqB
    have hgd := eqG
    go_enter Try.func88, Try.ntmps88
    go_wp2_with (fail)
    go_loopw [5, 13] (fun _ v wr => ∃ k : Nat, k ≤ n1 ∧ v = .int .i64 (k : Int) ∧ (∃ m, wr = w.drewN m) ∧ l1.take k = l2.take k) (fun _ v _ => n1 - (intOf v).toNat)
    case atStart => exact ⟨0, Nat.zero_le _, rfl, ⟨0, rfl⟩, rfl⟩
    case round hrel =>
      obtain ⟨k, hk, rfl, ⟨m, rfl⟩, ht⟩ := hrel
      rcases Nat.lt_or_ge k n1 with hlt | hge
      · obtain ⟨x1, hx1⟩ : ∃ x, l1[k]? = some x := ⟨l1[k]'(by omega), by simp⟩
        obtain ⟨x2, hx2⟩ : ∃ x, l2[k]? = some x := ⟨l2[k]'(by omega), by simp⟩
        obtain ⟨g1, off1, rfl, c10, c11⟩ := k1 k x1 hx1
        obtain ⟨g2, off2, rfl, c20, c21⟩ := k2 k x2 hx2
        obtain ⟨x1o, x1k⟩ := x1
        obtain ⟨x2o, x2k⟩ := x2
        simp only at c10 c11 c20 c21
        go_wp2_with (fail)
        go_quiet (fail)
        go_wp2_with (fail)
        · rename_i hne
          go_ret
          refine ⟨?_, m + nq, by simp [World.drewN, Nat.add_assoc]⟩
          have : l1 ≠ l2 := by
            rintro rfl
            rw [hx1] at hx2
            simp at hx2
            rcases hne with h | h
            · simp [hx2.1] at h
            · simp [hx2.2] at h
          simp [this]
        · rename_i hne
          simp only [Bool.not_eq_false', beq_iff_eq] at hne
          refine ⟨⟨k + 1, by omega, rfl, ⟨m + nq, rfl⟩, ?_⟩, ?_⟩
          · rw [List.take_add_one, List.take_add_one, ht, hx1, hx2, hne.1, hne.2]
          · simp [intOf]; omega
      · have hkn : k = n1 := by omega
        subst hkn
        go_wp2_with (fail)
        go_wp2_with (fail)
        go_ret
        refine ⟨?_, m, rfl⟩
        rw [List.take_of_length_le (by omega), List.take_of_length_le (by omega)] at ht
        simp [ht]
  · have e0 : decide (l1 = l2) = false := by simp; rintro rfl; exact hn (hn1.symm.trans hn2)
    rw [e0]
    clear e0
    have h3 : ((n1 : Int) != (n2 : Int)) = true := by rw [bne_iff_ne]; omega
    go_enter Try.func88, Try.ntmps88
    go_wp2_with (fail)
    go_ret
    exact ⟨rfl, 0, rfl⟩
end Go.Proofs.Ytedmikeamgebjaa
