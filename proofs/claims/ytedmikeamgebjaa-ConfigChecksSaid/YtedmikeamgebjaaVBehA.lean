/- verify: what stands behind an instruction, whichever it is. -/
import Derived.Test.YtedmikeamgebjaaVBehO
set_option linter.unusedVariables false
set_option linter.unusedSimpArgs false
namespace Go.Proofs.Ytedmikeamgebjaa
open Go.RowKit

theorem beh_ok {a : Ah} {i : Ins} {w : World} {e : Ending} {w' : World} {kk err : Int} {ao : Option Addr} {n c : Nat} (hl : BSl w (.slice ao n c) a.opn) (he : errP a i = err) (hk : err = 0 → (nextP a i).kind = kk ∧ (nextP a i).opn = a.opn)
    (h : e = .returned (.tuple #[.agg #[.int .i64 kk, .slice ao n c], .int .i64 err]) ∧ Mod [] w w') : BehQ a i w e w' := by
  refine ⟨kk, ao, n, c, by rw [he]; exact h.1, fun h0 => ?_, h.2⟩
  rw [he] at h0
  obtain ⟨h1, h2⟩ := hk h0
  exact ⟨h1.symm, by rw [h2]; exact hl.keep h.2⟩

theorem v_behind (a : Ah) (ao : Option Addr) (nn cap : Nat) (i : Ins) (w : World) (hl : BSl w (.slice ao nn cap) a.opn) (hn : a.opn.length = nn) (hd : a.opn.length ≤ 8) :
    Calls Try.prog 62 #[.agg #[.int .i64 a.kind, .slice ao nn cap], i.v] w (BehQ a i w) := by
  obtain ⟨k, l⟩ := a
  obtain ⟨op, kind, area, at_, n⟩ := i
  simp only at hl hn hd
  unfold Ins.v
  by_cases h1 : op = 1
  · subst h1
    exact (v_behind_1 k kind area at_ n ao nn cap l w hl hn hd).mono fun e w' h => beh_ok hl (by simp [errP]) (by simp [nextP]) h
  by_cases h2 : op = 2
  · subst h2
    exact (v_behind_2 k kind area at_ n ao nn cap l w hl).mono fun e w' h => beh_ok hl (by simp [errP]) (by simp [nextP]) h
  by_cases h3 : op = 3
  · subst h3
    exact (v_behind_3 k kind area at_ n ao nn cap l w hl).mono fun e w' h => beh_ok hl (by simp [errP]) (by simp [nextP]) h
  by_cases h4 : op = 4
  · subst h4
    cases hk : (k == kind)
    · exact (v_behind_4f k kind area at_ n ao nn cap l w hk hl).mono fun e w' h => beh_ok hl (by simp [errP, hk]) (by simp [nextP]) h
    · exact (v_behind_4t k kind area at_ n ao nn cap l w hk hl).mono fun e w' h => beh_ok hl (by simp [errP, hk]) (by simp [nextP]) h
  by_cases h5 : op = 5
  · subst h5
    cases hk : (k == 1)
    · exact (v_behind_5f k kind area at_ n ao nn cap l w hk hl).mono fun e w' h => beh_ok hl (by simp [errP, hk]) (by simp [nextP]) h
    · exact (v_behind_5t k kind area at_ n ao nn cap l w hk hl).mono fun e w' h => beh_ok hl (by simp [errP, hk]) (by simp [nextP]) h
  by_cases h6 : op = 6
  · subst h6
    cases hk : (k == 1)
    · exact (v_behind_6f k kind area at_ n ao nn cap l w hk hl).mono fun e w' h => beh_ok hl (by simp [errP, hk]) (by simp [nextP]) h
    · exact (v_behind_6t k kind area at_ n ao nn cap l w hk hl).mono fun e w' h => beh_ok hl (by simp [errP, hk]) (by simp [nextP]) h
  by_cases h13 : op = 13
  · subst h13
    exact (v_behind_13 k kind area at_ n ao nn cap l w hl).mono fun e w' h => beh_ok hl (by simp [errP]) (by simp [nextP]) h
  by_cases h25 : op = 25
  · subst h25
    exact (v_behind_25 k kind area at_ n ao nn cap l w hl hn hd).mono fun e w' h => beh_ok hl (by simp [errP]) (by simp [nextP]) h
  by_cases h26 : op = 26
  · subst h26
    exact (v_behind_26 k kind area at_ n ao nn cap l w hl).mono fun e w' h => beh_ok hl (by simp [errP]) (by simp [nextP]) h
  by_cases h27 : op = 27
  · subst h27
    exact (v_behind_27 k kind area at_ n ao nn cap l w hl).mono fun e w' h => beh_ok hl (by simp [errP]) (by simp [nextP]) h
  by_cases h34 : op = 34
  · subst h34
    exact (v_behind_34 k kind area at_ n ao nn cap l w hl).mono fun e w' h => beh_ok hl (by simp [errP]) (by simp [nextP]) h
  by_cases h35 : op = 35
  · subst h35
    exact (v_behind_35 k kind area at_ n ao nn cap l w hl).mono fun e w' h => beh_ok hl (by simp [errP]) (by simp [nextP]) h
  by_cases h36 : op = 36
  · subst h36
    exact (v_behind_36 k kind area at_ n ao nn cap l w hl).mono fun e w' h => beh_ok hl (by simp [errP]) (by simp [nextP]) h
  by_cases h28 : op = 28
  · subst h28
    exact (v_behind_28 k kind area at_ n ao nn cap l w hl hn hd).mono fun e w' h => beh_ok hl (by simp [errP]) (by simp [nextP]) h
  by_cases h29 : op = 29
  · subst h29
    exact (v_behind_29 k kind area at_ n ao nn cap l w hl hn hd).mono fun e w' h => beh_ok hl (by simp [errP]) (by simp [nextP]) h
  by_cases h30 : op = 30
  · subst h30
    exact (v_behind_30 k kind area at_ n ao nn cap l w hl hn hd).mono fun e w' h => beh_ok hl (by simp [errP]) (by simp [nextP]) h
  by_cases h31 : op = 31
  · subst h31
    exact (v_behind_31 k kind area at_ n ao nn cap l w hl).mono fun e w' h => beh_ok hl (by simp [errP]) (by simp [nextP]) h
  by_cases h32 : op = 32
  · subst h32
    refine (v_behind_32 k kind area at_ n ao nn cap l w hl hn hd).mono ?_
    rintro e w' ⟨k', ao', n', c', he, hK, hm⟩
    have e1 : errP ⟨k, l⟩ ⟨32, kind, area, at_, n⟩ = pushE at_ k l := by simp [errP]
    have e2 : nextP ⟨k, l⟩ ⟨32, kind, area, at_, n⟩ = ⟨0, l ++ [(at_, k)]⟩ := by simp [nextP]
    refine ⟨k', ao', n', c', by rw [e1]; exact he, fun h0 => ?_, hm⟩
    rw [e1] at h0
    rw [e2]
    exact hK h0
  by_cases h33 : op = 33
  · subst h33
    refine (v_behind_33 k kind area at_ n ao nn cap l w hl hn hd).mono ?_
    rintro e w' ⟨k', ao', n', c', he, hK, hm⟩
    have e1 : errP ⟨k, l⟩ ⟨33, kind, area, at_, n⟩ = popE k l := by simp [errP]
    refine ⟨k', ao', n', c', by rw [e1]; exact he, fun h0 => ?_, hm⟩
    rw [e1] at h0
    obtain ⟨x, hx, h1, h2⟩ := hK h0
    have e2 : nextP ⟨k, l⟩ ⟨33, kind, area, at_, n⟩ = ⟨madeP x.1 x.2, l.dropLast⟩ := by simp [nextP, hx]
    rw [e2]
    exact ⟨h1, h2⟩
  have f : ∀ c : Int, ¬ op = c → (op == c) = false := fun c h => by rw [beq_eq_false_iff_ne]; exact h
  have e1 : errP ⟨k, l⟩ ⟨op, kind, area, at_, n⟩ = mustP (k == kind && mayP op kind) := by simp [errP, *]
  have e2 : nextP ⟨k, l⟩ ⟨op, kind, area, at_, n⟩ = ⟨madeP op kind, l⟩ := by simp [nextP, *]
  cases hk : (k == kind)
  · exact (v_behind_f k op kind area at_ n ao nn cap l w (f _ h1) (f _ h2) (f _ h3) (f _ h4) (f _ h5) (f _ h6) (f _ h13) (f _ h25) (f _ h26) (f _ h27) (f _ h34) (f _ h35) (f _ h36) (f _ h28) (f _ h29) (f _ h30) (f _ h31) (f _ h32) (f _ h33) hk hl).mono fun e w' h => beh_ok hl (by rw [e1, hk]; rfl) (fun _ => by rw [e2]; exact ⟨rfl, rfl⟩) h
  · exact (v_behind_t k op kind area at_ n ao nn cap l w (f _ h1) (f _ h2) (f _ h3) (f _ h4) (f _ h5) (f _ h6) (f _ h13) (f _ h25) (f _ h26) (f _ h27) (f _ h34) (f _ h35) (f _ h36) (f _ h28) (f _ h29) (f _ h30) (f _ h31) (f _ h32) (f _ h33) hk hl).mono fun e w' h => beh_ok hl (by rw [e1, hk]; rfl) (fun _ => by rw [e2]; exact ⟨rfl, rfl⟩) h
end Go.Proofs.Ytedmikeamgebjaa
