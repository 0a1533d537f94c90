/- What iec.Is and the functions of il that tell which instructions may be answer. -/
import Derived.Test.YtedmikeamgebjaaVIec
set_option linter.unusedVariables false
set_option linter.unusedSimpArgs false
namespace Go.Proofs.Ytedmikeamgebjaa
open Go.RowKit

set_option maxRecDepth 100000 in
set_option maxHeartbeats 400000 in
theorem iec_is (k v : Int) (w : World) (hv : In64 v) : Calls Try.prog 75 #[.int .i64 k, .int .i64 v] w fun e w' => e = .returned (.bool (isP k v)) ∧ Mod [] w w' := by
  have HV := Lib.hid hv
  clear hv
  by_cases hk : isKindP k = true
  · have HO := Lib.hid (iec_of_at k (kindName k) (sizeP k) (signedP k) (bitsP k) true w rfl hk)
    have e0 : isP k v = (wrapP k v == v) := by
      rw [isP, hk, Bool.true_and]
      exact Bool.eq_iff_iff.2 (by simp)
    rw [e0]
    clear hk e0
    go_enter Try.func75, Try.ntmps75
    go_wp2_with (first | (go_at_call 92; refine HO.out.mono ?_; rintro e w1 ⟨rfl, hm⟩) | (go_at_call 93; refine (iec_wrap _ _ _ HV.out).mono ?_; rintro e w2 ⟨rfl, hm2⟩))
    go_ret
    refine ⟨rfl, ?_⟩
    repeat (with_reducible first | exact Mod.refl _ _ | refine Mod.drew ?_ | refine Mod.drewN ?_ _ | refine Mod.setCell ?_ _ (by simp) | refine Mod.alloc ?_ _ | refine Mod.trans ?_ (by assumption))
  · have hk' : isKindP k = false := by simpa using hk
    have HO := Lib.hid (iec_of_at k (kindName k) (sizeP k) (signedP k) (bitsP k) false w rfl hk')
    have e0 : isP k v = false := by rw [isP, hk', Bool.false_and]
    rw [e0]
    clear hk hk' e0
    go_enter Try.func75, Try.ntmps75
    go_wp2_with (go_at_call 92; refine HO.out.mono ?_; rintro e w1 ⟨rfl, hm⟩)
    go_ret
    refine ⟨rfl, ?_⟩
    repeat (with_reducible first | exact Mod.refl _ _ | refine Mod.drew ?_ | refine Mod.drewN ?_ _ | refine Mod.setCell ?_ _ (by simp) | refine Mod.alloc ?_ _ | refine Mod.trans ?_ (by assumption))

set_option maxRecDepth 100000 in
set_option maxHeartbeats 1000000 in
theorem il_ops (w : World) : Calls Try.prog 91 #[] w fun e w' => ∃ b, e = .returned (.slice (some ⟨b, 0, none⟩) 37 37) ∧ w.heap.size ≤ b ∧ Blk w' b 112 (opT.flatMap opC) ∧ Mod [] w w' := by
  go_enter Try.func91, Try.ntmps91
  go_wp2
  go_ret
  refine ⟨_, rfl, Nat.le_refl _, ?_, ?_⟩
  · apply Blk.eq
    · exact Blk.new _ _ _
    · kernel_rfl
  · repeat (with_reducible first | exact Mod.refl _ _ | refine Mod.drew ?_ | refine Mod.drewN ?_ _ | refine Mod.setCell ?_ _ (by simp) | refine Mod.alloc ?_ _ | refine Mod.trans ?_ (by assumption))

def opV (n : Int) : Value := .agg #[.string (if 0 ≤ n then opNames.getD n.toNat ⟨#[]⟩ else ⟨#[]⟩), .int .i64 (classP n)]

set_option maxRecDepth 100000 in
set_option maxHeartbeats 400000 in
theorem il_of (n : Int) (w : World) : Calls Try.prog 74 #[.int .i64 n] w fun e w' => (∃ nm, e = .returned (.agg #[.string nm, .int .i64 (classP n)])) ∧ Mod [] w w' := by
  by_cases h : n < 0 ∨ 37 ≤ n
  · have e1 : classP n = 0 := classP_out h
    rw [e1]
    rcases h with h | h
    · go_enter Try.func74, Try.ntmps74
      go_wp2_with (go_at_call 91; refine (il_ops _).mono ?_; rintro e w1 ⟨b, rfl, hlb, hb, hm⟩; have hr := Blk.mod (Blk.new w 112 #[.string ⟨#[]⟩, .int .i64 0]) hm (by simp); have hrc := hr.cell; have hrf := hr.frozen)
      refine bodyPost_ret (v := .agg #[.string ⟨#[]⟩, .int .i64 0]) (by simp [results, Try.results74, go_sem, hrc]) rfl ⟨⟨_, rfl⟩, ?_⟩
      repeat (with_reducible first | exact Mod.refl _ _ | refine Mod.drew ?_ | refine Mod.drewN ?_ _ | refine Mod.setCell ?_ _ (by simp) | refine Mod.alloc ?_ _ | refine Mod.trans ?_ (by assumption))
    · have h' : ¬ n < 0 := by omega
      go_enter Try.func74, Try.ntmps74
      go_wp2_with (go_at_call 91; refine (il_ops _).mono ?_; rintro e w1 ⟨b, rfl, hlb, hb, hm⟩; have hr := Blk.mod (Blk.new w 112 #[.string ⟨#[]⟩, .int .i64 0]) hm (by simp); have hrc := hr.cell; have hrf := hr.frozen)
      refine bodyPost_ret (v := .agg #[.string ⟨#[]⟩, .int .i64 0]) (by simp [results, Try.results74, go_sem, hrc]) rfl ⟨⟨_, rfl⟩, ?_⟩
      repeat (with_reducible first | exact Mod.refl _ _ | refine Mod.drew ?_ | refine Mod.drewN ?_ _ | refine Mod.setCell ?_ _ (by simp) | refine Mod.alloc ?_ _ | refine Mod.trans ?_ (by assumption))
  · have h0 : 0 ≤ n := by omega
    have h1 : n < 37 := by omega
    have hk := opT_get h0 h1
    have HK := Lib.hid hk
    clear h hk
    go_enter Try.func74, Try.ntmps74
    go_wp2_with (go_at_call 91; refine (il_ops _).mono ?_; rintro e w1 ⟨b, rfl, hlb, hb, hm⟩; have hc0 := (hb.cell (n.toNat * 2 + 0)).trans (flat_get opC 2 (fun _ => rfl) opT n.toNat 0 n HK.out (by omega)); have hc1 := (hb.cell (n.toNat * 2 + 1)).trans (flat_get opC 2 (fun _ => rfl) opT n.toNat 1 n HK.out (by omega)); simp only [opC, Nat.add_zero, List.getElem?_cons_zero, List.getElem?_cons_succ] at hc0 hc1; have hr := Blk.mod (Blk.new w 112 #[.string ⟨#[]⟩, .int .i64 0]) hm (by simp); have hrc := hr.cell; have hrf := hr.frozen; generalize opNames.getD _ _ = nm at hc0)
    refine bodyPost_ret (v := .agg #[.string nm, .int .i64 (classP n)]) (by simp [results, Try.results74, go_sem, hrc]) rfl ⟨⟨_, rfl⟩, ?_⟩
    repeat (with_reducible first | exact Mod.refl _ _ | refine Mod.drew ?_ | refine Mod.drewN ?_ _ | refine Mod.setCell ?_ _ (by simp) | refine Mod.alloc ?_ _ | refine Mod.trans ?_ (by assumption))
end Go.Proofs.Ytedmikeamgebjaa
