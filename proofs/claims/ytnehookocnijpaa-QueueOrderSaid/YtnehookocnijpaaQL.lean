/- The walks of the queue's laws. -/
import Derived.Test.YtnehookocnijpaaQS
import Derived.Test.YtnehookocnijpaaQR
set_option linter.unusedVariables false
set_option linter.unusedSimpArgs false
namespace Go.Proofs.Ytnehookocnijpaa
open Go.RowKit

set_option maxRecDepth 100000 in
set_option maxHeartbeats 800000 in
theorem queue_awake (w : World) : Calls Try.prog 8 #[] w fun e w' => e = .returned (.bool true) ∧ Mod [] w w' := by
  go_enter Try.func8, Try.ntmps8
  go_wp2_with (fail)
  refine (QStr.new_any 1 1 (by omega) (by omega) (by omega) _).mono ?_
  rintro e w1 ⟨q, c, s0, rfl, hq, hc, hr1, hm1⟩
  have HR1 := Lib.hid hr1
  have HM1 := Lib.hid hm1
  clear hr1 hm1
  go_wp2_with (fail)
  refine (QStr.put_any q c _ true _ 1 _ (by omega) ⟨s0, HR1.out⟩).mono ?_
  rintro e w2 ⟨he, hr2, hm2⟩
  obtain rfl : e = .returned (.int .i64 0) := he
  have HR2 : Hid (∃ s, QStr.QRep w2 q c 1 ⟨[], [⟨#[97]⟩], false⟩ s) := Lib.hid hr2
  have HM2 := Lib.hid hm2
  clear hr2 hm2
  go_wp2_with (fail)
  refine (QStr.put_any q c _ false _ 1 _ (by omega) HR2.out).mono ?_
  rintro e w3 ⟨he, hr3, hm3⟩
  obtain rfl : e = .returned (.int .i64 8) := he
  have HR3 : Hid (∃ s, QStr.QRep w3 q c 1 ⟨[], [⟨#[97]⟩], true⟩ s) := Lib.hid hr3
  have HM3 := Lib.hid hm3
  clear hr3 hm3
  go_wp2_with (fail)
  refine (QStr.take_rep q c true _ 1 _ (by omega) HR3.out).mono ?_
  rintro e w4 ⟨he, hr4, hm4⟩
  obtain rfl : e = .returned (.tuple #[.string ⟨#[97]⟩, .bool true]) := he
  have HR4 : Hid (∃ s, QStr.QRep w4 q c 1 ⟨[], [], true⟩ s) := Lib.hid hr4
  have HM4 := Lib.hid hm4
  clear hr4 hm4
  go_wp2_with (fail)
  refine (QStr.fault_rep q c _ 1 _ HR4.out).mono ?_
  rintro e w5 ⟨he, hr5, hm5⟩
  obtain rfl : e = .returned (.bool true) := he
  have HR5 := Lib.hid hr5
  have HM5 := Lib.hid hm5
  clear hr5 hm5
  go_wp2_with (fail)
  refine (QStr.fault_rep q c _ 1 _ HR5.out).mono ?_
  rintro e w6 ⟨he, hr6, hm6⟩
  obtain rfl : e = .returned (.bool false) := he
  have HM6 := Lib.hid hm6
  clear hr6 hm6
  go_wp2_with (fail)
  go_ret
  refine ⟨rfl, ?_⟩
  have hB : ∀ x ∈ [q, c], x ∈ ([] : List Nat) ∨ w.heap.size ≤ x := by simp; omega
  exact ((((HM1.out.then HM2.out hB).then HM3.out hB).then HM4.out hB).then HM5.out hB).then HM6.out hB
end Go.Proofs.Ytnehookocnijpaa
