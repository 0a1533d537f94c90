/- What the functions of iec that tell of kinds answer. -/
import Derived.Test.YtedmikeamgebjaaProg
import Derived.Test.YtedmikeamgebjaaVPure
set_option linter.unusedVariables false
set_option linter.unusedSimpArgs false
namespace Go.Proofs.Ytedmikeamgebjaa
open Go.RowKit

def kindV (k : Int) : Value := .agg #[.string (kindName k), .int .i64 (sizeP k), .bool (signedP k), .bool (bitsP k)]

set_option maxRecDepth 100000 in
set_option maxHeartbeats 400000 in
theorem iec_kinds (w : World) : Calls Try.prog 95 #[] w fun e w' => ∃ b, e = .returned (.slice (some ⟨b, 0, none⟩) 8 8) ∧ w.heap.size ≤ b ∧ Blk w' b 127 (kindT.flatMap kindC) ∧ Mod [] w w' := by
  go_enter Try.func95, Try.ntmps95
  go_wp2
  go_ret
  refine ⟨_, rfl, Nat.le_refl _, ?_, ?_⟩
  · apply Blk.eq
    · exact Blk.new _ _ _
    · kernel_rfl
  · repeat (with_reducible first | exact Mod.refl _ _ | refine Mod.drew ?_ | refine Mod.drewN ?_ _ | refine Mod.setCell ?_ _ (by simp) | refine Mod.alloc ?_ _)

set_option maxRecDepth 100000 in
set_option maxHeartbeats 400000 in
theorem iec_of (k : Int) (w : World) : Calls Try.prog 92 #[.int .i64 k] w fun e w' => e = .returned (.tuple #[kindV k, .bool (isKindP k)]) ∧ Mod [] w w' := by
  by_cases h : k < 1 ∨ 7 < k
  · have e1 : isKindP k = false := by simp [isKindP]; omega
    have e2 : kindV k = .agg #[.string ⟨#[]⟩, .int .i64 0, .bool false, .bool false] := by
      simp only [kindV, kindName, sizeP, signedP, bitsP]
      rw [if_neg (by omega), if_neg (by omega), if_neg (by omega), if_neg (by omega), if_neg (by omega), if_neg (by omega), if_neg (by omega), if_neg (by omega), if_neg (by omega), if_neg (by omega)]
      simp; omega
    rw [e1, e2]
    clear e1 e2
    rcases h with h | h
    · go_enter Try.func92, Try.ntmps92
      go_wp2_with (fail)
      refine bodyPost_ret (v := .tuple #[.agg #[.string ⟨#[]⟩, .int .i64 0, .bool false, .bool false], .bool false]) (by simp [results, Try.results92, go_sem]) rfl ⟨rfl, ?_⟩
      repeat (with_reducible first | exact Mod.refl _ _ | refine Mod.drew ?_ | refine Mod.drewN ?_ _ | refine Mod.setCell ?_ _ (by simp) | refine Mod.alloc ?_ _)
    · have h' : ¬ k < 1 := by omega
      go_enter Try.func92, Try.ntmps92
      go_wp2_with (fail)
      refine bodyPost_ret (v := .tuple #[.agg #[.string ⟨#[]⟩, .int .i64 0, .bool false, .bool false], .bool false]) (by simp [results, Try.results92, go_sem]) rfl ⟨rfl, ?_⟩
      repeat (with_reducible first | exact Mod.refl _ _ | refine Mod.drew ?_ | refine Mod.drewN ?_ _ | refine Mod.setCell ?_ _ (by simp) | refine Mod.alloc ?_ _)
  · have h0 : 1 ≤ k := by omega
    have h1 : k ≤ 7 := by omega
    have h2 : k < 8 := by omega
    have h3 : 0 ≤ k := by omega
    have e1 : isKindP k = true := by simp [isKindP]; omega
    rw [e1]
    have hk := kindT_get h0 h1
    have HK := Lib.hid hk
    clear h e1 hk
    go_enter Try.func92, Try.ntmps92
    go_wp2_with (go_at_call 95; refine (iec_kinds _).mono ?_; rintro e w1 ⟨b, rfl, hlb, hb, hm⟩; have hc0 := (hb.cell (k.toNat * 4 + 0)).trans (flat_get kindC 4 (fun _ => rfl) kindT k.toNat 0 k HK.out (by omega)); have hc1 := (hb.cell (k.toNat * 4 + 1)).trans (flat_get kindC 4 (fun _ => rfl) kindT k.toNat 1 k HK.out (by omega)); have hc2 := (hb.cell (k.toNat * 4 + 2)).trans (flat_get kindC 4 (fun _ => rfl) kindT k.toNat 2 k HK.out (by omega)); have hc3 := (hb.cell (k.toNat * 4 + 3)).trans (flat_get kindC 4 (fun _ => rfl) kindT k.toNat 3 k HK.out (by omega)); simp only [kindC, Nat.add_zero, List.getElem?_cons_zero, List.getElem?_cons_succ] at hc0 hc1 hc2 hc3; have hr := Blk.mod (Blk.new w 127 #[.string ⟨#[]⟩, .int .i64 0, .bool false, .bool false]) hm (by simp); have hrc := hr.cell; have hrf := hr.frozen)
    refine bodyPost_ret (v := .tuple #[kindV k, .bool true]) (by simp [results, Try.results92, go_sem, kindV, hrc]) rfl ⟨rfl, ?_⟩
    repeat (with_reducible first | exact Mod.refl _ _ | refine Mod.drew ?_ | refine Mod.drewN ?_ _ | refine Mod.setCell ?_ _ (by simp) | refine Mod.alloc ?_ _ | refine Mod.trans ?_ hm)
/-- Of a kind whose cells are known. -/
theorem iec_of_at (k : Int) (nm : ByteArray) (sz : Int) (sg bt ok : Bool) (w : World) (e1 : kindV k = .agg #[.string nm, .int .i64 sz, .bool sg, .bool bt]) (e2 : isKindP k = ok) :
    Calls Try.prog 92 #[.int .i64 k] w fun e w' => e = .returned (.tuple #[.agg #[.string nm, .int .i64 sz, .bool sg, .bool bt], .bool ok]) ∧ Mod [] w w' := by
  rw [← e1, ← e2]; exact iec_of k w

set_option maxRecDepth 100000 in
set_option maxHeartbeats 400000 in
theorem iec_size (k : Int) (w : World) : Calls Try.prog 77 #[.int .i64 k] w fun e w' => e = .returned (.int .i64 (sizeP k)) ∧ Mod [] w w' := by
  have HO := Lib.hid (iec_of_at k (kindName k) (sizeP k) (signedP k) (bitsP k) (isKindP k) w rfl rfl)
  go_enter Try.func77, Try.ntmps77
  go_wp2_with (go_at_call 92; refine HO.out.mono ?_; rintro e w1 ⟨rfl, hm⟩)
  go_ret
  refine ⟨rfl, ?_⟩
  repeat (with_reducible first | exact Mod.refl _ _ | refine Mod.drew ?_ | refine Mod.drewN ?_ _ | refine Mod.setCell ?_ _ (by simp) | refine Mod.alloc ?_ _ | refine Mod.trans ?_ (by assumption))

theorem wrap64_narrow (x : Int) (h : -2147483648 ≤ x ∧ x ≤ 4294967295) : wrap64 x = x := by unfold wrap64; omega
theorem wrap_rng (v : Int) : (-128 ≤ IntKind.i8.wrap v ∧ IntKind.i8.wrap v ≤ 127) ∧ (-32768 ≤ IntKind.i16.wrap v ∧ IntKind.i16.wrap v ≤ 32767) ∧ (-2147483648 ≤ IntKind.i32.wrap v ∧ IntKind.i32.wrap v ≤ 2147483647) ∧
    (0 ≤ IntKind.u16.wrap v ∧ IntKind.u16.wrap v ≤ 65535) ∧ (0 ≤ IntKind.u32.wrap v ∧ IntKind.u32.wrap v ≤ 4294967295) := by
  simp [IntKind.wrap, IntKind.bits, IntKind.signed]
  omega
theorem wrap32_eq (v : Int) : wrap32 v = IntKind.i32.wrap v := by
  simp [wrap32, IntKind.wrap, IntKind.bits, IntKind.signed]
  omega
theorem kind_cases (k : Int) : (k < 1 ∨ 7 < k) ∨ k = 1 ∨ k = 2 ∨ k = 3 ∨ k = 4 ∨ k = 5 ∨ k = 6 ∨ k = 7 := by omega
theorem kindV_out {k : Int} (h : k < 1 ∨ 7 < k) : kindV k = .agg #[.string ⟨#[]⟩, .int .i64 0, .bool false, .bool false] := by
  simp only [kindV, kindName, sizeP, signedP, bitsP]
  rw [if_neg (by omega), if_neg (by omega), if_neg (by omega), if_neg (by omega), if_neg (by omega), if_neg (by omega), if_neg (by omega), if_neg (by omega), if_neg (by omega), if_neg (by omega)]
  simp; omega
theorem isKindP_out {k : Int} (h : k < 1 ∨ 7 < k) : isKindP k = false := by simp [isKindP]; omega
theorem wrapP_out {k : Int} (v : Int) (h : k < 1 ∨ 7 < k) : wrapP k v = 0 := by
  unfold wrapP
  rw [if_neg (by omega), if_neg (by omega), if_neg (by omega), if_neg (by omega), if_neg (by omega), if_neg (by omega)]

set_option maxRecDepth 100000 in
set_option maxHeartbeats 800000 in
theorem iec_wrap (k v : Int) (w : World) (hv : In64 v) : Calls Try.prog 93 #[.int .i64 k, .int .i64 v] w fun e w' => e = .returned (.int .i64 (wrapP k v)) ∧ Mod [] w w' := by
  obtain ⟨hv0, hv1⟩ := hv
  rcases kind_cases k with h | rfl | rfl | rfl | rfl | rfl | rfl | rfl
  · have HO := Lib.hid (iec_of_at k _ _ _ _ _ w (kindV_out h) (isKindP_out h))
    rw [wrapP_out v h]
    go_enter Try.func93, Try.ntmps93
    go_wp2_with (go_at_call 92; refine HO.out.mono ?_; rintro e w1 ⟨rfl, hm⟩)
    go_ret
    refine ⟨rfl, ?_⟩
    repeat (with_reducible first | exact Mod.refl _ _ | refine Mod.drew ?_ | refine Mod.drewN ?_ _ | refine Mod.setCell ?_ _ (by simp) | refine Mod.alloc ?_ _ | refine Mod.trans ?_ (by assumption))
  · by_cases h0 : v = 0
    · subst h0
      have HO := Lib.hid (iec_of_at 1 _ _ _ _ _ w rfl rfl)
      go_enter Try.func93, Try.ntmps93
      go_wp2_with (go_at_call 92; refine HO.out.mono ?_; rintro e w1 ⟨rfl, hm⟩)
      go_ret
      refine ⟨rfl, ?_⟩
      repeat (with_reducible first | exact Mod.refl _ _ | refine Mod.drew ?_ | refine Mod.drewN ?_ _ | refine Mod.setCell ?_ _ (by simp) | refine Mod.alloc ?_ _ | refine Mod.trans ?_ (by assumption))
    · have e0 : wrapP 1 v = 1 := by simp [wrapP, h0]
      have h0' : (v != 0) = true := by simpa using h0
      rw [e0]
      clear h0 e0
      have HO := Lib.hid (iec_of_at 1 _ _ _ _ _ w rfl rfl)
      go_enter Try.func93, Try.ntmps93
      go_wp2_with (go_at_call 92; refine HO.out.mono ?_; rintro e w1 ⟨rfl, hm⟩)
      go_ret
      refine ⟨rfl, ?_⟩
      repeat (with_reducible first | exact Mod.refl _ _ | refine Mod.drew ?_ | refine Mod.drewN ?_ _ | refine Mod.setCell ?_ _ (by simp) | refine Mod.alloc ?_ _ | refine Mod.trans ?_ (by assumption))
  · have HO := Lib.hid (iec_of_at 2 (kindName 2) 1 true false true w rfl rfl)
    go_enter Try.func93, Try.ntmps93
    go_wp2_with (go_at_call 92; refine HO.out.mono ?_; rintro e w1 ⟨rfl, hm⟩)
    go_ret
    refine ⟨?_, ?_⟩
    · have hr := wrap_rng v
      first
        | (show Ending.returned (.int .i64 (wrap64 (IntKind.i8.wrap v))) = _; rw [wrap64_narrow _ (by omega)]; rfl)
        | (show Ending.returned (.int .i64 (wrap64 (IntKind.i16.wrap v))) = _; rw [wrap64_narrow _ (by omega)]; rfl)
        | (show Ending.returned (.int .i64 (wrap64 (IntKind.i32.wrap v))) = _; rw [wrap64_narrow _ (by omega)]; rfl)
        | (show Ending.returned (.int .i64 (wrap64 (IntKind.u16.wrap v))) = _; rw [wrap64_narrow _ (by omega)]; rfl)
        | (show Ending.returned (.int .i64 (wrap64 (IntKind.u32.wrap v))) = _; rw [wrap64_narrow _ (by omega)]; rfl)
        | (show Ending.returned (.int .i64 (wrap64 (wrap32 v))) = _; rw [wrap32_eq, wrap64_narrow _ (by omega)]; rfl)
        | (show Ending.returned (.int .i64 (v % 4294967296)) = _; simp [wrapP, IntKind.wrap, IntKind.bits, IntKind.signed])
    · repeat (with_reducible first | exact Mod.refl _ _ | refine Mod.drew ?_ | refine Mod.drewN ?_ _ | refine Mod.setCell ?_ _ (by simp) | refine Mod.alloc ?_ _ | refine Mod.trans ?_ (by assumption))
  · have HO := Lib.hid (iec_of_at 3 (kindName 3) 2 true false true w rfl rfl)
    go_enter Try.func93, Try.ntmps93
    go_wp2_with (go_at_call 92; refine HO.out.mono ?_; rintro e w1 ⟨rfl, hm⟩)
    go_ret
    refine ⟨?_, ?_⟩
    · have hr := wrap_rng v
      first
        | (show Ending.returned (.int .i64 (wrap64 (IntKind.i8.wrap v))) = _; rw [wrap64_narrow _ (by omega)]; rfl)
        | (show Ending.returned (.int .i64 (wrap64 (IntKind.i16.wrap v))) = _; rw [wrap64_narrow _ (by omega)]; rfl)
        | (show Ending.returned (.int .i64 (wrap64 (IntKind.i32.wrap v))) = _; rw [wrap64_narrow _ (by omega)]; rfl)
        | (show Ending.returned (.int .i64 (wrap64 (IntKind.u16.wrap v))) = _; rw [wrap64_narrow _ (by omega)]; rfl)
        | (show Ending.returned (.int .i64 (wrap64 (IntKind.u32.wrap v))) = _; rw [wrap64_narrow _ (by omega)]; rfl)
        | (show Ending.returned (.int .i64 (wrap64 (wrap32 v))) = _; rw [wrap32_eq, wrap64_narrow _ (by omega)]; rfl)
        | (show Ending.returned (.int .i64 (v % 4294967296)) = _; simp [wrapP, IntKind.wrap, IntKind.bits, IntKind.signed])
    · repeat (with_reducible first | exact Mod.refl _ _ | refine Mod.drew ?_ | refine Mod.drewN ?_ _ | refine Mod.setCell ?_ _ (by simp) | refine Mod.alloc ?_ _ | refine Mod.trans ?_ (by assumption))
  · have HO := Lib.hid (iec_of_at 4 (kindName 4) 4 true false true w rfl rfl)
    go_enter Try.func93, Try.ntmps93
    go_wp2_with (go_at_call 92; refine HO.out.mono ?_; rintro e w1 ⟨rfl, hm⟩)
    go_ret
    refine ⟨?_, ?_⟩
    · have hr := wrap_rng v
      first
        | (show Ending.returned (.int .i64 (wrap64 (IntKind.i8.wrap v))) = _; rw [wrap64_narrow _ (by omega)]; rfl)
        | (show Ending.returned (.int .i64 (wrap64 (IntKind.i16.wrap v))) = _; rw [wrap64_narrow _ (by omega)]; rfl)
        | (show Ending.returned (.int .i64 (wrap64 (IntKind.i32.wrap v))) = _; rw [wrap64_narrow _ (by omega)]; rfl)
        | (show Ending.returned (.int .i64 (wrap64 (IntKind.u16.wrap v))) = _; rw [wrap64_narrow _ (by omega)]; rfl)
        | (show Ending.returned (.int .i64 (wrap64 (IntKind.u32.wrap v))) = _; rw [wrap64_narrow _ (by omega)]; rfl)
        | (show Ending.returned (.int .i64 (wrap64 (wrap32 v))) = _; rw [wrap32_eq, wrap64_narrow _ (by omega)]; rfl)
        | (show Ending.returned (.int .i64 (v % 4294967296)) = _; simp [wrapP, IntKind.wrap, IntKind.bits, IntKind.signed])
    · repeat (with_reducible first | exact Mod.refl _ _ | refine Mod.drew ?_ | refine Mod.drewN ?_ _ | refine Mod.setCell ?_ _ (by simp) | refine Mod.alloc ?_ _ | refine Mod.trans ?_ (by assumption))
  · have HO := Lib.hid (iec_of_at 5 (kindName 5) 2 false false true w rfl rfl)
    go_enter Try.func93, Try.ntmps93
    go_wp2_with (go_at_call 92; refine HO.out.mono ?_; rintro e w1 ⟨rfl, hm⟩)
    go_ret
    refine ⟨?_, ?_⟩
    · have hr := wrap_rng v
      first
        | (show Ending.returned (.int .i64 (wrap64 (IntKind.i8.wrap v))) = _; rw [wrap64_narrow _ (by omega)]; rfl)
        | (show Ending.returned (.int .i64 (wrap64 (IntKind.i16.wrap v))) = _; rw [wrap64_narrow _ (by omega)]; rfl)
        | (show Ending.returned (.int .i64 (wrap64 (IntKind.i32.wrap v))) = _; rw [wrap64_narrow _ (by omega)]; rfl)
        | (show Ending.returned (.int .i64 (wrap64 (IntKind.u16.wrap v))) = _; rw [wrap64_narrow _ (by omega)]; rfl)
        | (show Ending.returned (.int .i64 (wrap64 (IntKind.u32.wrap v))) = _; rw [wrap64_narrow _ (by omega)]; rfl)
        | (show Ending.returned (.int .i64 (wrap64 (wrap32 v))) = _; rw [wrap32_eq, wrap64_narrow _ (by omega)]; rfl)
        | (show Ending.returned (.int .i64 (v % 4294967296)) = _; simp [wrapP, IntKind.wrap, IntKind.bits, IntKind.signed])
    · repeat (with_reducible first | exact Mod.refl _ _ | refine Mod.drew ?_ | refine Mod.drewN ?_ _ | refine Mod.setCell ?_ _ (by simp) | refine Mod.alloc ?_ _ | refine Mod.trans ?_ (by assumption))
  · have HO := Lib.hid (iec_of_at 6 (kindName 6) 2 false true true w rfl rfl)
    go_enter Try.func93, Try.ntmps93
    go_wp2_with (go_at_call 92; refine HO.out.mono ?_; rintro e w1 ⟨rfl, hm⟩)
    go_ret
    refine ⟨?_, ?_⟩
    · have hr := wrap_rng v
      first
        | (show Ending.returned (.int .i64 (wrap64 (IntKind.i8.wrap v))) = _; rw [wrap64_narrow _ (by omega)]; rfl)
        | (show Ending.returned (.int .i64 (wrap64 (IntKind.i16.wrap v))) = _; rw [wrap64_narrow _ (by omega)]; rfl)
        | (show Ending.returned (.int .i64 (wrap64 (IntKind.i32.wrap v))) = _; rw [wrap64_narrow _ (by omega)]; rfl)
        | (show Ending.returned (.int .i64 (wrap64 (IntKind.u16.wrap v))) = _; rw [wrap64_narrow _ (by omega)]; rfl)
        | (show Ending.returned (.int .i64 (wrap64 (IntKind.u32.wrap v))) = _; rw [wrap64_narrow _ (by omega)]; rfl)
        | (show Ending.returned (.int .i64 (wrap64 (wrap32 v))) = _; rw [wrap32_eq, wrap64_narrow _ (by omega)]; rfl)
        | (show Ending.returned (.int .i64 (v % 4294967296)) = _; simp [wrapP, IntKind.wrap, IntKind.bits, IntKind.signed])
    · repeat (with_reducible first | exact Mod.refl _ _ | refine Mod.drew ?_ | refine Mod.drewN ?_ _ | refine Mod.setCell ?_ _ (by simp) | refine Mod.alloc ?_ _ | refine Mod.trans ?_ (by assumption))
  · have HO := Lib.hid (iec_of_at 7 (kindName 7) 4 false true true w rfl rfl)
    go_enter Try.func93, Try.ntmps93
    go_wp2_with (go_at_call 92; refine HO.out.mono ?_; rintro e w1 ⟨rfl, hm⟩)
    go_ret
    refine ⟨?_, ?_⟩
    · have hr := wrap_rng v
      first
        | (show Ending.returned (.int .i64 (wrap64 (IntKind.i8.wrap v))) = _; rw [wrap64_narrow _ (by omega)]; rfl)
        | (show Ending.returned (.int .i64 (wrap64 (IntKind.i16.wrap v))) = _; rw [wrap64_narrow _ (by omega)]; rfl)
        | (show Ending.returned (.int .i64 (wrap64 (IntKind.i32.wrap v))) = _; rw [wrap64_narrow _ (by omega)]; rfl)
        | (show Ending.returned (.int .i64 (wrap64 (IntKind.u16.wrap v))) = _; rw [wrap64_narrow _ (by omega)]; rfl)
        | (show Ending.returned (.int .i64 (wrap64 (IntKind.u32.wrap v))) = _; rw [wrap64_narrow _ (by omega)]; rfl)
        | (show Ending.returned (.int .i64 (wrap64 (wrap32 v))) = _; rw [wrap32_eq, wrap64_narrow _ (by omega)]; rfl)
        | (show Ending.returned (.int .i64 (v % 4294967296)) = _; simp [wrapP, IntKind.wrap, IntKind.bits, IntKind.signed])
    · repeat (with_reducible first | exact Mod.refl _ _ | refine Mod.drew ?_ | refine Mod.drewN ?_ _ | refine Mod.setCell ?_ _ (by simp) | refine Mod.alloc ?_ _ | refine Mod.trans ?_ (by assumption))

set_option maxRecDepth 100000 in
set_option maxHeartbeats 800000 in
theorem iec_may (op k : Int) (w : World) : Calls Try.prog 87 #[.int .i64 op, .int .i64 k] w fun e w' => e = .returned (.bool (mayP op k)) ∧ Mod [] w w' := by
  have hz : (op < 7 ∨ 24 < op) ∨ (7 ≤ op ∧ op ≤ 13) ∨ (14 ≤ op ∧ op ≤ 18) ∨ (19 ≤ op ∧ op ≤ 24) := by omega
  rcases kind_cases k with h | h
  · have HO := Lib.hid (iec_of_at k _ _ _ _ _ w (kindV_out h) (isKindP_out h))
    have e0 : mayP op k = false := by simp [mayP, isKindP_out h]
    rw [e0]
    clear e0 hz
    go_enter Try.func87, Try.ntmps87
    go_wp2_with (go_at_call 92; refine HO.out.mono ?_; rintro e w1 ⟨rfl, hm⟩)
    go_ret
    refine ⟨rfl, ?_⟩
    repeat (with_reducible first | exact Mod.refl _ _ | refine Mod.drew ?_ | refine Mod.drewN ?_ _ | refine Mod.setCell ?_ _ (by simp) | refine Mod.alloc ?_ _ | refine Mod.trans ?_ (by assumption))
  · have hk : isKindP k = true := by simp [isKindP]; omega
    have HO := Lib.hid (iec_of_at k _ _ _ _ _ w rfl hk)
    rcases hz with h1 | h1 | h1 | h1
    · have e0 : mayP op k = false := by simp [mayP, hk]; omega
      rw [e0]
      clear e0 h
      rcases h1 with h1 | h1
      all_goals
        go_enter Try.func87, Try.ntmps87
        go_wp2_with (go_at_call 92; refine HO.out.mono ?_; rintro e w1 ⟨rfl, hm⟩)
        go_ret
        refine ⟨by first | rfl | (show Ending.returned (.bool (decide _)) = _; congr 2; simp; omega), ?_⟩
        repeat (with_reducible first | exact Mod.refl _ _ | refine Mod.drew ?_ | refine Mod.drewN ?_ _ | refine Mod.setCell ?_ _ (by simp) | refine Mod.alloc ?_ _ | refine Mod.trans ?_ (by assumption))
    all_goals
      obtain ⟨h1, h2⟩ := h1
      clear h
      go_enter Try.func87, Try.ntmps87
      go_wp2_with (go_at_call 92; refine HO.out.mono ?_; rintro e w1 ⟨rfl, hm⟩)
      go_ret
      refine ⟨?_, ?_⟩
      · show Ending.returned (.bool _) = _
        congr 2
        simp [mayP, hk]
        try (first | omega | grind)
      · repeat (with_reducible first | exact Mod.refl _ _ | refine Mod.drew ?_ | refine Mod.drewN ?_ _ | refine Mod.setCell ?_ _ (by simp) | refine Mod.alloc ?_ _ | refine Mod.trans ?_ (by assumption))
end Go.Proofs.Ytedmikeamgebjaa
