/- The reference's behind: brackets. -/
import Derived.Test.YtedmikeamgebjaaVRefE
import Derived.Laws.IdiomStrings
set_option linter.unusedVariables false
set_option linter.unusedSimpArgs false
namespace Go.Proofs.Ytedmikeamgebjaa
open Go.RowKit

theorem neqT_ {a b : Int} (h : a ≠ b) : (a != b) = true := by rw [bne_iff_ne]; exact h
theorem neqF_ {a b : Int} (h : a = b) : (a != b) = false := by subst h; simp
theorem eqT_ {a b : Int} (h : a = b) : (a == b) = true := by subst h; simp
theorem eqF_ {a b : Int} (h : a ≠ b) : (a == b) = false := by rw [beq_eq_false_iff_ne]; exact h
theorem conv_two (W : World) (b : Nat) (x y : Int) (xa xk : UInt8) (hb : W.heap.size = b) (hx : x = ((xa.toNat : Nat) : Int)) (hy : y = ((xk.toNat : Nat) : Int)) :
    (convert 109 9 (.slice (some ⟨b, 0, none⟩) 2 2)).run Try.prog (W.alloc (.cells #[.int .u8 x, .int .u8 y] 5)) = .ok (.string ⟨#[xa, xk]⟩) (W.alloc (.cells #[.int .u8 x, .int .u8 y] 5)) := by
  subst hb hx hy
  have h := run_convert_bytes_back (P := Try.prog) (W.alloc (.cells #[.int .u8 ((xa.toNat : Nat) : Int), .int .u8 ((xk.toNat : Nat) : Int)] 5)) 109 9 5 ⟨W.heap.size, 0, none⟩ 2 [xa, xk] Try.underlying109 Try.underlying5 Try.underlying9 (fun j hj => by
    have hadd : (⟨W.heap.size, 0, none⟩ : Addr).add j = ⟨W.heap.size, j, none⟩ := by unfold Addr.add; split <;> simp_all
    rw [hadd, (Blk.new W 5 #[.int .u8 ((xa.toNat : Nat) : Int), .int .u8 ((xk.toNat : Nat) : Int)]).cell]
    have : j = 0 ∨ j = 1 := by simp at hj; omega
    rcases this with rfl | rfl <;> rfl)
  exact h

set_option maxRecDepth 100000 in
set_option maxHeartbeats 1600000 in
theorem r_beh_33g (kind area at_ ni k atx n : Int) (s : ByteArray) (w : World) (hs : s.size ≤ 16) (d : Nat) (bo bk : UInt8) (hd : ((s.size : Nat) : Int) / 2 = (d : Int)) (h0 : 0 < d) (h0b : ((d : Int) == 0) = false) (hd2 : s.size = 2 * d) (hb0 : ∀ h, (s.extract (2 * d - 2) (2 * d))[0]'h = bo) (hb1 : ∀ h, (s.extract (2 * d - 2) (2 * d))[1]'h = bk) (hk : (k != ((bk.toNat : Nat) : Int)) = true) : Calls Try.prog 56 #[.agg #[.int .i64 33, .int .i64 kind, .int .i64 area, .int .i64 at_, .int .i64 ni], .int .i64 atx, .int .i64 n, .agg #[.bool true, .int .i64 k, .string s]] w fun e w' => e = .returned (.tuple #[.agg #[.bool true, .int .i64 k, .string s], .int .i64 6]) ∧ Mod [] w w' := by
  have hw : wrap64 ((bk.toNat : Nat) : Int) = ((bk.toNat : Nat) : Int) := IntWalk.wrap64_in _ (by have := UInt8.toNat_lt bk; omega)
  go_enter Try.func56, Try.ntmps56
  go_wp2_with (fail)
  all_goals
    refine bodyPost_ret (v := .tuple #[.agg #[.bool true, .int .i64 k, .string s], .int .i64 6]) (by simp [results, Try.results56, go_sem, *]) rfl ⟨rfl, ?_⟩
    repeat (with_reducible first | exact Mod.refl _ _ | refine Mod.drew ?_ | refine Mod.drewN ?_ _ | refine Mod.setCell ?_ _ (by first | (simp; done) | (simp; omega)) | refine Mod.alloc ?_ _ | refine Mod.trans ?_ (by assumption))

set_option maxRecDepth 100000 in
set_option maxHeartbeats 1600000 in
theorem r_beh_33h (kind area at_ ni k atx n : Int) (s : ByteArray) (w : World) (hs : s.size ≤ 16) (d : Nat) (bo bk : UInt8) (hd : ((s.size : Nat) : Int) / 2 = (d : Int)) (h0 : 0 < d) (h0b : ((d : Int) == 0) = false) (hd2 : s.size = 2 * d) (hb0 : ∀ h, (s.extract (2 * d - 2) (2 * d))[0]'h = bo) (hb1 : ∀ h, (s.extract (2 * d - 2) (2 * d))[1]'h = bk) (hk : (k != ((bk.toNat : Nat) : Int)) = false) (h19 : 19 ≤ ((bo.toNat : Nat) : Int)) : Calls Try.prog 56 #[.agg #[.int .i64 33, .int .i64 kind, .int .i64 area, .int .i64 at_, .int .i64 ni], .int .i64 atx, .int .i64 n, .agg #[.bool true, .int .i64 k, .string s]] w fun e w' => e = .returned (.tuple #[.agg #[.bool true, .int .i64 1, .string (s.extract 0 (2 * d - 2))], .int .i64 0]) ∧ Mod [] w w' := by
  have hw : wrap64 ((bk.toNat : Nat) : Int) = ((bk.toNat : Nat) : Int) := IntWalk.wrap64_in _ (by have := UInt8.toNat_lt bk; omega)
  go_enter Try.func56, Try.ntmps56
  go_wp2_with (fail)
  all_goals
    refine bodyPost_ret (v := .tuple #[.agg #[.bool true, .int .i64 1, .string (s.extract 0 (2 * d - 2))], .int .i64 0]) (by simp [results, Try.results56, go_sem, *]) rfl ⟨rfl, ?_⟩
    repeat (with_reducible first | exact Mod.refl _ _ | refine Mod.drew ?_ | refine Mod.drewN ?_ _ | refine Mod.setCell ?_ _ (by first | (simp; done) | (simp; omega)) | refine Mod.alloc ?_ _ | refine Mod.trans ?_ (by assumption))

set_option maxRecDepth 100000 in
set_option maxHeartbeats 1600000 in
theorem r_beh_33l (kind area at_ ni k atx n : Int) (s : ByteArray) (w : World) (hs : s.size ≤ 16) (d : Nat) (bo bk : UInt8) (hd : ((s.size : Nat) : Int) / 2 = (d : Int)) (h0 : 0 < d) (h0b : ((d : Int) == 0) = false) (hd2 : s.size = 2 * d) (hb0 : ∀ h, (s.extract (2 * d - 2) (2 * d))[0]'h = bo) (hb1 : ∀ h, (s.extract (2 * d - 2) (2 * d))[1]'h = bk) (hk : (k != ((bk.toNat : Nat) : Int)) = false) (h19 : ((bo.toNat : Nat) : Int) < 19) : Calls Try.prog 56 #[.agg #[.int .i64 33, .int .i64 kind, .int .i64 area, .int .i64 at_, .int .i64 ni], .int .i64 atx, .int .i64 n, .agg #[.bool true, .int .i64 k, .string s]] w fun e w' => e = .returned (.tuple #[.agg #[.bool true, .int .i64 k, .string (s.extract 0 (2 * d - 2))], .int .i64 0]) ∧ Mod [] w w' := by
  have hw : wrap64 ((bk.toNat : Nat) : Int) = ((bk.toNat : Nat) : Int) := IntWalk.wrap64_in _ (by have := UInt8.toNat_lt bk; omega)
  go_enter Try.func56, Try.ntmps56
  go_wp2_with (fail)
  all_goals
    refine bodyPost_ret (v := .tuple #[.agg #[.bool true, .int .i64 k, .string (s.extract 0 (2 * d - 2))], .int .i64 0]) (by simp [results, Try.results56, go_sem, *]) rfl ⟨rfl, ?_⟩
    repeat (with_reducible first | exact Mod.refl _ _ | refine Mod.drew ?_ | refine Mod.drewN ?_ _ | refine Mod.setCell ?_ _ (by first | (simp; done) | (simp; omega)) | refine Mod.alloc ?_ _ | refine Mod.trans ?_ (by assumption))

set_option maxRecDepth 100000 in
set_option maxHeartbeats 1600000 in
theorem r_beh_32t (kind area at_ ni k atx n : Int) (s : ByteArray) (w : World) (hs : s.size ≤ 16) (d : Nat) (hd : ((s.size : Nat) : Int) / 2 = (d : Int)) (xa xk : UInt8) (ha : at_ = ((xa.toNat : Nat) : Int)) (hk : k = ((xk.toNat : Nat) : Int)) (hl : mayP at_ k = true) (h0 : ((d : Int) == 8) = false) : Calls Try.prog 56 #[.agg #[.int .i64 32, .int .i64 kind, .int .i64 area, .int .i64 at_, .int .i64 ni], .int .i64 atx, .int .i64 n, .agg #[.bool true, .int .i64 k, .string s]] w fun e w' => e = .returned (.tuple #[.agg #[.bool true, .int .i64 0, .string (s ++ ⟨#[xa, xk]⟩)], .int .i64 0]) ∧ Mod [] w w' := by
  have a0 : 0 ≤ at_ := by omega
  have a1 : at_ < 256 := by have := UInt8.toNat_lt xa; omega
  have k0 : 0 ≤ k := by omega
  have k1 : k < 256 := by have := UInt8.toNat_lt xk; omega
  have hcv := fun (W : World) (b : Nat) (hb : W.heap.size = b) => conv_two W b at_ k xa xk hb ha hk
  clear ha hk
  have HL := Lib.hid hl
  clear hl
  go_enter Try.func56, Try.ntmps56
  go_wp2_with ((go_at_call 71; refine (r_may _ _ _).mono ?_; rintro e w1 ⟨rfl, hm⟩; rw [HL.out]; have hq0 := Blk.mod (b := w.heap.size) (T := 54) (cs := [.int .i64 32, .int .i64 kind, .int .i64 area, .int .i64 at_, .int .i64 ni]) (by repeat (with_reducible first | exact Blk.new' rfl | (refine Blk.new' ?_; simp; done) | apply Blk.set | apply Blk.alloc | assumption)) hm (by simp); have q0 := hq0.cell; have fq0 := hq0.frozen; have lq0 := hq0.lt; have hq1 := Blk.mod (b := w.heap.size + 1) (T := 90) (cs := [.bool true, .int .i64 k, .string s]) (by repeat (with_reducible first | exact Blk.new' rfl | (refine Blk.new' ?_; simp; done) | apply Blk.set | apply Blk.alloc | assumption)) hm (by simp); have q1 := hq1.cell; have fq1 := hq1.frozen; have lq1 := hq1.lt; have hq2 := Blk.mod (b := w.heap.size + 1 + 1) (T := 90) (cs := [.bool false, .int .i64 0, .string ⟨#[]⟩]) (by repeat (with_reducible first | exact Blk.new' rfl | (refine Blk.new' ?_; simp; done) | apply Blk.set | apply Blk.alloc | assumption)) hm (by simp); have q2 := hq2.cell; have fq2 := hq2.frozen; have lq2 := hq2.lt; have hq3 := Blk.mod (b := w.heap.size + 1 + 1 + 1) (T := 90) (cs := [.bool true, .int .i64 k, .string s]) (by repeat (with_reducible first | exact Blk.new' rfl | (refine Blk.new' ?_; simp; done) | apply Blk.set | apply Blk.alloc | assumption)) hm (by simp); have q3 := hq3.cell; have fq3 := hq3.frozen; have lq3 := hq3.lt))
  all_goals
    refine bodyPost_ret (v := .tuple #[.agg #[.bool true, .int .i64 0, .string (s ++ ⟨#[xa, xk]⟩)], .int .i64 0]) (by simp [results, Try.results56, go_sem, *]) rfl ⟨rfl, ?_⟩
    repeat (with_reducible first | exact Mod.refl _ _ | refine Mod.drew ?_ | refine Mod.drewN ?_ _ | refine Mod.setCell ?_ _ (by first | (simp; done) | (simp; omega)) | refine Mod.alloc ?_ _ | refine Mod.trans ?_ (by assumption))

end Go.Proofs.Ytedmikeamgebjaa
