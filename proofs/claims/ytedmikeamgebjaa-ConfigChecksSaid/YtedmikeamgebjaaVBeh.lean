/- verify: what stands behind an instruction. -/
import Derived.Test.YtedmikeamgebjaaVAh
set_option linter.unusedVariables false
set_option linter.unusedSimpArgs false
namespace Go.Proofs.Ytedmikeamgebjaa
open Go.RowKit

/-- What the call of 'behind' answers. -/
def BehQ (a : Ah) (i : Ins) (w : World) (e : Ending) (w' : World) : Prop :=
  ∃ k' ao' n' c', e = .returned (.tuple #[.agg #[.int .i64 k', .slice ao' n' c'], .int .i64 (errP a i)]) ∧ (errP a i = 0 → k' = (nextP a i).kind ∧ BSl w' (.slice ao' n' c') (nextP a i).opn) ∧ Mod [] w w'
set_option maxRecDepth 100000 in
set_option maxHeartbeats 1600000 in
theorem v_behind_1 (k kind area at_ n : Int) (ao : Option Addr) (nn cap : Nat) (l : List (Int × Int)) (w : World) (hl : BSl w (.slice ao nn cap) l) (hn : l.length = nn) (hd : l.length ≤ 8) : Calls Try.prog 62 #[.agg #[.int .i64 k, .slice ao nn cap], .agg #[.int .i64 1, .int .i64 kind, .int .i64 area, .int .i64 at_, .int .i64 n]] w fun e w' => e = .returned (.tuple #[.agg #[.int .i64 kind, .slice ao nn cap], .int .i64 (0)]) ∧ Mod [] w w' := by
  have HL := Lib.hid (And.intro hl (And.intro hn hd))
  clear hl hn hd
  go_enter Try.func62, Try.ntmps62
  go_wp2_with ((go_at_call 80; refine (v_with _ _ _ _ _ _).mono ?_; rintro e w1 ⟨rfl, hm1⟩; have hA1 := Blk.mod (b := w.heap.size) (T := 102) (cs := [.int .i64 k, .slice ao nn cap]) (by repeat (with_reducible first | exact Blk.new' rfl | (refine Blk.new' ?_; simp; done) | apply Blk.alloc)) hm1 (by simp); have qA1 := hA1.cell; have hI1 := Blk.mod (b := w.heap.size + 1) (T := 54) (cs := [.int .i64 1, .int .i64 kind, .int .i64 area, .int .i64 at_, .int .i64 n]) (by repeat (with_reducible first | exact Blk.new' rfl | (refine Blk.new' ?_; simp; done) | apply Blk.alloc)) hm1 (by simp); have qI1 := hI1.cell; have hT1 := Blk.mod (b := w.heap.size + 1 + 1) (T := 102) (cs := [.int .i64 0, .slice none 0 0]) (by repeat (with_reducible first | exact Blk.new' rfl | (refine Blk.new' ?_; simp; done) | apply Blk.alloc)) hm1 (by simp); have qT1 := hT1.cell; have fT1 := hT1.frozen))
  refine bodyPost_ret (v := .tuple #[.agg #[.int .i64 kind, .slice ao nn cap], .int .i64 (0)]) (by simp [results, Try.results62, go_sem, qT1]) rfl ⟨rfl, ?_⟩
  repeat (with_reducible first | exact Mod.refl _ _ | refine Mod.drew ?_ | refine Mod.drewN ?_ _ | refine Mod.setCell ?_ _ (by first | (simp; done) | (simp; omega)) | refine Mod.alloc ?_ _ | refine Mod.trans ?_ (by assumption))


set_option maxRecDepth 100000 in
set_option maxHeartbeats 1600000 in
theorem v_behind_25 (k kind area at_ n : Int) (ao : Option Addr) (nn cap : Nat) (l : List (Int × Int)) (w : World) (hl : BSl w (.slice ao nn cap) l) (hn : l.length = nn) (hd : l.length ≤ 8) : Calls Try.prog 62 #[.agg #[.int .i64 k, .slice ao nn cap], .agg #[.int .i64 25, .int .i64 kind, .int .i64 area, .int .i64 at_, .int .i64 n]] w fun e w' => e = .returned (.tuple #[.agg #[.int .i64 k, .slice ao nn cap], .int .i64 (0)]) ∧ Mod [] w w' := by
  have HL := Lib.hid (And.intro hl (And.intro hn hd))
  clear hl hn hd
  go_enter Try.func62, Try.ntmps62
  go_wp2_with (fail)
  refine bodyPost_ret (v := .tuple #[.agg #[.int .i64 k, .slice ao nn cap], .int .i64 (0)]) (by simp [results, Try.results62, go_sem]) rfl ⟨rfl, ?_⟩
  repeat (with_reducible first | exact Mod.refl _ _ | refine Mod.drew ?_ | refine Mod.drewN ?_ _ | refine Mod.setCell ?_ _ (by first | (simp; done) | (simp; omega)) | refine Mod.alloc ?_ _ | refine Mod.trans ?_ (by assumption))


set_option maxRecDepth 100000 in
set_option maxHeartbeats 1600000 in
theorem v_behind_28 (k kind area at_ n : Int) (ao : Option Addr) (nn cap : Nat) (l : List (Int × Int)) (w : World) (hl : BSl w (.slice ao nn cap) l) (hn : l.length = nn) (hd : l.length ≤ 8) : Calls Try.prog 62 #[.agg #[.int .i64 k, .slice ao nn cap], .agg #[.int .i64 28, .int .i64 kind, .int .i64 area, .int .i64 at_, .int .i64 n]] w fun e w' => e = .returned (.tuple #[.agg #[.int .i64 k, .slice ao nn cap], .int .i64 (retE 28 k l)]) ∧ Mod [] w w' := by
  have HL := Lib.hid (And.intro hl (And.intro hn hd))
  clear hl hn hd
  go_enter Try.func62, Try.ntmps62
  go_wp2_with ((go_at_call 83; refine (v_ret _ _ _ _ _ _ l HL.out.2.1).mono ?_; rintro e w1 ⟨rfl, hm1⟩; have hA1 := Blk.mod (b := w.heap.size) (T := 102) (cs := [.int .i64 k, .slice ao nn cap]) (by repeat (with_reducible first | exact Blk.new' rfl | (refine Blk.new' ?_; simp; done) | apply Blk.alloc)) hm1 (by simp); have qA1 := hA1.cell; have hI1 := Blk.mod (b := w.heap.size + 1) (T := 54) (cs := [.int .i64 28, .int .i64 kind, .int .i64 area, .int .i64 at_, .int .i64 n]) (by repeat (with_reducible first | exact Blk.new' rfl | (refine Blk.new' ?_; simp; done) | apply Blk.alloc)) hm1 (by simp); have qI1 := hI1.cell; have hT1 := Blk.mod (b := w.heap.size + 1 + 1) (T := 102) (cs := [.int .i64 0, .slice none 0 0]) (by repeat (with_reducible first | exact Blk.new' rfl | (refine Blk.new' ?_; simp; done) | apply Blk.alloc)) hm1 (by simp); have qT1 := hT1.cell; have fT1 := hT1.frozen))
  refine bodyPost_ret (v := .tuple #[.agg #[.int .i64 k, .slice ao nn cap], .int .i64 (retE 28 k l)]) (by simp [results, Try.results62, go_sem, qT1]) rfl ⟨rfl, ?_⟩
  repeat (with_reducible first | exact Mod.refl _ _ | refine Mod.drew ?_ | refine Mod.drewN ?_ _ | refine Mod.setCell ?_ _ (by first | (simp; done) | (simp; omega)) | refine Mod.alloc ?_ _ | refine Mod.trans ?_ (by assumption))


set_option maxRecDepth 100000 in
set_option maxHeartbeats 1600000 in
theorem v_behind_29 (k kind area at_ n : Int) (ao : Option Addr) (nn cap : Nat) (l : List (Int × Int)) (w : World) (hl : BSl w (.slice ao nn cap) l) (hn : l.length = nn) (hd : l.length ≤ 8) : Calls Try.prog 62 #[.agg #[.int .i64 k, .slice ao nn cap], .agg #[.int .i64 29, .int .i64 kind, .int .i64 area, .int .i64 at_, .int .i64 n]] w fun e w' => e = .returned (.tuple #[.agg #[.int .i64 k, .slice ao nn cap], .int .i64 (retE 29 k l)]) ∧ Mod [] w w' := by
  have HL := Lib.hid (And.intro hl (And.intro hn hd))
  clear hl hn hd
  go_enter Try.func62, Try.ntmps62
  go_wp2_with ((go_at_call 83; refine (v_ret _ _ _ _ _ _ l HL.out.2.1).mono ?_; rintro e w1 ⟨rfl, hm1⟩; have hA1 := Blk.mod (b := w.heap.size) (T := 102) (cs := [.int .i64 k, .slice ao nn cap]) (by repeat (with_reducible first | exact Blk.new' rfl | (refine Blk.new' ?_; simp; done) | apply Blk.alloc)) hm1 (by simp); have qA1 := hA1.cell; have hI1 := Blk.mod (b := w.heap.size + 1) (T := 54) (cs := [.int .i64 29, .int .i64 kind, .int .i64 area, .int .i64 at_, .int .i64 n]) (by repeat (with_reducible first | exact Blk.new' rfl | (refine Blk.new' ?_; simp; done) | apply Blk.alloc)) hm1 (by simp); have qI1 := hI1.cell; have hT1 := Blk.mod (b := w.heap.size + 1 + 1) (T := 102) (cs := [.int .i64 0, .slice none 0 0]) (by repeat (with_reducible first | exact Blk.new' rfl | (refine Blk.new' ?_; simp; done) | apply Blk.alloc)) hm1 (by simp); have qT1 := hT1.cell; have fT1 := hT1.frozen))
  refine bodyPost_ret (v := .tuple #[.agg #[.int .i64 k, .slice ao nn cap], .int .i64 (retE 29 k l)]) (by simp [results, Try.results62, go_sem, qT1]) rfl ⟨rfl, ?_⟩
  repeat (with_reducible first | exact Mod.refl _ _ | refine Mod.drew ?_ | refine Mod.drewN ?_ _ | refine Mod.setCell ?_ _ (by first | (simp; done) | (simp; omega)) | refine Mod.alloc ?_ _ | refine Mod.trans ?_ (by assumption))


set_option maxRecDepth 100000 in
set_option maxHeartbeats 1600000 in
theorem v_behind_30 (k kind area at_ n : Int) (ao : Option Addr) (nn cap : Nat) (l : List (Int × Int)) (w : World) (hl : BSl w (.slice ao nn cap) l) (hn : l.length = nn) (hd : l.length ≤ 8) : Calls Try.prog 62 #[.agg #[.int .i64 k, .slice ao nn cap], .agg #[.int .i64 30, .int .i64 kind, .int .i64 area, .int .i64 at_, .int .i64 n]] w fun e w' => e = .returned (.tuple #[.agg #[.int .i64 k, .slice ao nn cap], .int .i64 (retE 30 k l)]) ∧ Mod [] w w' := by
  have HL := Lib.hid (And.intro hl (And.intro hn hd))
  clear hl hn hd
  go_enter Try.func62, Try.ntmps62
  go_wp2_with ((go_at_call 83; refine (v_ret _ _ _ _ _ _ l HL.out.2.1).mono ?_; rintro e w1 ⟨rfl, hm1⟩; have hA1 := Blk.mod (b := w.heap.size) (T := 102) (cs := [.int .i64 k, .slice ao nn cap]) (by repeat (with_reducible first | exact Blk.new' rfl | (refine Blk.new' ?_; simp; done) | apply Blk.alloc)) hm1 (by simp); have qA1 := hA1.cell; have hI1 := Blk.mod (b := w.heap.size + 1) (T := 54) (cs := [.int .i64 30, .int .i64 kind, .int .i64 area, .int .i64 at_, .int .i64 n]) (by repeat (with_reducible first | exact Blk.new' rfl | (refine Blk.new' ?_; simp; done) | apply Blk.alloc)) hm1 (by simp); have qI1 := hI1.cell; have hT1 := Blk.mod (b := w.heap.size + 1 + 1) (T := 102) (cs := [.int .i64 0, .slice none 0 0]) (by repeat (with_reducible first | exact Blk.new' rfl | (refine Blk.new' ?_; simp; done) | apply Blk.alloc)) hm1 (by simp); have qT1 := hT1.cell; have fT1 := hT1.frozen))
  refine bodyPost_ret (v := .tuple #[.agg #[.int .i64 k, .slice ao nn cap], .int .i64 (retE 30 k l)]) (by simp [results, Try.results62, go_sem, qT1]) rfl ⟨rfl, ?_⟩
  repeat (with_reducible first | exact Mod.refl _ _ | refine Mod.drew ?_ | refine Mod.drewN ?_ _ | refine Mod.setCell ?_ _ (by first | (simp; done) | (simp; omega)) | refine Mod.alloc ?_ _ | refine Mod.trans ?_ (by assumption))


set_option maxRecDepth 100000 in
set_option maxHeartbeats 1600000 in
theorem v_behind_32 (k kind area at_ n : Int) (ao : Option Addr) (nn cap : Nat) (l : List (Int × Int)) (w : World) (hl : BSl w (.slice ao nn cap) l) (hn : l.length = nn) (hd : l.length ≤ 8) : Calls Try.prog 62 #[.agg #[.int .i64 k, .slice ao nn cap], .agg #[.int .i64 32, .int .i64 kind, .int .i64 area, .int .i64 at_, .int .i64 n]] w fun e w' => ∃ k' ao' n' c', e = .returned (.tuple #[.agg #[.int .i64 k', .slice ao' n' c'], .int .i64 (pushE at_ k l)]) ∧ (pushE at_ k l = 0 → k' = 0 ∧ BSl w' (.slice ao' n' c') (l ++ [(at_, k)])) ∧ Mod [] w w' := by
  have HL := Lib.hid (And.intro hl (And.intro hn hd))
  clear hl hn hd
  go_enter Try.func62, Try.ntmps62
  go_wp2_with ((go_at_call 84; refine (v_push _ _ _ l _ (HL.out.1.keep (by repeat (with_reducible first | exact Mod.refl _ _ | refine Mod.drew ?_ | refine Mod.drewN ?_ _ | refine Mod.setCell ?_ _ (by first | (simp; done) | (simp; omega)) | refine Mod.alloc ?_ _ | refine Mod.trans ?_ (by assumption)))) HL.out.2.2).mono ?_; rintro e w1 ⟨k', ao', n', c', rfl, hK, hm1⟩; have hA1 := Blk.mod (b := w.heap.size) (T := 102) (cs := [.int .i64 k, .slice ao nn cap]) (by repeat (with_reducible first | exact Blk.new' rfl | (refine Blk.new' ?_; simp; done) | apply Blk.alloc)) hm1 (by simp); have qA1 := hA1.cell; have hI1 := Blk.mod (b := w.heap.size + 1) (T := 54) (cs := [.int .i64 32, .int .i64 kind, .int .i64 area, .int .i64 at_, .int .i64 n]) (by repeat (with_reducible first | exact Blk.new' rfl | (refine Blk.new' ?_; simp; done) | apply Blk.alloc)) hm1 (by simp); have qI1 := hI1.cell; have hT1 := Blk.mod (b := w.heap.size + 1 + 1) (T := 102) (cs := [.int .i64 0, .slice none 0 0]) (by repeat (with_reducible first | exact Blk.new' rfl | (refine Blk.new' ?_; simp; done) | apply Blk.alloc)) hm1 (by simp); have qT1 := hT1.cell; have fT1 := hT1.frozen))
  refine bodyPost_ret (v := .tuple #[.agg #[.int .i64 k', .slice ao' n' c'], .int .i64 (pushE at_ k l)]) (by simp [results, Try.results62, go_sem, qT1]) rfl ⟨k', ao', n', c', rfl, fun h0 => ⟨(hK h0).1, (hK h0).2.far (B := [w.heap.size + 1 + 1]) (by repeat (with_reducible first | exact Mod.refl _ _ | refine Mod.drew ?_ | refine Mod.drewN ?_ _ | refine Mod.setCell ?_ _ (by first | (simp; done) | (simp; omega)) | refine Mod.alloc ?_ _ | refine Mod.trans ?_ (by assumption))) (fun x hx => ⟨102, _, by simp at hx; subst hx; exact hT1, by decide⟩)⟩, ?_⟩
  clear hK
  repeat (with_reducible first | exact Mod.refl _ _ | refine Mod.drew ?_ | refine Mod.drewN ?_ _ | refine Mod.setCell ?_ _ (by first | (simp; done) | (simp; omega)) | refine Mod.alloc ?_ _ | refine Mod.trans ?_ (by assumption))


set_option maxRecDepth 100000 in
set_option maxHeartbeats 1600000 in
theorem v_behind_33 (k kind area at_ n : Int) (ao : Option Addr) (nn cap : Nat) (l : List (Int × Int)) (w : World) (hl : BSl w (.slice ao nn cap) l) (hn : l.length = nn) (hd : l.length ≤ 8) : Calls Try.prog 62 #[.agg #[.int .i64 k, .slice ao nn cap], .agg #[.int .i64 33, .int .i64 kind, .int .i64 area, .int .i64 at_, .int .i64 n]] w fun e w' => ∃ k' ao' n' c', e = .returned (.tuple #[.agg #[.int .i64 k', .slice ao' n' c'], .int .i64 (popE k l)]) ∧ (popE k l = 0 → ∃ x, l.getLast? = some x ∧ k' = madeP x.1 x.2 ∧ BSl w' (.slice ao' n' c') l.dropLast) ∧ Mod [] w w' := by
  have HL := Lib.hid (And.intro hl (And.intro hn hd))
  clear hl hn hd
  go_enter Try.func62, Try.ntmps62
  go_wp2_with ((go_at_call 85; refine (v_pop _ _ l _ (HL.out.1.keep (by repeat (with_reducible first | exact Mod.refl _ _ | refine Mod.drew ?_ | refine Mod.drewN ?_ _ | refine Mod.setCell ?_ _ (by first | (simp; done) | (simp; omega)) | refine Mod.alloc ?_ _ | refine Mod.trans ?_ (by assumption)))) HL.out.2.2).mono ?_; rintro e w1 ⟨k', ao', n', c', rfl, hK, hm1⟩; have hA1 := Blk.mod (b := w.heap.size) (T := 102) (cs := [.int .i64 k, .slice ao nn cap]) (by repeat (with_reducible first | exact Blk.new' rfl | (refine Blk.new' ?_; simp; done) | apply Blk.alloc)) hm1 (by simp); have qA1 := hA1.cell; have hI1 := Blk.mod (b := w.heap.size + 1) (T := 54) (cs := [.int .i64 33, .int .i64 kind, .int .i64 area, .int .i64 at_, .int .i64 n]) (by repeat (with_reducible first | exact Blk.new' rfl | (refine Blk.new' ?_; simp; done) | apply Blk.alloc)) hm1 (by simp); have qI1 := hI1.cell; have hT1 := Blk.mod (b := w.heap.size + 1 + 1) (T := 102) (cs := [.int .i64 0, .slice none 0 0]) (by repeat (with_reducible first | exact Blk.new' rfl | (refine Blk.new' ?_; simp; done) | apply Blk.alloc)) hm1 (by simp); have qT1 := hT1.cell; have fT1 := hT1.frozen))
  refine bodyPost_ret (v := .tuple #[.agg #[.int .i64 k', .slice ao' n' c'], .int .i64 (popE k l)]) (by simp [results, Try.results62, go_sem, qT1]) rfl ⟨k', ao', n', c', rfl, fun h0 => (hK h0).imp fun x h => ⟨h.1, h.2.1, h.2.2.far (B := [w.heap.size + 1 + 1]) (by repeat (with_reducible first | exact Mod.refl _ _ | refine Mod.drew ?_ | refine Mod.drewN ?_ _ | refine Mod.setCell ?_ _ (by first | (simp; done) | (simp; omega)) | refine Mod.alloc ?_ _ | refine Mod.trans ?_ (by assumption))) (fun x hx => ⟨102, _, by simp at hx; subst hx; exact hT1, by decide⟩)⟩, ?_⟩
  clear hK
  repeat (with_reducible first | exact Mod.refl _ _ | refine Mod.drew ?_ | refine Mod.drewN ?_ _ | refine Mod.setCell ?_ _ (by first | (simp; done) | (simp; omega)) | refine Mod.alloc ?_ _ | refine Mod.trans ?_ (by assumption))


set_option maxRecDepth 100000 in
set_option maxHeartbeats 1600000 in
theorem v_behind_2 (k kind area at_ n : Int) (ao : Option Addr) (nn cap : Nat) (l : List (Int × Int)) (w : World) (hl : BSl w (.slice ao nn cap) l) : Calls Try.prog 62 #[.agg #[.int .i64 k, .slice ao nn cap], .agg #[.int .i64 2, .int .i64 kind, .int .i64 area, .int .i64 at_, .int .i64 n]] w fun e w' => e = .returned (.tuple #[.agg #[.int .i64 kind, .slice ao nn cap], .int .i64 (mustP (logicP kind))]) ∧ Mod [] w w' := by
  clear hl
  go_enter Try.func62, Try.ntmps62
  go_wp2_with (fail)
  generalize hW : ((w.alloc (Obj.cells #[.int .i64 k, .slice ao nn cap] 102)).alloc (Obj.cells #[.int .i64 2, .int .i64 kind, .int .i64 area, .int .i64 at_, .int .i64 n] 54)).alloc (Obj.cells #[.int .i64 0, .slice none 0 0] 102) = W
  have ha : Blk W w.heap.size 102 [.int .i64 k, .slice ao nn cap] := by rw [← hW]; repeat (with_reducible first | exact Blk.new' rfl | (refine Blk.new' ?_; simp; done) | apply Blk.alloc)
  have hi : Blk W (w.heap.size + 1) 54 [.int .i64 2, .int .i64 kind, .int .i64 area, .int .i64 at_, .int .i64 n] := by rw [← hW]; repeat (with_reducible first | exact Blk.new' rfl | (refine Blk.new' ?_; simp; done) | apply Blk.alloc)
  have ht : Blk W (w.heap.size + 1 + 1) 102 [.int .i64 0, .slice none 0 0] := by rw [← hW]; repeat (with_reducible first | exact Blk.new' rfl | (refine Blk.new' ?_; simp; done) | apply Blk.alloc)
  have hm0 : Mod [] w W := by rw [← hW]; repeat (with_reducible first | exact Mod.refl _ _ | refine Mod.drew ?_ | refine Mod.drewN ?_ _ | refine Mod.setCell ?_ _ (by first | (simp; done) | (simp; omega)) | refine Mod.alloc ?_ _ | refine Mod.trans ?_ (by assumption))
  clear hW
  have n1 : ¬ (w.heap.size + 1 + 1 = w.heap.size) := by omega
  have n2 : ¬ (w.heap.size = w.heap.size + 1 + 1) := by omega
  have qa := ha.cell
  have qi := hi.cell
  have qT1 := ht.cell
  have fT1 := ht.frozen
  first | (go_region_held3 (fun w' => w'.cell? ⟨w.heap.size, 0, none⟩ = some (.int .i64 k) ∧ w'.cell? ⟨w.heap.size, 1, none⟩ = some (.slice ao nn cap) ∧ w'.cell? ⟨w.heap.size + 1, 0, none⟩ = some (.int .i64 2) ∧ w'.cell? ⟨w.heap.size + 1, 1, none⟩ = some (.int .i64 kind)) (go_keep) ((first | (go_at_call 80; refine (v_with _ _ _ _ _ _).mono ?_; rintro e w1 ⟨rfl, hm1⟩; have hA1 := Blk.mod (b := w.heap.size) (T := 102) (cs := [.int .i64 k, .slice ao nn cap]) (by repeat (with_reducible first | assumption | apply Blk.drew | apply Blk.drewN | apply Blk.alloc)) hm1 (by simp); have qA1 := hA1.cell; have hI1 := Blk.mod (b := w.heap.size + 1) (T := 54) (cs := [.int .i64 2, .int .i64 kind, .int .i64 area, .int .i64 at_, .int .i64 n]) (by repeat (with_reducible first | assumption | apply Blk.drew | apply Blk.drewN | apply Blk.alloc)) hm1 (by simp); have qI1 := hI1.cell; have hT1 := Blk.mod (b := w.heap.size + 1 + 1) (T := 102) (cs := [.int .i64 0, .slice none 0 0]) (by repeat (with_reducible first | assumption | apply Blk.drew | apply Blk.drewN | apply Blk.alloc)) hm1 (by simp); have qT1 := hT1.cell; have fT1 := hT1.frozen) | (go_at_call 82; refine (v_logic _ _).mono ?_; rintro e w1 ⟨rfl, hm1⟩; have hA1 := Blk.mod (b := w.heap.size) (T := 102) (cs := [.int .i64 k, .slice ao nn cap]) (by repeat (with_reducible first | assumption | apply Blk.drew | apply Blk.drewN | apply Blk.alloc)) hm1 (by simp); have qA1 := hA1.cell; have hI1 := Blk.mod (b := w.heap.size + 1) (T := 54) (cs := [.int .i64 2, .int .i64 kind, .int .i64 area, .int .i64 at_, .int .i64 n]) (by repeat (with_reducible first | assumption | apply Blk.drew | apply Blk.drewN | apply Blk.alloc)) hm1 (by simp); have qI1 := hI1.cell; have hT1 := Blk.mod (b := w.heap.size + 1 + 1) (T := 102) (cs := [.int .i64 0, .slice none 0 0]) (by repeat (with_reducible first | assumption | apply Blk.drew | apply Blk.drewN | apply Blk.alloc)) hm1 (by simp); have qT1 := hT1.cell; have fT1 := hT1.frozen) | (go_at_call 81; refine (v_must _ _).mono ?_; rintro e w1 ⟨rfl, rfl⟩)))) | fail
  all_goals
    go_wp2
    refine bodyPost_ret (v := .tuple #[.agg #[.int .i64 kind, .slice ao nn cap], .int .i64 (mustP (logicP kind))]) (by simp [results, Try.results62, go_sem, qT1]) rfl ⟨rfl, ?_⟩
    repeat (with_reducible first | exact Mod.refl _ _ | refine Mod.drew ?_ | refine Mod.drewN ?_ _ | refine Mod.setCell ?_ _ (by first | (simp; done) | (simp; omega)) | refine Mod.alloc ?_ _ | refine Mod.trans ?_ (by assumption))

set_option maxRecDepth 100000 in
set_option maxHeartbeats 1600000 in
theorem v_behind_3 (k kind area at_ n : Int) (ao : Option Addr) (nn cap : Nat) (l : List (Int × Int)) (w : World) (hl : BSl w (.slice ao nn cap) l) : Calls Try.prog 62 #[.agg #[.int .i64 k, .slice ao nn cap], .agg #[.int .i64 3, .int .i64 kind, .int .i64 area, .int .i64 at_, .int .i64 n]] w fun e w' => e = .returned (.tuple #[.agg #[.int .i64 k, .slice ao nn cap], .int .i64 (mustP (k == kind))]) ∧ Mod [] w w' := by
  clear hl
  go_enter Try.func62, Try.ntmps62
  go_wp2_with (fail)
  generalize hW : ((w.alloc (Obj.cells #[.int .i64 k, .slice ao nn cap] 102)).alloc (Obj.cells #[.int .i64 3, .int .i64 kind, .int .i64 area, .int .i64 at_, .int .i64 n] 54)).alloc (Obj.cells #[.int .i64 0, .slice none 0 0] 102) = W
  have ha : Blk W w.heap.size 102 [.int .i64 k, .slice ao nn cap] := by rw [← hW]; repeat (with_reducible first | exact Blk.new' rfl | (refine Blk.new' ?_; simp; done) | apply Blk.alloc)
  have hi : Blk W (w.heap.size + 1) 54 [.int .i64 3, .int .i64 kind, .int .i64 area, .int .i64 at_, .int .i64 n] := by rw [← hW]; repeat (with_reducible first | exact Blk.new' rfl | (refine Blk.new' ?_; simp; done) | apply Blk.alloc)
  have ht : Blk W (w.heap.size + 1 + 1) 102 [.int .i64 0, .slice none 0 0] := by rw [← hW]; repeat (with_reducible first | exact Blk.new' rfl | (refine Blk.new' ?_; simp; done) | apply Blk.alloc)
  have hm0 : Mod [] w W := by rw [← hW]; repeat (with_reducible first | exact Mod.refl _ _ | refine Mod.drew ?_ | refine Mod.drewN ?_ _ | refine Mod.setCell ?_ _ (by first | (simp; done) | (simp; omega)) | refine Mod.alloc ?_ _ | refine Mod.trans ?_ (by assumption))
  clear hW
  have n1 : ¬ (w.heap.size + 1 + 1 = w.heap.size) := by omega
  have n2 : ¬ (w.heap.size = w.heap.size + 1 + 1) := by omega
  have qa := ha.cell
  have qi := hi.cell
  have qT1 := ht.cell
  have fT1 := ht.frozen
  first | (go_region_held3 (fun w' => w'.cell? ⟨w.heap.size, 0, none⟩ = some (.int .i64 k) ∧ w'.cell? ⟨w.heap.size, 1, none⟩ = some (.slice ao nn cap) ∧ w'.cell? ⟨w.heap.size + 1, 0, none⟩ = some (.int .i64 3) ∧ w'.cell? ⟨w.heap.size + 1, 1, none⟩ = some (.int .i64 kind)) (go_keep) ((go_at_call 81; refine (v_must _ _).mono ?_; rintro e w1 ⟨rfl, rfl⟩))) | fail
  all_goals
    go_wp2
    refine bodyPost_ret (v := .tuple #[.agg #[.int .i64 k, .slice ao nn cap], .int .i64 (mustP (k == kind))]) (by simp [results, Try.results62, go_sem, qT1]) rfl ⟨rfl, ?_⟩
    repeat (with_reducible first | exact Mod.refl _ _ | refine Mod.drew ?_ | refine Mod.drewN ?_ _ | refine Mod.setCell ?_ _ (by first | (simp; done) | (simp; omega)) | refine Mod.alloc ?_ _ | refine Mod.trans ?_ (by assumption))

set_option maxRecDepth 100000 in
set_option maxHeartbeats 1600000 in
theorem v_behind_4t (k kind area at_ n : Int) (ao : Option Addr) (nn cap : Nat) (l : List (Int × Int)) (w : World) (hk : (k == kind) = true) (hl : BSl w (.slice ao nn cap) l) : Calls Try.prog 62 #[.agg #[.int .i64 k, .slice ao nn cap], .agg #[.int .i64 4, .int .i64 kind, .int .i64 area, .int .i64 at_, .int .i64 n]] w fun e w' => e = .returned (.tuple #[.agg #[.int .i64 k, .slice ao nn cap], .int .i64 (mustP (logicP kind))]) ∧ Mod [] w w' := by
  clear hl
  go_enter Try.func62, Try.ntmps62
  go_wp2_with (fail)
  generalize hW : ((w.alloc (Obj.cells #[.int .i64 k, .slice ao nn cap] 102)).alloc (Obj.cells #[.int .i64 4, .int .i64 kind, .int .i64 area, .int .i64 at_, .int .i64 n] 54)).alloc (Obj.cells #[.int .i64 0, .slice none 0 0] 102) = W
  have ha : Blk W w.heap.size 102 [.int .i64 k, .slice ao nn cap] := by rw [← hW]; repeat (with_reducible first | exact Blk.new' rfl | (refine Blk.new' ?_; simp; done) | apply Blk.alloc)
  have hi : Blk W (w.heap.size + 1) 54 [.int .i64 4, .int .i64 kind, .int .i64 area, .int .i64 at_, .int .i64 n] := by rw [← hW]; repeat (with_reducible first | exact Blk.new' rfl | (refine Blk.new' ?_; simp; done) | apply Blk.alloc)
  have ht : Blk W (w.heap.size + 1 + 1) 102 [.int .i64 0, .slice none 0 0] := by rw [← hW]; repeat (with_reducible first | exact Blk.new' rfl | (refine Blk.new' ?_; simp; done) | apply Blk.alloc)
  have hm0 : Mod [] w W := by rw [← hW]; repeat (with_reducible first | exact Mod.refl _ _ | refine Mod.drew ?_ | refine Mod.drewN ?_ _ | refine Mod.setCell ?_ _ (by first | (simp; done) | (simp; omega)) | refine Mod.alloc ?_ _ | refine Mod.trans ?_ (by assumption))
  clear hW
  have n1 : ¬ (w.heap.size + 1 + 1 = w.heap.size) := by omega
  have n2 : ¬ (w.heap.size = w.heap.size + 1 + 1) := by omega
  have qa := ha.cell
  have qi := hi.cell
  have qT1 := ht.cell
  have fT1 := ht.frozen
  first | (go_region_held3 (fun w' => w'.cell? ⟨w.heap.size, 0, none⟩ = some (.int .i64 k) ∧ w'.cell? ⟨w.heap.size, 1, none⟩ = some (.slice ao nn cap) ∧ w'.cell? ⟨w.heap.size + 1, 0, none⟩ = some (.int .i64 4) ∧ w'.cell? ⟨w.heap.size + 1, 1, none⟩ = some (.int .i64 kind)) (go_keep) ((first | (go_at_call 82; refine (v_logic _ _).mono ?_; rintro e w1 ⟨rfl, hm1⟩; have hA1 := Blk.mod (b := w.heap.size) (T := 102) (cs := [.int .i64 k, .slice ao nn cap]) (by repeat (with_reducible first | assumption | apply Blk.drew | apply Blk.drewN | apply Blk.alloc)) hm1 (by simp); have qA1 := hA1.cell; have hI1 := Blk.mod (b := w.heap.size + 1) (T := 54) (cs := [.int .i64 4, .int .i64 kind, .int .i64 area, .int .i64 at_, .int .i64 n]) (by repeat (with_reducible first | assumption | apply Blk.drew | apply Blk.drewN | apply Blk.alloc)) hm1 (by simp); have qI1 := hI1.cell; have hT1 := Blk.mod (b := w.heap.size + 1 + 1) (T := 102) (cs := [.int .i64 0, .slice none 0 0]) (by repeat (with_reducible first | assumption | apply Blk.drew | apply Blk.drewN | apply Blk.alloc)) hm1 (by simp); have qT1 := hT1.cell; have fT1 := hT1.frozen) | (go_at_call 81; refine (v_must _ _).mono ?_; rintro e w1 ⟨rfl, rfl⟩)))) | fail
  all_goals
    go_wp2
    refine bodyPost_ret (v := .tuple #[.agg #[.int .i64 k, .slice ao nn cap], .int .i64 (mustP (logicP kind))]) (by simp [results, Try.results62, go_sem, qT1]) rfl ⟨rfl, ?_⟩
    repeat (with_reducible first | exact Mod.refl _ _ | refine Mod.drew ?_ | refine Mod.drewN ?_ _ | refine Mod.setCell ?_ _ (by first | (simp; done) | (simp; omega)) | refine Mod.alloc ?_ _ | refine Mod.trans ?_ (by assumption))

set_option maxRecDepth 100000 in
set_option maxHeartbeats 1600000 in
theorem v_behind_4f (k kind area at_ n : Int) (ao : Option Addr) (nn cap : Nat) (l : List (Int × Int)) (w : World) (hk : (k == kind) = false) (hl : BSl w (.slice ao nn cap) l) : Calls Try.prog 62 #[.agg #[.int .i64 k, .slice ao nn cap], .agg #[.int .i64 4, .int .i64 kind, .int .i64 area, .int .i64 at_, .int .i64 n]] w fun e w' => e = .returned (.tuple #[.agg #[.int .i64 k, .slice ao nn cap], .int .i64 (mustP false)]) ∧ Mod [] w w' := by
  clear hl
  go_enter Try.func62, Try.ntmps62
  go_wp2_with (fail)
  generalize hW : ((w.alloc (Obj.cells #[.int .i64 k, .slice ao nn cap] 102)).alloc (Obj.cells #[.int .i64 4, .int .i64 kind, .int .i64 area, .int .i64 at_, .int .i64 n] 54)).alloc (Obj.cells #[.int .i64 0, .slice none 0 0] 102) = W
  have ha : Blk W w.heap.size 102 [.int .i64 k, .slice ao nn cap] := by rw [← hW]; repeat (with_reducible first | exact Blk.new' rfl | (refine Blk.new' ?_; simp; done) | apply Blk.alloc)
  have hi : Blk W (w.heap.size + 1) 54 [.int .i64 4, .int .i64 kind, .int .i64 area, .int .i64 at_, .int .i64 n] := by rw [← hW]; repeat (with_reducible first | exact Blk.new' rfl | (refine Blk.new' ?_; simp; done) | apply Blk.alloc)
  have ht : Blk W (w.heap.size + 1 + 1) 102 [.int .i64 0, .slice none 0 0] := by rw [← hW]; repeat (with_reducible first | exact Blk.new' rfl | (refine Blk.new' ?_; simp; done) | apply Blk.alloc)
  have hm0 : Mod [] w W := by rw [← hW]; repeat (with_reducible first | exact Mod.refl _ _ | refine Mod.drew ?_ | refine Mod.drewN ?_ _ | refine Mod.setCell ?_ _ (by first | (simp; done) | (simp; omega)) | refine Mod.alloc ?_ _ | refine Mod.trans ?_ (by assumption))
  clear hW
  have n1 : ¬ (w.heap.size + 1 + 1 = w.heap.size) := by omega
  have n2 : ¬ (w.heap.size = w.heap.size + 1 + 1) := by omega
  have qa := ha.cell
  have qi := hi.cell
  have qT1 := ht.cell
  have fT1 := ht.frozen
  go_still_tail 12, (by kernel_rfl)
  still_call ((v_must _ _).mono fun e w1 h => ⟨h.1, h.2.symm⟩)
  refine wpStill_nil ?_
  change wpList _ _ _ _ _ W.drew
  all_goals
    go_wp2
    refine bodyPost_ret (v := .tuple #[.agg #[.int .i64 k, .slice ao nn cap], .int .i64 (mustP false)]) (by simp [results, Try.results62, go_sem, qT1]) rfl ⟨rfl, ?_⟩
    repeat (with_reducible first | exact Mod.refl _ _ | refine Mod.drew ?_ | refine Mod.drewN ?_ _ | refine Mod.setCell ?_ _ (by first | (simp; done) | (simp; omega)) | refine Mod.alloc ?_ _ | refine Mod.trans ?_ (by assumption))

set_option maxRecDepth 100000 in
set_option maxHeartbeats 1600000 in
theorem v_behind_5t (k kind area at_ n : Int) (ao : Option Addr) (nn cap : Nat) (l : List (Int × Int)) (w : World) (hk : (k == 1) = true) (hl : BSl w (.slice ao nn cap) l) : Calls Try.prog 62 #[.agg #[.int .i64 k, .slice ao nn cap], .agg #[.int .i64 5, .int .i64 kind, .int .i64 area, .int .i64 at_, .int .i64 n]] w fun e w' => e = .returned (.tuple #[.agg #[.int .i64 k, .slice ao nn cap], .int .i64 (mustP (kind == 1))]) ∧ Mod [] w w' := by
  clear hl
  go_enter Try.func62, Try.ntmps62
  go_wp2_with (fail)
  generalize hW : ((w.alloc (Obj.cells #[.int .i64 k, .slice ao nn cap] 102)).alloc (Obj.cells #[.int .i64 5, .int .i64 kind, .int .i64 area, .int .i64 at_, .int .i64 n] 54)).alloc (Obj.cells #[.int .i64 0, .slice none 0 0] 102) = W
  have ha : Blk W w.heap.size 102 [.int .i64 k, .slice ao nn cap] := by rw [← hW]; repeat (with_reducible first | exact Blk.new' rfl | (refine Blk.new' ?_; simp; done) | apply Blk.alloc)
  have hi : Blk W (w.heap.size + 1) 54 [.int .i64 5, .int .i64 kind, .int .i64 area, .int .i64 at_, .int .i64 n] := by rw [← hW]; repeat (with_reducible first | exact Blk.new' rfl | (refine Blk.new' ?_; simp; done) | apply Blk.alloc)
  have ht : Blk W (w.heap.size + 1 + 1) 102 [.int .i64 0, .slice none 0 0] := by rw [← hW]; repeat (with_reducible first | exact Blk.new' rfl | (refine Blk.new' ?_; simp; done) | apply Blk.alloc)
  have hm0 : Mod [] w W := by rw [← hW]; repeat (with_reducible first | exact Mod.refl _ _ | refine Mod.drew ?_ | refine Mod.drewN ?_ _ | refine Mod.setCell ?_ _ (by first | (simp; done) | (simp; omega)) | refine Mod.alloc ?_ _ | refine Mod.trans ?_ (by assumption))
  clear hW
  have n1 : ¬ (w.heap.size + 1 + 1 = w.heap.size) := by omega
  have n2 : ¬ (w.heap.size = w.heap.size + 1 + 1) := by omega
  have qa := ha.cell
  have qi := hi.cell
  have qT1 := ht.cell
  have fT1 := ht.frozen
  first | (go_region_held3 (fun w' => w'.cell? ⟨w.heap.size, 0, none⟩ = some (.int .i64 k) ∧ w'.cell? ⟨w.heap.size, 1, none⟩ = some (.slice ao nn cap) ∧ w'.cell? ⟨w.heap.size + 1, 0, none⟩ = some (.int .i64 5) ∧ w'.cell? ⟨w.heap.size + 1, 1, none⟩ = some (.int .i64 kind)) (go_keep) ((go_at_call 81; refine (v_must _ _).mono ?_; rintro e w1 ⟨rfl, rfl⟩))) | fail
  all_goals
    go_wp2
    refine bodyPost_ret (v := .tuple #[.agg #[.int .i64 k, .slice ao nn cap], .int .i64 (mustP (kind == 1))]) (by simp [results, Try.results62, go_sem, qT1]) rfl ⟨rfl, ?_⟩
    repeat (with_reducible first | exact Mod.refl _ _ | refine Mod.drew ?_ | refine Mod.drewN ?_ _ | refine Mod.setCell ?_ _ (by first | (simp; done) | (simp; omega)) | refine Mod.alloc ?_ _ | refine Mod.trans ?_ (by assumption))

set_option maxRecDepth 100000 in
set_option maxHeartbeats 1600000 in
theorem v_behind_5f (k kind area at_ n : Int) (ao : Option Addr) (nn cap : Nat) (l : List (Int × Int)) (w : World) (hk : (k == 1) = false) (hl : BSl w (.slice ao nn cap) l) : Calls Try.prog 62 #[.agg #[.int .i64 k, .slice ao nn cap], .agg #[.int .i64 5, .int .i64 kind, .int .i64 area, .int .i64 at_, .int .i64 n]] w fun e w' => e = .returned (.tuple #[.agg #[.int .i64 k, .slice ao nn cap], .int .i64 (mustP false)]) ∧ Mod [] w w' := by
  clear hl
  go_enter Try.func62, Try.ntmps62
  go_wp2_with (fail)
  generalize hW : ((w.alloc (Obj.cells #[.int .i64 k, .slice ao nn cap] 102)).alloc (Obj.cells #[.int .i64 5, .int .i64 kind, .int .i64 area, .int .i64 at_, .int .i64 n] 54)).alloc (Obj.cells #[.int .i64 0, .slice none 0 0] 102) = W
  have ha : Blk W w.heap.size 102 [.int .i64 k, .slice ao nn cap] := by rw [← hW]; repeat (with_reducible first | exact Blk.new' rfl | (refine Blk.new' ?_; simp; done) | apply Blk.alloc)
  have hi : Blk W (w.heap.size + 1) 54 [.int .i64 5, .int .i64 kind, .int .i64 area, .int .i64 at_, .int .i64 n] := by rw [← hW]; repeat (with_reducible first | exact Blk.new' rfl | (refine Blk.new' ?_; simp; done) | apply Blk.alloc)
  have ht : Blk W (w.heap.size + 1 + 1) 102 [.int .i64 0, .slice none 0 0] := by rw [← hW]; repeat (with_reducible first | exact Blk.new' rfl | (refine Blk.new' ?_; simp; done) | apply Blk.alloc)
  have hm0 : Mod [] w W := by rw [← hW]; repeat (with_reducible first | exact Mod.refl _ _ | refine Mod.drew ?_ | refine Mod.drewN ?_ _ | refine Mod.setCell ?_ _ (by first | (simp; done) | (simp; omega)) | refine Mod.alloc ?_ _ | refine Mod.trans ?_ (by assumption))
  clear hW
  have n1 : ¬ (w.heap.size + 1 + 1 = w.heap.size) := by omega
  have n2 : ¬ (w.heap.size = w.heap.size + 1 + 1) := by omega
  have qa := ha.cell
  have qi := hi.cell
  have qT1 := ht.cell
  have fT1 := ht.frozen
  go_still_tail 8, (by kernel_rfl)
  still_call ((v_must _ _).mono fun e w1 h => ⟨h.1, h.2.symm⟩)
  refine wpStill_nil ?_
  change wpList _ _ _ _ _ W.drew
  all_goals
    go_wp2
    refine bodyPost_ret (v := .tuple #[.agg #[.int .i64 k, .slice ao nn cap], .int .i64 (mustP false)]) (by simp [results, Try.results62, go_sem, qT1]) rfl ⟨rfl, ?_⟩
    repeat (with_reducible first | exact Mod.refl _ _ | refine Mod.drew ?_ | refine Mod.drewN ?_ _ | refine Mod.setCell ?_ _ (by first | (simp; done) | (simp; omega)) | refine Mod.alloc ?_ _ | refine Mod.trans ?_ (by assumption))

set_option maxRecDepth 100000 in
set_option maxHeartbeats 1600000 in
theorem v_behind_6t (k kind area at_ n : Int) (ao : Option Addr) (nn cap : Nat) (l : List (Int × Int)) (w : World) (hk : (k == 1) = true) (hl : BSl w (.slice ao nn cap) l) : Calls Try.prog 62 #[.agg #[.int .i64 k, .slice ao nn cap], .agg #[.int .i64 6, .int .i64 kind, .int .i64 area, .int .i64 at_, .int .i64 n]] w fun e w' => e = .returned (.tuple #[.agg #[.int .i64 k, .slice ao nn cap], .int .i64 (mustP (kind == 1))]) ∧ Mod [] w w' := by
  clear hl
  go_enter Try.func62, Try.ntmps62
  go_wp2_with (fail)
  generalize hW : ((w.alloc (Obj.cells #[.int .i64 k, .slice ao nn cap] 102)).alloc (Obj.cells #[.int .i64 6, .int .i64 kind, .int .i64 area, .int .i64 at_, .int .i64 n] 54)).alloc (Obj.cells #[.int .i64 0, .slice none 0 0] 102) = W
  have ha : Blk W w.heap.size 102 [.int .i64 k, .slice ao nn cap] := by rw [← hW]; repeat (with_reducible first | exact Blk.new' rfl | (refine Blk.new' ?_; simp; done) | apply Blk.alloc)
  have hi : Blk W (w.heap.size + 1) 54 [.int .i64 6, .int .i64 kind, .int .i64 area, .int .i64 at_, .int .i64 n] := by rw [← hW]; repeat (with_reducible first | exact Blk.new' rfl | (refine Blk.new' ?_; simp; done) | apply Blk.alloc)
  have ht : Blk W (w.heap.size + 1 + 1) 102 [.int .i64 0, .slice none 0 0] := by rw [← hW]; repeat (with_reducible first | exact Blk.new' rfl | (refine Blk.new' ?_; simp; done) | apply Blk.alloc)
  have hm0 : Mod [] w W := by rw [← hW]; repeat (with_reducible first | exact Mod.refl _ _ | refine Mod.drew ?_ | refine Mod.drewN ?_ _ | refine Mod.setCell ?_ _ (by first | (simp; done) | (simp; omega)) | refine Mod.alloc ?_ _ | refine Mod.trans ?_ (by assumption))
  clear hW
  have n1 : ¬ (w.heap.size + 1 + 1 = w.heap.size) := by omega
  have n2 : ¬ (w.heap.size = w.heap.size + 1 + 1) := by omega
  have qa := ha.cell
  have qi := hi.cell
  have qT1 := ht.cell
  have fT1 := ht.frozen
  first | (go_region_held3 (fun w' => w'.cell? ⟨w.heap.size, 0, none⟩ = some (.int .i64 k) ∧ w'.cell? ⟨w.heap.size, 1, none⟩ = some (.slice ao nn cap) ∧ w'.cell? ⟨w.heap.size + 1, 0, none⟩ = some (.int .i64 6) ∧ w'.cell? ⟨w.heap.size + 1, 1, none⟩ = some (.int .i64 kind)) (go_keep) ((go_at_call 81; refine (v_must _ _).mono ?_; rintro e w1 ⟨rfl, rfl⟩))) | fail
  all_goals
    go_wp2
    refine bodyPost_ret (v := .tuple #[.agg #[.int .i64 k, .slice ao nn cap], .int .i64 (mustP (kind == 1))]) (by simp [results, Try.results62, go_sem, qT1]) rfl ⟨rfl, ?_⟩
    repeat (with_reducible first | exact Mod.refl _ _ | refine Mod.drew ?_ | refine Mod.drewN ?_ _ | refine Mod.setCell ?_ _ (by first | (simp; done) | (simp; omega)) | refine Mod.alloc ?_ _ | refine Mod.trans ?_ (by assumption))

set_option maxRecDepth 100000 in
set_option maxHeartbeats 1600000 in
theorem v_behind_6f (k kind area at_ n : Int) (ao : Option Addr) (nn cap : Nat) (l : List (Int × Int)) (w : World) (hk : (k == 1) = false) (hl : BSl w (.slice ao nn cap) l) : Calls Try.prog 62 #[.agg #[.int .i64 k, .slice ao nn cap], .agg #[.int .i64 6, .int .i64 kind, .int .i64 area, .int .i64 at_, .int .i64 n]] w fun e w' => e = .returned (.tuple #[.agg #[.int .i64 k, .slice ao nn cap], .int .i64 (mustP false)]) ∧ Mod [] w w' := by
  clear hl
  go_enter Try.func62, Try.ntmps62
  go_wp2_with (fail)
  generalize hW : ((w.alloc (Obj.cells #[.int .i64 k, .slice ao nn cap] 102)).alloc (Obj.cells #[.int .i64 6, .int .i64 kind, .int .i64 area, .int .i64 at_, .int .i64 n] 54)).alloc (Obj.cells #[.int .i64 0, .slice none 0 0] 102) = W
  have ha : Blk W w.heap.size 102 [.int .i64 k, .slice ao nn cap] := by rw [← hW]; repeat (with_reducible first | exact Blk.new' rfl | (refine Blk.new' ?_; simp; done) | apply Blk.alloc)
  have hi : Blk W (w.heap.size + 1) 54 [.int .i64 6, .int .i64 kind, .int .i64 area, .int .i64 at_, .int .i64 n] := by rw [← hW]; repeat (with_reducible first | exact Blk.new' rfl | (refine Blk.new' ?_; simp; done) | apply Blk.alloc)
  have ht : Blk W (w.heap.size + 1 + 1) 102 [.int .i64 0, .slice none 0 0] := by rw [← hW]; repeat (with_reducible first | exact Blk.new' rfl | (refine Blk.new' ?_; simp; done) | apply Blk.alloc)
  have hm0 : Mod [] w W := by rw [← hW]; repeat (with_reducible first | exact Mod.refl _ _ | refine Mod.drew ?_ | refine Mod.drewN ?_ _ | refine Mod.setCell ?_ _ (by first | (simp; done) | (simp; omega)) | refine Mod.alloc ?_ _ | refine Mod.trans ?_ (by assumption))
  clear hW
  have n1 : ¬ (w.heap.size + 1 + 1 = w.heap.size) := by omega
  have n2 : ¬ (w.heap.size = w.heap.size + 1 + 1) := by omega
  have qa := ha.cell
  have qi := hi.cell
  have qT1 := ht.cell
  have fT1 := ht.frozen
  go_still_tail 8, (by kernel_rfl)
  still_call ((v_must _ _).mono fun e w1 h => ⟨h.1, h.2.symm⟩)
  refine wpStill_nil ?_
  change wpList _ _ _ _ _ W.drew
  all_goals
    go_wp2
    refine bodyPost_ret (v := .tuple #[.agg #[.int .i64 k, .slice ao nn cap], .int .i64 (mustP false)]) (by simp [results, Try.results62, go_sem, qT1]) rfl ⟨rfl, ?_⟩
    repeat (with_reducible first | exact Mod.refl _ _ | refine Mod.drew ?_ | refine Mod.drewN ?_ _ | refine Mod.setCell ?_ _ (by first | (simp; done) | (simp; omega)) | refine Mod.alloc ?_ _ | refine Mod.trans ?_ (by assumption))

set_option maxRecDepth 100000 in
set_option maxHeartbeats 1600000 in
theorem v_behind_13 (k kind area at_ n : Int) (ao : Option Addr) (nn cap : Nat) (l : List (Int × Int)) (w : World) (hl : BSl w (.slice ao nn cap) l) : Calls Try.prog 62 #[.agg #[.int .i64 k, .slice ao nn cap], .agg #[.int .i64 13, .int .i64 kind, .int .i64 area, .int .i64 at_, .int .i64 n]] w fun e w' => e = .returned (.tuple #[.agg #[.int .i64 k, .slice ao nn cap], .int .i64 (mustP (logicP k))]) ∧ Mod [] w w' := by
  clear hl
  go_enter Try.func62, Try.ntmps62
  go_wp2_with (fail)
  generalize hW : ((w.alloc (Obj.cells #[.int .i64 k, .slice ao nn cap] 102)).alloc (Obj.cells #[.int .i64 13, .int .i64 kind, .int .i64 area, .int .i64 at_, .int .i64 n] 54)).alloc (Obj.cells #[.int .i64 0, .slice none 0 0] 102) = W
  have ha : Blk W w.heap.size 102 [.int .i64 k, .slice ao nn cap] := by rw [← hW]; repeat (with_reducible first | exact Blk.new' rfl | (refine Blk.new' ?_; simp; done) | apply Blk.alloc)
  have hi : Blk W (w.heap.size + 1) 54 [.int .i64 13, .int .i64 kind, .int .i64 area, .int .i64 at_, .int .i64 n] := by rw [← hW]; repeat (with_reducible first | exact Blk.new' rfl | (refine Blk.new' ?_; simp; done) | apply Blk.alloc)
  have ht : Blk W (w.heap.size + 1 + 1) 102 [.int .i64 0, .slice none 0 0] := by rw [← hW]; repeat (with_reducible first | exact Blk.new' rfl | (refine Blk.new' ?_; simp; done) | apply Blk.alloc)
  have hm0 : Mod [] w W := by rw [← hW]; repeat (with_reducible first | exact Mod.refl _ _ | refine Mod.drew ?_ | refine Mod.drewN ?_ _ | refine Mod.setCell ?_ _ (by first | (simp; done) | (simp; omega)) | refine Mod.alloc ?_ _ | refine Mod.trans ?_ (by assumption))
  clear hW
  have n1 : ¬ (w.heap.size + 1 + 1 = w.heap.size) := by omega
  have n2 : ¬ (w.heap.size = w.heap.size + 1 + 1) := by omega
  have qa := ha.cell
  have qi := hi.cell
  have qT1 := ht.cell
  have fT1 := ht.frozen
  first | (go_region_held3 (fun w' => w'.cell? ⟨w.heap.size, 0, none⟩ = some (.int .i64 k) ∧ w'.cell? ⟨w.heap.size, 1, none⟩ = some (.slice ao nn cap) ∧ w'.cell? ⟨w.heap.size + 1, 0, none⟩ = some (.int .i64 13) ∧ w'.cell? ⟨w.heap.size + 1, 1, none⟩ = some (.int .i64 kind)) (go_keep) ((first | (go_at_call 82; refine (v_logic _ _).mono ?_; rintro e w1 ⟨rfl, hm1⟩; have hA1 := Blk.mod (b := w.heap.size) (T := 102) (cs := [.int .i64 k, .slice ao nn cap]) (by repeat (with_reducible first | assumption | apply Blk.drew | apply Blk.drewN | apply Blk.alloc)) hm1 (by simp); have qA1 := hA1.cell; have hI1 := Blk.mod (b := w.heap.size + 1) (T := 54) (cs := [.int .i64 13, .int .i64 kind, .int .i64 area, .int .i64 at_, .int .i64 n]) (by repeat (with_reducible first | assumption | apply Blk.drew | apply Blk.drewN | apply Blk.alloc)) hm1 (by simp); have qI1 := hI1.cell; have hT1 := Blk.mod (b := w.heap.size + 1 + 1) (T := 102) (cs := [.int .i64 0, .slice none 0 0]) (by repeat (with_reducible first | assumption | apply Blk.drew | apply Blk.drewN | apply Blk.alloc)) hm1 (by simp); have qT1 := hT1.cell; have fT1 := hT1.frozen) | (go_at_call 81; refine (v_must _ _).mono ?_; rintro e w1 ⟨rfl, rfl⟩)))) | fail
  all_goals
    go_wp2
    refine bodyPost_ret (v := .tuple #[.agg #[.int .i64 k, .slice ao nn cap], .int .i64 (mustP (logicP k))]) (by simp [results, Try.results62, go_sem, qT1]) rfl ⟨rfl, ?_⟩
    repeat (with_reducible first | exact Mod.refl _ _ | refine Mod.drew ?_ | refine Mod.drewN ?_ _ | refine Mod.setCell ?_ _ (by first | (simp; done) | (simp; omega)) | refine Mod.alloc ?_ _ | refine Mod.trans ?_ (by assumption))

set_option maxRecDepth 100000 in
set_option maxHeartbeats 1600000 in
theorem v_behind_26 (k kind area at_ n : Int) (ao : Option Addr) (nn cap : Nat) (l : List (Int × Int)) (w : World) (hl : BSl w (.slice ao nn cap) l) : Calls Try.prog 62 #[.agg #[.int .i64 k, .slice ao nn cap], .agg #[.int .i64 26, .int .i64 kind, .int .i64 area, .int .i64 at_, .int .i64 n]] w fun e w' => e = .returned (.tuple #[.agg #[.int .i64 k, .slice ao nn cap], .int .i64 (mustP (k == 1))]) ∧ Mod [] w w' := by
  clear hl
  go_enter Try.func62, Try.ntmps62
  go_wp2_with (fail)
  generalize hW : ((w.alloc (Obj.cells #[.int .i64 k, .slice ao nn cap] 102)).alloc (Obj.cells #[.int .i64 26, .int .i64 kind, .int .i64 area, .int .i64 at_, .int .i64 n] 54)).alloc (Obj.cells #[.int .i64 0, .slice none 0 0] 102) = W
  have ha : Blk W w.heap.size 102 [.int .i64 k, .slice ao nn cap] := by rw [← hW]; repeat (with_reducible first | exact Blk.new' rfl | (refine Blk.new' ?_; simp; done) | apply Blk.alloc)
  have hi : Blk W (w.heap.size + 1) 54 [.int .i64 26, .int .i64 kind, .int .i64 area, .int .i64 at_, .int .i64 n] := by rw [← hW]; repeat (with_reducible first | exact Blk.new' rfl | (refine Blk.new' ?_; simp; done) | apply Blk.alloc)
  have ht : Blk W (w.heap.size + 1 + 1) 102 [.int .i64 0, .slice none 0 0] := by rw [← hW]; repeat (with_reducible first | exact Blk.new' rfl | (refine Blk.new' ?_; simp; done) | apply Blk.alloc)
  have hm0 : Mod [] w W := by rw [← hW]; repeat (with_reducible first | exact Mod.refl _ _ | refine Mod.drew ?_ | refine Mod.drewN ?_ _ | refine Mod.setCell ?_ _ (by first | (simp; done) | (simp; omega)) | refine Mod.alloc ?_ _ | refine Mod.trans ?_ (by assumption))
  clear hW
  have n1 : ¬ (w.heap.size + 1 + 1 = w.heap.size) := by omega
  have n2 : ¬ (w.heap.size = w.heap.size + 1 + 1) := by omega
  have qa := ha.cell
  have qi := hi.cell
  have qT1 := ht.cell
  have fT1 := ht.frozen
  first | (go_region_held3 (fun w' => w'.cell? ⟨w.heap.size, 0, none⟩ = some (.int .i64 k) ∧ w'.cell? ⟨w.heap.size, 1, none⟩ = some (.slice ao nn cap) ∧ w'.cell? ⟨w.heap.size + 1, 0, none⟩ = some (.int .i64 26) ∧ w'.cell? ⟨w.heap.size + 1, 1, none⟩ = some (.int .i64 kind)) (go_keep) ((go_at_call 81; refine (v_must _ _).mono ?_; rintro e w1 ⟨rfl, rfl⟩))) | fail
  all_goals
    go_wp2
    refine bodyPost_ret (v := .tuple #[.agg #[.int .i64 k, .slice ao nn cap], .int .i64 (mustP (k == 1))]) (by simp [results, Try.results62, go_sem, qT1]) rfl ⟨rfl, ?_⟩
    repeat (with_reducible first | exact Mod.refl _ _ | refine Mod.drew ?_ | refine Mod.drewN ?_ _ | refine Mod.setCell ?_ _ (by first | (simp; done) | (simp; omega)) | refine Mod.alloc ?_ _ | refine Mod.trans ?_ (by assumption))

set_option maxRecDepth 100000 in
set_option maxHeartbeats 1600000 in
theorem v_behind_27 (k kind area at_ n : Int) (ao : Option Addr) (nn cap : Nat) (l : List (Int × Int)) (w : World) (hl : BSl w (.slice ao nn cap) l) : Calls Try.prog 62 #[.agg #[.int .i64 k, .slice ao nn cap], .agg #[.int .i64 27, .int .i64 kind, .int .i64 area, .int .i64 at_, .int .i64 n]] w fun e w' => e = .returned (.tuple #[.agg #[.int .i64 k, .slice ao nn cap], .int .i64 (mustP (k == 1))]) ∧ Mod [] w w' := by
  clear hl
  go_enter Try.func62, Try.ntmps62
  go_wp2_with (fail)
  generalize hW : ((w.alloc (Obj.cells #[.int .i64 k, .slice ao nn cap] 102)).alloc (Obj.cells #[.int .i64 27, .int .i64 kind, .int .i64 area, .int .i64 at_, .int .i64 n] 54)).alloc (Obj.cells #[.int .i64 0, .slice none 0 0] 102) = W
  have ha : Blk W w.heap.size 102 [.int .i64 k, .slice ao nn cap] := by rw [← hW]; repeat (with_reducible first | exact Blk.new' rfl | (refine Blk.new' ?_; simp; done) | apply Blk.alloc)
  have hi : Blk W (w.heap.size + 1) 54 [.int .i64 27, .int .i64 kind, .int .i64 area, .int .i64 at_, .int .i64 n] := by rw [← hW]; repeat (with_reducible first | exact Blk.new' rfl | (refine Blk.new' ?_; simp; done) | apply Blk.alloc)
  have ht : Blk W (w.heap.size + 1 + 1) 102 [.int .i64 0, .slice none 0 0] := by rw [← hW]; repeat (with_reducible first | exact Blk.new' rfl | (refine Blk.new' ?_; simp; done) | apply Blk.alloc)
  have hm0 : Mod [] w W := by rw [← hW]; repeat (with_reducible first | exact Mod.refl _ _ | refine Mod.drew ?_ | refine Mod.drewN ?_ _ | refine Mod.setCell ?_ _ (by first | (simp; done) | (simp; omega)) | refine Mod.alloc ?_ _ | refine Mod.trans ?_ (by assumption))
  clear hW
  have n1 : ¬ (w.heap.size + 1 + 1 = w.heap.size) := by omega
  have n2 : ¬ (w.heap.size = w.heap.size + 1 + 1) := by omega
  have qa := ha.cell
  have qi := hi.cell
  have qT1 := ht.cell
  have fT1 := ht.frozen
  first | (go_region_held3 (fun w' => w'.cell? ⟨w.heap.size, 0, none⟩ = some (.int .i64 k) ∧ w'.cell? ⟨w.heap.size, 1, none⟩ = some (.slice ao nn cap) ∧ w'.cell? ⟨w.heap.size + 1, 0, none⟩ = some (.int .i64 27) ∧ w'.cell? ⟨w.heap.size + 1, 1, none⟩ = some (.int .i64 kind)) (go_keep) ((go_at_call 81; refine (v_must _ _).mono ?_; rintro e w1 ⟨rfl, rfl⟩))) | fail
  all_goals
    go_wp2
    refine bodyPost_ret (v := .tuple #[.agg #[.int .i64 k, .slice ao nn cap], .int .i64 (mustP (k == 1))]) (by simp [results, Try.results62, go_sem, qT1]) rfl ⟨rfl, ?_⟩
    repeat (with_reducible first | exact Mod.refl _ _ | refine Mod.drew ?_ | refine Mod.drewN ?_ _ | refine Mod.setCell ?_ _ (by first | (simp; done) | (simp; omega)) | refine Mod.alloc ?_ _ | refine Mod.trans ?_ (by assumption))

set_option maxRecDepth 100000 in
set_option maxHeartbeats 1600000 in
theorem v_behind_34 (k kind area at_ n : Int) (ao : Option Addr) (nn cap : Nat) (l : List (Int × Int)) (w : World) (hl : BSl w (.slice ao nn cap) l) : Calls Try.prog 62 #[.agg #[.int .i64 k, .slice ao nn cap], .agg #[.int .i64 34, .int .i64 kind, .int .i64 area, .int .i64 at_, .int .i64 n]] w fun e w' => e = .returned (.tuple #[.agg #[.int .i64 k, .slice ao nn cap], .int .i64 (mustP (k == 1))]) ∧ Mod [] w w' := by
  clear hl
  go_enter Try.func62, Try.ntmps62
  go_wp2_with (fail)
  generalize hW : ((w.alloc (Obj.cells #[.int .i64 k, .slice ao nn cap] 102)).alloc (Obj.cells #[.int .i64 34, .int .i64 kind, .int .i64 area, .int .i64 at_, .int .i64 n] 54)).alloc (Obj.cells #[.int .i64 0, .slice none 0 0] 102) = W
  have ha : Blk W w.heap.size 102 [.int .i64 k, .slice ao nn cap] := by rw [← hW]; repeat (with_reducible first | exact Blk.new' rfl | (refine Blk.new' ?_; simp; done) | apply Blk.alloc)
  have hi : Blk W (w.heap.size + 1) 54 [.int .i64 34, .int .i64 kind, .int .i64 area, .int .i64 at_, .int .i64 n] := by rw [← hW]; repeat (with_reducible first | exact Blk.new' rfl | (refine Blk.new' ?_; simp; done) | apply Blk.alloc)
  have ht : Blk W (w.heap.size + 1 + 1) 102 [.int .i64 0, .slice none 0 0] := by rw [← hW]; repeat (with_reducible first | exact Blk.new' rfl | (refine Blk.new' ?_; simp; done) | apply Blk.alloc)
  have hm0 : Mod [] w W := by rw [← hW]; repeat (with_reducible first | exact Mod.refl _ _ | refine Mod.drew ?_ | refine Mod.drewN ?_ _ | refine Mod.setCell ?_ _ (by first | (simp; done) | (simp; omega)) | refine Mod.alloc ?_ _ | refine Mod.trans ?_ (by assumption))
  clear hW
  have n1 : ¬ (w.heap.size + 1 + 1 = w.heap.size) := by omega
  have n2 : ¬ (w.heap.size = w.heap.size + 1 + 1) := by omega
  have qa := ha.cell
  have qi := hi.cell
  have qT1 := ht.cell
  have fT1 := ht.frozen
  first | (go_region_held3 (fun w' => w'.cell? ⟨w.heap.size, 0, none⟩ = some (.int .i64 k) ∧ w'.cell? ⟨w.heap.size, 1, none⟩ = some (.slice ao nn cap) ∧ w'.cell? ⟨w.heap.size + 1, 0, none⟩ = some (.int .i64 34) ∧ w'.cell? ⟨w.heap.size + 1, 1, none⟩ = some (.int .i64 kind)) (go_keep) ((go_at_call 81; refine (v_must _ _).mono ?_; rintro e w1 ⟨rfl, rfl⟩))) | fail
  all_goals
    go_wp2
    refine bodyPost_ret (v := .tuple #[.agg #[.int .i64 k, .slice ao nn cap], .int .i64 (mustP (k == 1))]) (by simp [results, Try.results62, go_sem, qT1]) rfl ⟨rfl, ?_⟩
    repeat (with_reducible first | exact Mod.refl _ _ | refine Mod.drew ?_ | refine Mod.drewN ?_ _ | refine Mod.setCell ?_ _ (by first | (simp; done) | (simp; omega)) | refine Mod.alloc ?_ _ | refine Mod.trans ?_ (by assumption))

set_option maxRecDepth 100000 in
set_option maxHeartbeats 1600000 in
theorem v_behind_35 (k kind area at_ n : Int) (ao : Option Addr) (nn cap : Nat) (l : List (Int × Int)) (w : World) (hl : BSl w (.slice ao nn cap) l) : Calls Try.prog 62 #[.agg #[.int .i64 k, .slice ao nn cap], .agg #[.int .i64 35, .int .i64 kind, .int .i64 area, .int .i64 at_, .int .i64 n]] w fun e w' => e = .returned (.tuple #[.agg #[.int .i64 k, .slice ao nn cap], .int .i64 (mustP (k == 1))]) ∧ Mod [] w w' := by
  clear hl
  go_enter Try.func62, Try.ntmps62
  go_wp2_with (fail)
  generalize hW : ((w.alloc (Obj.cells #[.int .i64 k, .slice ao nn cap] 102)).alloc (Obj.cells #[.int .i64 35, .int .i64 kind, .int .i64 area, .int .i64 at_, .int .i64 n] 54)).alloc (Obj.cells #[.int .i64 0, .slice none 0 0] 102) = W
  have ha : Blk W w.heap.size 102 [.int .i64 k, .slice ao nn cap] := by rw [← hW]; repeat (with_reducible first | exact Blk.new' rfl | (refine Blk.new' ?_; simp; done) | apply Blk.alloc)
  have hi : Blk W (w.heap.size + 1) 54 [.int .i64 35, .int .i64 kind, .int .i64 area, .int .i64 at_, .int .i64 n] := by rw [← hW]; repeat (with_reducible first | exact Blk.new' rfl | (refine Blk.new' ?_; simp; done) | apply Blk.alloc)
  have ht : Blk W (w.heap.size + 1 + 1) 102 [.int .i64 0, .slice none 0 0] := by rw [← hW]; repeat (with_reducible first | exact Blk.new' rfl | (refine Blk.new' ?_; simp; done) | apply Blk.alloc)
  have hm0 : Mod [] w W := by rw [← hW]; repeat (with_reducible first | exact Mod.refl _ _ | refine Mod.drew ?_ | refine Mod.drewN ?_ _ | refine Mod.setCell ?_ _ (by first | (simp; done) | (simp; omega)) | refine Mod.alloc ?_ _ | refine Mod.trans ?_ (by assumption))
  clear hW
  have n1 : ¬ (w.heap.size + 1 + 1 = w.heap.size) := by omega
  have n2 : ¬ (w.heap.size = w.heap.size + 1 + 1) := by omega
  have qa := ha.cell
  have qi := hi.cell
  have qT1 := ht.cell
  have fT1 := ht.frozen
  first | (go_region_held3 (fun w' => w'.cell? ⟨w.heap.size, 0, none⟩ = some (.int .i64 k) ∧ w'.cell? ⟨w.heap.size, 1, none⟩ = some (.slice ao nn cap) ∧ w'.cell? ⟨w.heap.size + 1, 0, none⟩ = some (.int .i64 35) ∧ w'.cell? ⟨w.heap.size + 1, 1, none⟩ = some (.int .i64 kind)) (go_keep) ((go_at_call 81; refine (v_must _ _).mono ?_; rintro e w1 ⟨rfl, rfl⟩))) | fail
  all_goals
    go_wp2
    refine bodyPost_ret (v := .tuple #[.agg #[.int .i64 k, .slice ao nn cap], .int .i64 (mustP (k == 1))]) (by simp [results, Try.results62, go_sem, qT1]) rfl ⟨rfl, ?_⟩
    repeat (with_reducible first | exact Mod.refl _ _ | refine Mod.drew ?_ | refine Mod.drewN ?_ _ | refine Mod.setCell ?_ _ (by first | (simp; done) | (simp; omega)) | refine Mod.alloc ?_ _ | refine Mod.trans ?_ (by assumption))

set_option maxRecDepth 100000 in
set_option maxHeartbeats 1600000 in
theorem v_behind_36 (k kind area at_ n : Int) (ao : Option Addr) (nn cap : Nat) (l : List (Int × Int)) (w : World) (hl : BSl w (.slice ao nn cap) l) : Calls Try.prog 62 #[.agg #[.int .i64 k, .slice ao nn cap], .agg #[.int .i64 36, .int .i64 kind, .int .i64 area, .int .i64 at_, .int .i64 n]] w fun e w' => e = .returned (.tuple #[.agg #[.int .i64 k, .slice ao nn cap], .int .i64 (mustP (k == 1))]) ∧ Mod [] w w' := by
  clear hl
  go_enter Try.func62, Try.ntmps62
  go_wp2_with (fail)
  generalize hW : ((w.alloc (Obj.cells #[.int .i64 k, .slice ao nn cap] 102)).alloc (Obj.cells #[.int .i64 36, .int .i64 kind, .int .i64 area, .int .i64 at_, .int .i64 n] 54)).alloc (Obj.cells #[.int .i64 0, .slice none 0 0] 102) = W
  have ha : Blk W w.heap.size 102 [.int .i64 k, .slice ao nn cap] := by rw [← hW]; repeat (with_reducible first | exact Blk.new' rfl | (refine Blk.new' ?_; simp; done) | apply Blk.alloc)
  have hi : Blk W (w.heap.size + 1) 54 [.int .i64 36, .int .i64 kind, .int .i64 area, .int .i64 at_, .int .i64 n] := by rw [← hW]; repeat (with_reducible first | exact Blk.new' rfl | (refine Blk.new' ?_; simp; done) | apply Blk.alloc)
  have ht : Blk W (w.heap.size + 1 + 1) 102 [.int .i64 0, .slice none 0 0] := by rw [← hW]; repeat (with_reducible first | exact Blk.new' rfl | (refine Blk.new' ?_; simp; done) | apply Blk.alloc)
  have hm0 : Mod [] w W := by rw [← hW]; repeat (with_reducible first | exact Mod.refl _ _ | refine Mod.drew ?_ | refine Mod.drewN ?_ _ | refine Mod.setCell ?_ _ (by first | (simp; done) | (simp; omega)) | refine Mod.alloc ?_ _ | refine Mod.trans ?_ (by assumption))
  clear hW
  have n1 : ¬ (w.heap.size + 1 + 1 = w.heap.size) := by omega
  have n2 : ¬ (w.heap.size = w.heap.size + 1 + 1) := by omega
  have qa := ha.cell
  have qi := hi.cell
  have qT1 := ht.cell
  have fT1 := ht.frozen
  first | (go_region_held3 (fun w' => w'.cell? ⟨w.heap.size, 0, none⟩ = some (.int .i64 k) ∧ w'.cell? ⟨w.heap.size, 1, none⟩ = some (.slice ao nn cap) ∧ w'.cell? ⟨w.heap.size + 1, 0, none⟩ = some (.int .i64 36) ∧ w'.cell? ⟨w.heap.size + 1, 1, none⟩ = some (.int .i64 kind)) (go_keep) ((go_at_call 81; refine (v_must _ _).mono ?_; rintro e w1 ⟨rfl, rfl⟩))) | fail
  all_goals
    go_wp2
    refine bodyPost_ret (v := .tuple #[.agg #[.int .i64 k, .slice ao nn cap], .int .i64 (mustP (k == 1))]) (by simp [results, Try.results62, go_sem, qT1]) rfl ⟨rfl, ?_⟩
    repeat (with_reducible first | exact Mod.refl _ _ | refine Mod.drew ?_ | refine Mod.drewN ?_ _ | refine Mod.setCell ?_ _ (by first | (simp; done) | (simp; omega)) | refine Mod.alloc ?_ _ | refine Mod.trans ?_ (by assumption))

set_option maxRecDepth 100000 in
set_option maxHeartbeats 1600000 in
theorem v_behind_31 (k kind area at_ n : Int) (ao : Option Addr) (nn cap : Nat) (l : List (Int × Int)) (w : World) (hl : BSl w (.slice ao nn cap) l) : Calls Try.prog 62 #[.agg #[.int .i64 k, .slice ao nn cap], .agg #[.int .i64 31, .int .i64 kind, .int .i64 area, .int .i64 at_, .int .i64 n]] w fun e w' => e = .returned (.tuple #[.agg #[.int .i64 kind, .slice ao nn cap], .int .i64 (mustP (k != 0))]) ∧ Mod [] w w' := by
  clear hl
  go_enter Try.func62, Try.ntmps62
  go_wp2_with (fail)
  generalize hW : ((w.alloc (Obj.cells #[.int .i64 k, .slice ao nn cap] 102)).alloc (Obj.cells #[.int .i64 31, .int .i64 kind, .int .i64 area, .int .i64 at_, .int .i64 n] 54)).alloc (Obj.cells #[.int .i64 0, .slice none 0 0] 102) = W
  have ha : Blk W w.heap.size 102 [.int .i64 k, .slice ao nn cap] := by rw [← hW]; repeat (with_reducible first | exact Blk.new' rfl | (refine Blk.new' ?_; simp; done) | apply Blk.alloc)
  have hi : Blk W (w.heap.size + 1) 54 [.int .i64 31, .int .i64 kind, .int .i64 area, .int .i64 at_, .int .i64 n] := by rw [← hW]; repeat (with_reducible first | exact Blk.new' rfl | (refine Blk.new' ?_; simp; done) | apply Blk.alloc)
  have ht : Blk W (w.heap.size + 1 + 1) 102 [.int .i64 0, .slice none 0 0] := by rw [← hW]; repeat (with_reducible first | exact Blk.new' rfl | (refine Blk.new' ?_; simp; done) | apply Blk.alloc)
  have hm0 : Mod [] w W := by rw [← hW]; repeat (with_reducible first | exact Mod.refl _ _ | refine Mod.drew ?_ | refine Mod.drewN ?_ _ | refine Mod.setCell ?_ _ (by first | (simp; done) | (simp; omega)) | refine Mod.alloc ?_ _ | refine Mod.trans ?_ (by assumption))
  clear hW
  have n1 : ¬ (w.heap.size + 1 + 1 = w.heap.size) := by omega
  have n2 : ¬ (w.heap.size = w.heap.size + 1 + 1) := by omega
  have qa := ha.cell
  have qi := hi.cell
  have qT1 := ht.cell
  have fT1 := ht.frozen
  first | (go_region_held3 (fun w' => w'.cell? ⟨w.heap.size, 0, none⟩ = some (.int .i64 k) ∧ w'.cell? ⟨w.heap.size, 1, none⟩ = some (.slice ao nn cap) ∧ w'.cell? ⟨w.heap.size + 1, 0, none⟩ = some (.int .i64 31) ∧ w'.cell? ⟨w.heap.size + 1, 1, none⟩ = some (.int .i64 kind)) (go_keep) ((first | (go_at_call 80; refine (v_with _ _ _ _ _ _).mono ?_; rintro e w1 ⟨rfl, hm1⟩; have hA1 := Blk.mod (b := w.heap.size) (T := 102) (cs := [.int .i64 k, .slice ao nn cap]) (by repeat (with_reducible first | assumption | apply Blk.drew | apply Blk.drewN | apply Blk.alloc)) hm1 (by simp); have qA1 := hA1.cell; have hI1 := Blk.mod (b := w.heap.size + 1) (T := 54) (cs := [.int .i64 31, .int .i64 kind, .int .i64 area, .int .i64 at_, .int .i64 n]) (by repeat (with_reducible first | assumption | apply Blk.drew | apply Blk.drewN | apply Blk.alloc)) hm1 (by simp); have qI1 := hI1.cell; have hT1 := Blk.mod (b := w.heap.size + 1 + 1) (T := 102) (cs := [.int .i64 0, .slice none 0 0]) (by repeat (with_reducible first | assumption | apply Blk.drew | apply Blk.drewN | apply Blk.alloc)) hm1 (by simp); have qT1 := hT1.cell; have fT1 := hT1.frozen) | (go_at_call 81; refine (v_must _ _).mono ?_; rintro e w1 ⟨rfl, rfl⟩)))) | fail
  all_goals
    go_wp2
    refine bodyPost_ret (v := .tuple #[.agg #[.int .i64 kind, .slice ao nn cap], .int .i64 (mustP (k != 0))]) (by simp [results, Try.results62, go_sem, qT1]) rfl ⟨rfl, ?_⟩
    repeat (with_reducible first | exact Mod.refl _ _ | refine Mod.drew ?_ | refine Mod.drewN ?_ _ | refine Mod.setCell ?_ _ (by first | (simp; done) | (simp; omega)) | refine Mod.alloc ?_ _ | refine Mod.trans ?_ (by assumption))

end Go.Proofs.Ytedmikeamgebjaa
