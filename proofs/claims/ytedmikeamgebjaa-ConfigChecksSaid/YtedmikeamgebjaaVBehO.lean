/- verify: what stands behind an instruction of arithmetic or comparison. -/
import Derived.Test.YtedmikeamgebjaaVBeh
import Derived.Test.YtedmikeamgebjaaHeld
set_option linter.unusedVariables false
set_option linter.unusedSimpArgs false
namespace Go.Proofs.Ytedmikeamgebjaa
open Go.RowKit

set_option maxRecDepth 100000 in
set_option maxHeartbeats 1600000 in
theorem v_behind_t (k op kind area at_ n : Int) (ao : Option Addr) (nn cap : Nat) (l : List (Int × Int)) (w : World) (h1 : (op == 1) = false) (h2 : (op == 2) = false) (h3 : (op == 3) = false) (h4 : (op == 4) = false) (h5 : (op == 5) = false) (h6 : (op == 6) = false) (h13 : (op == 13) = false) (h25 : (op == 25) = false) (h26 : (op == 26) = false) (h27 : (op == 27) = false) (h34 : (op == 34) = false) (h35 : (op == 35) = false) (h36 : (op == 36) = false) (h28 : (op == 28) = false) (h29 : (op == 29) = false) (h30 : (op == 30) = false) (h31 : (op == 31) = false) (h32 : (op == 32) = false) (h33 : (op == 33) = false) (hk : (k == kind) = true) (hl : BSl w (.slice ao nn cap) l) : Calls Try.prog 62 #[.agg #[.int .i64 k, .slice ao nn cap], .agg #[.int .i64 op, .int .i64 kind, .int .i64 area, .int .i64 at_, .int .i64 n]] w fun e w' => e = .returned (.tuple #[.agg #[.int .i64 (madeP op kind), .slice ao nn cap], .int .i64 (mustP (mayP op kind))]) ∧ Mod [] w w' := by
  clear hl
  go_enter Try.func62, Try.ntmps62
  go_wp2_with (fail)
  generalize hW : ((w.alloc (Obj.cells #[.int .i64 k, .slice ao nn cap] 102)).alloc (Obj.cells #[.int .i64 op, .int .i64 kind, .int .i64 area, .int .i64 at_, .int .i64 n] 54)).alloc (Obj.cells #[.int .i64 0, .slice none 0 0] 102) = W
  have ha : Blk W w.heap.size 102 [.int .i64 k, .slice ao nn cap] := by rw [← hW]; repeat (with_reducible first | exact Blk.new' rfl | (refine Blk.new' ?_; simp; done) | apply Blk.alloc)
  have hi : Blk W (w.heap.size + 1) 54 [.int .i64 op, .int .i64 kind, .int .i64 area, .int .i64 at_, .int .i64 n] := by rw [← hW]; repeat (with_reducible first | exact Blk.new' rfl | (refine Blk.new' ?_; simp; done) | apply Blk.alloc)
  have ht : Blk W (w.heap.size + 1 + 1) 102 [.int .i64 0, .slice none 0 0] := by rw [← hW]; repeat (with_reducible first | exact Blk.new' rfl | (refine Blk.new' ?_; simp; done) | apply Blk.alloc)
  have hm0 : Mod [] w W := by rw [← hW]; repeat (with_reducible first | exact Mod.refl _ _ | refine Mod.drew ?_ | refine Mod.drewN ?_ _ | refine Mod.setCell ?_ _ (by first | (simp; done) | (simp; omega)) | refine Mod.alloc ?_ _ | refine Mod.trans ?_ (by assumption))
  clear hW
  have n1 : ¬ (w.heap.size + 1 + 1 = w.heap.size) := by omega
  have n2 : ¬ (w.heap.size = w.heap.size + 1 + 1) := by omega
  have qa := ha.cell
  have qi := hi.cell
  have qT1 := ht.cell
  have fT1 := ht.frozen
  first | (go_region_held3 (fun w' => w'.cell? ⟨w.heap.size, 0, none⟩ = some (.int .i64 k) ∧ w'.cell? ⟨w.heap.size, 1, none⟩ = some (.slice ao nn cap) ∧ w'.cell? ⟨w.heap.size + 1, 0, none⟩ = some (.int .i64 op) ∧ w'.cell? ⟨w.heap.size + 1, 1, none⟩ = some (.int .i64 kind)) (go_keep) ((first | (go_at_call 86; refine (v_made _ _ _).mono ?_; rintro e w1 ⟨rfl, rfl⟩) | (go_at_call 80; refine (v_with _ _ _ _ _ _).mono ?_; rintro e w1 ⟨rfl, hm1⟩; have hA1 := Blk.mod (b := w.heap.size) (T := 102) (cs := [.int .i64 k, .slice ao nn cap]) (by repeat (with_reducible first | assumption | apply Blk.drew | apply Blk.drewN | apply Blk.alloc)) hm1 (by simp); have qA1 := hA1.cell; have hI1 := Blk.mod (b := w.heap.size + 1) (T := 54) (cs := [.int .i64 op, .int .i64 kind, .int .i64 area, .int .i64 at_, .int .i64 n]) (by repeat (with_reducible first | assumption | apply Blk.drew | apply Blk.drewN | apply Blk.alloc)) hm1 (by simp); have qI1 := hI1.cell; have hT1 := Blk.mod (b := w.heap.size + 1 + 1) (T := 102) (cs := [.int .i64 0, .slice none 0 0]) (by repeat (with_reducible first | assumption | apply Blk.drew | apply Blk.drewN | apply Blk.alloc)) hm1 (by simp); have qT1 := hT1.cell; have fT1 := hT1.frozen) | (go_at_call 87; refine (iec_may _ _ _).mono ?_; rintro e w1 ⟨rfl, hm1⟩; have hA1 := Blk.mod (b := w.heap.size) (T := 102) (cs := [.int .i64 k, .slice ao nn cap]) (by repeat (with_reducible first | assumption | apply Blk.drew | apply Blk.drewN | apply Blk.alloc)) hm1 (by simp); have qA1 := hA1.cell; have hI1 := Blk.mod (b := w.heap.size + 1) (T := 54) (cs := [.int .i64 op, .int .i64 kind, .int .i64 area, .int .i64 at_, .int .i64 n]) (by repeat (with_reducible first | assumption | apply Blk.drew | apply Blk.drewN | apply Blk.alloc)) hm1 (by simp); have qI1 := hI1.cell; have hT1 := Blk.mod (b := w.heap.size + 1 + 1) (T := 102) (cs := [.int .i64 0, .slice none 0 0]) (by repeat (with_reducible first | assumption | apply Blk.drew | apply Blk.drewN | apply Blk.alloc)) hm1 (by simp); have qT1 := hT1.cell; have fT1 := hT1.frozen) | (go_at_call 81; refine (v_must _ _).mono ?_; rintro e w1 ⟨rfl, rfl⟩)))) | fail
  all_goals
    go_wp2
    refine bodyPost_ret (v := .tuple #[.agg #[.int .i64 (madeP op kind), .slice ao nn cap], .int .i64 (mustP (mayP op kind))]) (by simp [results, Try.results62, go_sem, qT1]) rfl ⟨rfl, ?_⟩
    repeat (with_reducible first | exact Mod.refl _ _ | refine Mod.drew ?_ | refine Mod.drewN ?_ _ | refine Mod.setCell ?_ _ (by first | (simp; done) | (simp; omega)) | refine Mod.alloc ?_ _ | refine Mod.trans ?_ (by assumption))

set_option maxRecDepth 100000 in
set_option maxHeartbeats 1600000 in
theorem v_behind_f (k op kind area at_ n : Int) (ao : Option Addr) (nn cap : Nat) (l : List (Int × Int)) (w : World) (h1 : (op == 1) = false) (h2 : (op == 2) = false) (h3 : (op == 3) = false) (h4 : (op == 4) = false) (h5 : (op == 5) = false) (h6 : (op == 6) = false) (h13 : (op == 13) = false) (h25 : (op == 25) = false) (h26 : (op == 26) = false) (h27 : (op == 27) = false) (h34 : (op == 34) = false) (h35 : (op == 35) = false) (h36 : (op == 36) = false) (h28 : (op == 28) = false) (h29 : (op == 29) = false) (h30 : (op == 30) = false) (h31 : (op == 31) = false) (h32 : (op == 32) = false) (h33 : (op == 33) = false) (hk : (k == kind) = false) (hl : BSl w (.slice ao nn cap) l) : Calls Try.prog 62 #[.agg #[.int .i64 k, .slice ao nn cap], .agg #[.int .i64 op, .int .i64 kind, .int .i64 area, .int .i64 at_, .int .i64 n]] w fun e w' => e = .returned (.tuple #[.agg #[.int .i64 (madeP op kind), .slice ao nn cap], .int .i64 (mustP false)]) ∧ Mod [] w w' := by
  clear hl
  go_enter Try.func62, Try.ntmps62
  go_wp2_with (fail)
  generalize hW : ((w.alloc (Obj.cells #[.int .i64 k, .slice ao nn cap] 102)).alloc (Obj.cells #[.int .i64 op, .int .i64 kind, .int .i64 area, .int .i64 at_, .int .i64 n] 54)).alloc (Obj.cells #[.int .i64 0, .slice none 0 0] 102) = W
  have ha : Blk W w.heap.size 102 [.int .i64 k, .slice ao nn cap] := by rw [← hW]; repeat (with_reducible first | exact Blk.new' rfl | (refine Blk.new' ?_; simp; done) | apply Blk.alloc)
  have hi : Blk W (w.heap.size + 1) 54 [.int .i64 op, .int .i64 kind, .int .i64 area, .int .i64 at_, .int .i64 n] := by rw [← hW]; repeat (with_reducible first | exact Blk.new' rfl | (refine Blk.new' ?_; simp; done) | apply Blk.alloc)
  have ht : Blk W (w.heap.size + 1 + 1) 102 [.int .i64 0, .slice none 0 0] := by rw [← hW]; repeat (with_reducible first | exact Blk.new' rfl | (refine Blk.new' ?_; simp; done) | apply Blk.alloc)
  have hm0 : Mod [] w W := by rw [← hW]; repeat (with_reducible first | exact Mod.refl _ _ | refine Mod.drew ?_ | refine Mod.drewN ?_ _ | refine Mod.setCell ?_ _ (by first | (simp; done) | (simp; omega)) | refine Mod.alloc ?_ _ | refine Mod.trans ?_ (by assumption))
  clear hW
  have n1 : ¬ (w.heap.size + 1 + 1 = w.heap.size) := by omega
  have n2 : ¬ (w.heap.size = w.heap.size + 1 + 1) := by omega
  have qa := ha.cell
  have qi := hi.cell
  have qT1 := ht.cell
  have fT1 := ht.frozen
  refine wp_region_held_drew (S := (fun w' => w'.cell? ⟨w.heap.size, 0, none⟩ = some (.int .i64 k) ∧ w'.cell? ⟨w.heap.size, 1, none⟩ = some (.slice ao nn cap) ∧ w'.cell? ⟨w.heap.size + 1, 0, none⟩ = some (.int .i64 op) ∧ w'.cell? ⟨w.heap.size + 1, 1, none⟩ = some (.int .i64 kind))) (by kernel_rfl) ?_ (fun hHeld => ?_)
  · go_keep
  refine heldTake (i := 0) (v := ?_) (a' := ?_) rfl (by kernel_rfl) (by kernel_rfl) (by kernel_rfl) (fun _ _ _ h => h) (by rfl) (by assumption) ?_ ?_ ?_
  rotate_left 2
  · (intro w' hSw; (try dsimp only at hSw); go_simp); try with_reducible rfl
  · simp only [Act.put, List.setIfInBounds_toArray, List.set_cons_zero, List.set_cons_succ]; rfl
  refine heldTake (i := 1) (v := ?_) (a' := ?_) rfl (by kernel_rfl) (by kernel_rfl) (by kernel_rfl) (fun _ _ _ h => h) (by rfl) (by assumption) ?_ ?_ ?_
  rotate_left 2
  · (intro w' hSw; (try dsimp only at hSw); go_simp); try with_reducible rfl
  · simp only [Act.put, List.setIfInBounds_toArray, List.set_cons_zero, List.set_cons_succ]; rfl
  refine heldTake (i := 2) (v := ?_) (a' := ?_) rfl (by kernel_rfl) (by kernel_rfl) (by kernel_rfl) (fun _ _ _ h => h) (by rfl) (by assumption) ?_ ?_ ?_
  rotate_left 2
  · (intro w' hSw; (try dsimp only at hSw); go_simp); try with_reducible rfl
  · simp only [Act.put, List.setIfInBounds_toArray, List.set_cons_zero, List.set_cons_succ]; rfl
  refine heldTake (i := 3) (v := ?_) (a' := ?_) rfl (by kernel_rfl) (by kernel_rfl) (by kernel_rfl) (fun _ _ _ h => h) (by rfl) (by assumption) ?_ ?_ ?_
  rotate_left 2
  · (intro w' hSw; (try dsimp only at hSw); go_simp); try with_reducible rfl
  · simp only [Act.put, List.setIfInBounds_toArray, List.set_cons_zero, List.set_cons_succ]; rfl
  refine heldTake (i := 4) (v := ?_) (a' := ?_) rfl (by kernel_rfl) (by kernel_rfl) (by kernel_rfl) (fun _ _ _ h => h) (by rfl) (by assumption) ?_ ?_ ?_
  rotate_left 2
  · (intro w' hSw; (try dsimp only at hSw); go_simp); try with_reducible rfl
  · simp only [Act.put, List.setIfInBounds_toArray, List.set_cons_zero, List.set_cons_succ]; rfl
  refine heldTake (i := 7) (v := ?_) (a' := ?_) rfl (by kernel_rfl) (by kernel_rfl) (by kernel_rfl) (fun _ _ _ h => h) (by rfl) (by assumption) ?_ ?_ ?_
  rotate_left 2
  · (intro w' hSw; (try dsimp only at hSw); go_simp); try with_reducible rfl
  · simp only [Act.put, List.setIfInBounds_toArray, List.set_cons_zero, List.set_cons_succ]; rfl
  refine heldTake (i := 8) (v := ?_) (a' := ?_) rfl (by kernel_rfl) (by kernel_rfl) (by kernel_rfl) (fun _ _ _ h => h) (by rfl) (by assumption) ?_ ?_ ?_
  rotate_left 2
  · (intro w' hSw; (try dsimp only at hSw); go_simp); try with_reducible rfl
  · simp only [Act.put, List.setIfInBounds_toArray, List.set_cons_zero, List.set_cons_succ]; rfl
  refine heldTake (i := 9) (v := ?_) (a' := ?_) rfl (by kernel_rfl) (by kernel_rfl) (by kernel_rfl) (fun _ _ _ h => h) (by rfl) (by assumption) ?_ ?_ ?_
  rotate_left 2
  · (intro w' hSw; (try dsimp only at hSw); go_simp); try with_reducible rfl
  · simp only [Act.put, List.setIfInBounds_toArray, List.set_cons_zero, List.set_cons_succ]; rfl
  refine heldTake (i := 10) (v := ?_) (a' := ?_) rfl (by kernel_rfl) (by kernel_rfl) (by kernel_rfl) (fun _ _ _ h => h) (by rfl) (by assumption) ?_ ?_ ?_
  rotate_left 2
  · (intro w' hSw; (try dsimp only at hSw); go_simp); try with_reducible rfl
  · simp only [Act.put, List.setIfInBounds_toArray, List.set_cons_zero, List.set_cons_succ]; rfl
  refine heldTake (i := 11) (v := ?_) (a' := ?_) rfl (by kernel_rfl) (by kernel_rfl) (by kernel_rfl) (fun _ _ _ h => h) (by rfl) (by assumption) ?_ ?_ ?_
  rotate_left 2
  · (intro w' hSw; (try dsimp only at hSw); go_simp); try with_reducible rfl
  · simp only [Act.put, List.setIfInBounds_toArray, List.set_cons_zero, List.set_cons_succ]; rfl
  refine heldAct (i := 5) rfl (by kernel_rfl) (fun K hK => ?_)
  go_simp
  (go_at_call 86; refine (v_made _ _ _).mono ?_; rintro e w1 ⟨rfl, rfl⟩)
  try go_simp
  refine hK.out _ _ ?_ (fun hHeld => ?_)
  · go_keep
  clear hK K
  try simp only [Act.put, List.setIfInBounds_toArray, List.set_cons_zero, List.set_cons_succ]
  refine heldAct (i := 6) rfl (by kernel_rfl) (fun K hK => ?_)
  go_simp
  (go_at_call 80; refine (v_with _ _ _ _ _ _).mono ?_; rintro e w1 ⟨rfl, hm1⟩; have hA1 := Blk.mod (b := w.heap.size) (T := 102) (cs := [.int .i64 k, .slice ao nn cap]) (by repeat (with_reducible first | assumption | apply Blk.drew | apply Blk.drewN | apply Blk.alloc)) hm1 (by simp); have qA1 := hA1.cell; have hI1 := Blk.mod (b := w.heap.size + 1) (T := 54) (cs := [.int .i64 op, .int .i64 kind, .int .i64 area, .int .i64 at_, .int .i64 n]) (by repeat (with_reducible first | assumption | apply Blk.drew | apply Blk.drewN | apply Blk.alloc)) hm1 (by simp); have qI1 := hI1.cell; have hT1 := Blk.mod (b := w.heap.size + 1 + 1) (T := 102) (cs := [.int .i64 0, .slice none 0 0]) (by repeat (with_reducible first | assumption | apply Blk.drew | apply Blk.drewN | apply Blk.alloc)) hm1 (by simp); have qT1 := hT1.cell; have fT1 := hT1.frozen)
  try go_simp
  refine hK.out _ _ ?_ (fun hHeld => ?_)
  · go_keep
  clear hK K
  try simp only [Act.put, List.setIfInBounds_toArray, List.set_cons_zero, List.set_cons_succ]
  refine heldTake (i := 12) (v := ?_) (a' := ?_) rfl (by kernel_rfl) (by kernel_rfl) (by kernel_rfl) (fun _ _ _ h => h) (by rfl) (by assumption) ?_ ?_ ?_
  rotate_left 2
  · (intro w' hSw; (try dsimp only at hSw); go_simp); try with_reducible rfl
  · simp only [Act.put, List.setIfInBounds_toArray, List.set_cons_zero, List.set_cons_succ]; rfl
  refine heldSkip (i := 13) (a' := ?_) rfl (by kernel_rfl) (by kernel_rfl) (by kernel_rfl) (fun _ _ _ h => h) (by rfl) (by assumption) ?_ ?_
  rotate_left 1
  · simp only [Act.put, List.setIfInBounds_toArray, List.set_cons_zero, List.set_cons_succ]; rfl
  refine heldSkip (i := 14) (a' := ?_) rfl (by kernel_rfl) (by kernel_rfl) (by kernel_rfl) (fun _ _ _ h => h) (by rfl) (by assumption) ?_ ?_
  rotate_left 1
  · simp only [Act.put, List.setIfInBounds_toArray, List.set_cons_zero, List.set_cons_succ]; rfl
  refine heldSkip (i := 15) (a' := ?_) rfl (by kernel_rfl) (by kernel_rfl) (by kernel_rfl) (fun _ _ _ h => h) (by rfl) (by assumption) ?_ ?_
  rotate_left 1
  · simp only [Act.put, List.setIfInBounds_toArray, List.set_cons_zero, List.set_cons_succ]; rfl
  refine heldSkip (i := 16) (a' := ?_) rfl (by kernel_rfl) (by kernel_rfl) (by kernel_rfl) (fun _ _ _ h => h) (by rfl) (by assumption) ?_ ?_
  rotate_left 1
  · simp only [Act.put, List.setIfInBounds_toArray, List.set_cons_zero, List.set_cons_succ]; rfl
  refine heldSkip (i := 17) (a' := ?_) rfl (by kernel_rfl) (by kernel_rfl) (by kernel_rfl) (fun _ _ _ h => h) (by rfl) (by assumption) ?_ ?_
  rotate_left 1
  · simp only [Act.put, List.setIfInBounds_toArray, List.set_cons_zero, List.set_cons_succ]; rfl
  refine heldTake (i := 18) (v := ?_) (a' := ?_) rfl (by kernel_rfl) (by kernel_rfl) (by kernel_rfl) (fun _ _ _ h => h) (by rfl) (by assumption) ?_ ?_ ?_
  rotate_left 2
  · (intro w' hSw; (try dsimp only at hSw); go_simp); try with_reducible rfl
  · simp only [Act.put, List.setIfInBounds_toArray, List.set_cons_zero, List.set_cons_succ]; rfl
  refine heldAct (i := 19) rfl (by kernel_rfl) (fun K hK => ?_)
  go_simp
  (go_at_call 81; refine (v_must _ _).mono ?_; rintro e w2 ⟨rfl, rfl⟩)
  try go_simp
  refine hK.out _ _ ?_ (fun hHeld => ?_)
  · go_keep
  clear hK K
  try simp only [Act.put, List.setIfInBounds_toArray, List.set_cons_zero, List.set_cons_succ]
  refine heldAct (i := 20) rfl (by kernel_rfl) (fun K hK => ?_)
  go_simp
  refine hK.out _ _ ?_ (fun hHeld => ?_)
  · go_keep
  clear hK K
  try simp only [Act.put, List.setIfInBounds_toArray, List.set_cons_zero, List.set_cons_succ]
  refine heldTake (i := 21) (v := ?_) (a' := ?_) rfl (by kernel_rfl) (by kernel_rfl) (by kernel_rfl) (fun _ _ _ h => h) (by rfl) (by assumption) ?_ ?_ ?_
  rotate_left 2
  · (intro w' hSw; (try dsimp only at hSw); go_simp); try with_reducible rfl
  · simp only [Act.put, List.setIfInBounds_toArray, List.set_cons_zero, List.set_cons_succ]; rfl
  refine wpAnyH_done (by kernel_rfl) ?_ _
  all_goals
    go_wp2
    refine bodyPost_ret (v := .tuple #[.agg #[.int .i64 (madeP op kind), .slice ao nn cap], .int .i64 (mustP false)]) (by simp [results, Try.results62, go_sem, qT1]) rfl ⟨rfl, ?_⟩
    repeat (with_reducible first | exact Mod.refl _ _ | refine Mod.drew ?_ | refine Mod.drewN ?_ _ | refine Mod.setCell ?_ _ (by first | (simp; done) | (simp; omega)) | refine Mod.alloc ?_ _ | refine Mod.trans ?_ (by assumption))

end Go.Proofs.Ytedmikeamgebjaa
