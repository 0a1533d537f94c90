-- Written by a program out of the translation; not trusted: Lean checks it.
import Derived.Test.YtedmikeamgebjaaK
import Derived.Test.YtedmikeamgebjaaPx0
namespace Go.Proofs.Ytedmikeamgebjaa.P
open Go.Proofs.YtedmikeamgebjaaW.PrintK Go.RowKit Go.Proofs.YtedmikeamgebjaaW.PrintWords Go.Proofs.YtedmikeamgebjaaW.PrintLast Go.Proofs.YtedmikeamgebjaaW.PrintMore
attribute [local go_sem] max2_int min2_int max_two min_two max_three min_three max_four min_four   -- for this text's walks alone
set_option linter.unusedVariables false
set_option linter.unusedSimpArgs false

/-! ### fuglemanref12_Right: function 55 -/
def fuglemanref12_Right.f (a0_0 : Int) (a0_1 : Int) (a0_2 : Int) (a0_3 : Int) (a0_4 : Int) : Option Bool := rightF ⟨a0_0, a0_1, a0_2, a0_3, a0_4⟩
theorem fuglemanref12_Right.calls (a0_0 : Int) (a0_1 : Int) (a0_2 : Int) (a0_3 : Int) (a0_4 : Int) (r : Bool) (w : World) (h : fuglemanref12_Right.f a0_0 a0_1 a0_2 a0_3 a0_4 = some r) :
  Calls Try.prog 55 #[.agg #[.int .i64 a0_0, .int .i64 a0_1, .int .i64 a0_2, .int .i64 a0_3, .int .i64 a0_4]] w fun e w' => e = .returned (.bool r) ∧ Below w.heap.size w w' := rightF_calls h w

/-! ### fuglemanref14_behind: function 56 -/
def fuglemanref14_behind.f (a0_0 : Int) (a0_1 : Int) (a0_2 : Int) (a0_3 : Int) (a0_4 : Int) (a1 : Int) (a2 : Int) (a3_0 : Bool) (a3_1 : Int) (a3_2 : ByteArray) : Option (Bool × Int × ByteArray × Int) := behindF ⟨a0_0, a0_1, a0_2, a0_3, a0_4⟩ a1 a2 a3_0 a3_1 a3_2
theorem fuglemanref14_behind.calls (a0_0 : Int) (a0_1 : Int) (a0_2 : Int) (a0_3 : Int) (a0_4 : Int) (a1 : Int) (a2 : Int) (a3_0 : Bool) (a3_1 : Int) (a3_2 : ByteArray) (r1 : Bool) (r2 : Int) (r3 : ByteArray) (r4 : Int) (w : World) (h : fuglemanref14_behind.f a0_0 a0_1 a0_2 a0_3 a0_4 a1 a2 a3_0 a3_1 a3_2 = some (r1, r2, r3, r4)) :
  Calls Try.prog 56 #[.agg #[.int .i64 a0_0, .int .i64 a0_1, .int .i64 a0_2, .int .i64 a0_3, .int .i64 a0_4], .int .i64 a1, .int .i64 a2, .agg #[.bool a3_0, .int .i64 a3_1, .string a3_2]] w fun e w' => e = .returned (.tuple #[.agg #[.bool r1, .int .i64 r2, .string r3], .int .i64 r4]) ∧ Below w.heap.size w w' := behindF_calls h w

/-! ### fuglemanref14_join: function 57 -/
def fuglemanref14_join.f (a0_0 : Bool) (a0_1 : Int) (a0_2 : ByteArray) (a1_0 : Bool) (a1_1 : Int) (a1_2 : ByteArray) : Option (Bool × Int × ByteArray × Bool) := if a0_0 = true then (if a0_1 = a1_1 then (some (a0_0, a0_1, a0_2, (a0_2.toList == a1_2.toList))) else (some (a0_0, 0, a0_2, (a0_2.toList == a1_2.toList)))) else (some (a1_0, a1_1, a1_2, true))
def fuglemanref14_join.T5 : Bool × List (List Nat × List Nat) := (true, [([], []), ([], []), ([1], [1]), ([], []), ([3], [3]), ([2, 4], [2, 4]), ([0, 0], [0]), ([5, 6, 0, 1, 2, 3, 4, 5, 6], [5])])
def fuglemanref14_join.B5 : List Nat := [0, 0, 2, 0, 8, 30, 1, 127]
theorem fuglemanref14_join.tab5 : rtab .any (opsOf Try.f57 5) = fuglemanref14_join.T5 := by kernel_rfl
theorem fuglemanref14_join.bits5 : waitsOk fuglemanref14_join.T5.2 fuglemanref14_join.B5 = true := by kernel_rfl
set_option maxHeartbeats 8000000 in
set_option maxRecDepth 100000 in
theorem fuglemanref14_join.calls (a0_0 : Bool) (a0_1 : Int) (a0_2 : ByteArray) (a1_0 : Bool) (a1_1 : Int) (a1_2 : ByteArray) (r1 : Bool) (r2 : Int) (r3 : ByteArray) (r4 : Bool) (w : World) (h : fuglemanref14_join.f a0_0 a0_1 a0_2 a1_0 a1_1 a1_2 = some (r1, r2, r3, r4)) :
  Calls Try.prog 57 #[.agg #[.bool a0_0, .int .i64 a0_1, .string a0_2], .agg #[.bool a1_0, .int .i64 a1_1, .string a1_2]] w fun e w' => e = .returned (.tuple #[.agg #[.bool r1, .int .i64 r2, .string r3], .bool r4]) ∧ Below w.heap.size w w' := by
 have hu90 := Try.underlying90
 have HB := Aside0.mk (Below.refl w.heap.size w)
 have H : (if a0_0 = true then (if a0_1 = a1_1 then (some (a0_0, a0_1, a0_2, (a0_2.toList == a1_2.toList))) else (some (a0_0, 0, a0_2, (a0_2.toList == a1_2.toList)))) else (some (a1_0, a1_1, a1_2, true))) = some (r1, r2, r3, r4) := h
 clear h
 by_cases c3 : a0_0 = true
 case neg =>
  replace c3 := Bool.eq_false_iff.mpr c3
  subst c3
  have H1 : (some (a1_0, a1_1, a1_2, true)) = some (r1, r2, r3, r4) := by rw [if_neg (show ¬ (false = true) by decide)] at H; exact H
  clear H
  have H := H1
  clear H1
  simp only [Option.some.injEq, Prod.mk.injEq] at H
  obtain ⟨rfl, rfl, rfl, rfl⟩ := H
  go_enter Try.func57, Try.ntmps57
  go_wp2_with (first | ((with_reducible refine gate_dst (N := 2) rfl ?_); refine boxK (N := 2) (#[.bool false, .int .i64 a0_1, .string a0_2]) 90 ?_; intro gb101 hg w30 hbox hb; have BK101 := Aside0.mk (hbox); have GW101 := sG hg HB; have GE101 := sG hg HB; replace HB := sB HB hb; clear hb hbox hg) | ((with_reducible refine gate_dst (N := 3) rfl ?_); refine boxK (N := 3) (#[.bool a1_0, .int .i64 a1_1, .string a1_2]) 90 ?_; intro gb102 hg w31 hbox hb; have BK102 := Aside0.mk (hbox); have GW102 := sG hg HB; have GE102 := sG hg HB; replace HB := sB HB hb; have NB101_102 := sNl hg BK101; have NB102_101 := sNg hg BK101; replace BK101 := sK BK101 hb; clear hb hbox hg) | ((with_reducible refine gate_dst (N := 4) rfl ?_); refine boxK (N := 4) (#[.bool false, .int .i64 0, .string (⟨#[]⟩ : ByteArray)]) 90 ?_; intro gb103 hg w32 hbox hb; have BK103 := Aside0.mk (hbox); have GW103 := sG hg HB; have GE103 := sG hg HB; replace HB := sB HB hb; have NB101_103 := sNl hg BK101; have NB103_101 := sNg hg BK101; replace BK101 := sK BK101 hb; have NB102_103 := sNl hg BK102; have NB103_102 := sNg hg BK102; replace BK102 := sK BK102 hb; clear hb hbox hg; have hnb33 := NB101_102.out; have hnc33 := NB102_101.out; have hnb34 := NB101_103.out; have hnc34 := NB103_101.out; obtain ⟨z35_0, z35_1, z35_2, q35_0, q35_1, q35_2⟩ := bk3 BK101; have hnb36 := NB102_103.out; have hnc36 := NB103_102.out; obtain ⟨z37_0, z37_1, z37_2, q37_0, q37_1, q37_2⟩ := bk3 BK102; obtain ⟨z38_0, z38_1, z38_2, q38_0, q38_1, q38_2⟩ := bk3 BK103))
  refine bodyPost_ret (results_ct rfl _ _ gb103 90 #[.bool a1_0, .int .i64 a1_1, .string a1_2] (0, 0) _ rfl (sKq BK103) Try.underlying90 rfl (by kernel_rfl)) rfl ?_
  exact sEnd HB
 subst c3
 have H1 : (if a0_1 = a1_1 then (some (true, a0_1, a0_2, (a0_2.toList == a1_2.toList))) else (some (true, 0, a0_2, (a0_2.toList == a1_2.toList)))) = some (r1, r2, r3, r4) := by rw [if_pos rfl] at H; exact H
 clear H
 have H := H1
 clear H1
 by_cases c4 : a0_1 = a1_1
 ·rw [if_pos c4] at H
  have c4b0 : (a0_1 == a1_1) = true := beq_iff_eq.mpr c4
  have c4b1 : (a0_1 != a1_1) = false := bne_eq_false_iff_eq.mpr c4
  clear c4
  simp only [Option.some.injEq, Prod.mk.injEq] at H
  obtain ⟨rfl, rfl, rfl, rfl⟩ := H
  go_enter Try.func57, Try.ntmps57
  try go_wp2_with (first | ((with_reducible refine gate_dst (N := 2) rfl ?_); refine boxK (N := 2) (#[.bool true, .int .i64 a0_1, .string a0_2]) 90 ?_; intro gb101 hg w5 hbox hb; have BK101 := Aside0.mk (hbox); have GW101 := sG hg HB; have GE101 := sG hg HB; replace HB := sB HB hb; clear hb hbox hg) | ((with_reducible refine gate_dst (N := 3) rfl ?_); refine boxK (N := 3) (#[.bool a1_0, .int .i64 a1_1, .string a1_2]) 90 ?_; intro gb102 hg w6 hbox hb; have BK102 := Aside0.mk (hbox); have GW102 := sG hg HB; have GE102 := sG hg HB; replace HB := sB HB hb; have NB101_102 := sNl hg BK101; have NB102_101 := sNg hg BK101; replace BK101 := sK BK101 hb; clear hb hbox hg) | ((with_reducible refine gate_dst (N := 4) rfl ?_); refine boxK (N := 4) (#[.bool false, .int .i64 0, .string (⟨#[]⟩ : ByteArray)]) 90 ?_; intro gb103 hg w7 hbox hb; have BK103 := Aside0.mk (hbox); have GW103 := sG hg HB; have GE103 := sG hg HB; replace HB := sB HB hb; have NB101_103 := sNl hg BK101; have NB103_101 := sNg hg BK101; replace BK101 := sK BK101 hb; have NB102_103 := sNl hg BK102; have NB103_102 := sNg hg BK102; replace BK102 := sK BK102 hb; clear hb hbox hg; have hnb8 := NB101_102.out; have hnc8 := NB102_101.out; have hnb9 := NB101_103.out; have hnc9 := NB103_101.out; obtain ⟨z10_0, z10_1, z10_2, q10_0, q10_1, q10_2⟩ := bk3 BK101; have hnb11 := NB102_103.out; have hnc11 := NB103_102.out; obtain ⟨z12_0, z12_1, z12_2, q12_0, q12_1, q12_2⟩ := bk3 BK102))
  replace BK101 := Aside0.mk (blk_drew BK101.out)
  replace BK102 := Aside0.mk (blk_drew BK102.out)
  replace BK103 := Aside0.mk (blk_drew BK103.out)
  replace HB := Aside0.mk (below_drew1 HB.out)
  refine start_ (n := 8) (S := fun w' => w'.cell? ⟨gb101, 0, none⟩ = some (.bool true) ∧ w'.cell? ⟨gb101, 1, none⟩ = some (.int .i64 a0_1) ∧ w'.cell? ⟨gb101, 2, none⟩ = some (.string a0_2) ∧ w'.cell? ⟨gb102, 0, none⟩ = some (.bool a1_0) ∧ w'.cell? ⟨gb102, 1, none⟩ = some (.int .i64 a1_1) ∧ w'.cell? ⟨gb102, 2, none⟩ = some (.string a1_2)) (ds := []) #[false, false, false, false, false, false, false, false] (by kernel_rfl) rfl rfl ⟨sc BK101 0, sc BK101 1, sc BK101 2, sc BK102 0, sc BK102 1, sc BK102 2⟩ (fun hHeld => ?_); refine with_tabW fuglemanref14_join.tab5 fuglemanref14_join.bits5 (fun HT_ HW_ => ?_)
  generalize w7.drew = w13 at BK101 BK102 BK103 HB hHeld ⊢
  refine pureK 1 (some 17) #[false, true, false, false, false, false, false, false] HT_ ?_
  refine pureK 3 (some 19) #[false, true, false, true, false, false, false, false] HT_ ?_
  refine takeK 0 (some 16) #[true, true, false, true, false, false, false, false] HT_ HW_ hHeld ?_ (hy := by (rintro w' ⟨s0, s1, s2, s3, s4, s5⟩; go_simp; with_reducible rfl))
  refine takeK 2 (some 18) #[true, true, true, true, false, false, false, false] HT_ HW_ hHeld ?_ (hy := by (rintro w' ⟨s0, s1, s2, s3, s4, s5⟩; go_simp; with_reducible rfl))
  refine takeK 4 (some 20) #[true, true, true, true, true, false, false, false] HT_ HW_ hHeld ?_ (hy := by (rintro w' ⟨s0, s1, s2, s3, s4, s5⟩; go_simp; with_reducible rfl))
  refine pureK 5 (some 21) #[true, true, true, true, true, true, false, false] HT_ ?_
  refine one_ (i := 6) (N := none) #[true, true, true, true, true, true, true, false] rfl rfl (one_of HT_.out (by kernel_rfl)) (by decide) (fun K hK => ?_)
  have hs14 : w13.cell? ⟨gb103, 0, none⟩ = some (.bool false) := sc BK103 0
  have hfs14 := blk_frozen BK103.out 0
  have hns14_0 := NB101_103.out
  have hns14_1 := NB102_103.out
  have hms14_0 := NB103_101.out
  have hms14_1 := NB103_102.out
  have hs15 : w13.cell? ⟨gb103, 1, none⟩ = some (.int .i64 0) := sc BK103 1
  have hfs15 := blk_frozen BK103.out 1
  have hns15_0 := NB101_103.out
  have hns15_1 := NB102_103.out
  have hms15_0 := NB103_101.out
  have hms15_1 := NB103_102.out
  have hs16 : w13.cell? ⟨gb103, 2, none⟩ = some (.string (⟨#[]⟩ : ByteArray)) := sc BK103 2
  have hfs16 := blk_frozen BK103.out 2
  have hns16_0 := NB101_103.out
  have hns16_1 := NB102_103.out
  have hms16_0 := NB103_101.out
  have hms16_1 := NB103_102.out
  refine skip_ (w1 := ?_) (by rfl) rfl ?_ ?_
  rotate_left
  ·go_simp
   rfl
  refine hK.out _ _ ⟨((cell_far (p := ⟨gb103, _, none⟩) NB101_103.out _).trans (((cell_far (p := ⟨gb103, _, none⟩) NB101_103.out _).trans (((cell_far (p := ⟨gb103, _, none⟩) NB101_103.out _).trans (hHeld.1)))))), ((cell_far (p := ⟨gb103, _, none⟩) NB101_103.out _).trans (((cell_far (p := ⟨gb103, _, none⟩) NB101_103.out _).trans (((cell_far (p := ⟨gb103, _, none⟩) NB101_103.out _).trans (hHeld.2.1)))))), ((cell_far (p := ⟨gb103, _, none⟩) NB101_103.out _).trans (((cell_far (p := ⟨gb103, _, none⟩) NB101_103.out _).trans (((cell_far (p := ⟨gb103, _, none⟩) NB101_103.out _).trans (hHeld.2.2.1)))))), ((cell_far (p := ⟨gb103, _, none⟩) NB102_103.out _).trans (((cell_far (p := ⟨gb103, _, none⟩) NB102_103.out _).trans (((cell_far (p := ⟨gb103, _, none⟩) NB102_103.out _).trans (hHeld.2.2.2.1)))))), ((cell_far (p := ⟨gb103, _, none⟩) NB102_103.out _).trans (((cell_far (p := ⟨gb103, _, none⟩) NB102_103.out _).trans (((cell_far (p := ⟨gb103, _, none⟩) NB102_103.out _).trans (hHeld.2.2.2.2.1)))))), ((cell_far (p := ⟨gb103, _, none⟩) NB102_103.out _).trans (((cell_far (p := ⟨gb103, _, none⟩) NB102_103.out _).trans (((cell_far (p := ⟨gb103, _, none⟩) NB102_103.out _).trans (hHeld.2.2.2.2.2))))))⟩ (fun hHeld => ?_)
  clear hK K
  refine pureK 7 (some 5) #[true, true, true, true, true, true, true, true] HT_ ?_
  refine done_ (done_of HT_.out (by kernel_rfl)) ?_
  try go_wp2
  refine bodyPost_ret (results_ct rfl _ _ gb103 90 #[.bool true, .int .i64 a0_1, .string a0_2] (0, 0) _ rfl (sKq BK103) Try.underlying90 rfl (by kernel_rfl)) rfl ?_
  exact sEnd HB
 rw [if_neg c4] at H
 have c4b0 : (a0_1 == a1_1) = false := beq_eq_false_iff_ne.mpr c4
 have c4b1 : (a0_1 != a1_1) = true := bne_iff_ne.mpr c4
 simp only [Option.some.injEq, Prod.mk.injEq] at H
 obtain ⟨rfl, rfl, rfl, rfl⟩ := H
 go_enter Try.func57, Try.ntmps57
 try go_wp2_with (first | ((with_reducible refine gate_dst (N := 2) rfl ?_); refine boxK (N := 2) (#[.bool true, .int .i64 a0_1, .string a0_2]) 90 ?_; intro gb101 hg w17 hbox hb; have BK101 := Aside0.mk (hbox); have GW101 := sG hg HB; have GE101 := sG hg HB; replace HB := sB HB hb; clear hb hbox hg) | ((with_reducible refine gate_dst (N := 3) rfl ?_); refine boxK (N := 3) (#[.bool a1_0, .int .i64 a1_1, .string a1_2]) 90 ?_; intro gb102 hg w18 hbox hb; have BK102 := Aside0.mk (hbox); have GW102 := sG hg HB; have GE102 := sG hg HB; replace HB := sB HB hb; have NB101_102 := sNl hg BK101; have NB102_101 := sNg hg BK101; replace BK101 := sK BK101 hb; clear hb hbox hg) | ((with_reducible refine gate_dst (N := 4) rfl ?_); refine boxK (N := 4) (#[.bool false, .int .i64 0, .string (⟨#[]⟩ : ByteArray)]) 90 ?_; intro gb103 hg w19 hbox hb; have BK103 := Aside0.mk (hbox); have GW103 := sG hg HB; have GE103 := sG hg HB; replace HB := sB HB hb; have NB101_103 := sNl hg BK101; have NB103_101 := sNg hg BK101; replace BK101 := sK BK101 hb; have NB102_103 := sNl hg BK102; have NB103_102 := sNg hg BK102; replace BK102 := sK BK102 hb; clear hb hbox hg; have hnb20 := NB101_102.out; have hnc20 := NB102_101.out; have hnb21 := NB101_103.out; have hnc21 := NB103_101.out; obtain ⟨z22_0, z22_1, z22_2, q22_0, q22_1, q22_2⟩ := bk3 BK101; have hnb23 := NB102_103.out; have hnc23 := NB103_102.out; obtain ⟨z24_0, z24_1, z24_2, q24_0, q24_1, q24_2⟩ := bk3 BK102))
 have n0_ : Aside0 ((w19.setCell ⟨gb101, 1, none⟩ (.int .i64 0)).heap[gb101]? = some (.cells #[.bool true, .int .i64 0, .string a0_2] 90 (0, 0))) := (sKq0 BK101)
 have n1_ : Aside0 ((w19.setCell ⟨gb101, 1, none⟩ (.int .i64 0)).heap[gb102]? = some (.cells #[.bool a1_0, .int .i64 a1_1, .string a1_2] 90 (0, 0))) := (sKq0 BK102)
 have n2_ : Aside0 ((w19.setCell ⟨gb101, 1, none⟩ (.int .i64 0)).heap[gb103]? = some (.cells #[.bool false, .int .i64 0, .string (⟨#[]⟩ : ByteArray)] 90 (0, 0))) := (sKq0 BK103)
 have n3_ : Aside0 (Below w.heap.size w (w19.setCell ⟨gb101, 1, none⟩ (.int .i64 0))) := (sB0 HB)
 (try clear BK101)
 (try clear BK102)
 (try clear BK103)
 (try clear HB)
 generalize (w19.setCell ⟨gb101, 1, none⟩ (.int .i64 0)) = w25 at n0_ n1_ n2_ n3_ ⊢
 have BK101 := n0_
 have BK102 := n1_
 have BK103 := n2_
 have HB := n3_
 clear n0_ n1_ n2_ n3_
 replace BK101 := Aside0.mk (blk_drew BK101.out)
 replace BK102 := Aside0.mk (blk_drew BK102.out)
 replace BK103 := Aside0.mk (blk_drew BK103.out)
 replace HB := Aside0.mk (below_drew1 HB.out)
 refine start_ (n := 8) (S := fun w' => w'.cell? ⟨gb101, 0, none⟩ = some (.bool true) ∧ w'.cell? ⟨gb101, 1, none⟩ = some (.int .i64 0) ∧ w'.cell? ⟨gb101, 2, none⟩ = some (.string a0_2) ∧ w'.cell? ⟨gb102, 0, none⟩ = some (.bool a1_0) ∧ w'.cell? ⟨gb102, 1, none⟩ = some (.int .i64 a1_1) ∧ w'.cell? ⟨gb102, 2, none⟩ = some (.string a1_2)) (ds := []) #[false, false, false, false, false, false, false, false] (by kernel_rfl) rfl rfl ⟨sc BK101 0, sc BK101 1, sc BK101 2, sc BK102 0, sc BK102 1, sc BK102 2⟩ (fun hHeld => ?_); refine with_tabW fuglemanref14_join.tab5 fuglemanref14_join.bits5 (fun HT_ HW_ => ?_)
 generalize w25.drew = w26 at BK101 BK102 BK103 HB hHeld ⊢
 refine pureK 1 (some 17) #[false, true, false, false, false, false, false, false] HT_ ?_
 refine pureK 3 (some 19) #[false, true, false, true, false, false, false, false] HT_ ?_
 refine takeK 0 (some 16) #[true, true, false, true, false, false, false, false] HT_ HW_ hHeld ?_ (hy := by (rintro w' ⟨s0, s1, s2, s3, s4, s5⟩; go_simp; with_reducible rfl))
 refine takeK 2 (some 18) #[true, true, true, true, false, false, false, false] HT_ HW_ hHeld ?_ (hy := by (rintro w' ⟨s0, s1, s2, s3, s4, s5⟩; go_simp; with_reducible rfl))
 refine takeK 4 (some 20) #[true, true, true, true, true, false, false, false] HT_ HW_ hHeld ?_ (hy := by (rintro w' ⟨s0, s1, s2, s3, s4, s5⟩; go_simp; with_reducible rfl))
 refine pureK 5 (some 21) #[true, true, true, true, true, true, false, false] HT_ ?_
 refine one_ (i := 6) (N := none) #[true, true, true, true, true, true, true, false] rfl rfl (one_of HT_.out (by kernel_rfl)) (by decide) (fun K hK => ?_)
 have hs27 : w26.cell? ⟨gb103, 0, none⟩ = some (.bool false) := sc BK103 0
 have hfs27 := blk_frozen BK103.out 0
 have hns27_0 := NB101_103.out
 have hns27_1 := NB102_103.out
 have hms27_0 := NB103_101.out
 have hms27_1 := NB103_102.out
 have hs28 : w26.cell? ⟨gb103, 1, none⟩ = some (.int .i64 0) := sc BK103 1
 have hfs28 := blk_frozen BK103.out 1
 have hns28_0 := NB101_103.out
 have hns28_1 := NB102_103.out
 have hms28_0 := NB103_101.out
 have hms28_1 := NB103_102.out
 have hs29 : w26.cell? ⟨gb103, 2, none⟩ = some (.string (⟨#[]⟩ : ByteArray)) := sc BK103 2
 have hfs29 := blk_frozen BK103.out 2
 have hns29_0 := NB101_103.out
 have hns29_1 := NB102_103.out
 have hms29_0 := NB103_101.out
 have hms29_1 := NB103_102.out
 refine skip_ (w1 := ?_) (by rfl) rfl ?_ ?_
 rotate_left
 ·go_simp
  rfl
 refine hK.out _ _ ⟨((cell_far (p := ⟨gb103, _, none⟩) NB101_103.out _).trans (((cell_far (p := ⟨gb103, _, none⟩) NB101_103.out _).trans (((cell_far (p := ⟨gb103, _, none⟩) NB101_103.out _).trans (hHeld.1)))))), ((cell_far (p := ⟨gb103, _, none⟩) NB101_103.out _).trans (((cell_far (p := ⟨gb103, _, none⟩) NB101_103.out _).trans (((cell_far (p := ⟨gb103, _, none⟩) NB101_103.out _).trans (hHeld.2.1)))))), ((cell_far (p := ⟨gb103, _, none⟩) NB101_103.out _).trans (((cell_far (p := ⟨gb103, _, none⟩) NB101_103.out _).trans (((cell_far (p := ⟨gb103, _, none⟩) NB101_103.out _).trans (hHeld.2.2.1)))))), ((cell_far (p := ⟨gb103, _, none⟩) NB102_103.out _).trans (((cell_far (p := ⟨gb103, _, none⟩) NB102_103.out _).trans (((cell_far (p := ⟨gb103, _, none⟩) NB102_103.out _).trans (hHeld.2.2.2.1)))))), ((cell_far (p := ⟨gb103, _, none⟩) NB102_103.out _).trans (((cell_far (p := ⟨gb103, _, none⟩) NB102_103.out _).trans (((cell_far (p := ⟨gb103, _, none⟩) NB102_103.out _).trans (hHeld.2.2.2.2.1)))))), ((cell_far (p := ⟨gb103, _, none⟩) NB102_103.out _).trans (((cell_far (p := ⟨gb103, _, none⟩) NB102_103.out _).trans (((cell_far (p := ⟨gb103, _, none⟩) NB102_103.out _).trans (hHeld.2.2.2.2.2))))))⟩ (fun hHeld => ?_)
 clear hK K
 refine pureK 7 (some 5) #[true, true, true, true, true, true, true, true] HT_ ?_
 refine done_ (done_of HT_.out (by kernel_rfl)) ?_
 try go_wp2
 refine bodyPost_ret (results_ct rfl _ _ gb103 90 #[.bool true, .int .i64 0, .string a0_2] (0, 0) _ rfl (sKq BK103) Try.underlying90 rfl (by kernel_rfl)) rfl ?_
 exact sEnd HB

end Go.Proofs.Ytedmikeamgebjaa.P
