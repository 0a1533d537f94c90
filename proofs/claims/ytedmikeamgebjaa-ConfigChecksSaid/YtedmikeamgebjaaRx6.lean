-- Written by a program out of the translation; not trusted: Lean checks it.
import Derived.Test.YtedmikeamgebjaaK
import Derived.Test.YtedmikeamgebjaaK2
import Derived.Test.YtedmikeamgebjaaRx0
import Derived.Test.YtedmikeamgebjaaRx5
namespace Go.Proofs.Ytedmikeamgebjaa.R
open Go.Proofs.YtedmikeamgebjaaW.PrintK Go.RowKit Go.Proofs.YtedmikeamgebjaaW.PrintWords Go.Proofs.YtedmikeamgebjaaW.PrintLast Go.Proofs.YtedmikeamgebjaaW.PrintMore
attribute [local go_sem] max2_int min2_int max_two min_two max_three min_three max_four min_four   -- for this text's walks alone
set_option linter.unusedVariables false
set_option linter.unusedSimpArgs false

/-! ### members_is: function 72 -/
def members_is.f (a0 : Int) : Option (Bool) := if a0 ≥ 0 then (some (decide (a0 < 32))) else (some false)
set_option maxHeartbeats 8000000 in
set_option maxRecDepth 100000 in
theorem members_is.calls (a0 : Int) (r : Bool) (w : World) (h : members_is.f a0 = some r) :
  Calls Try.prog 72 #[.int .i64 a0] w fun e w' => e = .returned (.bool r) ∧ Drawn0 w w' := by
 have H : (if a0 ≥ 0 then (some (decide (a0 < 32))) else (some false)) = some r := h
 clear h
 by_cases c2 : a0 ≥ 0
 ·rw [if_pos c2] at H
  have c2b0 : decide (0 ≤ a0) = true := decide_eq_true c2
  clear c2
  obtain rfl := Option.some.inj H
  go_enter Try.func72, Try.ntmps72
  go_wp2
  go_ret
  exact ⟨by first | rfl | (simp; done) | (simp [*]; done), by repeat (first | exact Drawn0.refl _ | apply Drawn0.step)⟩
 rw [if_neg c2] at H
 have c2b0 : decide (0 ≤ a0) = false := decide_eq_false c2
 clear c2
 obtain rfl := Option.some.inj H
 go_enter Try.func72, Try.ntmps72
 go_wp2
 go_ret
 exact ⟨by first | rfl | (simp; done) | (simp [*]; done), by repeat (first | exact Drawn0.refl _ | apply Drawn0.step)⟩

/-! ### members_one: function 58 -/
def members_one.f (a0 : Int) : Option (Int) := (members_is.f a0).bind fun t154 => (if t154 = true then (if 0 ≤ a0 then (some (shl .u32 1 a0)) else (none)) else (some 0))
set_option maxHeartbeats 8000000 in
set_option maxRecDepth 100000 in
theorem members_one.calls (a0 r : Int) (w : World) (h : members_one.f a0 = some r) :
  Calls Try.prog 58 #[.int .i64 a0] w fun e w' => e = .returned (.int .u32 r) ∧ Drawn0 w w' := by
 have H : ((members_is.f a0).bind fun t154 => (if t154 = true then (if 0 ≤ a0 then (some (shl .u32 1 a0)) else (none)) else (some 0))) = some r := h
 clear h
 replace H := Option.bind_eq_some_iff.mp H
 obtain ⟨t154, A20, H⟩ := H
 replace H : (if t154 = true then (if 0 ≤ a0 then (some (shl .u32 1 a0)) else (none)) else (some 0)) = some r := H
 have A2 := Aside0.mk A20
 clear A20
 by_cases c3 : t154 = true
 case neg =>
  replace c3 := Bool.eq_false_iff.mpr c3
  subst c3
  rw [if_neg (show ¬ (false = true) by decide)] at H
  obtain rfl := Option.some.inj H
  go_enter Try.func58, Try.ntmps58
  go_wp2_with (first | ((with_reducible refine gate_callee (f := 72) rfl ?_); refine goesK (some 4) Try.func72 #[.int .i64 a0] ?_; (with_reducible refine (members_is.calls a0 false _ A2.out).mono ?_); rintro e w' ⟨rfl, ⟨nd, rfl⟩⟩; refine ⟨_, rfl, ?_⟩))
  go_ret
  exact ⟨by first | rfl | (simp; done) | (simp [*]; done), by repeat (first | exact Drawn0.refl _ | apply Drawn0.step)⟩
 subst c3
 rw [if_pos rfl] at H
 by_cases c4 : 0 ≤ a0
 case neg =>
  rw [if_neg c4] at H
  exact absurd H (by simp)
 rw [if_pos c4] at H
 have c4b0 := eq_true c4
 have c4b1 : decide (0 ≤ a0) = true := decide_eq_true c4
 clear c4
 obtain ⟨ji5, hji5⟩ : ∃ j_ : Int, (shl .u32 1 a0) = j_ := ⟨_, rfl⟩
 replace H : (some ji5) = some r := by first | (rw [hji5] at H; exact H) | (simp only [hji5] at H ⊢; exact H)
 (try rw [hji5] at A2)
 have hji5_ : (IntKind.u32.wrap (1 * 2 ^ min a0.toNat 32)) = ji5 := hji5
 have hji5z : a0 ≤ 32 → (IntKind.u32.wrap (1 * 2 ^ a0.toNat)) = ji5 := shl_small hji5
 have hji5u : (IntKind.u32.wrap (2 ^ min a0.toNat 32)) = ji5 := by have h_ := hji5_; rw [Int.one_mul] at h_; exact h_
 have hji5v : a0 ≤ 32 → (IntKind.u32.wrap (2 ^ a0.toNat)) = ji5 := fun hle_ => by have h_ := hji5z hle_; rw [Int.one_mul] at h_; exact h_
 obtain rfl := Option.some.inj H
 go_enter Try.func58, Try.ntmps58
 go_wp2_with (first | ((with_reducible refine gate_callee (f := 72) rfl ?_); refine goesK (some 4) Try.func72 #[.int .i64 a0] ?_; (with_reducible refine (members_is.calls a0 true _ A2.out).mono ?_); rintro e w' ⟨rfl, ⟨nd, rfl⟩⟩; refine ⟨_, rfl, ?_⟩))
 go_ret
 exact ⟨by first | rfl | (simp; done) | (simp only [← hji5] <;> (first | rfl | simp)) | (simp [*]; done), by repeat (first | exact Drawn0.refl _ | apply Drawn0.step)⟩

/-! ### members_With: function 45 -/
def members_With.f (a0 a1 : Int) : Option (Int) := (members_one.f a1).bind fun t155 => (some (Go.bits .or .u32 a0 t155))
set_option maxHeartbeats 8000000 in
set_option maxRecDepth 100000 in
theorem members_With.calls (a0 a1 r : Int) (w : World) (h : members_With.f a0 a1 = some r) :
  Calls Try.prog 45 #[.int .u32 a0, .int .i64 a1] w fun e w' => e = .returned (.int .u32 r) ∧ Drawn0 w w' := by
 have H : ((members_one.f a1).bind fun t155 => (some (Go.bits .or .u32 a0 t155))) = some r := h
 clear h
 replace H := Option.bind_eq_some_iff.mp H
 obtain ⟨t155, A30, H⟩ := H
 replace H : (some (Go.bits .or .u32 a0 t155)) = some r := H
 have A3 := Aside0.mk A30
 clear A30
 obtain rfl := Option.some.inj H
 go_enter Try.func45, Try.ntmps45
 go_wp2_with (first | ((with_reducible refine gate_callee (f := 58) rfl ?_); refine goesK (some 7) Try.func58 #[.int .i64 a1] ?_; (with_reducible refine (members_one.calls a1 t155 _ A3.out).mono ?_); rintro e w' ⟨rfl, ⟨nd, rfl⟩⟩; refine ⟨_, rfl, ?_⟩))
 go_ret
 exact ⟨by first | rfl | (simp; done) | (simp [*]; done), by repeat (first | exact Drawn0.refl _ | apply Drawn0.step)⟩

/-! ### config_Addrs: function 13 -/
def setF (p : S37 → Bool) : Int → List S37 → Option Int
 | s, [] => some s
 | s, x :: l => if p x = true then (members_With.f s x.f0).bind fun s' => setF p s' l else setF p s l
set_option maxRecDepth 100000 in
set_option maxHeartbeats 4000000 in
theorem set_calls (a0_0 a0_1 a0_2 a0_3 a0_4 a0_5 : Int) (A0_6 : Option Addr) (c0_6 : Nat) (l0_6 : List S63) (A0_7 : Option Addr) (c0_7 : Nat) (l0_7 : List S37) (p : S37 → Bool) (g : Nat) (lb : Array Value) (eg : ∀ args w, (callFunc g args).run Try.prog w = .ok (.enter g args) w) (r : Int) (w : World) (hp : PredB k37 g lb p w) (hr0_6 : Kd.C k63 w A0_6 l0_6.length l0_6) (hc0_6 : l0_6.length ≤ c0_6) (hr0_7 : Kd.C k37 w A0_7 l0_7.length l0_7) (hc0_7 : l0_7.length ≤ c0_7) (h : setF p 0 l0_7 = some r) :
  Calls Try.prog 27 #[.agg #[.int .i64 a0_0, .int .i64 a0_1, .int .i64 a0_2, .int .i64 a0_3, .int .i64 a0_4, .int .i64 a0_5, .slice A0_6 l0_6.length c0_6, .slice A0_7 l0_7.length c0_7], .func (.func g) #[] lb] w fun e w' => e = .returned (.int .u32 r) ∧ Below w.heap.size w w' := by
 have hrow : ∀ (W : World), Below w.heap.size w W → ∀ j (hj : j < l0_7.length), ∃ b o A3 c3 A4 c4 A5 c5, A0_7 = some ⟨b, o, none⟩ ∧ k37.K w l0_7[j] [.int .i64 l0_7[j].f0, .int .i64 l0_7[j].f1, .int .i64 l0_7[j].f2, .slice A3 l0_7[j].f3.length c3, .slice A4 l0_7[j].f4.length c4, .slice A5 l0_7[j].f5.length c5] ∧ W.cell? ⟨b, o + j * 6, none⟩ = some (.int .i64 l0_7[j].f0) ∧ W.cell? ⟨b, o + j * 6 + 1, none⟩ = some (.int .i64 l0_7[j].f1) ∧ W.cell? ⟨b, o + j * 6 + 2, none⟩ = some (.int .i64 l0_7[j].f2) ∧ W.cell? ⟨b, o + j * 6 + 3, none⟩ = some (.slice A3 l0_7[j].f3.length c3) ∧ W.cell? ⟨b, o + j * 6 + 4, none⟩ = some (.slice A4 l0_7[j].f4.length c4) ∧ W.cell? ⟨b, o + j * 6 + 5, none⟩ = some (.slice A5 l0_7[j].f5.length c5) := fun W hW j hj => by
  obtain ⟨b, off, rfl, hbb, hg⟩ := rowAt hr0_7 (by decide) (by omega)
  obtain ⟨cs, hl, hK, hcell⟩ := hg j _ (List.getElem?_eq_getElem hj)
  obtain ⟨A3, c3, A4, c4, A5, c5, rfl, -⟩ := k37_open hK
  refine ⟨b, off, A3, c3, A4, c4, A5, c5, rfl, hK, ?_, ?_, ?_, ?_, ?_, ?_⟩
  all_goals rw [hW.cell (p := ⟨b, _, none⟩) hbb]
  ·have := hcell 0 _ rfl; rw [Addr.add_lit] at this; simpa [Nat.add_assoc, show k37.sz = 6 from rfl] using this
  ·have := hcell 1 _ rfl; rw [Addr.add_lit] at this; simpa [Nat.add_assoc, show k37.sz = 6 from rfl] using this
  ·have := hcell 2 _ rfl; rw [Addr.add_lit] at this; simpa [Nat.add_assoc, show k37.sz = 6 from rfl] using this
  ·have := hcell 3 _ rfl; rw [Addr.add_lit] at this; simpa [Nat.add_assoc, show k37.sz = 6 from rfl] using this
  ·have := hcell 4 _ rfl; rw [Addr.add_lit] at this; simpa [Nat.add_assoc, show k37.sz = 6 from rfl] using this
  ·have := hcell 5 _ rfl; rw [Addr.add_lit] at this; simpa [Nat.add_assoc, show k37.sz = 6 from rfl] using this
 have hlen : l0_7.length ≤ 9223372036854775807 := hr0_7.2.1
 have hB1 : Below w.heap.size w (w.alloc (.cells #[.int .i64 a0_0, .int .i64 a0_1, .int .i64 a0_2, .int .i64 a0_3, .int .i64 a0_4, .int .i64 a0_5, .slice A0_6 l0_6.length c0_6, .slice A0_7 l0_7.length c0_7] 25)) := (Below.refl _ w).alloc (Nat.le_refl _) _
 have H1 := Aside0.mk hB1
 clear hr0_6 hr0_7 hc0_6 hB1
 have hl0 : l0_7.drop 0 = l0_7 := rfl
 obtain ⟨n, HN⟩ : ∃ n, Aside (n = l0_7.length) := ⟨_, rfl⟩
 rw [← HN.out] at hlen ⊢
 generalize l0_6.length = n6
 have X := Aside0.mk h
 clear h hl0
 rw [← HN.out] at H1
 go_enter Try.func27, Try.ntmps27
 go_wp2
 go_loopg [5, 11] n (fun gg s5 s11 wr => ∃ (kk : Nat) (s : Int), kk ≤ n ∧ n - kk ≤ gg ∧ s11 = .int .i64 kk ∧ s5 = .int .u32 s ∧ Aside (Below w.heap.size w wr) ∧ Aside (setF p s (l0_7.drop kk) = some r))
 case atStart => exact ⟨0, 0, Nat.zero_le _, by omega, rfl, rfl, (Below.refl _ w).alloc (Nat.le_refl _) _, X.out⟩
 obtain ⟨kk, s, hkk, hg, rfl, rfl, BW, F⟩ := hrel
 by_cases hlt : kk < n
 case neg =>
  have hltz : ¬ (kk : Int) < (n : Int) := by omega
  have : kk = n := by omega
  subst this
  have F2 := F.out
  rw [List.drop_of_length_le (by have := HN.out; omega)] at F2
  obtain rfl : s = r := Option.some.inj F2
  clear F2
  go_wp2
  go_ret
  exact ⟨rfl, BW.out⟩
 have hltz : (kk : Int) < (n : Int) := by omega
 have hj : kk < l0_7.length := by have := HN.out; omega
 obtain ⟨b, o, A3, c3, A4, c4, A5, c5, rfl, hK, l0, l1, l2, l3, l4, l5⟩ := hrow wr BW.out kk hj
 have hdrop : l0_7.drop kk = l0_7[kk] :: l0_7.drop (kk + 1) := List.drop_eq_getElem_cons hj
 have F2 := F.out
 rw [hdrop] at F2
 have hcall := hp (wr.alloc (.cells #[.int .i64 l0_7[kk].f0, .int .i64 l0_7[kk].f1, .int .i64 l0_7[kk].f2, .slice A3 l0_7[kk].f3.length c3, .slice A4 l0_7[kk].f4.length c4, .slice A5 l0_7[kk].f5.length c5] 37)) l0_7[kk] _ (BW.out.alloc BW.out.size _) hK
 have HW1 := Aside0.mk (BW.out.alloc BW.out.size (.cells #[.int .i64 l0_7[kk].f0, .int .i64 l0_7[kk].f1, .int .i64 l0_7[kk].f2, .slice A3 l0_7[kk].f3.length c3, .slice A4 l0_7[kk].f4.length c4, .slice A5 l0_7[kk].f5.length c5] 37))
 clear hrow hp hK hdrop F
 generalize l0_7[kk] = y at hcall l0 l1 l2 l3 l4 l5 F2 HW1
 unfold setF at F2
 have hsz := BW.out.size
 cases hq : p y with
 | true =>
  rw [hq] at hcall
  rw [if_pos hq] at F2
  obtain ⟨s', hs', F3⟩ := Option.bind_eq_some_iff.1 F2
  have F4 := Aside0.mk F3
  have hw := Aside0.mk hs'
  clear F2 F3 hs' hj
  generalize y.f0 = ya at *
  generalize y.f1 = yb at *
  generalize y.f2 = yc at *
  generalize y.f3.length = m3 at *
  generalize y.f4.length = m4 at *
  generalize y.f5.length = m5 at *
  go_wp2_with (first | (go_at_fn g; refine hcall.mono ?_; rintro e w' ⟨rfl, hb'⟩; have hc7 : w'.cell? ⟨wr.heap.size, 0, none⟩ = some (.int .i64 ya) := (hb'.cell (p := ⟨wr.heap.size, 0, none⟩) (by simp)).trans (by simp); have hb2 := Aside0.mk hb'; clear hb' hcall) | (go_at_call 45; refine (members_With.calls s ya s' _ hw.out).mono ?_; rintro e w6 ⟨rfl, hb'⟩; have hb3 := Aside0.mk hb'.below; clear hb'))
  go_roundg (n - (kk + 1))
  case measure => omega
  case rel =>
   refine ⟨kk + 1, s', by omega, by omega, by go_num, rfl, (show Aside _ from ?_), F4.out⟩
   exact (HW1.out.trans (hb2.out.mono (by have := HW1.out.size; omega))).trans (hb3.out.mono (by have := hb2.out.size; have := HW1.out.size; omega))
 | false =>
  rw [hq] at hcall
  rw [if_neg (by rw [hq]; simp)] at F2
  have F4 := Aside0.mk F2
  clear F2 hj
  go_wp2_with (go_at_fn g; refine hcall.mono ?_; rintro e w' ⟨rfl, hb'⟩; have hb2 := Aside0.mk hb'; clear hb' hcall)
  go_roundg (n - (kk + 1))
  case measure => omega
  case rel =>
   exact ⟨kk + 1, s, by omega, by omega, by go_num, rfl, (show Aside _ from HW1.out.trans (hb2.out.mono (by have := HW1.out.size; omega))), F4.out⟩

theorem pred28 (w : World) : PredB k37 28 #[] (fun _ => true) w := fun W x cs hb hK => by
 obtain ⟨A3, c3, A4, c4, A5, c5, rfl, -⟩ := k37_open hK
 clear hK
 show Calls Try.prog 28 #[.agg #[.int .i64 x.f0, .int .i64 x.f1, .int .i64 x.f2, .slice A3 x.f3.length c3, .slice A4 x.f4.length c4, .slice A5 x.f5.length c5]] W _
 go_enter Try.func28, Try.ntmps28
 go_wp2
 go_ret
 exact ⟨rfl, (Below.refl _ W).alloc (Nat.le_refl _) _⟩
def config_Addrs.f (a0_0 a0_1 a0_2 a0_3 a0_4 a0_5 : Int) (l0_6 : List S63) (l0_7 : List S37) : Option Int := setF (fun _ => true) 0 l0_7
set_option maxHeartbeats 1000000 in
theorem config_Addrs.calls (a0_0 a0_1 a0_2 a0_3 a0_4 a0_5 : Int) (A0_6 : Option Addr) (c0_6 : Nat) (l0_6 : List S63) (A0_7 : Option Addr) (c0_7 : Nat) (l0_7 : List S37) (r : Int) (w : World) (hr0_6 : Kd.C k63 w A0_6 l0_6.length l0_6) (hc0_6 : l0_6.length ≤ c0_6) (hr0_7 : Kd.C k37 w A0_7 l0_7.length l0_7) (hc0_7 : l0_7.length ≤ c0_7) (h : config_Addrs.f a0_0 a0_1 a0_2 a0_3 a0_4 a0_5 l0_6 l0_7 = some r) :
  Calls Try.prog 13 #[.agg #[.int .i64 a0_0, .int .i64 a0_1, .int .i64 a0_2, .int .i64 a0_3, .int .i64 a0_4, .int .i64 a0_5, .slice A0_6 l0_6.length c0_6, .slice A0_7 l0_7.length c0_7]] w fun e w' => e = .returned (.int .u32 r) ∧ Below w.heap.size w w' := by
 have eg : ∀ args w, (callFunc 28 args).run Try.prog w = .ok (.enter 28 args) w := enters_of Try.func28 (by kernel_rfl) rfl
 have hB : Below w.heap.size w (w.alloc (.cells #[.int .i64 a0_0, .int .i64 a0_1, .int .i64 a0_2, .int .i64 a0_3, .int .i64 a0_4, .int .i64 a0_5, .slice A0_6 l0_6.length c0_6, .slice A0_7 l0_7.length c0_7] 25)) := (Below.refl _ w).alloc (Nat.le_refl _) _
 have hcon := set_calls a0_0 a0_1 a0_2 a0_3 a0_4 a0_5 A0_6 c0_6 l0_6 A0_7 c0_7 l0_7 (fun _ => true) 28 #[] eg r _ (pred28 _) (Kd.C_below hr0_6 hB) hc0_6 (Kd.C_below hr0_7 hB) hc0_7 h
 clear hr0_6 hr0_7 hc0_6 hc0_7 h
 have HB := Aside0.mk hB
 clear hB
 generalize l0_6.length = n6 at *
 generalize l0_7.length = n7 at *
 go_enter Try.func13, Try.ntmps13
 go_wp2_with (go_at_call 27; refine hcon.mono ?_; rintro e w' ⟨rfl, hb'⟩)
 go_ret
 exact ⟨rfl, HB.out.trans (hb'.mono (by simp))⟩

/-! ### fuglemanlaw20_awake: function 6 -/
def fuglemanlaw20_awake.f (k : Nat)  : Option (Bool) := (some (([(⟨3, 1, 0, ([] : List (S54)), ([] : List (S56)), ([] : List (S56))⟩ : S37), (⟨3, 2, 0, ([] : List (S54)), ([] : List (S56)), ([] : List (S56))⟩ : S37)] : List (S37)) : List (S37))).bind fun y156 => ((config_Check.f k 4 10 1 0 9 5 ([] : List (S63)) y156).bind fun bt160 => ((config_Find.f 4 10 1 0 9 5 ([] : List (S63)) y156 3).bind fun bt162 => (if bt160.1 = 14 then (if bt160.2 = 101 then (if bt162.2.2.2.2.2.2 = true then (if bt162.2.1 = 1 then ((config_Addrs.f 4 10 1 0 9 5 ([] : List (S63)) y156).bind fun t176 => (some (t176 == 8))) else (some false)) else (some false)) else (some false)) else (some false))))
theorem fuglemanlaw20_awake.mono : ∀ k, LeO (fuglemanlaw20_awake.f k ) (fuglemanlaw20_awake.f (k + 1) ) := by
 intro  k
 unfold fuglemanlaw20_awake.f
 repeat' first
   | (with_reducible exact config_Check.mono _ _ _ _ _ _ _ _ _)
   | (with_reducible exact LeO.refl _)
   | (with_reducible exact LeO.none _)
   | (with_reducible refine LeO.ite ?_ ?_)
   | (with_reducible refine LeO.bind ?_ (fun _ => ?_))
   | exact config_Check.mono _ _ _ _ _ _ _ _ _
   | exact LeO.none _
   | refine LeO.ite ?_ ?_
   | refine LeO.bind ?_ (fun _ => ?_)
set_option maxHeartbeats 8000000 in
set_option maxRecDepth 100000 in
theorem fuglemanlaw20_awake.calls (k : Nat)  (r : Bool) (w : World) (h : fuglemanlaw20_awake.f k  = some r) :
  Calls Try.prog 6 #[] w fun e w' => e = .returned (.bool r) ∧ Below w.heap.size w w' := by
 have hu37 := Try.underlying37
 have hu25 := Try.underlying25
 have HB := Aside0.mk (Below.refl w.heap.size w)
 have H : ((some (([(⟨3, 1, 0, ([] : List (S54)), ([] : List (S56)), ([] : List (S56))⟩ : S37), (⟨3, 2, 0, ([] : List (S54)), ([] : List (S56)), ([] : List (S56))⟩ : S37)] : List (S37)) : List (S37))).bind fun y156 => ((config_Check.f k 4 10 1 0 9 5 ([] : List (S63)) y156).bind fun bt160 => ((config_Find.f 4 10 1 0 9 5 ([] : List (S63)) y156 3).bind fun bt162 => (if bt160.1 = 14 then (if bt160.2 = 101 then (if bt162.2.2.2.2.2.2 = true then (if bt162.2.1 = 1 then ((config_Addrs.f 4 10 1 0 9 5 ([] : List (S63)) y156).bind fun t176 => (some (t176 == 8))) else (some false)) else (some false)) else (some false)) else (some false))))) = some r := h
 clear h
 obtain ⟨y156, hy156⟩ : ∃ y_ : List (S37), y_ = (([(⟨3, 1, 0, ([] : List (S54)), ([] : List (S56)), ([] : List (S56))⟩ : S37), (⟨3, 2, 0, ([] : List (S54)), ([] : List (S56)), ([] : List (S56))⟩ : S37)] : List (S37))) := ⟨_, rfl⟩
 replace H : ((config_Check.f k 4 10 1 0 9 5 ([] : List (S63)) y156).bind fun bt160 => ((config_Find.f 4 10 1 0 9 5 ([] : List (S63)) y156 3).bind fun bt162 => (if bt160.1 = 14 then (if bt160.2 = 101 then (if bt162.2.2.2.2.2.2 = true then (if bt162.2.1 = 1 then ((config_Addrs.f 4 10 1 0 9 5 ([] : List (S63)) y156).bind fun t176 => (some (t176 == 8))) else (some false)) else (some false)) else (some false)) else (some false)))) = some r := by first | (rw [hy156]; with_reducible exact H) | (have H2_ := (Option.bind_some _ _).symm.trans H; rw [hy156]; with_reducible exact H2_) | (have H2_ := (Option.bind_some _ _).symm.trans H; with_reducible exact H2_) | with_reducible exact H | (rw [hy156]; exact H) | exact H
 have Ny156 := Aside0.mk hy156
 clear hy156
 replace H := Option.bind_eq_some_iff.mp H
 obtain ⟨⟨t160, t161⟩, A10, H⟩ := H
 replace H : ((config_Find.f 4 10 1 0 9 5 ([] : List (S63)) y156 3).bind fun bt162 => (if t160 = 14 then (if t161 = 101 then (if bt162.2.2.2.2.2.2 = true then (if bt162.2.1 = 1 then ((config_Addrs.f 4 10 1 0 9 5 ([] : List (S63)) y156).bind fun t176 => (some (t176 == 8))) else (some false)) else (some false)) else (some false)) else (some false))) = some r := H
 have A1 := Aside0.mk A10
 clear A10
 replace H := Option.bind_eq_some_iff.mp H
 obtain ⟨⟨t162, t163, t164, t165, t168, t171, t174⟩, A20, H⟩ := H
 replace H : (if t160 = 14 then (if t161 = 101 then (if t174 = true then (if t163 = 1 then ((config_Addrs.f 4 10 1 0 9 5 ([] : List (S63)) y156).bind fun t176 => (some (t176 == 8))) else (some false)) else (some false)) else (some false)) else (some false)) = some r := H
 have A2 := Aside0.mk A20
 clear A20
 by_cases c3 : t160 = 14
 case neg =>
  rw [if_neg c3] at H
  have c3b0 : (t160 == 14) = false := beq_eq_false_iff_ne.mpr c3
  have c3b1 : (t160 != 14) = true := bne_iff_ne.mpr c3
  obtain rfl := Option.some.inj H
  go_enter Try.func6, Try.ntmps6
  go_wp2_with (first | ((with_reducible refine gate_dst (N := 8) rfl ?_); refine Kd.S_lit k37 _ 37 ?hg (N := 8) ?hd (xs := ([(⟨3, 1, 0, ([] : List (S54)), ([] : List (S56)), ([] : List (S56))⟩ : S37), (⟨3, 2, 0, ([] : List (S54)), ([] : List (S56)), ([] : List (S56))⟩ : S37)] : List (S37))) (inner := [.int .i64 3, .int .i64 1, .int .i64 0, .slice none 0 0, .slice none 0 0, .slice none 0 0, .int .i64 3, .int .i64 2, .int .i64 0, .slice none 0 0, .slice none 0 0, .slice none 0 0]) (ok := fun _ => True) (okp := fun _ => True) ?hr ?hp (fun _ hk => hk) trivial (Below.refl _ _) (Nat.le_refl _) (by simp) ?_; (case hd => rfl); (case hg => rfl); (case hr => first | (go_simp; done) | (go_simp; rfl)); (case hp => exact (Reps.c6 (show Kd.M k37 _ _ _ (⟨3, 1, 0, ([] : List (S54)), ([] : List (S56)), ([] : List (S56))⟩ : S37) [.int .i64 3, .int .i64 1, .int .i64 0, .slice none 0 0, .slice none 0 0, .slice none 0 0] from (k37_mkM _ _ _ (⟨3, 1, 0, ([] : List (S54)), ([] : List (S56)), ([] : List (S56))⟩ : S37) (Kd.R_nil _ _ _ _ _) (Kd.R_nil _ _ _ _ _) (Kd.R_nil _ _ _ _ _))) (Reps.c6 (show Kd.M k37 _ _ _ (⟨3, 2, 0, ([] : List (S54)), ([] : List (S56)), ([] : List (S56))⟩ : S37) [.int .i64 3, .int .i64 2, .int .i64 0, .slice none 0 0, .slice none 0 0, .slice none 0 0] from (k37_mkM _ _ _ (⟨3, 2, 0, ([] : List (S54)), ([] : List (S56)), ([] : List (S56))⟩ : S37) (Kd.R_nil _ _ _ _ _) (Kd.R_nil _ _ _ _ _) (Kd.R_nil _ _ _ _ _))) (Reps.none _ _)))); intro v157 w66 ho67 hb hg_ hnew_; clear hg_ hnew_; (first | rw [← Ny156.out] at ho67 | (simp only [Int.reduceToNat] at ho67; rw [← Ny156.out] at ho67)); have HO158 := Aside0.mk (Kd.S_lower ho67 (below_size (by repeat (first | (with_reducible first | exact HB.out | apply below_alloc | apply pw_below_drewN | apply below_drew1 | refine below_set ?_ (Aside0.out (by assumption))) | exact HB.out)))); replace HB := sB HB hb; clear hb ho67; obtain ⟨Ao68, co68, eo68⟩ := Kd.S_slice HO158.out; subst eo68) | ((with_reducible refine gate_dst (N := 1) rfl ?_); refine boxK (N := 1) (#[.int .i64 0, .int .i64 0, .int .i64 0, .int .i64 0, .int .i64 0, .int .i64 0, .slice none 0 0, .slice none 0 0]) 25 ?_; intro gb159 hg w69 hbox hb; replace HO158 := sS HO158 hb; have BK159 := Aside0.mk (hbox); have GW159 := sG hg HB; have GE159 := sG hg HB; replace HB := sB HB hb; clear hb hbox hg; have z70 := bk8 BK159) | ((with_reducible refine gate_callee (f := 8) rfl ?_); refine goesK (some 12) Try.func8 #[.agg #[.int .i64 4, .int .i64 10, .int .i64 1, .int .i64 0, .int .i64 9, .int .i64 5, .slice none 0 0, .slice Ao68 y156.length co68]] ?_; (refine (config_Check.calls k 4 10 1 0 9 5 _ _ ([] : List (S63)) _ _ y156 t160 t161 _ ?side1 ?side2 ?side3 ?side4 A1.out).mono ?_); (case side1 => exact Kd.C_nil _ _); (case side2 => exact Nat.le_refl _); (case side3 => refine (Kd.S_reads' (e := 37) (base := w.heap.size) (ok := fun k_ => True) (n := y156.length) (c := co68) ?_).2.2; exact (by (with_reducible repeat (first | apply Kd.S_alloc | apply Kd.S_drewN | apply Kd.S_drew)); exact (sfS (Kd.S_types HO158.out BK159.out (by decide))))); (case side4 => exact (Kd.S_reads' HO158.out).2.1); rintro e w71 ⟨rfl, hb⟩; refine ⟨_, rfl, ?_⟩; replace HO158 := Aside0.mk (Kd.S_below (by (with_reducible repeat (first | apply Kd.S_alloc | apply Kd.S_drewN | apply Kd.S_drew)); exact (sfS (Kd.S_types HO158.out BK159.out (by decide)))) hb); replace BK159 := sKp (.cells #[.int .i64 4, .int .i64 10, .int .i64 1, .int .i64 0, .int .i64 9, .int .i64 5, .slice none 0 0, .slice Ao68 y156.length co68] 25 (0, 0)) BK159 hb; replace HB := sB HB hb; (try clear hb); have z72 := bk8 BK159) | ((with_reducible refine gate_callee (f := 10) rfl ?_); refine goesK (some 17) Try.func10 #[.agg #[.int .i64 4, .int .i64 10, .int .i64 1, .int .i64 0, .int .i64 9, .int .i64 5, .slice none 0 0, .slice Ao68 y156.length co68], .int .i64 3] ?_; (refine (config_Find.calls 4 10 1 0 9 5 _ _ ([] : List (S63)) (fun k_ => (True ∧ k_ ≠ gb159)) _ _ y156 3 t162 t163 t164 t165 t168 t171 t174 _ ?side1 ?side2 ?side3 A2.out).mono ?_); (case side1 => exact Kd.C_nil _ _); (case side2 => exact Nat.le_refl _); (case side3 => exact Kd.S_V (Kd.S_types (HO158.out) BK159.out (by decide))); rintro e w73 ⟨v166, v169, v172, rfl, ho0, ho1, ho2, hb⟩; refine ⟨_, rfl, ?_⟩; replace HO158 := sS HO158 hb; have HO167 := Aside0.mk (Kd.V_lower (Kd.V_mono (ok' := fun k_ => k_ ≠ gb159) ho0 (fun k_ hk_ => Or.elim hk_ (fun hs_ => hs_.2) (fun hn_ => (Kd.freshB (g := gb159) (o := .cells #[.int .i64 4, .int .i64 10, .int .i64 1, .int .i64 0, .int .i64 9, .int .i64 5, .slice none 0 0, .slice Ao68 y156.length co68] 25 (0, 0)) (by (with_reducible repeat (first | refine blk_drewN ?_ _ | refine blk_drew ?_ | refine blk_alloc ?_ _)); exact BK159.out) k_ hn_)))) (below_size (by repeat (first | (with_reducible first | exact HB.out | apply below_alloc | apply pw_below_drewN | apply below_drew1 | refine below_set ?_ (Aside0.out (by assumption))) | exact HB.out)))); have HO170 := Aside0.mk (Kd.V_lower (Kd.V_mono (ok' := fun k_ => k_ ≠ gb159) ho1 (fun k_ hk_ => Or.elim hk_ (fun hs_ => hs_.2) (fun hn_ => (Kd.freshB (g := gb159) (o := .cells #[.int .i64 4, .int .i64 10, .int .i64 1, .int .i64 0, .int .i64 9, .int .i64 5, .slice none 0 0, .slice Ao68 y156.length co68] 25 (0, 0)) (by (with_reducible repeat (first | refine blk_drewN ?_ _ | refine blk_drew ?_ | refine blk_alloc ?_ _)); exact BK159.out) k_ hn_)))) (below_size (by repeat (first | (with_reducible first | exact HB.out | apply below_alloc | apply pw_below_drewN | apply below_drew1 | refine below_set ?_ (Aside0.out (by assumption))) | exact HB.out)))); have HO173 := Aside0.mk (Kd.V_lower (Kd.V_mono (ok' := fun k_ => k_ ≠ gb159) ho2 (fun k_ hk_ => Or.elim hk_ (fun hs_ => hs_.2) (fun hn_ => (Kd.freshB (g := gb159) (o := .cells #[.int .i64 4, .int .i64 10, .int .i64 1, .int .i64 0, .int .i64 9, .int .i64 5, .slice none 0 0, .slice Ao68 y156.length co68] 25 (0, 0)) (by (with_reducible repeat (first | refine blk_drewN ?_ _ | refine blk_drew ?_ | refine blk_alloc ?_ _)); exact BK159.out) k_ hn_)))) (below_size (by repeat (first | (with_reducible first | exact HB.out | apply below_alloc | apply pw_below_drewN | apply below_drew1 | refine below_set ?_ (Aside0.out (by assumption))) | exact HB.out)))); replace BK159 := sK BK159 hb; replace HB := sB HB hb; (try clear hb); (try clear ho0); (try clear ho1); (try clear ho2)) | ((with_reducible refine gate_dst (N := 4) rfl ?_); refine boxK (N := 4) (#[.int .i64 0, .int .i64 0, .int .i64 0, .slice none 0 0, .slice none 0 0, .slice none 0 0]) 37 ?_; intro gb175 hg w74 hbox hb; replace HO158 := sSe HO158 gb175 hg hb; replace HO167 := sVe HO167 gb175 hg hb; replace HO170 := sVe HO170 gb175 hg hb; replace HO173 := sVe HO173 gb175 hg hb; have BK175 := Aside0.mk (hbox); have GW175 := sG hg HB; have GE175 := sG hg HB; replace HB := sB HB hb; have NB159_175 := sNl hg BK159; have NB175_159 := sNg hg BK159; replace BK159 := sK BK159 hb; clear hb hbox hg; have hnb75 := NB175_159.out; have hnc75 := NB159_175.out; have z76 := bk6 BK175; obtain ⟨Ao77, co77, eo77⟩ := Kd.V_slice HO167.out; subst eo77; obtain ⟨Ao78, co78, eo78⟩ := Kd.V_slice HO170.out; subst eo78; obtain ⟨Ao79, co79, eo79⟩ := Kd.V_slice HO173.out; subst eo79))
  go_ret
  exact sEnd HB
 rw [if_pos c3] at H
 have c3b0 : (t160 == 14) = true := beq_iff_eq.mpr c3
 have c3b1 : (t160 != 14) = false := bne_eq_false_iff_eq.mpr c3
 clear c3
 by_cases c4 : t161 = 101
 case neg =>
  rw [if_neg c4] at H
  have c4b0 : (t161 == 101) = false := beq_eq_false_iff_ne.mpr c4
  have c4b1 : (t161 != 101) = true := bne_iff_ne.mpr c4
  obtain rfl := Option.some.inj H
  go_enter Try.func6, Try.ntmps6
  go_wp2_with (first | ((with_reducible refine gate_dst (N := 8) rfl ?_); refine Kd.S_lit k37 _ 37 ?hg (N := 8) ?hd (xs := ([(⟨3, 1, 0, ([] : List (S54)), ([] : List (S56)), ([] : List (S56))⟩ : S37), (⟨3, 2, 0, ([] : List (S54)), ([] : List (S56)), ([] : List (S56))⟩ : S37)] : List (S37))) (inner := [.int .i64 3, .int .i64 1, .int .i64 0, .slice none 0 0, .slice none 0 0, .slice none 0 0, .int .i64 3, .int .i64 2, .int .i64 0, .slice none 0 0, .slice none 0 0, .slice none 0 0]) (ok := fun _ => True) (okp := fun _ => True) ?hr ?hp (fun _ hk => hk) trivial (Below.refl _ _) (Nat.le_refl _) (by simp) ?_; (case hd => rfl); (case hg => rfl); (case hr => first | (go_simp; done) | (go_simp; rfl)); (case hp => exact (Reps.c6 (show Kd.M k37 _ _ _ (⟨3, 1, 0, ([] : List (S54)), ([] : List (S56)), ([] : List (S56))⟩ : S37) [.int .i64 3, .int .i64 1, .int .i64 0, .slice none 0 0, .slice none 0 0, .slice none 0 0] from (k37_mkM _ _ _ (⟨3, 1, 0, ([] : List (S54)), ([] : List (S56)), ([] : List (S56))⟩ : S37) (Kd.R_nil _ _ _ _ _) (Kd.R_nil _ _ _ _ _) (Kd.R_nil _ _ _ _ _))) (Reps.c6 (show Kd.M k37 _ _ _ (⟨3, 2, 0, ([] : List (S54)), ([] : List (S56)), ([] : List (S56))⟩ : S37) [.int .i64 3, .int .i64 2, .int .i64 0, .slice none 0 0, .slice none 0 0, .slice none 0 0] from (k37_mkM _ _ _ (⟨3, 2, 0, ([] : List (S54)), ([] : List (S56)), ([] : List (S56))⟩ : S37) (Kd.R_nil _ _ _ _ _) (Kd.R_nil _ _ _ _ _) (Kd.R_nil _ _ _ _ _))) (Reps.none _ _)))); intro v157 w52 ho53 hb hg_ hnew_; clear hg_ hnew_; (first | rw [← Ny156.out] at ho53 | (simp only [Int.reduceToNat] at ho53; rw [← Ny156.out] at ho53)); have HO158 := Aside0.mk (Kd.S_lower ho53 (below_size (by repeat (first | (with_reducible first | exact HB.out | apply below_alloc | apply pw_below_drewN | apply below_drew1 | refine below_set ?_ (Aside0.out (by assumption))) | exact HB.out)))); replace HB := sB HB hb; clear hb ho53; obtain ⟨Ao54, co54, eo54⟩ := Kd.S_slice HO158.out; subst eo54) | ((with_reducible refine gate_dst (N := 1) rfl ?_); refine boxK (N := 1) (#[.int .i64 0, .int .i64 0, .int .i64 0, .int .i64 0, .int .i64 0, .int .i64 0, .slice none 0 0, .slice none 0 0]) 25 ?_; intro gb159 hg w55 hbox hb; replace HO158 := sS HO158 hb; have BK159 := Aside0.mk (hbox); have GW159 := sG hg HB; have GE159 := sG hg HB; replace HB := sB HB hb; clear hb hbox hg; have z56 := bk8 BK159) | ((with_reducible refine gate_callee (f := 8) rfl ?_); refine goesK (some 12) Try.func8 #[.agg #[.int .i64 4, .int .i64 10, .int .i64 1, .int .i64 0, .int .i64 9, .int .i64 5, .slice none 0 0, .slice Ao54 y156.length co54]] ?_; (refine (config_Check.calls k 4 10 1 0 9 5 _ _ ([] : List (S63)) _ _ y156 t160 t161 _ ?side1 ?side2 ?side3 ?side4 A1.out).mono ?_); (case side1 => exact Kd.C_nil _ _); (case side2 => exact Nat.le_refl _); (case side3 => refine (Kd.S_reads' (e := 37) (base := w.heap.size) (ok := fun k_ => True) (n := y156.length) (c := co54) ?_).2.2; exact (by (with_reducible repeat (first | apply Kd.S_alloc | apply Kd.S_drewN | apply Kd.S_drew)); exact (sfS (Kd.S_types HO158.out BK159.out (by decide))))); (case side4 => exact (Kd.S_reads' HO158.out).2.1); rintro e w57 ⟨rfl, hb⟩; refine ⟨_, rfl, ?_⟩; replace HO158 := Aside0.mk (Kd.S_below (by (with_reducible repeat (first | apply Kd.S_alloc | apply Kd.S_drewN | apply Kd.S_drew)); exact (sfS (Kd.S_types HO158.out BK159.out (by decide)))) hb); replace BK159 := sKp (.cells #[.int .i64 4, .int .i64 10, .int .i64 1, .int .i64 0, .int .i64 9, .int .i64 5, .slice none 0 0, .slice Ao54 y156.length co54] 25 (0, 0)) BK159 hb; replace HB := sB HB hb; (try clear hb); have z58 := bk8 BK159) | ((with_reducible refine gate_callee (f := 10) rfl ?_); refine goesK (some 17) Try.func10 #[.agg #[.int .i64 4, .int .i64 10, .int .i64 1, .int .i64 0, .int .i64 9, .int .i64 5, .slice none 0 0, .slice Ao54 y156.length co54], .int .i64 3] ?_; (refine (config_Find.calls 4 10 1 0 9 5 _ _ ([] : List (S63)) (fun k_ => (True ∧ k_ ≠ gb159)) _ _ y156 3 t162 t163 t164 t165 t168 t171 t174 _ ?side1 ?side2 ?side3 A2.out).mono ?_); (case side1 => exact Kd.C_nil _ _); (case side2 => exact Nat.le_refl _); (case side3 => exact Kd.S_V (Kd.S_types (HO158.out) BK159.out (by decide))); rintro e w59 ⟨v166, v169, v172, rfl, ho0, ho1, ho2, hb⟩; refine ⟨_, rfl, ?_⟩; replace HO158 := sS HO158 hb; have HO167 := Aside0.mk (Kd.V_lower (Kd.V_mono (ok' := fun k_ => k_ ≠ gb159) ho0 (fun k_ hk_ => Or.elim hk_ (fun hs_ => hs_.2) (fun hn_ => (Kd.freshB (g := gb159) (o := .cells #[.int .i64 4, .int .i64 10, .int .i64 1, .int .i64 0, .int .i64 9, .int .i64 5, .slice none 0 0, .slice Ao54 y156.length co54] 25 (0, 0)) (by (with_reducible repeat (first | refine blk_drewN ?_ _ | refine blk_drew ?_ | refine blk_alloc ?_ _)); exact BK159.out) k_ hn_)))) (below_size (by repeat (first | (with_reducible first | exact HB.out | apply below_alloc | apply pw_below_drewN | apply below_drew1 | refine below_set ?_ (Aside0.out (by assumption))) | exact HB.out)))); have HO170 := Aside0.mk (Kd.V_lower (Kd.V_mono (ok' := fun k_ => k_ ≠ gb159) ho1 (fun k_ hk_ => Or.elim hk_ (fun hs_ => hs_.2) (fun hn_ => (Kd.freshB (g := gb159) (o := .cells #[.int .i64 4, .int .i64 10, .int .i64 1, .int .i64 0, .int .i64 9, .int .i64 5, .slice none 0 0, .slice Ao54 y156.length co54] 25 (0, 0)) (by (with_reducible repeat (first | refine blk_drewN ?_ _ | refine blk_drew ?_ | refine blk_alloc ?_ _)); exact BK159.out) k_ hn_)))) (below_size (by repeat (first | (with_reducible first | exact HB.out | apply below_alloc | apply pw_below_drewN | apply below_drew1 | refine below_set ?_ (Aside0.out (by assumption))) | exact HB.out)))); have HO173 := Aside0.mk (Kd.V_lower (Kd.V_mono (ok' := fun k_ => k_ ≠ gb159) ho2 (fun k_ hk_ => Or.elim hk_ (fun hs_ => hs_.2) (fun hn_ => (Kd.freshB (g := gb159) (o := .cells #[.int .i64 4, .int .i64 10, .int .i64 1, .int .i64 0, .int .i64 9, .int .i64 5, .slice none 0 0, .slice Ao54 y156.length co54] 25 (0, 0)) (by (with_reducible repeat (first | refine blk_drewN ?_ _ | refine blk_drew ?_ | refine blk_alloc ?_ _)); exact BK159.out) k_ hn_)))) (below_size (by repeat (first | (with_reducible first | exact HB.out | apply below_alloc | apply pw_below_drewN | apply below_drew1 | refine below_set ?_ (Aside0.out (by assumption))) | exact HB.out)))); replace BK159 := sK BK159 hb; replace HB := sB HB hb; (try clear hb); (try clear ho0); (try clear ho1); (try clear ho2)) | ((with_reducible refine gate_dst (N := 4) rfl ?_); refine boxK (N := 4) (#[.int .i64 0, .int .i64 0, .int .i64 0, .slice none 0 0, .slice none 0 0, .slice none 0 0]) 37 ?_; intro gb175 hg w60 hbox hb; replace HO158 := sSe HO158 gb175 hg hb; replace HO167 := sVe HO167 gb175 hg hb; replace HO170 := sVe HO170 gb175 hg hb; replace HO173 := sVe HO173 gb175 hg hb; have BK175 := Aside0.mk (hbox); have GW175 := sG hg HB; have GE175 := sG hg HB; replace HB := sB HB hb; have NB159_175 := sNl hg BK159; have NB175_159 := sNg hg BK159; replace BK159 := sK BK159 hb; clear hb hbox hg; have hnb61 := NB175_159.out; have hnc61 := NB159_175.out; have z62 := bk6 BK175; obtain ⟨Ao63, co63, eo63⟩ := Kd.V_slice HO167.out; subst eo63; obtain ⟨Ao64, co64, eo64⟩ := Kd.V_slice HO170.out; subst eo64; obtain ⟨Ao65, co65, eo65⟩ := Kd.V_slice HO173.out; subst eo65))
  go_ret
  exact sEnd HB
 rw [if_pos c4] at H
 have c4b0 : (t161 == 101) = true := beq_iff_eq.mpr c4
 have c4b1 : (t161 != 101) = false := bne_eq_false_iff_eq.mpr c4
 clear c4
 by_cases c5 : t174 = true
 case neg =>
  replace c5 := Bool.eq_false_iff.mpr c5
  subst c5
  rw [if_neg (show ¬ (false = true) by decide)] at H
  obtain rfl := Option.some.inj H
  go_enter Try.func6, Try.ntmps6
  go_wp2_with (first | ((with_reducible refine gate_dst (N := 8) rfl ?_); refine Kd.S_lit k37 _ 37 ?hg (N := 8) ?hd (xs := ([(⟨3, 1, 0, ([] : List (S54)), ([] : List (S56)), ([] : List (S56))⟩ : S37), (⟨3, 2, 0, ([] : List (S54)), ([] : List (S56)), ([] : List (S56))⟩ : S37)] : List (S37))) (inner := [.int .i64 3, .int .i64 1, .int .i64 0, .slice none 0 0, .slice none 0 0, .slice none 0 0, .int .i64 3, .int .i64 2, .int .i64 0, .slice none 0 0, .slice none 0 0, .slice none 0 0]) (ok := fun _ => True) (okp := fun _ => True) ?hr ?hp (fun _ hk => hk) trivial (Below.refl _ _) (Nat.le_refl _) (by simp) ?_; (case hd => rfl); (case hg => rfl); (case hr => first | (go_simp; done) | (go_simp; rfl)); (case hp => exact (Reps.c6 (show Kd.M k37 _ _ _ (⟨3, 1, 0, ([] : List (S54)), ([] : List (S56)), ([] : List (S56))⟩ : S37) [.int .i64 3, .int .i64 1, .int .i64 0, .slice none 0 0, .slice none 0 0, .slice none 0 0] from (k37_mkM _ _ _ (⟨3, 1, 0, ([] : List (S54)), ([] : List (S56)), ([] : List (S56))⟩ : S37) (Kd.R_nil _ _ _ _ _) (Kd.R_nil _ _ _ _ _) (Kd.R_nil _ _ _ _ _))) (Reps.c6 (show Kd.M k37 _ _ _ (⟨3, 2, 0, ([] : List (S54)), ([] : List (S56)), ([] : List (S56))⟩ : S37) [.int .i64 3, .int .i64 2, .int .i64 0, .slice none 0 0, .slice none 0 0, .slice none 0 0] from (k37_mkM _ _ _ (⟨3, 2, 0, ([] : List (S54)), ([] : List (S56)), ([] : List (S56))⟩ : S37) (Kd.R_nil _ _ _ _ _) (Kd.R_nil _ _ _ _ _) (Kd.R_nil _ _ _ _ _))) (Reps.none _ _)))); intro v157 w38 ho39 hb hg_ hnew_; clear hg_ hnew_; (first | rw [← Ny156.out] at ho39 | (simp only [Int.reduceToNat] at ho39; rw [← Ny156.out] at ho39)); have HO158 := Aside0.mk (Kd.S_lower ho39 (below_size (by repeat (first | (with_reducible first | exact HB.out | apply below_alloc | apply pw_below_drewN | apply below_drew1 | refine below_set ?_ (Aside0.out (by assumption))) | exact HB.out)))); replace HB := sB HB hb; clear hb ho39; obtain ⟨Ao40, co40, eo40⟩ := Kd.S_slice HO158.out; subst eo40) | ((with_reducible refine gate_dst (N := 1) rfl ?_); refine boxK (N := 1) (#[.int .i64 0, .int .i64 0, .int .i64 0, .int .i64 0, .int .i64 0, .int .i64 0, .slice none 0 0, .slice none 0 0]) 25 ?_; intro gb159 hg w41 hbox hb; replace HO158 := sS HO158 hb; have BK159 := Aside0.mk (hbox); have GW159 := sG hg HB; have GE159 := sG hg HB; replace HB := sB HB hb; clear hb hbox hg; have z42 := bk8 BK159) | ((with_reducible refine gate_callee (f := 8) rfl ?_); refine goesK (some 12) Try.func8 #[.agg #[.int .i64 4, .int .i64 10, .int .i64 1, .int .i64 0, .int .i64 9, .int .i64 5, .slice none 0 0, .slice Ao40 y156.length co40]] ?_; (refine (config_Check.calls k 4 10 1 0 9 5 _ _ ([] : List (S63)) _ _ y156 t160 t161 _ ?side1 ?side2 ?side3 ?side4 A1.out).mono ?_); (case side1 => exact Kd.C_nil _ _); (case side2 => exact Nat.le_refl _); (case side3 => refine (Kd.S_reads' (e := 37) (base := w.heap.size) (ok := fun k_ => True) (n := y156.length) (c := co40) ?_).2.2; exact (by (with_reducible repeat (first | apply Kd.S_alloc | apply Kd.S_drewN | apply Kd.S_drew)); exact (sfS (Kd.S_types HO158.out BK159.out (by decide))))); (case side4 => exact (Kd.S_reads' HO158.out).2.1); rintro e w43 ⟨rfl, hb⟩; refine ⟨_, rfl, ?_⟩; replace HO158 := Aside0.mk (Kd.S_below (by (with_reducible repeat (first | apply Kd.S_alloc | apply Kd.S_drewN | apply Kd.S_drew)); exact (sfS (Kd.S_types HO158.out BK159.out (by decide)))) hb); replace BK159 := sKp (.cells #[.int .i64 4, .int .i64 10, .int .i64 1, .int .i64 0, .int .i64 9, .int .i64 5, .slice none 0 0, .slice Ao40 y156.length co40] 25 (0, 0)) BK159 hb; replace HB := sB HB hb; (try clear hb); have z44 := bk8 BK159) | ((with_reducible refine gate_callee (f := 10) rfl ?_); refine goesK (some 17) Try.func10 #[.agg #[.int .i64 4, .int .i64 10, .int .i64 1, .int .i64 0, .int .i64 9, .int .i64 5, .slice none 0 0, .slice Ao40 y156.length co40], .int .i64 3] ?_; (refine (config_Find.calls 4 10 1 0 9 5 _ _ ([] : List (S63)) (fun k_ => (True ∧ k_ ≠ gb159)) _ _ y156 3 t162 t163 t164 t165 t168 t171 false _ ?side1 ?side2 ?side3 A2.out).mono ?_); (case side1 => exact Kd.C_nil _ _); (case side2 => exact Nat.le_refl _); (case side3 => exact Kd.S_V (Kd.S_types (HO158.out) BK159.out (by decide))); rintro e w45 ⟨v166, v169, v172, rfl, ho0, ho1, ho2, hb⟩; refine ⟨_, rfl, ?_⟩; replace HO158 := sS HO158 hb; have HO167 := Aside0.mk (Kd.V_lower (Kd.V_mono (ok' := fun k_ => k_ ≠ gb159) ho0 (fun k_ hk_ => Or.elim hk_ (fun hs_ => hs_.2) (fun hn_ => (Kd.freshB (g := gb159) (o := .cells #[.int .i64 4, .int .i64 10, .int .i64 1, .int .i64 0, .int .i64 9, .int .i64 5, .slice none 0 0, .slice Ao40 y156.length co40] 25 (0, 0)) (by (with_reducible repeat (first | refine blk_drewN ?_ _ | refine blk_drew ?_ | refine blk_alloc ?_ _)); exact BK159.out) k_ hn_)))) (below_size (by repeat (first | (with_reducible first | exact HB.out | apply below_alloc | apply pw_below_drewN | apply below_drew1 | refine below_set ?_ (Aside0.out (by assumption))) | exact HB.out)))); have HO170 := Aside0.mk (Kd.V_lower (Kd.V_mono (ok' := fun k_ => k_ ≠ gb159) ho1 (fun k_ hk_ => Or.elim hk_ (fun hs_ => hs_.2) (fun hn_ => (Kd.freshB (g := gb159) (o := .cells #[.int .i64 4, .int .i64 10, .int .i64 1, .int .i64 0, .int .i64 9, .int .i64 5, .slice none 0 0, .slice Ao40 y156.length co40] 25 (0, 0)) (by (with_reducible repeat (first | refine blk_drewN ?_ _ | refine blk_drew ?_ | refine blk_alloc ?_ _)); exact BK159.out) k_ hn_)))) (below_size (by repeat (first | (with_reducible first | exact HB.out | apply below_alloc | apply pw_below_drewN | apply below_drew1 | refine below_set ?_ (Aside0.out (by assumption))) | exact HB.out)))); have HO173 := Aside0.mk (Kd.V_lower (Kd.V_mono (ok' := fun k_ => k_ ≠ gb159) ho2 (fun k_ hk_ => Or.elim hk_ (fun hs_ => hs_.2) (fun hn_ => (Kd.freshB (g := gb159) (o := .cells #[.int .i64 4, .int .i64 10, .int .i64 1, .int .i64 0, .int .i64 9, .int .i64 5, .slice none 0 0, .slice Ao40 y156.length co40] 25 (0, 0)) (by (with_reducible repeat (first | refine blk_drewN ?_ _ | refine blk_drew ?_ | refine blk_alloc ?_ _)); exact BK159.out) k_ hn_)))) (below_size (by repeat (first | (with_reducible first | exact HB.out | apply below_alloc | apply pw_below_drewN | apply below_drew1 | refine below_set ?_ (Aside0.out (by assumption))) | exact HB.out)))); replace BK159 := sK BK159 hb; replace HB := sB HB hb; (try clear hb); (try clear ho0); (try clear ho1); (try clear ho2)) | ((with_reducible refine gate_dst (N := 4) rfl ?_); refine boxK (N := 4) (#[.int .i64 0, .int .i64 0, .int .i64 0, .slice none 0 0, .slice none 0 0, .slice none 0 0]) 37 ?_; intro gb175 hg w46 hbox hb; replace HO158 := sSe HO158 gb175 hg hb; replace HO167 := sVe HO167 gb175 hg hb; replace HO170 := sVe HO170 gb175 hg hb; replace HO173 := sVe HO173 gb175 hg hb; have BK175 := Aside0.mk (hbox); have GW175 := sG hg HB; have GE175 := sG hg HB; replace HB := sB HB hb; have NB159_175 := sNl hg BK159; have NB175_159 := sNg hg BK159; replace BK159 := sK BK159 hb; clear hb hbox hg; have hnb47 := NB175_159.out; have hnc47 := NB159_175.out; have z48 := bk6 BK175; obtain ⟨Ao49, co49, eo49⟩ := Kd.V_slice HO167.out; subst eo49; obtain ⟨Ao50, co50, eo50⟩ := Kd.V_slice HO170.out; subst eo50; obtain ⟨Ao51, co51, eo51⟩ := Kd.V_slice HO173.out; subst eo51))
  go_ret
  exact sEnd HB
 subst c5
 rw [if_pos rfl] at H
 by_cases c6 : t163 = 1
 case neg =>
  rw [if_neg c6] at H
  have c6b0 : (t163 == 1) = false := beq_eq_false_iff_ne.mpr c6
  have c6b1 : (t163 != 1) = true := bne_iff_ne.mpr c6
  obtain rfl := Option.some.inj H
  go_enter Try.func6, Try.ntmps6
  go_wp2_with (first | ((with_reducible refine gate_dst (N := 8) rfl ?_); refine Kd.S_lit k37 _ 37 ?hg (N := 8) ?hd (xs := ([(⟨3, 1, 0, ([] : List (S54)), ([] : List (S56)), ([] : List (S56))⟩ : S37), (⟨3, 2, 0, ([] : List (S54)), ([] : List (S56)), ([] : List (S56))⟩ : S37)] : List (S37))) (inner := [.int .i64 3, .int .i64 1, .int .i64 0, .slice none 0 0, .slice none 0 0, .slice none 0 0, .int .i64 3, .int .i64 2, .int .i64 0, .slice none 0 0, .slice none 0 0, .slice none 0 0]) (ok := fun _ => True) (okp := fun _ => True) ?hr ?hp (fun _ hk => hk) trivial (Below.refl _ _) (Nat.le_refl _) (by simp) ?_; (case hd => rfl); (case hg => rfl); (case hr => first | (go_simp; done) | (go_simp; rfl)); (case hp => exact (Reps.c6 (show Kd.M k37 _ _ _ (⟨3, 1, 0, ([] : List (S54)), ([] : List (S56)), ([] : List (S56))⟩ : S37) [.int .i64 3, .int .i64 1, .int .i64 0, .slice none 0 0, .slice none 0 0, .slice none 0 0] from (k37_mkM _ _ _ (⟨3, 1, 0, ([] : List (S54)), ([] : List (S56)), ([] : List (S56))⟩ : S37) (Kd.R_nil _ _ _ _ _) (Kd.R_nil _ _ _ _ _) (Kd.R_nil _ _ _ _ _))) (Reps.c6 (show Kd.M k37 _ _ _ (⟨3, 2, 0, ([] : List (S54)), ([] : List (S56)), ([] : List (S56))⟩ : S37) [.int .i64 3, .int .i64 2, .int .i64 0, .slice none 0 0, .slice none 0 0, .slice none 0 0] from (k37_mkM _ _ _ (⟨3, 2, 0, ([] : List (S54)), ([] : List (S56)), ([] : List (S56))⟩ : S37) (Kd.R_nil _ _ _ _ _) (Kd.R_nil _ _ _ _ _) (Kd.R_nil _ _ _ _ _))) (Reps.none _ _)))); intro v157 w24 ho25 hb hg_ hnew_; clear hg_ hnew_; (first | rw [← Ny156.out] at ho25 | (simp only [Int.reduceToNat] at ho25; rw [← Ny156.out] at ho25)); have HO158 := Aside0.mk (Kd.S_lower ho25 (below_size (by repeat (first | (with_reducible first | exact HB.out | apply below_alloc | apply pw_below_drewN | apply below_drew1 | refine below_set ?_ (Aside0.out (by assumption))) | exact HB.out)))); replace HB := sB HB hb; clear hb ho25; obtain ⟨Ao26, co26, eo26⟩ := Kd.S_slice HO158.out; subst eo26) | ((with_reducible refine gate_dst (N := 1) rfl ?_); refine boxK (N := 1) (#[.int .i64 0, .int .i64 0, .int .i64 0, .int .i64 0, .int .i64 0, .int .i64 0, .slice none 0 0, .slice none 0 0]) 25 ?_; intro gb159 hg w27 hbox hb; replace HO158 := sS HO158 hb; have BK159 := Aside0.mk (hbox); have GW159 := sG hg HB; have GE159 := sG hg HB; replace HB := sB HB hb; clear hb hbox hg; have z28 := bk8 BK159) | ((with_reducible refine gate_callee (f := 8) rfl ?_); refine goesK (some 12) Try.func8 #[.agg #[.int .i64 4, .int .i64 10, .int .i64 1, .int .i64 0, .int .i64 9, .int .i64 5, .slice none 0 0, .slice Ao26 y156.length co26]] ?_; (refine (config_Check.calls k 4 10 1 0 9 5 _ _ ([] : List (S63)) _ _ y156 t160 t161 _ ?side1 ?side2 ?side3 ?side4 A1.out).mono ?_); (case side1 => exact Kd.C_nil _ _); (case side2 => exact Nat.le_refl _); (case side3 => refine (Kd.S_reads' (e := 37) (base := w.heap.size) (ok := fun k_ => True) (n := y156.length) (c := co26) ?_).2.2; exact (by (with_reducible repeat (first | apply Kd.S_alloc | apply Kd.S_drewN | apply Kd.S_drew)); exact (sfS (Kd.S_types HO158.out BK159.out (by decide))))); (case side4 => exact (Kd.S_reads' HO158.out).2.1); rintro e w29 ⟨rfl, hb⟩; refine ⟨_, rfl, ?_⟩; replace HO158 := Aside0.mk (Kd.S_below (by (with_reducible repeat (first | apply Kd.S_alloc | apply Kd.S_drewN | apply Kd.S_drew)); exact (sfS (Kd.S_types HO158.out BK159.out (by decide)))) hb); replace BK159 := sKp (.cells #[.int .i64 4, .int .i64 10, .int .i64 1, .int .i64 0, .int .i64 9, .int .i64 5, .slice none 0 0, .slice Ao26 y156.length co26] 25 (0, 0)) BK159 hb; replace HB := sB HB hb; (try clear hb); have z30 := bk8 BK159) | ((with_reducible refine gate_callee (f := 10) rfl ?_); refine goesK (some 17) Try.func10 #[.agg #[.int .i64 4, .int .i64 10, .int .i64 1, .int .i64 0, .int .i64 9, .int .i64 5, .slice none 0 0, .slice Ao26 y156.length co26], .int .i64 3] ?_; (refine (config_Find.calls 4 10 1 0 9 5 _ _ ([] : List (S63)) (fun k_ => (True ∧ k_ ≠ gb159)) _ _ y156 3 t162 t163 t164 t165 t168 t171 true _ ?side1 ?side2 ?side3 A2.out).mono ?_); (case side1 => exact Kd.C_nil _ _); (case side2 => exact Nat.le_refl _); (case side3 => exact Kd.S_V (Kd.S_types (HO158.out) BK159.out (by decide))); rintro e w31 ⟨v166, v169, v172, rfl, ho0, ho1, ho2, hb⟩; refine ⟨_, rfl, ?_⟩; replace HO158 := sS HO158 hb; have HO167 := Aside0.mk (Kd.V_lower (Kd.V_mono (ok' := fun k_ => k_ ≠ gb159) ho0 (fun k_ hk_ => Or.elim hk_ (fun hs_ => hs_.2) (fun hn_ => (Kd.freshB (g := gb159) (o := .cells #[.int .i64 4, .int .i64 10, .int .i64 1, .int .i64 0, .int .i64 9, .int .i64 5, .slice none 0 0, .slice Ao26 y156.length co26] 25 (0, 0)) (by (with_reducible repeat (first | refine blk_drewN ?_ _ | refine blk_drew ?_ | refine blk_alloc ?_ _)); exact BK159.out) k_ hn_)))) (below_size (by repeat (first | (with_reducible first | exact HB.out | apply below_alloc | apply pw_below_drewN | apply below_drew1 | refine below_set ?_ (Aside0.out (by assumption))) | exact HB.out)))); have HO170 := Aside0.mk (Kd.V_lower (Kd.V_mono (ok' := fun k_ => k_ ≠ gb159) ho1 (fun k_ hk_ => Or.elim hk_ (fun hs_ => hs_.2) (fun hn_ => (Kd.freshB (g := gb159) (o := .cells #[.int .i64 4, .int .i64 10, .int .i64 1, .int .i64 0, .int .i64 9, .int .i64 5, .slice none 0 0, .slice Ao26 y156.length co26] 25 (0, 0)) (by (with_reducible repeat (first | refine blk_drewN ?_ _ | refine blk_drew ?_ | refine blk_alloc ?_ _)); exact BK159.out) k_ hn_)))) (below_size (by repeat (first | (with_reducible first | exact HB.out | apply below_alloc | apply pw_below_drewN | apply below_drew1 | refine below_set ?_ (Aside0.out (by assumption))) | exact HB.out)))); have HO173 := Aside0.mk (Kd.V_lower (Kd.V_mono (ok' := fun k_ => k_ ≠ gb159) ho2 (fun k_ hk_ => Or.elim hk_ (fun hs_ => hs_.2) (fun hn_ => (Kd.freshB (g := gb159) (o := .cells #[.int .i64 4, .int .i64 10, .int .i64 1, .int .i64 0, .int .i64 9, .int .i64 5, .slice none 0 0, .slice Ao26 y156.length co26] 25 (0, 0)) (by (with_reducible repeat (first | refine blk_drewN ?_ _ | refine blk_drew ?_ | refine blk_alloc ?_ _)); exact BK159.out) k_ hn_)))) (below_size (by repeat (first | (with_reducible first | exact HB.out | apply below_alloc | apply pw_below_drewN | apply below_drew1 | refine below_set ?_ (Aside0.out (by assumption))) | exact HB.out)))); replace BK159 := sK BK159 hb; replace HB := sB HB hb; (try clear hb); (try clear ho0); (try clear ho1); (try clear ho2)) | ((with_reducible refine gate_dst (N := 4) rfl ?_); refine boxK (N := 4) (#[.int .i64 0, .int .i64 0, .int .i64 0, .slice none 0 0, .slice none 0 0, .slice none 0 0]) 37 ?_; intro gb175 hg w32 hbox hb; replace HO158 := sSe HO158 gb175 hg hb; replace HO167 := sVe HO167 gb175 hg hb; replace HO170 := sVe HO170 gb175 hg hb; replace HO173 := sVe HO173 gb175 hg hb; have BK175 := Aside0.mk (hbox); have GW175 := sG hg HB; have GE175 := sG hg HB; replace HB := sB HB hb; have NB159_175 := sNl hg BK159; have NB175_159 := sNg hg BK159; replace BK159 := sK BK159 hb; clear hb hbox hg; have hnb33 := NB175_159.out; have hnc33 := NB159_175.out; have z34 := bk6 BK175; obtain ⟨Ao35, co35, eo35⟩ := Kd.V_slice HO167.out; subst eo35; obtain ⟨Ao36, co36, eo36⟩ := Kd.V_slice HO170.out; subst eo36; obtain ⟨Ao37, co37, eo37⟩ := Kd.V_slice HO173.out; subst eo37))
  go_ret
  exact sEnd HB
 rw [if_pos c6] at H
 have c6b0 : (t163 == 1) = true := beq_iff_eq.mpr c6
 have c6b1 : (t163 != 1) = false := bne_eq_false_iff_eq.mpr c6
 clear c6
 replace H := Option.bind_eq_some_iff.mp H
 obtain ⟨t176, A70, H⟩ := H
 replace H : (some (t176 == 8)) = some r := H
 have A7 := Aside0.mk A70
 clear A70
 obtain rfl := Option.some.inj H
 go_enter Try.func6, Try.ntmps6
 go_wp2_with (first | ((with_reducible refine gate_dst (N := 8) rfl ?_); refine Kd.S_lit k37 _ 37 ?hg (N := 8) ?hd (xs := ([(⟨3, 1, 0, ([] : List (S54)), ([] : List (S56)), ([] : List (S56))⟩ : S37), (⟨3, 2, 0, ([] : List (S54)), ([] : List (S56)), ([] : List (S56))⟩ : S37)] : List (S37))) (inner := [.int .i64 3, .int .i64 1, .int .i64 0, .slice none 0 0, .slice none 0 0, .slice none 0 0, .int .i64 3, .int .i64 2, .int .i64 0, .slice none 0 0, .slice none 0 0, .slice none 0 0]) (ok := fun _ => True) (okp := fun _ => True) ?hr ?hp (fun _ hk => hk) trivial (Below.refl _ _) (Nat.le_refl _) (by simp) ?_; (case hd => rfl); (case hg => rfl); (case hr => first | (go_simp; done) | (go_simp; rfl)); (case hp => exact (Reps.c6 (show Kd.M k37 _ _ _ (⟨3, 1, 0, ([] : List (S54)), ([] : List (S56)), ([] : List (S56))⟩ : S37) [.int .i64 3, .int .i64 1, .int .i64 0, .slice none 0 0, .slice none 0 0, .slice none 0 0] from (k37_mkM _ _ _ (⟨3, 1, 0, ([] : List (S54)), ([] : List (S56)), ([] : List (S56))⟩ : S37) (Kd.R_nil _ _ _ _ _) (Kd.R_nil _ _ _ _ _) (Kd.R_nil _ _ _ _ _))) (Reps.c6 (show Kd.M k37 _ _ _ (⟨3, 2, 0, ([] : List (S54)), ([] : List (S56)), ([] : List (S56))⟩ : S37) [.int .i64 3, .int .i64 2, .int .i64 0, .slice none 0 0, .slice none 0 0, .slice none 0 0] from (k37_mkM _ _ _ (⟨3, 2, 0, ([] : List (S54)), ([] : List (S56)), ([] : List (S56))⟩ : S37) (Kd.R_nil _ _ _ _ _) (Kd.R_nil _ _ _ _ _) (Kd.R_nil _ _ _ _ _))) (Reps.none _ _)))); intro v157 w8 ho9 hb hg_ hnew_; clear hg_ hnew_; (first | rw [← Ny156.out] at ho9 | (simp only [Int.reduceToNat] at ho9; rw [← Ny156.out] at ho9)); have HO158 := Aside0.mk (Kd.S_lower ho9 (below_size (by repeat (first | (with_reducible first | exact HB.out | apply below_alloc | apply pw_below_drewN | apply below_drew1 | refine below_set ?_ (Aside0.out (by assumption))) | exact HB.out)))); replace HB := sB HB hb; clear hb ho9; obtain ⟨Ao10, co10, eo10⟩ := Kd.S_slice HO158.out; subst eo10) | ((with_reducible refine gate_dst (N := 1) rfl ?_); refine boxK (N := 1) (#[.int .i64 0, .int .i64 0, .int .i64 0, .int .i64 0, .int .i64 0, .int .i64 0, .slice none 0 0, .slice none 0 0]) 25 ?_; intro gb159 hg w11 hbox hb; replace HO158 := sS HO158 hb; have BK159 := Aside0.mk (hbox); have GW159 := sG hg HB; have GE159 := sG hg HB; replace HB := sB HB hb; clear hb hbox hg; have z12 := bk8 BK159) | ((with_reducible refine gate_callee (f := 8) rfl ?_); refine goesK (some 12) Try.func8 #[.agg #[.int .i64 4, .int .i64 10, .int .i64 1, .int .i64 0, .int .i64 9, .int .i64 5, .slice none 0 0, .slice Ao10 y156.length co10]] ?_; (refine (config_Check.calls k 4 10 1 0 9 5 _ _ ([] : List (S63)) _ _ y156 t160 t161 _ ?side1 ?side2 ?side3 ?side4 A1.out).mono ?_); (case side1 => exact Kd.C_nil _ _); (case side2 => exact Nat.le_refl _); (case side3 => refine (Kd.S_reads' (e := 37) (base := w.heap.size) (ok := fun k_ => True) (n := y156.length) (c := co10) ?_).2.2; exact (by (with_reducible repeat (first | apply Kd.S_alloc | apply Kd.S_drewN | apply Kd.S_drew)); exact (sfS (Kd.S_types HO158.out BK159.out (by decide))))); (case side4 => exact (Kd.S_reads' HO158.out).2.1); rintro e w13 ⟨rfl, hb⟩; refine ⟨_, rfl, ?_⟩; replace HO158 := Aside0.mk (Kd.S_below (by (with_reducible repeat (first | apply Kd.S_alloc | apply Kd.S_drewN | apply Kd.S_drew)); exact (sfS (Kd.S_types HO158.out BK159.out (by decide)))) hb); replace BK159 := sKp (.cells #[.int .i64 4, .int .i64 10, .int .i64 1, .int .i64 0, .int .i64 9, .int .i64 5, .slice none 0 0, .slice Ao10 y156.length co10] 25 (0, 0)) BK159 hb; replace HB := sB HB hb; (try clear hb); have z14 := bk8 BK159) | ((with_reducible refine gate_callee (f := 10) rfl ?_); refine goesK (some 17) Try.func10 #[.agg #[.int .i64 4, .int .i64 10, .int .i64 1, .int .i64 0, .int .i64 9, .int .i64 5, .slice none 0 0, .slice Ao10 y156.length co10], .int .i64 3] ?_; (refine (config_Find.calls 4 10 1 0 9 5 _ _ ([] : List (S63)) (fun k_ => (True ∧ k_ ≠ gb159)) _ _ y156 3 t162 t163 t164 t165 t168 t171 true _ ?side1 ?side2 ?side3 A2.out).mono ?_); (case side1 => exact Kd.C_nil _ _); (case side2 => exact Nat.le_refl _); (case side3 => exact Kd.S_V (Kd.S_types (HO158.out) BK159.out (by decide))); rintro e w15 ⟨v166, v169, v172, rfl, ho0, ho1, ho2, hb⟩; refine ⟨_, rfl, ?_⟩; replace HO158 := sS HO158 hb; have HO167 := Aside0.mk (Kd.V_lower (Kd.V_mono (ok' := fun k_ => k_ ≠ gb159) ho0 (fun k_ hk_ => Or.elim hk_ (fun hs_ => hs_.2) (fun hn_ => (Kd.freshB (g := gb159) (o := .cells #[.int .i64 4, .int .i64 10, .int .i64 1, .int .i64 0, .int .i64 9, .int .i64 5, .slice none 0 0, .slice Ao10 y156.length co10] 25 (0, 0)) (by (with_reducible repeat (first | refine blk_drewN ?_ _ | refine blk_drew ?_ | refine blk_alloc ?_ _)); exact BK159.out) k_ hn_)))) (below_size (by repeat (first | (with_reducible first | exact HB.out | apply below_alloc | apply pw_below_drewN | apply below_drew1 | refine below_set ?_ (Aside0.out (by assumption))) | exact HB.out)))); have HO170 := Aside0.mk (Kd.V_lower (Kd.V_mono (ok' := fun k_ => k_ ≠ gb159) ho1 (fun k_ hk_ => Or.elim hk_ (fun hs_ => hs_.2) (fun hn_ => (Kd.freshB (g := gb159) (o := .cells #[.int .i64 4, .int .i64 10, .int .i64 1, .int .i64 0, .int .i64 9, .int .i64 5, .slice none 0 0, .slice Ao10 y156.length co10] 25 (0, 0)) (by (with_reducible repeat (first | refine blk_drewN ?_ _ | refine blk_drew ?_ | refine blk_alloc ?_ _)); exact BK159.out) k_ hn_)))) (below_size (by repeat (first | (with_reducible first | exact HB.out | apply below_alloc | apply pw_below_drewN | apply below_drew1 | refine below_set ?_ (Aside0.out (by assumption))) | exact HB.out)))); have HO173 := Aside0.mk (Kd.V_lower (Kd.V_mono (ok' := fun k_ => k_ ≠ gb159) ho2 (fun k_ hk_ => Or.elim hk_ (fun hs_ => hs_.2) (fun hn_ => (Kd.freshB (g := gb159) (o := .cells #[.int .i64 4, .int .i64 10, .int .i64 1, .int .i64 0, .int .i64 9, .int .i64 5, .slice none 0 0, .slice Ao10 y156.length co10] 25 (0, 0)) (by (with_reducible repeat (first | refine blk_drewN ?_ _ | refine blk_drew ?_ | refine blk_alloc ?_ _)); exact BK159.out) k_ hn_)))) (below_size (by repeat (first | (with_reducible first | exact HB.out | apply below_alloc | apply pw_below_drewN | apply below_drew1 | refine below_set ?_ (Aside0.out (by assumption))) | exact HB.out)))); replace BK159 := sK BK159 hb; replace HB := sB HB hb; (try clear hb); (try clear ho0); (try clear ho1); (try clear ho2)) | ((with_reducible refine gate_dst (N := 4) rfl ?_); refine boxK (N := 4) (#[.int .i64 0, .int .i64 0, .int .i64 0, .slice none 0 0, .slice none 0 0, .slice none 0 0]) 37 ?_; intro gb175 hg w16 hbox hb; replace HO158 := sSe HO158 gb175 hg hb; replace HO167 := sVe HO167 gb175 hg hb; replace HO170 := sVe HO170 gb175 hg hb; replace HO173 := sVe HO173 gb175 hg hb; have BK175 := Aside0.mk (hbox); have GW175 := sG hg HB; have GE175 := sG hg HB; replace HB := sB HB hb; have NB159_175 := sNl hg BK159; have NB175_159 := sNg hg BK159; replace BK159 := sK BK159 hb; clear hb hbox hg; have hnb17 := NB175_159.out; have hnc17 := NB159_175.out; have z18 := bk6 BK175; obtain ⟨Ao19, co19, eo19⟩ := Kd.V_slice HO167.out; subst eo19; obtain ⟨Ao20, co20, eo20⟩ := Kd.V_slice HO170.out; subst eo20; obtain ⟨Ao21, co21, eo21⟩ := Kd.V_slice HO173.out; subst eo21; have z22 := bk8 BK159) | (go_at_call 13; (refine (config_Addrs.calls 4 10 1 0 9 5 _ _ ([] : List (S63)) _ _ y156 t176 _ ?side1 ?side2 ?side3 ?side4 A7.out).mono ?_); (case side1 => exact Kd.C_nil _ _); (case side2 => exact Nat.le_refl _); (case side3 => refine (Kd.S_reads' (e := 37) (base := w.heap.size) (ok := fun k_ => (True ∧ k_ ≠ gb175)) (n := y156.length) (c := co10) ?_).2.2; exact (by (with_reducible repeat (first | apply Kd.S_alloc | apply Kd.S_drewN | apply Kd.S_drew)); exact (sfS (Kd.S_mono HO158.out (fun k_ hk => (⟨hk, hk.2⟩ : _ ∧ k_ ≠ gb175)))))); (case side4 => exact (Kd.S_reads' HO158.out).2.1); rintro e w23 ⟨rfl, hb⟩; replace HO158 := Aside0.mk (Kd.S_below (by (with_reducible repeat (first | apply Kd.S_alloc | apply Kd.S_drewN | apply Kd.S_drew)); exact (sfS (Kd.S_mono HO158.out (fun k_ hk => (⟨hk, hk.2⟩ : _ ∧ k_ ≠ gb175))))) hb); replace HO167 := Aside0.mk (Kd.V_below (by (with_reducible repeat (first | apply Kd.V_alloc | apply Kd.V_drewN | apply Kd.V_drew)); exact (sfV (Kd.V_mono HO167.out (fun k_ hk => (⟨hk, hk.2⟩ : _ ∧ k_ ≠ gb175))))) hb); replace HO170 := Aside0.mk (Kd.V_below (by (with_reducible repeat (first | apply Kd.V_alloc | apply Kd.V_drewN | apply Kd.V_drew)); exact (sfV (Kd.V_mono HO170.out (fun k_ hk => (⟨hk, hk.2⟩ : _ ∧ k_ ≠ gb175))))) hb); replace HO173 := Aside0.mk (Kd.V_below (by (with_reducible repeat (first | apply Kd.V_alloc | apply Kd.V_drewN | apply Kd.V_drew)); exact (sfV (Kd.V_mono HO173.out (fun k_ hk => (⟨hk, hk.2⟩ : _ ∧ k_ ≠ gb175))))) hb); replace BK159 := sKp (.cells #[.int .i64 4, .int .i64 10, .int .i64 1, .int .i64 0, .int .i64 9, .int .i64 5, .slice none 0 0, .slice Ao10 y156.length co10] 25 (0, 0)) BK159 hb; replace BK175 := sKp (.cells #[.int .i64 t162, .int .i64 t163, .int .i64 t164, .slice Ao19 t165.length co19, .slice Ao20 t168.length co20, .slice Ao21 t171.length co21] 37 (0, 0)) BK175 hb; replace HB := sB HB hb; (try clear hb); (try clear hk)))
 go_ret
 exact sEnd HB

/-! ### fuglemanlaw20_Small: function 7 -/
mutual
def fuglemanlaw20_Small.j0 : Nat → Bool → Int → Int → Int → Int → Int → Int → List (S63) → List (S37) → Option (Bool)
 | 0, _, _, _, _, _, _, _, _, _ => none
 | k + 1, x14, x178000, x178001, x178002, x178003, x178004, x178005, x178006, x178007 => if x14 = true then (some false) else (fuglemanlaw20_Small.l0 k x178007 (x178007.length : Int) 0)
def fuglemanlaw20_Small.l0 : Nat → List (S37) → Int → Int → Option (Bool)
 | 0, _, _, _ => none
 | k + 1, x16, x17, x18 => if x18 < x17 then (if 0 ≤ x18 then (if x18 < (x16.length : Int) then (if (((rd_T37 x16 x18).f3).length : Int) > 210 then (some false) else (if (((rd_T37 x16 x18).f4).length : Int) > 40 then (some false) else (if (((rd_T37 x16 x18).f5).length : Int) > 40 then (some false) else (fuglemanlaw20_Small.l0 k x16 x17 (wrap64 (x18 + 1)))))) else (none)) else (none)) else (some true)
end
def fuglemanlaw20_Small.f (k : Nat) (a0_0 a0_1 a0_2 a0_3 a0_4 a0_5 : Int) (l0_6 : List (S63)) (l0_7 : List (S37)) : Option (Bool) := if (l0_7.length : Int) > 40 then (fuglemanlaw20_Small.j0 k true a0_0 a0_1 a0_2 a0_3 a0_4 a0_5 l0_6 l0_7) else (fuglemanlaw20_Small.j0 k (decide ((l0_6.length : Int) > 40)) a0_0 a0_1 a0_2 a0_3 a0_4 a0_5 l0_6 l0_7)
theorem fuglemanlaw20_Small.mono_l : ∀ k, (∀ y0 y1 y2 y3 y4 y5 y6 y7 y8, LeO (fuglemanlaw20_Small.j0 k y0 y1 y2 y3 y4 y5 y6 y7 y8) (fuglemanlaw20_Small.j0 (k + 1) y0 y1 y2 y3 y4 y5 y6 y7 y8)) ∧ (∀ y0 y1 y2, LeO (fuglemanlaw20_Small.l0 k y0 y1 y2) (fuglemanlaw20_Small.l0 (k + 1) y0 y1 y2))
 | 0 => ⟨fun _ _ _ _ _ _ _ _ _ r h => by simp [fuglemanlaw20_Small.j0] at h, fun _ _ _ r h => by simp [fuglemanlaw20_Small.l0] at h⟩
 | k + 1 => by
  obtain ⟨ih0, ih1⟩ := fuglemanlaw20_Small.mono_l k
  refine ⟨?_, ?_⟩
  ·intro y0 y1 y2 y3 y4 y5 y6 y7 y8
   unfold fuglemanlaw20_Small.j0
   repeat' first
   | (with_reducible exact ih0 _ _ _ _ _ _ _ _ _)
   | (with_reducible exact ih1 _ _ _)
   | (with_reducible exact LeO.refl _)
   | (with_reducible exact LeO.none _)
   | (with_reducible refine LeO.ite ?_ ?_)
   | (with_reducible refine LeO.bind ?_ (fun _ => ?_))
   | exact ih0 _ _ _ _ _ _ _ _ _
   | exact ih1 _ _ _
   | exact LeO.none _
   | refine LeO.ite ?_ ?_
   | refine LeO.bind ?_ (fun _ => ?_)
  ·intro y0 y1 y2
   unfold fuglemanlaw20_Small.l0
   repeat' first
   | (with_reducible exact ih0 _ _ _ _ _ _ _ _ _)
   | (with_reducible exact ih1 _ _ _)
   | (with_reducible exact LeO.refl _)
   | (with_reducible exact LeO.none _)
   | (with_reducible refine LeO.ite ?_ ?_)
   | (with_reducible refine LeO.bind ?_ (fun _ => ?_))
   | exact ih0 _ _ _ _ _ _ _ _ _
   | exact ih1 _ _ _
   | exact LeO.none _
   | refine LeO.ite ?_ ?_
   | refine LeO.bind ?_ (fun _ => ?_)
theorem fuglemanlaw20_Small.mono : ∀ a0 a1 a2 a3 a4 a5 a6 a7 k, LeO (fuglemanlaw20_Small.f k a0 a1 a2 a3 a4 a5 a6 a7) (fuglemanlaw20_Small.f (k + 1) a0 a1 a2 a3 a4 a5 a6 a7) := by
 intro a0 a1 a2 a3 a4 a5 a6 a7 k
 obtain ⟨ih0, ih1⟩ := fuglemanlaw20_Small.mono_l k
 unfold fuglemanlaw20_Small.f
 repeat' first
   | (with_reducible exact ih0 _ _ _ _ _ _ _ _ _)
   | (with_reducible exact ih1 _ _ _)
   | (with_reducible exact LeO.refl _)
   | (with_reducible exact LeO.none _)
   | (with_reducible refine LeO.ite ?_ ?_)
   | (with_reducible refine LeO.bind ?_ (fun _ => ?_))
   | exact ih0 _ _ _ _ _ _ _ _ _
   | exact ih1 _ _ _
   | exact LeO.none _
   | refine LeO.ite ?_ ?_
   | refine LeO.bind ?_ (fun _ => ?_)
set_option maxHeartbeats 8000000 in
set_option maxRecDepth 100000 in
theorem fuglemanlaw20_Small.calls (k : Nat) (a0_0 a0_1 a0_2 a0_3 a0_4 a0_5 : Int) (A0_6 : Option Addr) (c0_6 : Nat) (l0_6 : List (S63)) (A0_7 : Option Addr) (c0_7 : Nat) (l0_7 : List (S37)) (r : Bool) (w : World) (hr0_6 : Kd.C k63 w A0_6 l0_6.length l0_6) (hc0_6 : l0_6.length ≤ c0_6) (hr0_7 : Kd.C k37 w A0_7 l0_7.length l0_7) (hc0_7 : l0_7.length ≤ c0_7) (h : fuglemanlaw20_Small.f k a0_0 a0_1 a0_2 a0_3 a0_4 a0_5 l0_6 l0_7 = some r) :
  Calls Try.prog 7 #[.agg #[.int .i64 a0_0, .int .i64 a0_1, .int .i64 a0_2, .int .i64 a0_3, .int .i64 a0_4, .int .i64 a0_5, .slice A0_6 l0_6.length c0_6, .slice A0_7 l0_7.length c0_7]] w fun e w' => e = .returned (.bool r) ∧ Below w.heap.size w w' := by
 have hu25 := Try.underlying25
 have hu37 := Try.underlying37
 have HR0_6 := Aside0.mk hr0_6
 have HC0_6 := Aside0.mk hc0_6
 clear hr0_6 hc0_6
 have HR0_7 := Aside0.mk hr0_7
 have HC0_7 := Aside0.mk hc0_7
 clear hr0_7 hc0_7
 have HB := Aside0.mk (Below.refl w.heap.size w)
 have H : (if (l0_7.length : Int) > 40 then (fuglemanlaw20_Small.j0 k true a0_0 a0_1 a0_2 a0_3 a0_4 a0_5 l0_6 l0_7) else (fuglemanlaw20_Small.j0 k (decide ((l0_6.length : Int) > 40)) a0_0 a0_1 a0_2 a0_3 a0_4 a0_5 l0_6 l0_7)) = some r := h
 clear h
 have HC2 := Aside0.mk H
 clear H
 go_enter Try.func7, Try.ntmps7
 go_upto_region 1 with (first | ((with_reducible refine gate_dst (N := 1) rfl ?_); (try (refine gate_guard (by rfl) ?_; dsimp only)); refine boxK (N := 1) (#[.int .i64 a0_0, .int .i64 a0_1, .int .i64 a0_2, .int .i64 a0_3, .int .i64 a0_4, .int .i64 a0_5, .slice A0_6 l0_6.length c0_6, .slice A0_7 l0_7.length c0_7]) 25 ?_; intro gb177 hg w3 hbox hb; have BK177 := Aside0.mk (hbox); have GW177 := sG hg HB; have GE177 := sG hg HB; replace HB := sB HB hb; clear hb hbox hg))
 (try simp only [Act.put, List.setIfInBounds_toArray, List.set_cons_zero, List.set_cons_succ])
 go_cut [14] (fun v14 wc => ∃ (kq : Nat) (x14_1 : Bool), v14 = .bool x14_1 ∧ Aside0 (fuglemanlaw20_Small.j0 kq x14_1 a0_0 a0_1 a0_2 a0_3 a0_4 a0_5 l0_6 l0_7 = some r) ∧ Aside0 (kq ≤ k) ∧ Aside0 (wc.heap[gb177]? = some (.cells #[.int .i64 a0_0, .int .i64 a0_1, .int .i64 a0_2, .int .i64 a0_3, .int .i64 a0_4, .int .i64 a0_5, (.slice A0_6 l0_6.length c0_6), (.slice A0_7 l0_7.length c0_7)] 25 (0, 0))) ∧ Aside0 (Below w.heap.size w wc))
 case first =>
  have H := HC2.out
  clear HC2
  by_cases c4 : (l0_7.length : Int) > 40
  ·rw [if_pos c4] at H
   have c4b0 : decide (40 < (l0_7.length : Int)) = true := decide_eq_true c4
   have c4b1 : decide (40 < l0_7.length) = true := decide_eq_true (by omega)
   clear c4
   (first | rw [c4b0] | (simp only [i64_w, i32_w]; rw [c4b0]) | skip)
   have H' := Aside0.mk H
   clear H
   have z5 := bk8 BK177
   go_wp2
   go_meet
   case rel => exact ⟨_, (true), (by first | rfl | (simp; done) | (simp [*]; done)), H', ⟨by first | omega | exact Nat.le_refl _⟩, (sK0 BK177), (sB0 HB)⟩
  rw [if_neg c4] at H
  have c4b0 : decide (40 < (l0_7.length : Int)) = false := decide_eq_false c4
  have c4b1 : decide (40 < l0_7.length) = false := decide_eq_false (by omega)
  clear c4
  (first | rw [c4b0] | (simp only [i64_w, i32_w]; rw [c4b0]) | skip)
  have H' := Aside0.mk H
  clear H
  have z6 := bk8 BK177
  go_wp2
  go_meet
  case rel => exact ⟨_, (decide ((l0_6.length : Int) > 40)), (by first | rfl | (simp; done) | (simp [*]; done)), H', ⟨by first | omega | exact Nat.le_refl _⟩, (sK0 BK177), (sB0 HB)⟩
 clear HC2
 (try clear c4); (try clear c4b0); (try clear c4b1)
 obtain ⟨kq, x14_1, rfl, HA, HJ1, BK177, HB⟩ := hcut
 cases kq with
 | zero => exact absurd HA.out (by simp [fuglemanlaw20_Small.j0])
 | succ kj1 =>
  have H := HA.out
  clear HA
  simp only [fuglemanlaw20_Small.j0] at H
  by_cases c7 : x14_1 = true
  ·subst c7
   rw [if_pos rfl] at H
   obtain rfl := Option.some.inj H
   go_wp2
   go_ret
   exact sEnd HB
  ·replace c7 := Bool.eq_false_iff.mpr c7
   subst c7
   rw [if_neg (show ¬ (false = true) by decide)] at H
   have H' := Aside0.mk H
   clear H
   have z8 := bk8 BK177
   go_wp2
   go_loopg [18] kj1 (fun kq v18 w' => ∃ (x18_2 : Int), v18 = .int .i64 x18_2 ∧ Aside0 (fuglemanlaw20_Small.l0 kq l0_7 (l0_7.length : Int) x18_2 = some r) ∧ Aside0 (kq ≤ kj1) ∧ Aside0 (w'.heap[gb177]? = some (.cells #[.int .i64 a0_0, .int .i64 a0_1, .int .i64 a0_2, .int .i64 a0_3, .int .i64 a0_4, .int .i64 a0_5, (.slice A0_6 l0_6.length c0_6), (.slice A0_7 l0_7.length c0_7)] 25 (0, 0))) ∧ Aside0 (Below w.heap.size w w'))
   case atStart => exact ⟨(0), (by first | rfl | (simp; done) | (simp [*]; done)), H', ⟨Nat.le_refl _⟩, (sK0 BK177), (sB0 HB)⟩
   case round =>
    clear H'
    (try clear c4); (try clear c4b0); (try clear c4b1); (try clear c7)
    obtain ⟨x18_2, rfl, HA, HK2, BK177, HB⟩ := hrel
    cases gk with
    | zero => exact absurd HA.out (by simp [fuglemanlaw20_Small.l0])
    | succ k2 =>
     have H := HA.out
     clear HA
     simp only [fuglemanlaw20_Small.l0] at H
     by_cases c9 : x18_2 < (l0_7.length : Int)
     ·rw [if_pos c9] at H
      have c9b0 : decide (x18_2 < (l0_7.length : Int)) = true := decide_eq_true c9
      clear c9
      by_cases c10 : 0 ≤ x18_2
      ·rw [if_pos c10] at H
       have c10b0 : decide (0 ≤ x18_2) = true := decide_eq_true c10
       clear c10
       by_cases c11 : x18_2 < (l0_7.length : Int)
       ·rw [if_pos c11] at H
        have c11b0 : decide (x18_2 < (l0_7.length : Int)) = true := decide_eq_true c11
        clear c11
        by_cases c12 : (((rd_T37 l0_7 x18_2).f3).length : Int) > 210
        ·rw [if_pos c12] at H
         have c12b0 : decide (210 < (((rd_T37 l0_7 x18_2).f3).length : Int)) = true := decide_eq_true c12
         have c12b1 : decide (210 < ((rd_T37 l0_7 x18_2).f3).length) = true := decide_eq_true (by omega)
         clear c12
         obtain rfl := Option.some.inj H
         have p178 : 0 ≤ (x18_2 : Int) := of_decide_eq_true (by first | (with_reducible assumption) | assumption)
         have q178 : x18_2 < (l0_7.length : Int) := of_decide_eq_true (by first | (with_reducible assumption) | assumption)
         obtain ⟨ad178, A178_3, c178_3, A178_4, c178_4, A178_5, c178_5, e178, hx178_0, hx178_1, hx178_2, hx178_3, hx178_4, hx178_5, hl178_3, hi178_3, hl178_4, hi178_4, hl178_5, hi178_5⟩ := at_T37 HR0_7.out x18_2 p178 q178
         cases e178
         replace hx178_0 := (HB.out.cell (World.block_lt_of_cell? w _ hx178_0)).trans hx178_0
         replace hx178_1 := (HB.out.cell (World.block_lt_of_cell? w _ hx178_1)).trans hx178_1
         replace hx178_2 := (HB.out.cell (World.block_lt_of_cell? w _ hx178_2)).trans hx178_2
         replace hx178_3 := (HB.out.cell (World.block_lt_of_cell? w _ hx178_3)).trans hx178_3
         replace hx178_4 := (HB.out.cell (World.block_lt_of_cell? w _ hx178_4)).trans hx178_4
         replace hx178_5 := (HB.out.cell (World.block_lt_of_cell? w _ hx178_5)).trans hx178_5
         have HR178_3 := Aside0.mk hi178_3
         have HC178_3 := Aside0.mk hl178_3
         clear hi178_3 hl178_3
         have HR178_4 := Aside0.mk hi178_4
         have HC178_4 := Aside0.mk hl178_4
         clear hi178_4 hl178_4
         have HR178_5 := Aside0.mk hi178_5
         have HC178_5 := Aside0.mk hl178_5
         clear hi178_5 hl178_5
         replace p178 := eq_true p178
         replace q178 := eq_true q178
         go_wp2_with (first | ((with_reducible refine gate_dst (N := 4) rfl ?_); (try (refine gate_guard (by rfl) ?_; dsimp only)); refine boxK (N := 4) (#[.int .i64 0, .int .i64 0, .int .i64 0, .slice none 0 0, .slice none 0 0, .slice none 0 0]) 37 ?_; intro gb179 hg w13 hbox hb; have BK179 := Aside0.mk (hbox); have GW179 := sG hg HB; have GE179 := sG hg HB; replace HB := sB HB hb; have NB177_179 := sNl hg BK177; have NB179_177 := sNg hg BK177; replace BK177 := sK BK177 hb; clear hb hbox hg; have hnb14 := NB179_177.out; have hnc14 := NB177_179.out; have z15 := bk6 BK179))
         go_ret
         exact sEnd HB
        ·rw [if_neg c12] at H
         have c12b0 : decide (210 < (((rd_T37 l0_7 x18_2).f3).length : Int)) = false := decide_eq_false c12
         have c12b1 : decide (210 < ((rd_T37 l0_7 x18_2).f3).length) = false := decide_eq_false (by omega)
         clear c12
         by_cases c16 : (((rd_T37 l0_7 x18_2).f4).length : Int) > 40
         ·rw [if_pos c16] at H
          have c16b0 : decide (40 < (((rd_T37 l0_7 x18_2).f4).length : Int)) = true := decide_eq_true c16
          have c16b1 : decide (40 < ((rd_T37 l0_7 x18_2).f4).length) = true := decide_eq_true (by omega)
          clear c16
          obtain rfl := Option.some.inj H
          have p178 : 0 ≤ (x18_2 : Int) := of_decide_eq_true (by first | (with_reducible assumption) | assumption)
          have q178 : x18_2 < (l0_7.length : Int) := of_decide_eq_true (by first | (with_reducible assumption) | assumption)
          obtain ⟨ad178, A178_3, c178_3, A178_4, c178_4, A178_5, c178_5, e178, hx178_0, hx178_1, hx178_2, hx178_3, hx178_4, hx178_5, hl178_3, hi178_3, hl178_4, hi178_4, hl178_5, hi178_5⟩ := at_T37 HR0_7.out x18_2 p178 q178
          cases e178
          replace hx178_0 := (HB.out.cell (World.block_lt_of_cell? w _ hx178_0)).trans hx178_0
          replace hx178_1 := (HB.out.cell (World.block_lt_of_cell? w _ hx178_1)).trans hx178_1
          replace hx178_2 := (HB.out.cell (World.block_lt_of_cell? w _ hx178_2)).trans hx178_2
          replace hx178_3 := (HB.out.cell (World.block_lt_of_cell? w _ hx178_3)).trans hx178_3
          replace hx178_4 := (HB.out.cell (World.block_lt_of_cell? w _ hx178_4)).trans hx178_4
          replace hx178_5 := (HB.out.cell (World.block_lt_of_cell? w _ hx178_5)).trans hx178_5
          have HR178_3 := Aside0.mk hi178_3
          have HC178_3 := Aside0.mk hl178_3
          clear hi178_3 hl178_3
          have HR178_4 := Aside0.mk hi178_4
          have HC178_4 := Aside0.mk hl178_4
          clear hi178_4 hl178_4
          have HR178_5 := Aside0.mk hi178_5
          have HC178_5 := Aside0.mk hl178_5
          clear hi178_5 hl178_5
          replace p178 := eq_true p178
          replace q178 := eq_true q178
          go_wp2_with (first | ((with_reducible refine gate_dst (N := 4) rfl ?_); (try (refine gate_guard (by rfl) ?_; dsimp only)); refine boxK (N := 4) (#[.int .i64 0, .int .i64 0, .int .i64 0, .slice none 0 0, .slice none 0 0, .slice none 0 0]) 37 ?_; intro gb179 hg w17 hbox hb; have BK179 := Aside0.mk (hbox); have GW179 := sG hg HB; have GE179 := sG hg HB; replace HB := sB HB hb; have NB177_179 := sNl hg BK177; have NB179_177 := sNg hg BK177; replace BK177 := sK BK177 hb; clear hb hbox hg; have hnb18 := NB179_177.out; have hnc18 := NB177_179.out; have z19 := bk6 BK179))
          go_ret
          exact sEnd HB
         ·rw [if_neg c16] at H
          have c16b0 : decide (40 < (((rd_T37 l0_7 x18_2).f4).length : Int)) = false := decide_eq_false c16
          have c16b1 : decide (40 < ((rd_T37 l0_7 x18_2).f4).length) = false := decide_eq_false (by omega)
          clear c16
          by_cases c20 : (((rd_T37 l0_7 x18_2).f5).length : Int) > 40
          ·rw [if_pos c20] at H
           have c20b0 : decide (40 < (((rd_T37 l0_7 x18_2).f5).length : Int)) = true := decide_eq_true c20
           have c20b1 : decide (40 < ((rd_T37 l0_7 x18_2).f5).length) = true := decide_eq_true (by omega)
           clear c20
           obtain rfl := Option.some.inj H
           have p178 : 0 ≤ (x18_2 : Int) := of_decide_eq_true (by first | (with_reducible assumption) | assumption)
           have q178 : x18_2 < (l0_7.length : Int) := of_decide_eq_true (by first | (with_reducible assumption) | assumption)
           obtain ⟨ad178, A178_3, c178_3, A178_4, c178_4, A178_5, c178_5, e178, hx178_0, hx178_1, hx178_2, hx178_3, hx178_4, hx178_5, hl178_3, hi178_3, hl178_4, hi178_4, hl178_5, hi178_5⟩ := at_T37 HR0_7.out x18_2 p178 q178
           cases e178
           replace hx178_0 := (HB.out.cell (World.block_lt_of_cell? w _ hx178_0)).trans hx178_0
           replace hx178_1 := (HB.out.cell (World.block_lt_of_cell? w _ hx178_1)).trans hx178_1
           replace hx178_2 := (HB.out.cell (World.block_lt_of_cell? w _ hx178_2)).trans hx178_2
           replace hx178_3 := (HB.out.cell (World.block_lt_of_cell? w _ hx178_3)).trans hx178_3
           replace hx178_4 := (HB.out.cell (World.block_lt_of_cell? w _ hx178_4)).trans hx178_4
           replace hx178_5 := (HB.out.cell (World.block_lt_of_cell? w _ hx178_5)).trans hx178_5
           have HR178_3 := Aside0.mk hi178_3
           have HC178_3 := Aside0.mk hl178_3
           clear hi178_3 hl178_3
           have HR178_4 := Aside0.mk hi178_4
           have HC178_4 := Aside0.mk hl178_4
           clear hi178_4 hl178_4
           have HR178_5 := Aside0.mk hi178_5
           have HC178_5 := Aside0.mk hl178_5
           clear hi178_5 hl178_5
           replace p178 := eq_true p178
           replace q178 := eq_true q178
           go_wp2_with (first | ((with_reducible refine gate_dst (N := 4) rfl ?_); (try (refine gate_guard (by rfl) ?_; dsimp only)); refine boxK (N := 4) (#[.int .i64 0, .int .i64 0, .int .i64 0, .slice none 0 0, .slice none 0 0, .slice none 0 0]) 37 ?_; intro gb179 hg w21 hbox hb; have BK179 := Aside0.mk (hbox); have GW179 := sG hg HB; have GE179 := sG hg HB; replace HB := sB HB hb; have NB177_179 := sNl hg BK177; have NB179_177 := sNg hg BK177; replace BK177 := sK BK177 hb; clear hb hbox hg; have hnb22 := NB179_177.out; have hnc22 := NB177_179.out; have z23 := bk6 BK179))
           go_ret
           exact sEnd HB
          ·rw [if_neg c20] at H
           have c20b0 : decide (40 < (((rd_T37 l0_7 x18_2).f5).length : Int)) = false := decide_eq_false c20
           have c20b1 : decide (40 < ((rd_T37 l0_7 x18_2).f5).length) = false := decide_eq_false (by omega)
           clear c20
           have H' := Aside0.mk H
           clear H
           have p178 : 0 ≤ (x18_2 : Int) := of_decide_eq_true (by first | (with_reducible assumption) | assumption)
           have q178 : x18_2 < (l0_7.length : Int) := of_decide_eq_true (by first | (with_reducible assumption) | assumption)
           obtain ⟨ad178, A178_3, c178_3, A178_4, c178_4, A178_5, c178_5, e178, hx178_0, hx178_1, hx178_2, hx178_3, hx178_4, hx178_5, hl178_3, hi178_3, hl178_4, hi178_4, hl178_5, hi178_5⟩ := at_T37 HR0_7.out x18_2 p178 q178
           cases e178
           replace hx178_0 := (HB.out.cell (World.block_lt_of_cell? w _ hx178_0)).trans hx178_0
           replace hx178_1 := (HB.out.cell (World.block_lt_of_cell? w _ hx178_1)).trans hx178_1
           replace hx178_2 := (HB.out.cell (World.block_lt_of_cell? w _ hx178_2)).trans hx178_2
           replace hx178_3 := (HB.out.cell (World.block_lt_of_cell? w _ hx178_3)).trans hx178_3
           replace hx178_4 := (HB.out.cell (World.block_lt_of_cell? w _ hx178_4)).trans hx178_4
           replace hx178_5 := (HB.out.cell (World.block_lt_of_cell? w _ hx178_5)).trans hx178_5
           have HR178_3 := Aside0.mk hi178_3
           have HC178_3 := Aside0.mk hl178_3
           clear hi178_3 hl178_3
           have HR178_4 := Aside0.mk hi178_4
           have HC178_4 := Aside0.mk hl178_4
           clear hi178_4 hl178_4
           have HR178_5 := Aside0.mk hi178_5
           have HC178_5 := Aside0.mk hl178_5
           clear hi178_5 hl178_5
           replace p178 := eq_true p178
           replace q178 := eq_true q178
           go_wp2_with (first | ((with_reducible refine gate_dst (N := 4) rfl ?_); (try (refine gate_guard (by rfl) ?_; dsimp only)); refine boxK (N := 4) (#[.int .i64 0, .int .i64 0, .int .i64 0, .slice none 0 0, .slice none 0 0, .slice none 0 0]) 37 ?_; intro gb179 hg w24 hbox hb; have BK179 := Aside0.mk (hbox); have GW179 := sG hg HB; have GE179 := sG hg HB; replace HB := sB HB hb; have NB177_179 := sNl hg BK177; have NB179_177 := sNg hg BK177; replace BK177 := sK BK177 hb; clear hb hbox hg; have hnb25 := NB179_177.out; have hnc25 := NB177_179.out; have z26 := bk6 BK179))
           go_roundg k2
           case measure => have := HJ1.out; have := HK2.out; omega
           case rel => exact ⟨(wrap64 (x18_2 + 1)), (by first | rfl | (simp; done) | (simp [*]; done)), H', ⟨by have := HJ1.out; have := HK2.out; omega⟩, (sKq0 BK177), (sB0 HB)⟩
       ·rw [if_neg c11] at H
        exact absurd H (by simp)
      ·rw [if_neg c10] at H
       exact absurd H (by simp)
     ·rw [if_neg c9] at H
      have c9b0 : decide (x18_2 < (l0_7.length : Int)) = false := decide_eq_false c9
      clear c9
      obtain rfl := Option.some.inj H
      go_wp2
      go_ret
      exact sEnd HB

/-! ### fuglemanref20_in: function 23 -/
def fuglemanref20_in.f (a0 a1 a2 : Int) : Option (Bool) := if a0 ≥ a1 then (some (decide (a0 ≤ a2))) else (some false)
set_option maxHeartbeats 8000000 in
set_option maxRecDepth 100000 in
theorem fuglemanref20_in.calls (a0 a1 a2 : Int) (r : Bool) (w : World) (h : fuglemanref20_in.f a0 a1 a2 = some r) :
  Calls Try.prog 23 #[.int .i64 a0, .int .i64 a1, .int .i64 a2] w fun e w' => e = .returned (.bool r) ∧ Drawn0 w w' := by
 have H : (if a0 ≥ a1 then (some (decide (a0 ≤ a2))) else (some false)) = some r := h
 clear h
 by_cases c4 : a0 ≥ a1
 ·rw [if_pos c4] at H
  have c4b0 : decide (a1 ≤ a0) = true := decide_eq_true c4
  clear c4
  obtain rfl := Option.some.inj H
  go_enter Try.func23, Try.ntmps23
  go_wp2
  go_ret
  exact ⟨by first | rfl | (simp; done) | (simp [*]; done), by repeat (first | exact Drawn0.refl _ | apply Drawn0.step)⟩
 rw [if_neg c4] at H
 have c4b0 : decide (a1 ≤ a0) = false := decide_eq_false c4
 clear c4
 obtain rfl := Option.some.inj H
 go_enter Try.func23, Try.ntmps23
 go_wp2
 go_ret
 exact ⟨by first | rfl | (simp; done) | (simp [*]; done), by repeat (first | exact Drawn0.refl _ | apply Drawn0.step)⟩

end Go.Proofs.Ytedmikeamgebjaa.R
