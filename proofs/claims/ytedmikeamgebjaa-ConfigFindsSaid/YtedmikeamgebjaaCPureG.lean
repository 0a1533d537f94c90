/- config: what the printed functions of ConfigFinds answer. No program here. -/
import Derived.Test.YtedmikeamgebjaaFx12
set_option linter.unusedVariables false
set_option linter.unusedSimpArgs false
namespace Go.Proofs.Ytedmikeamgebjaa.F
open Go.RowKit Go.Proofs.YtedmikeamgebjaaW.PrintWords Go.Proofs.YtedmikeamgebjaaW.PrintLast Go.Proofs.YtedmikeamgebjaaW.PrintMore

theorem wrapS {k : Nat} (h : k ≤ 1000000) : wrap64 ((k : Int) + 1) = ((k + 1 : Nat) : Int) := by
  rw [IntWalk.wrap64_in _ (by omega)]
  omega
theorem rd63 {l : List S63} {i : Nat} (h : i < l.length) : rd_T63 l (i : Int) = l[i] := by
  simp [rd_T63, List.getD, h]
theorem rd56 {l : List S56} {i : Nat} (h : i < l.length) : rd_T56 l (i : Int) = l[i] := by
  simp [rd_T56, List.getD, h]
theorem rd37 {l : List S37} {i : Nat} (h : i < l.length) : rd_T37 l (i : Int) = l[i] := by
  simp [rd_T37, List.getD, h]
theorem firstP_cons {α : Type} (p : α → Bool) (x : α) (l : List α) : firstP p (x :: l) = if p x = true then 0 else if firstP p l < 0 then -1 else firstP p l + 1 := by
  unfold firstP
  rw [List.findIdx?_cons]
  cases hx : p x with
  | true => simp
  | false =>
    simp only [Bool.false_eq_true, if_false]
    cases h : l.findIdx? p with
    | none => simp
    | some k =>
      simp only [Option.map_some]
      rw [if_neg (by omega)]
      omega
theorem findB_cons (x : S63) (l : List S63) (a : Int) : findB (x :: l) a = if (x.f0 == a) = true then (x, true) else findB l a := by
  unfold findB
  rw [firstP_cons]
  cases hx : (x.f0 == a) with
  | true => simp [rd_T63]
  | false =>
    simp only [Bool.false_eq_true, if_false]
    by_cases h : firstP (fun x : S63 => x.f0 == a) l < 0
    · rw [if_pos h, if_pos h, if_pos (by omega)]
    · rw [if_neg h, if_neg h, if_neg (by omega)]
      have e : (firstP (fun x : S63 => x.f0 == a) l + 1).toNat = (firstP (fun x : S63 => x.f0 == a) l).toNat + 1 := by omega
      simp [rd_T63, e]
theorem ref16_Find_l0 (l : List S63) (hl : l.length ≤ 1000) (a : Int) : ∀ d i : Nat, i + d = l.length → fuglemanref16_Find.l0 (d + 1) l a (i : Int) = some ((findB (l.drop i) a).1.f0, (findB (l.drop i) a).1.f1, (findB (l.drop i) a).1.f2, (findB (l.drop i) a).1.f3, (findB (l.drop i) a).2)
  | 0, i, h => by
    unfold fuglemanref16_Find.l0
    rw [if_neg (by omega), List.drop_of_length_le (by omega)]
    rfl
  | d + 1, i, h => by
    have hi : i < l.length := by omega
    have ih := ref16_Find_l0 l hl a d (i + 1) (by omega)
    unfold fuglemanref16_Find.l0
    rw [if_pos (by omega), if_pos (by omega), List.drop_eq_getElem_cons hi, findB_cons, rd63 hi]
    by_cases hq : l[i].f0 = a
    · rw [if_pos hq]; simp [hq]
    · rw [if_neg hq, wrapS (by omega), ih]; simp [hq]
theorem ref16_Find_f (l : List S63) (hl : l.length ≤ 1000) (a : Int) : fuglemanref16_Find.f (l.length + 1) l a = some ((findB l a).1.f0, (findB l a).1.f1, (findB l a).1.f2, (findB l a).1.f3, (findB l a).2) :=
  ref16_Find_l0 l hl a l.length 0 (by omega)
theorem more {α : Type} {F : Nat → Option α} (h : ∀ k, LeO (F k) (F (k + 1))) {K K' : Nat} {r : α} (hK : F K = some r) (hle : K ≤ K') : F K' = some r := by
  induction hle with
  | refl => exact hK
  | step _ ih => exact h _ _ ih
def smallB (l6 : List S63) (l7 : List S37) : Bool := decide (l7.length ≤ 40) && decide (l6.length ≤ 40) && l7.all fun s => decide (s.f3.length ≤ 210) && decide (s.f4.length ≤ 40) && decide (s.f5.length ≤ 40)
theorem small_l0 (l : List S37) (hl : l.length ≤ 1000) : ∀ d i : Nat, i + d = l.length → fuglemanlaw20_Small.l0 (d + 1) l (l.length : Int) (i : Int) = some ((l.drop i).all fun s => decide (s.f3.length ≤ 210) && decide (s.f4.length ≤ 40) && decide (s.f5.length ≤ 40))
  | 0, i, h => by
    unfold fuglemanlaw20_Small.l0
    rw [if_neg (by omega), List.drop_of_length_le (by omega)]
    rfl
  | d + 1, i, h => by
    have hi : i < l.length := by omega
    have ih := small_l0 l hl d (i + 1) (by omega)
    unfold fuglemanlaw20_Small.l0
    rw [if_pos (by omega), if_pos (by omega), if_pos (by omega), List.drop_eq_getElem_cons hi, List.all_cons, rd37 hi]
    by_cases h1 : (l[i].f3.length : Int) > 210
    · rw [if_pos h1, decide_eq_false (by omega : ¬ l[i].f3.length ≤ 210)]; rfl
    rw [if_neg h1, decide_eq_true (by omega : l[i].f3.length ≤ 210)]
    by_cases h2 : (l[i].f4.length : Int) > 40
    · rw [if_pos h2, decide_eq_false (by omega : ¬ l[i].f4.length ≤ 40)]; rfl
    rw [if_neg h2, decide_eq_true (by omega : l[i].f4.length ≤ 40)]
    by_cases h3 : (l[i].f5.length : Int) > 40
    · rw [if_pos h3, decide_eq_false (by omega : ¬ l[i].f5.length ≤ 40)]; rfl
    rw [if_neg h3, decide_eq_true (by omega : l[i].f5.length ≤ 40), wrapS (by omega), ih]
    rfl
theorem small_f (a0 a1 a2 a3 a4 a5 : Int) (l6 : List S63) (l7 : List S37) : ∃ K, fuglemanlaw20_Small.f K a0 a1 a2 a3 a4 a5 l6 l7 = some (smallB l6 l7) := by
  refine ⟨l7.length + 2, ?_⟩
  unfold fuglemanlaw20_Small.f smallB
  by_cases h1 : (l7.length : Int) > 40
  · rw [if_pos h1, decide_eq_false (by omega : ¬ l7.length ≤ 40)]
    rfl
  rw [if_neg h1, decide_eq_true (by omega : l7.length ≤ 40)]
  unfold fuglemanlaw20_Small.j0
  by_cases h2 : (l6.length : Int) > 40
  · rw [decide_eq_true h2, decide_eq_false (by omega : ¬ l6.length ≤ 40)]
    rfl
  rw [decide_eq_false h2, decide_eq_true (by omega : l6.length ≤ 40)]
  show (if false = true then some false else fuglemanlaw20_Small.l0 (l7.length + 1) l7 (l7.length : Int) 0) = _
  rw [if_neg (by simp)]
  exact small_l0 l7 (by omega) l7.length 0 (by omega)
theorem rd54 {l : List S54} {i : Nat} (h : i < l.length) : rd_T54 l (i : Int) = l[i] := by
  unfold rd_T54; rw [Int.toNat_natCast, List.getD_eq_getElem?_getD, List.getElem?_eq_getElem h]; rfl
theorem awake_f : fuglemanlaw20_awake.f 20 = some true := by decide +kernel
/-! Find -/
def fS : List S37 → Int → S37 × Bool
  | [], _ => (z37, false)
  | x :: l, a => if (x.f0 == a) = true then (x, true) else fS l a
theorem fS_first (a : Int) : ∀ l : List S37, (firstP (fun x : S37 => x.f0 == a) l < 0 ∧ fS l a = (z37, false)) ∨ (∃ k : Nat, firstP (fun x : S37 => x.f0 == a) l = k ∧ k < l.length ∧ fS l a = (rd_T37 l k, true))
  | [] => .inl ⟨by simp [firstP], rfl⟩
  | x :: l => by
    rw [firstP_cons]
    by_cases hx : (x.f0 == a) = true
    · exact .inr ⟨0, by rw [if_pos hx]; rfl, by simp, by unfold fS; rw [if_pos hx]; simp [rd_T37]⟩
    · rcases fS_first a l with ⟨h1, h2⟩ | ⟨k, h1, h2, h3⟩
      · exact .inl ⟨by rw [if_neg hx, if_pos h1]; decide, by unfold fS; rw [if_neg hx, h2]⟩
      · refine .inr ⟨k + 1, ?_, by simpa using h2, ?_⟩
        · rw [if_neg hx, if_neg (by omega), h1]; rfl
        · unfold fS; rw [if_neg hx, h3]
          have e : (((k + 1 : Nat) : Int)).toNat = k + 1 := by omega
          simp [rd_T37, e]
section
variable (a0 a1 a2 a3 a4 a5 : Int) (l6 : List S63) (l7 : List S37) (a : Int)
theorem config_Find_f : config_Find.f a0 a1 a2 a3 a4 a5 l6 l7 a = some ((fS l7 a).1.f0, (fS l7 a).1.f1, (fS l7 a).1.f2, (fS l7 a).1.f3, (fS l7 a).1.f4, (fS l7 a).1.f5, (fS l7 a).2) := by
  unfold config_Find.f config_place.f
  simp only [Option.bind_some]
  rcases fS_first a l7 with ⟨h1, h2⟩ | ⟨k, h1, h2, h3⟩
  · rw [if_pos h1, h2]; rfl
  · rw [h1, if_neg (by omega), if_pos (by omega), if_pos (by omega), h3]
theorem ref_Find_l0 (hl : l7.length ≤ 1000) : ∀ d i : Nat, i + d = l7.length → fuglemanref20_Find.l0 (d + 1) a (i : Int) a0 a1 a2 a3 a4 a5 l6 l7 = some ((fS (l7.drop i) a).1.f0, (fS (l7.drop i) a).1.f1, (fS (l7.drop i) a).1.f2, (fS (l7.drop i) a).1.f3, (fS (l7.drop i) a).1.f4, (fS (l7.drop i) a).1.f5, (fS (l7.drop i) a).2)
  | 0, i, h => by
    unfold fuglemanref20_Find.l0
    rw [if_neg (by omega), List.drop_of_length_le (by omega)]
    rfl
  | d + 1, i, h => by
    have hi : i < l7.length := by omega
    have ih := ref_Find_l0 hl d (i + 1) (by omega)
    unfold fuglemanref20_Find.l0
    rw [if_pos (by omega), if_pos (by omega), List.drop_eq_getElem_cons hi, rd37 hi]
    unfold fS
    by_cases hq : l7[i].f0 = a
    · rw [if_pos hq]; simp [hq]
    · rw [if_neg hq, wrapS (by omega), ih]; simp [hq]
theorem ref_Find_f (hl : l7.length ≤ 1000) : fuglemanref20_Find.f (l7.length + 1) a0 a1 a2 a3 a4 a5 l6 l7 a = some ((fS l7 a).1.f0, (fS l7 a).1.f1, (fS l7 a).1.f2, (fS l7 a).1.f3, (fS l7 a).1.f4, (fS l7 a).1.f5, (fS l7 a).2) :=
  ref_Find_l0 a0 a1 a2 a3 a4 a5 l6 l7 a hl l7.length 0 (by omega)
end
theorem fS_mem {l : List S37} {a : Int} : (fS l a).1 ∈ l ∨ (fS l a).1 = z37 := by
  induction l with
  | nil => exact .inr rfl
  | cons x l ih =>
    unfold fS
    by_cases h : (x.f0 == a) = true
    · rw [if_pos h]; exact .inl (by simp)
    · rw [if_neg h]; rcases ih with ih | ih
      · exact .inl (List.mem_cons_of_mem _ ih)
      · exact .inr ih
/-! same -/
section
variable (x0 x1 x2 : Int) (l3 : List S54) (l4 l5 : List S56)
theorem same_l2 (hl : l5.length ≤ 1000) : ∀ d i : Nat, i + d = l5.length → fuglemanlaw20_same.l2 (d + 1) (l5.length : Int) (i : Int) x0 x1 x2 l3 l4 l5 x0 x1 x2 l3 l4 l5 = some true
  | 0, i, h => by
    unfold fuglemanlaw20_same.l2
    rw [if_neg (by omega)]
  | d + 1, i, h => by
    have ih := same_l2 hl d (i + 1) (by omega)
    unfold fuglemanlaw20_same.l2
    rw [if_pos (by omega), if_pos (by omega), if_pos (by omega), if_pos (by omega), if_neg (by simp), wrapS (by omega), ih]
theorem same_l1 (hl4 : l4.length ≤ 1000) (hl : l5.length ≤ 1000) : ∀ d i : Nat, i + d = l4.length → fuglemanlaw20_same.l1 (d + l5.length + 2) (l4.length : Int) (i : Int) x0 x1 x2 l3 l4 l5 x0 x1 x2 l3 l4 l5 = some true
  | 0, i, h => by
    rw [show 0 + l5.length + 2 = (l5.length + 1) + 1 by omega]
    unfold fuglemanlaw20_same.l1
    rw [if_neg (by omega)]
    exact same_l2 x0 x1 x2 l3 l4 l5 hl l5.length 0 (by omega)
  | d + 1, i, h => by
    have ih := same_l1 hl4 hl d (i + 1) (by omega)
    rw [show d + 1 + l5.length + 2 = (d + l5.length + 2) + 1 by omega]
    unfold fuglemanlaw20_same.l1
    rw [if_pos (by omega), if_pos (by omega), if_pos (by omega), if_pos (by omega), if_neg (by simp), wrapS (by omega), ih]
theorem same_l0 (hl3 : l3.length ≤ 1000) (hl4 : l4.length ≤ 1000) (hl : l5.length ≤ 1000) : ∀ d i : Nat, i + d = l3.length → fuglemanlaw20_same.l0 (d + l4.length + l5.length + 3) (l3.length : Int) (i : Int) x0 x1 x2 l3 l4 l5 x0 x1 x2 l3 l4 l5 = some true
  | 0, i, h => by
    rw [show 0 + l4.length + l5.length + 3 = (l4.length + l5.length + 2) + 1 by omega]
    unfold fuglemanlaw20_same.l0
    rw [if_neg (by omega)]
    exact same_l1 x0 x1 x2 l3 l4 l5 hl4 hl l4.length 0 (by omega)
  | d + 1, i, h => by
    have ih := same_l0 hl3 hl4 hl d (i + 1) (by omega)
    rw [show d + 1 + l4.length + l5.length + 3 = (d + l4.length + l5.length + 3) + 1 by omega]
    unfold fuglemanlaw20_same.l0
    rw [if_pos (by omega), if_pos (by omega), if_pos (by omega), if_pos (by omega), if_neg (by simp), wrapS (by omega), ih]
theorem same_f (hl3 : l3.length ≤ 1000) (hl4 : l4.length ≤ 1000) (hl : l5.length ≤ 1000) : fuglemanlaw20_same.f (l3.length + l4.length + l5.length + 4) x0 x1 x2 l3 l4 l5 x0 x1 x2 l3 l4 l5 = some true := by
  unfold fuglemanlaw20_same.f
  rw [if_pos rfl, if_pos rfl, if_pos rfl, if_pos rfl, if_pos rfl]
  rw [show l3.length + l4.length + l5.length + 4 = (l3.length + l4.length + l5.length + 3) + 1 by omega]
  rw [fuglemanlaw20_same.j0, if_neg (by simp)]
  exact same_l0 x0 x1 x2 l3 l4 l5 hl3 hl4 hl l3.length 0 (by omega)
end
/-! sets -/
theorem wrap_nat32 (x : Nat) (h : x < 2 ^ 32) : IntKind.u32.wrap (x : Int) = (x : Int) := by
  simp only [IntKind.wrap, IntKind.signed, IntKind.bits]
  simp
  omega
theorem ofInt_nat32 (v : BitVec 32) : BitVec.ofInt 32 (v.toNat : Int) = v := by
  rw [BitVec.ofInt_natCast]
  simp
theorem bits_or32 (v m : BitVec 32) : Go.bits .or .u32 (v.toNat : Int) (m.toNat : Int) = ((v ||| m).toNat : Int) := by
  show IntKind.u32.wrap (((BitVec.ofInt 32 (v.toNat : Int)) ||| BitVec.ofInt 32 (m.toNat : Int)).toNat : Int) = _
  rw [ofInt_nat32, ofInt_nat32, wrap_nat32 _ (v ||| m).isLt]
theorem shl_nat32 (x y : Nat) (hy : y ≤ 32) : shl .u32 (x : Int) (y : Int) = ((x * 2 ^ y % 2 ^ 32 : Nat) : Int) := by
  unfold shl
  rw [show min (y : Int).toNat IntKind.u32.bits = y by simp [IntKind.bits]; omega]
  simp only [IntKind.wrap, IntKind.signed, IntKind.bits]
  simp
def one32 (a : Int) : BitVec 32 := if 0 ≤ a ∧ a < 32 then BitVec.ofNat 32 (2 ^ a.toNat) else 0
def inS (v : BitVec 32) (a : Int) : BitVec 32 := v ||| one32 a
theorem inS_twice (v : BitVec 32) (a : Int) : inS (inS v a) a = inS v a := by
  unfold inS
  rw [BitVec.or_assoc, BitVec.or_self]
theorem With_f (v : BitVec 32) (a : Int) : members_With.f (v.toNat : Int) a = some ((inS v a).toNat : Int) := by
  have e1 : members_one.f a = some ((one32 a).toNat : Int) := by
    by_cases h0 : a ≥ 0
    · by_cases h1 : a < 32
      · have e : one32 a = BitVec.ofNat 32 (2 ^ a.toNat) := by unfold one32; rw [if_pos (show 0 ≤ a ∧ a < 32 from ⟨h0, h1⟩)]
        rw [e]
        unfold members_one.f members_is.f
        obtain ⟨n, rfl⟩ := Int.eq_ofNat_of_zero_le h0
        rw [if_pos h0]
        simp only [Option.bind_some, decide_eq_true h1, if_true]
        rw [if_pos (show (0 : Int) ≤ (n : Int) from h0), show (1 : Int) = ((1 : Nat) : Int) from rfl, shl_nat32 1 n (by omega), BitVec.toNat_ofNat, Int.toNat_natCast, Nat.one_mul]
      · have e : one32 a = 0#32 := by unfold one32; rw [if_neg (show ¬ (0 ≤ a ∧ a < 32) from fun h => h1 h.2)]; rfl
        rw [e]
        unfold members_one.f members_is.f
        rw [if_pos h0]
        simp [h1]
    · have e : one32 a = 0#32 := by unfold one32; rw [if_neg (show ¬ (0 ≤ a ∧ a < 32) from fun h => h0 h.1)]; rfl
      rw [e]
      unfold members_one.f members_is.f
      rw [if_neg h0]
      simp
  unfold members_With.f inS
  rw [e1, Option.bind_some, bits_or32]
theorem has_l0 (n : Nat) (hn : n ≤ 31) : ∀ (d i : Nat) (x : Nat), x < 2 ^ 32 → i + d = n → fuglemanref05_Has.l0 (d + 1) (x : Int) (n : Int) (i : Int) = some (decide (x / 2 ^ d % 2 = 1))
  | 0, i, x, hx, h => by
    unfold fuglemanref05_Has.l0
    rw [if_neg (by omega)]
    congr 1
    rw [show (2 : Int) = ((2 : Nat) : Int) from rfl, ← Int.ofNat_tmod, Nat.pow_zero, Nat.div_one]
    by_cases hq : x % 2 = 1
    · rw [decide_eq_true hq, hq]; rfl
    · rw [decide_eq_false hq, show x % 2 = 0 by omega]; rfl
  | d + 1, i, x, hx, h => by
    have ih := has_l0 n hn d (i + 1) (x / 2) (by omega) (by omega)
    unfold fuglemanref05_Has.l0
    rw [if_pos (by omega), wrapS (by omega)]
    rw [show ((Int.tdiv (x : Int) 2) % 4294967296) = ((x / 2 : Nat) : Int) by
      rw [show (2 : Int) = ((2 : Nat) : Int) from rfl, ← Int.ofNat_tdiv]; omega]
    rw [ih, Nat.div_div_eq_div_mul, Nat.pow_succ, Nat.mul_comm 2]
theorem Has_f (x n : Nat) (hx : x < 2 ^ 32) (hn : n ≤ 31) : fuglemanref05_Has.f (n + 2) (x : Int) (n : Int) = some (decide (x / 2 ^ n % 2 = 1)) := by
  unfold fuglemanref05_Has.f
  rw [if_neg (by omega), decide_eq_false (by omega)]
  rw [show n + 2 = (n + 1) + 1 from rfl, fuglemanref05_Has.j0, if_neg (by simp)]
  exact has_l0 n hn n 0 x hx (by omega)
theorem with_l0 (x : Int) (n : Nat) (hn : n ≤ 31) : ∀ (d i : Nat), i + d = n → fuglemanref05_With.l0 (d + 1) x (n : Int) ((2 ^ i : Nat) : Int) (i : Int) = some ((x + ((2 ^ n : Nat) : Int)) % 4294967296)
  | 0, i, h => by
    unfold fuglemanref05_With.l0
    rw [if_neg (by omega), show i = n by omega]
  | d + 1, i, h => by
    have ih := with_l0 x n hn d (i + 1) (by omega)
    unfold fuglemanref05_With.l0
    rw [if_pos (by omega), wrapS (by omega)]
    have hp : 2 ^ (i + 1) ≤ 2 ^ 31 := Nat.pow_le_pow_right (by omega) (by omega)
    rw [show (((2 ^ i : Nat) : Int) * 2) % 4294967296 = ((2 ^ (i + 1) : Nat) : Int) by rw [Nat.pow_succ] at hp ⊢; omega]
    exact ih
theorem inS_set (v : BitVec 32) (n : Nat) (hn : n ≤ 31) (h : v.toNat / 2 ^ n % 2 = 1) : v ||| BitVec.ofNat 32 (2 ^ n) = v := by
  have hb : v.getLsbD n = true := by
    unfold BitVec.getLsbD
    rw [Nat.testBit_eq_decide_div_mod_eq]
    exact decide_eq_true h
  apply BitVec.eq_of_getLsbD_eq
  intro j hj
  rw [BitVec.getLsbD_or, BitVec.getLsbD_ofNat, Nat.testBit_two_pow]
  by_cases hq : n = j
  · subst hq; rw [hb]; simp
  · simp [hq]
theorem inS_new (v : BitVec 32) (n : Nat) (hn : n ≤ 31) (h : ¬ v.toNat / 2 ^ n % 2 = 1) : ((v ||| BitVec.ofNat 32 (2 ^ n)).toNat : Int) = ((v.toNat : Int) + ((2 ^ n : Nat) : Int)) % 4294967296 := by
  have hb : v.getLsbD n = false := by
    unfold BitVec.getLsbD
    rw [Nat.testBit_eq_decide_div_mod_eq]
    exact decide_eq_false h
  have hz : v &&& BitVec.ofNat 32 (2 ^ n) = 0#32 := by
    apply BitVec.eq_of_getLsbD_eq
    intro j hj
    rw [BitVec.getLsbD_and, BitVec.getLsbD_ofNat, Nat.testBit_two_pow]
    by_cases hq : n = j
    · subst hq; rw [hb]; simp
    · simp [hq]
  rw [← BitVec.add_eq_or_of_and_eq_zero _ _ hz, BitVec.toNat_add, BitVec.toNat_ofNat]
  have hp : 2 ^ n ≤ 2 ^ 31 := Nat.pow_le_pow_right (by omega) (by omega)
  omega
theorem refWith_f (v : BitVec 32) (a : Int) : fuglemanref05_With.f 40 (v.toNat : Int) a = some ((inS v a).toNat : Int) := by
  by_cases h0 : a < 0
  · unfold fuglemanref05_With.f inS one32
    rw [if_pos h0, if_neg (by omega)]
    show some (v.toNat : Int) = _
    simp
  by_cases h1 : a > 31
  · unfold fuglemanref05_With.f inS one32
    rw [if_neg h0, if_pos h1, if_neg (by omega)]
    show some (v.toNat : Int) = _
    simp
  obtain ⟨n, rfl⟩ := Int.eq_ofNat_of_zero_le (show 0 ≤ a by omega)
  have hn : n ≤ 31 := by omega
  refine more (K := n + 2) (fun k => fuglemanref05_With.mono _ _ k) ?_ (by omega)
  unfold fuglemanref05_With.f inS one32
  rw [if_neg h0, if_neg h1, Has_f _ n v.isLt hn, if_pos (by omega), Int.toNat_natCast, Option.bind_some]
  rw [show n + 2 = (n + 1) + 1 from rfl, fuglemanref05_With.j0]
  by_cases hq : v.toNat / 2 ^ n % 2 = 1
  · rw [if_pos (decide_eq_true hq), inS_set v n hn hq]
  · rw [if_neg (by simpa using hq), inS_new v n hn hq]
    exact with_l0 _ n hn n 0 (by omega)
theorem refWith (v : BitVec 32) (a : Int) {k : Nat} (hk : 40 ≤ k) : fuglemanref05_With.f k (v.toNat : Int) a = some ((inS v a).toNat : Int) := more (fun k => fuglemanref05_With.mono _ _ k) (refWith_f v a) hk
def setV (p : S37 → Bool) (l : List S37) (v : BitVec 32) : BitVec 32 := l.foldl (fun v x => if p x = true then inS v x.f0 else v) v
theorem setF_f (p : S37 → Bool) : ∀ (l : List S37) (v : BitVec 32), setF p (v.toNat : Int) l = some ((setV p l v).toNat : Int)
  | [], v => rfl
  | x :: l, v => by
    unfold setF setV
    rw [List.foldl_cons]
    by_cases h : p x = true
    · rw [if_pos h, if_pos h, With_f, Option.bind_some]; exact setF_f p l _
    · rw [if_neg h, if_neg h]; exact setF_f p l v
section
variable (a0 a1 a2 a3 a4 a5 : Int) (l6 : List S63) (l7 : List S37) (a : Int)
theorem refAddrs_l0 (hl : l7.length ≤ 1000) : ∀ (d i : Nat) (v : BitVec 32), i + d = l7.length → fuglemanref20_Addrs.l0 (d + 41) (v.toNat : Int) (i : Int) a0 a1 a2 a3 a4 a5 l6 l7 = some ((setV (fun _ => true) (l7.drop i) v).toNat : Int)
  | 0, i, v, h => by
    unfold fuglemanref20_Addrs.l0
    rw [if_neg (by omega), List.drop_of_length_le (by omega)]
    rfl
  | d + 1, i, v, h => by
    have hi : i < l7.length := by omega
    have ih := refAddrs_l0 hl d (i + 1) (inS v l7[i].f0) (by omega)
    rw [show d + 1 + 41 = (d + 41) + 1 by omega]
    unfold fuglemanref20_Addrs.l0
    rw [if_pos (by omega), if_pos (by omega), rd37 hi, refWith _ _ (by omega), Option.bind_some, wrapS (by omega), ih, List.drop_eq_getElem_cons hi]
    rfl
theorem addrs_f (hl : l7.length ≤ 1000) : config_Addrs.f a0 a1 a2 a3 a4 a5 l6 l7 = some ((setV (fun _ => true) l7 0#32).toNat : Int) ∧ fuglemanref20_Addrs.f (l7.length + 41) a0 a1 a2 a3 a4 a5 l6 l7 = some ((setV (fun _ => true) l7 0#32).toNat : Int) :=
  ⟨setF_f _ l7 0#32, refAddrs_l0 a0 a1 a2 a3 a4 a5 l6 l7 hl l7.length 0 0#32 (by omega)⟩
/-! readers -/
def subV (a b : Int) (l : List S56) (v : BitVec 32) : BitVec 32 := l.foldl (fun v y => if y.f0 = a then inS v b else v) v
theorem subV_any (a b : Int) : ∀ (l : List S56) (v : BitVec 32), subV a b l v = if (l.any fun y => y.f0 == a) = true then inS v b else v
  | [], v => rfl
  | y :: l, v => by
    have ih := subV_any a b l
    unfold subV at ih ⊢
    rw [List.foldl_cons, List.any_cons, ih]
    by_cases h : y.f0 = a
    · rw [if_pos h]
      simp only [beq_iff_eq.2 h, Bool.true_or, if_true]
      rw [inS_twice]
      split <;> rfl
    · rw [if_neg h, beq_eq_false_iff_ne.2 h, Bool.false_or]
theorem refR_l1 (D i : Nat) (hD : 40 ≤ D) (hi : i < l7.length) (hl : l7.length ≤ 1000) (hs : l7[i].f4.length ≤ 1000) : ∀ (d j : Nat) (v : BitVec 32), j + d = l7[i].f4.length →
    fuglemanref20_Readers.l1 (D + d + 1) a (v.toNat : Int) (i : Int) (j : Int) a0 a1 a2 a3 a4 a5 l6 l7 = fuglemanref20_Readers.l0 D a ((subV a l7[i].f0 (l7[i].f4.drop j) v).toNat : Int) ((i + 1 : Nat) : Int) a0 a1 a2 a3 a4 a5 l6 l7
  | 0, j, v, h => by
    rw [show D + 0 + 1 = D + 1 by omega]
    rw [fuglemanref20_Readers.l1]
    rw [if_pos (by omega), if_pos (by omega), rd37 hi, if_neg (by omega), wrapS (by omega), List.drop_of_length_le (by omega)]
    rfl
  | d + 1, j, v, h => by
    have hj : j < l7[i].f4.length := by omega
    rw [show D + (d + 1) + 1 = (D + d + 1) + 1 by omega]
    rw [fuglemanref20_Readers.l1]
    rw [if_pos (by omega), if_pos (by omega), rd37 hi, if_pos (by omega), if_pos (by omega), rd56 hj, wrapS (by omega), List.drop_eq_getElem_cons hj]
    unfold subV
    rw [List.foldl_cons]
    by_cases hq : l7[i].f4[j].f0 = a
    · rw [if_pos hq, if_pos hq, refWith _ _ (by omega), Option.bind_some]
      exact refR_l1 D i hD hi hl hs d (j + 1) _ (by omega)
    · rw [if_neg hq, if_neg hq]
      exact refR_l1 D i hD hi hl hs d (j + 1) _ (by omega)
def fuR : List S37 → Nat
  | [] => 41
  | s :: l => fuR l + s.f4.length + 2
theorem fuR_le : ∀ l, 41 ≤ fuR l
  | [] => Nat.le_refl _
  | s :: l => by have := fuR_le l; unfold fuR; omega
theorem refR_l0 (hl : l7.length ≤ 1000) (hs : ∀ s ∈ l7, s.f4.length ≤ 1000) : ∀ (d i : Nat) (v : BitVec 32), i + d = l7.length → fuglemanref20_Readers.l0 (fuR (l7.drop i)) a (v.toNat : Int) (i : Int) a0 a1 a2 a3 a4 a5 l6 l7 = some ((setV (fun x => x.f4.any fun y => y.f0 == a) (l7.drop i) v).toNat : Int)
  | 0, i, v, h => by
    rw [List.drop_of_length_le (by omega)]
    show fuglemanref20_Readers.l0 (40 + 1) _ _ _ _ _ _ _ _ _ _ _ = _
    rw [fuglemanref20_Readers.l0]
    rw [if_neg (by omega)]
    rfl
  | d + 1, i, v, h => by
    have hi : i < l7.length := by omega
    have h41 := fuR_le (l7.drop (i + 1))
    have hsi := hs _ (List.getElem_mem hi)
    rw [List.drop_eq_getElem_cons hi]
    show fuglemanref20_Readers.l0 ((fuR (l7.drop (i + 1)) + l7[i].f4.length + 1) + 1) _ _ _ _ _ _ _ _ _ _ _ = _
    rw [fuglemanref20_Readers.l0]
    rw [if_pos (by omega)]
    refine (refR_l1 a0 a1 a2 a3 a4 a5 l6 l7 a (fuR (l7.drop (i + 1))) i (by omega) hi hl hsi l7[i].f4.length 0 v (by omega)).trans ?_
    rw [refR_l0 hl hs d (i + 1) _ (by omega), List.drop_zero, subV_any]
    rfl
theorem readers_f (hl : l7.length ≤ 1000) (hs : ∀ s ∈ l7, s.f4.length ≤ 1000) : config_Readers.f a0 a1 a2 a3 a4 a5 l6 l7 a = some ((setV (fun x => x.f4.any fun y => y.f0 == a) l7 0#32).toNat : Int) ∧ fuglemanref20_Readers.f (fuR l7) a0 a1 a2 a3 a4 a5 l6 l7 a = some ((setV (fun x => x.f4.any fun y => y.f0 == a) l7 0#32).toNat : Int) :=
  ⟨setF_f _ l7 0#32, refR_l0 a0 a1 a2 a3 a4 a5 l6 l7 a hl hs l7.length 0 0#32 (by omega)⟩
/-! values -/
def valS (l6 : List S63) (l : List S56) : List Int := l.map fun s => (findB l6 s.f0).1.f2
theorem values_l0 (l : List S56) : ∀ (d i : Nat) (x : List Int), i + d = l.length → x.length + d ≤ 1000 → l.length ≤ 1000 → config_Values.l0 (d + 1) x l (l.length : Int) (i : Int) a0 a1 a2 a3 a4 a5 l6 l7 = some (x ++ valS l6 (l.drop i))
  | 0, i, x, h, _, _ => by
    unfold config_Values.l0
    rw [if_neg (by omega), List.drop_of_length_le (by omega)]
    simp [valS]
  | d + 1, i, x, h, hx, hl => by
    have hi : i < l.length := by omega
    have ih := values_l0 l d (i + 1) (x ++ [(findB l6 l[i].f0).1.f2]) (by omega) (by rw [List.length_append]; simp; omega) hl
    unfold config_Values.l0
    rw [if_pos (by omega), if_pos (by omega), if_pos (by omega), rd56 hi, find_f, Option.bind_some, if_pos (by omega), wrapS (by omega), ih, List.drop_eq_getElem_cons hi, List.append_assoc]
    rfl
theorem refvalues_l0 (y0 y1 y2 : Int) (y3 : List S54) (l y5 : List S56) (h6 : l6.length ≤ 1000) : ∀ (d i : Nat) (x : List Int), i + d = l.length → x.length + d ≤ 1000 → l.length ≤ 1000 → fuglemanref20_Values.l0 (l6.length + 1 + d + 1) x (i : Int) a0 a1 a2 a3 a4 a5 l6 l7 y0 y1 y2 y3 l y5 = some (x ++ valS l6 (l.drop i))
  | 0, i, x, h, _, _ => by
    unfold fuglemanref20_Values.l0
    rw [if_neg (by omega), List.drop_of_length_le (by omega)]
    simp [valS]
  | d + 1, i, x, h, hx, hl => by
    have hi : i < l.length := by omega
    have ih := refvalues_l0 y0 y1 y2 y3 l y5 h6 d (i + 1) (x ++ [(findB l6 l[i].f0).1.f2]) (by omega) (by rw [List.length_append]; simp; omega) hl
    rw [show l6.length + 1 + (d + 1) + 1 = (l6.length + 1 + d + 1) + 1 by omega]
    unfold fuglemanref20_Values.l0
    rw [if_pos (by omega), if_pos (by omega), rd56 hi, more (fun k => fuglemanref16_Find.mono _ _ k) (ref16_Find_f l6 h6 l[i].f0) (by omega), Option.bind_some, if_pos (by omega), wrapS (by omega), ih, List.drop_eq_getElem_cons hi, List.append_assoc]
    rfl
end
theorem cmp_l0 (l : List Int) (hl : l.length ≤ 1000) : ∀ d i : Nat, i + d = l.length → fuglemanlaw20_ConfigFinds.l0 (d + 1) l l (l.length : Int) (i : Int) = some true
  | 0, i, h => by
    unfold fuglemanlaw20_ConfigFinds.l0
    rw [if_neg (by omega)]
  | d + 1, i, h => by
    have ih := cmp_l0 l hl d (i + 1) (by omega)
    unfold fuglemanlaw20_ConfigFinds.l0
    rw [if_pos (by omega), if_pos (by omega), if_pos (by omega), if_pos (by omega), if_pos rfl, wrapS (by omega), ih]
/-- The statement, over what the printed functions answer. -/
theorem finds_f (a0 a1 a2 a3 a4 a5 : Int) (l6 : List S63) (l7 : List S37) (x y : Int) : ∃ K, fuglemanlaw20_ConfigFinds.f K a0 a1 a2 a3 a4 a5 l6 l7 x y = some true := by
  obtain ⟨K1, h1⟩ := small_f a0 a1 a2 a3 a4 a5 l6 l7
  cases hsm : smallB l6 l7 with
  | false =>
    rw [hsm] at h1
    have hK1 := more (fun k => fuglemanlaw20_Small.mono _ _ _ _ _ _ _ _ k) h1 (Nat.le_max_left K1 20)
    have hK0 := more (fun k => fuglemanlaw20_awake.mono k) awake_f (Nat.le_max_right K1 20)
    refine ⟨max K1 20, ?_⟩
    unfold fuglemanlaw20_ConfigFinds.f
    rw [hK0, hK1]
    rfl
  | true =>
    rw [hsm] at h1
    unfold smallB at hsm
    simp only [Bool.and_eq_true, decide_eq_true_eq, List.all_eq_true] at hsm
    obtain ⟨⟨g7, g6⟩, gs⟩ := hsm
    have gS : (fS l7 x).1.f3.length ≤ 1000 ∧ (fS l7 x).1.f4.length ≤ 500 ∧ (fS l7 x).1.f5.length ≤ 1000 := by
      rcases fS_mem (l := l7) (a := x) with h | h
      · have := gs _ h; omega
      · rw [h]; exact ⟨by decide, by decide, by decide⟩
    generalize hs : fS l7 x = s at gS
    have hl : l7.length ≤ 1000 := by omega
    have hl6 : l6.length ≤ 1000 := by omega
    have hF := config_Find_f a0 a1 a2 a3 a4 a5 l6 l7 x
    have hG := ref_Find_f a0 a1 a2 a3 a4 a5 l6 l7 x hl
    rw [hs] at hF hG
    have hS := same_f s.1.f0 s.1.f1 s.1.f2 s.1.f3 s.1.f4 s.1.f5 gS.1 (by omega) gS.2.2
    obtain ⟨hA, hA'⟩ := addrs_f a0 a1 a2 a3 a4 a5 l6 l7 hl
    obtain ⟨hR, hR'⟩ := readers_f a0 a1 a2 a3 a4 a5 l6 l7 y hl (fun s h => by have := gs s h; omega)
    have hV := values_l0 a0 a1 a2 a3 a4 a5 l6 l7 s.1.f4 s.1.f4.length 0 [] (by omega) (by simp; omega) (by omega)
    have hV' := refvalues_l0 a0 a1 a2 a3 a4 a5 l6 l7 s.1.f0 s.1.f1 s.1.f2 s.1.f3 s.1.f4 s.1.f5 hl6 s.1.f4.length 0 [] (by omega) (by simp; omega) (by omega)
    rw [List.nil_append, List.drop_zero] at hV hV'
    have hC := cmp_l0 (valS l6 s.1.f4) (by simp [valS]; omega) (valS l6 s.1.f4).length 0 (by omega)
    obtain ⟨N, hN⟩ : ∃ N, N = 100 + K1 + l7.length + s.1.f3.length + s.1.f4.length + s.1.f5.length + fuR l7 + l6.length + (valS l6 s.1.f4).length := ⟨_, rfl⟩
    refine ⟨N + 1, ?_⟩
    have k0 := more (K' := N + 1) (fun k => fuglemanlaw20_awake.mono k) awake_f (by omega)
    have k1 := more (K' := N + 1) (fun k => fuglemanlaw20_Small.mono _ _ _ _ _ _ _ _ k) h1 (by omega)
    have kG := more (K' := N + 1) (fun k => fuglemanref20_Find.mono _ _ _ _ _ _ _ _ _ k) hG (by omega)
    have kS := more (K' := N + 1) (fun k => fuglemanlaw20_same.mono _ _ _ _ _ _ _ _ _ _ _ _ k) hS (by omega)
    have kA := more (K' := N + 1) (fun k => fuglemanref20_Addrs.mono _ _ _ _ _ _ _ _ k) hA' (by omega)
    have kR := more (K' := N + 1) (fun k => fuglemanref20_Readers.mono _ _ _ _ _ _ _ _ _ k) hR' (by omega)
    have kV : config_Values.f N a0 a1 a2 a3 a4 a5 l6 l7 s.1.f0 s.1.f1 s.1.f2 s.1.f3 s.1.f4 s.1.f5 = some (valS l6 s.1.f4) := more (fun k => config_Values.mono _ _ _ _ _ _ _ _ _ _ _ _ _ _ k) (show config_Values.f (s.1.f4.length + 1) _ _ _ _ _ _ _ _ _ _ _ _ _ _ = _ from hV) (by omega)
    have kV' : fuglemanref20_Values.f N a0 a1 a2 a3 a4 a5 l6 l7 s.1.f0 s.1.f1 s.1.f2 s.1.f3 s.1.f4 s.1.f5 = some (valS l6 s.1.f4) := more (fun k => fuglemanref20_Values.mono _ _ _ _ _ _ _ _ _ _ _ _ _ _ k) (show fuglemanref20_Values.f (l6.length + 1 + s.1.f4.length + 1) _ _ _ _ _ _ _ _ _ _ _ _ _ _ = _ from hV') (by omega)
    have kC := more (K' := N) (fun k => (fuglemanlaw20_ConfigFinds.mono_l k).2 _ _ _ _) hC (by omega)
    unfold fuglemanlaw20_ConfigFinds.f
    rw [k0, k1, hF, kG, hA, kA, hR, kR]
    simp only [Option.bind_some, if_true, bne_self_eq_false, Bool.false_eq_true, if_false, kS]
    rw [fuglemanlaw20_ConfigFinds.j0]
    simp only [Bool.false_eq_true, if_false, kV, kV', Option.bind_some, if_true]
    exact kC
end Go.Proofs.Ytedmikeamgebjaa.F
