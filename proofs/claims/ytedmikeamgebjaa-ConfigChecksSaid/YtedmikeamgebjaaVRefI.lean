/- The reference's behind, whole. -/
import Derived.Test.YtedmikeamgebjaaVRefF
import Derived.Test.YtedmikeamgebjaaVRefG
import Derived.Test.YtedmikeamgebjaaVRefH
set_option linter.unusedVariables false
set_option linter.unusedSimpArgs false
namespace Go.Proofs.Ytedmikeamgebjaa
open Go.RowKit

/-- The open brackets as the reference has them: two bytes each. -/
def encSL (l : List (Int × Int)) : List UInt8 := l.flatMap fun x => [UInt8.ofNat x.1.toNat, UInt8.ofNat x.2.toNat]
def encS (l : List (Int × Int)) : ByteArray := ⟨(encSL l).toArray⟩
def BOk (l : List (Int × Int)) : Prop := ∀ x ∈ l, 0 ≤ x.1 ∧ x.1 ≤ 24 ∧ 0 ≤ x.2 ∧ x.2 ≤ 7
theorem encSL_length (l : List (Int × Int)) : (encSL l).length = 2 * l.length := by
  induction l with
  | nil => rfl
  | cons x l ih => simp [encSL] at ih ⊢; omega
theorem encS_size (l : List (Int × Int)) : (encS l).size = 2 * l.length := by
  show (encSL l).toArray.size = _
  simp [encSL_length]
theorem encSL_append (l m : List (Int × Int)) : encSL (l ++ m) = encSL l ++ encSL m := by simp [encSL]
theorem encS_push (l : List (Int × Int)) (x : Int × Int) : encS (l ++ [x]) = encS l ++ ⟨#[UInt8.ofNat x.1.toNat, UInt8.ofNat x.2.toNat]⟩ := by
  unfold encS
  rw [encSL_append]
  apply ByteArray.ext
  simp [encSL]
theorem encS_fore (l : List (Int × Int)) (x : Int × Int) : (encS (l ++ [x])).extract 0 (2 * (l.length + 1) - 2) = encS l := by
  apply ByteArray.ext
  rw [ByteArray.data_extract]
  unfold encS
  rw [encSL_append]
  have h := encSL_length l
  rw [List.extract_toArray]
  congr 1
  simp only [List.extract_eq_take_drop, List.drop_zero]
  rw [List.take_append_of_le_length (by omega), List.take_of_length_le (by omega)]
theorem encS_last (l : List (Int × Int)) (x : Int × Int) : ((encS (l ++ [x])).extract (2 * (l.length + 1) - 2) (2 * (l.length + 1))) = ⟨#[UInt8.ofNat x.1.toNat, UInt8.ofNat x.2.toNat]⟩ := by
  apply ByteArray.ext
  rw [ByteArray.data_extract]
  unfold encS
  rw [encSL_append]
  have h := encSL_length l
  rw [List.extract_toArray]
  simp only [List.extract_eq_take_drop]
  rw [List.drop_append_of_le_length (by omega), List.drop_eq_nil_of_le (by omega)]
  rw [show 2 * (l.length + 1) - (2 * (l.length + 1) - 2) = 2 by omega]
  simp [encSL]
theorem encSL_inj : ∀ {l m : List (Int × Int)}, BOk l → BOk m → encSL l = encSL m → l = m
  | [], [], _, _, _ => rfl
  | [], _ :: _, _, _, h => by simp [encSL] at h
  | _ :: _, [], _, _, h => by simp [encSL] at h
  | x :: l, y :: m, hl, hm, h => by
    have hx := hl x (by simp)
    have hy := hm y (by simp)
    simp only [encSL, List.flatMap_cons, List.cons_append, List.nil_append, List.cons.injEq] at h
    obtain ⟨h1, h2, h3⟩ := h
    have e1 : x.1.toNat = y.1.toNat := by
      have := congrArg UInt8.toNat h1
      simp only [UInt8.toNat_ofNat'] at this
      omega
    have e2 : x.2.toNat = y.2.toNat := by
      have := congrArg UInt8.toNat h2
      simp only [UInt8.toNat_ofNat'] at this
      omega
    have e3 := encSL_inj (fun z hz => hl z (by simp [hz])) (fun z hz => hm z (by simp [hz])) h3
    obtain ⟨x1, x2⟩ := x
    obtain ⟨y1, y2⟩ := y
    simp only at e1 e2 hx hy
    obtain rfl : x1 = y1 := by omega
    obtain rfl : x2 = y2 := by omega
    rw [e3]
theorem encS_inj {l m : List (Int × Int)} (hl : BOk l) (hm : BOk m) (h : encS l = encS m) : l = m :=
  encSL_inj hl hm (by have := congrArg (fun b : ByteArray => b.data.toList) h; simpa [encS] using this)

/-- The reference's error: a jump that may not be comes first. -/
def errR (a : Ah) (i : Ins) (k n : Int) : Int := if jumpsP i && (decide (i.at_ ≤ k) || decide (n < i.at_)) then 7 else errP a i
def ahV (a : Ah) : Value := .agg #[.bool true, .int .i64 a.kind, .string (encS a.opn)]
def outR (a : Ah) (i : Ins) (k n : Int) : Ah := if errR a i k n = 0 then nextP a i else a
theorem beh_fin {a : Ah} {i : Ins} {k n : Int} {w w' : World} {e : Ending} {kk err : Int} {ss : ByteArray} (h : e = .returned (.tuple #[.agg #[.bool true, .int .i64 kk, .string ss], .int .i64 err]) ∧ Mod [] w w')
    (he : errR a i k n = err) (h1 : err ≠ 0 → kk = a.kind ∧ ss = encS a.opn) (h2 : err = 0 → kk = (nextP a i).kind ∧ ss = encS (nextP a i).opn) :
    e = .returned (.tuple #[ahV (outR a i k n), .int .i64 (errR a i k n)]) ∧ Mod [] w w' := by
  obtain ⟨rfl, hm⟩ := h
  refine ⟨?_, hm⟩
  unfold outR ahV
  rw [he]
  by_cases h0 : err = 0
  · obtain ⟨rfl, rfl⟩ := h2 h0
    rw [if_pos h0]
  · obtain ⟨rfl, rfl⟩ := h1 h0
    rw [if_neg h0]
theorem right_op {i : Ins} (h : rightP i = true) : 1 ≤ i.op ∧ i.op ≤ 36 := by
  by_cases h0 : i.op ≤ 0 ∨ 37 ≤ i.op
  · have : classP i.op = 0 := by
      by_cases h1 : i.op = 0
      · rw [h1]; rfl
      · exact classP_out (by omega)
    simp [rightP, this] at h
  · omega
theorem may_le {op k : Int} (h : mayP op k = true) : 7 ≤ op ∧ op ≤ 24 ∧ 1 ≤ k ∧ k ≤ 7 := by
  simp [mayP, isKindP] at h
  omega
theorem byte_toNat {x : Int} (h0 : 0 ≤ x) (h1 : x ≤ 255) : x = (((UInt8.ofNat x.toNat).toNat : Nat) : Int) := by
  rw [UInt8.toNat_ofNat']
  omega

set_option maxHeartbeats 800000 in
theorem r_behind (i : Ins) (atx n : Int) (a : Ah) (w : World) (hr : rightP i = true) (hl : a.opn.length ≤ 8) (hb : BOk a.opn) :
    Calls Try.prog 56 #[i.v, .int .i64 atx, .int .i64 n, ahV a] w fun e w' => e = .returned (.tuple #[ahV (outR a i atx n), .int .i64 (errR a i atx n)]) ∧ Mod [] w w' := by
  have hop := right_op hr
  obtain ⟨op, kind, area, at_, ni⟩ := i
  obtain ⟨k, l⟩ := a
  simp only at hl hb hop
  have hs : (encS l).size ≤ 16 := by rw [encS_size]; omega
  have hd : (((encS l).size : Nat) : Int) / 2 = (l.length : Int) := by rw [encS_size]; omega
  show Calls Try.prog 56 #[.agg #[.int .i64 op, .int .i64 kind, .int .i64 area, .int .i64 at_, .int .i64 ni], .int .i64 atx, .int .i64 n, .agg #[.bool true, .int .i64 k, .string (encS l)]] w _
  by_cases o1 : op = 1
  · subst o1
    exact (r_beh_1 kind area at_ ni k atx n (encS l) w hs).mono fun e w' h => beh_fin h (by simp [errR, jumpsP, errP, mustP]) (by simp) (by simp [nextP])
  by_cases o2 : op = 2
  · subst o2
    cases hl2 : logicP kind
    · exact (r_beh_2f kind area at_ ni k atx n (encS l) w hs hl2).mono fun e w' h => beh_fin h (by simp [errR, jumpsP, errP, mustP, hl2]) (by simp) (by simp [nextP])
    · exact (r_beh_2t kind area at_ ni k atx n (encS l) w hs hl2).mono fun e w' h => beh_fin h (by simp [errR, jumpsP, errP, mustP, hl2]) (by simp) (by simp [nextP])
  by_cases o3 : op = 3
  · subst o3
    by_cases hk : k = kind
    · exact (r_beh_3t kind area at_ ni k atx n (encS l) w hs (neqF hk)).mono fun e w' h => beh_fin h (by simp [errR, jumpsP, errP, mustP, hk]) (by simp) (by simp [nextP])
    · exact (r_beh_3f kind area at_ ni k atx n (encS l) w hs (neqT hk)).mono fun e w' h => beh_fin h (by simp [errR, jumpsP, errP, mustP, hk]) (by simp) (by simp [nextP])
  by_cases o4 : op = 4
  · subst o4
    by_cases hk : k = kind
    · cases hl2 : logicP kind
      · exact (r_beh_4tf kind area at_ ni k atx n (encS l) w hs (neqF hk) hl2).mono fun e w' h => beh_fin h (by simp [errR, jumpsP, errP, mustP, hk, hl2]) (by simp) (by simp [nextP])
      · exact (r_beh_4tt kind area at_ ni k atx n (encS l) w hs (neqF hk) hl2).mono fun e w' h => beh_fin h (by simp [errR, jumpsP, errP, mustP, hk, hl2]) (by simp) (by simp [nextP])
    · exact (r_beh_4f kind area at_ ni k atx n (encS l) w hs (neqT hk)).mono fun e w' h => beh_fin h (by simp [errR, jumpsP, errP, mustP, hk]) (by simp) (by simp [nextP])
  by_cases o5 : op = 5
  · subst o5
    by_cases hk : k = 1
    · by_cases hk2 : kind = 1
      · exact (r_beh_5t kind area at_ ni k atx n (encS l) w hs (neqF hk) (neqF hk2)).mono fun e w' h => beh_fin h (by simp [errR, jumpsP, errP, mustP, hk, hk2]) (by simp) (by simp [nextP])
      · exact (r_beh_5g kind area at_ ni k atx n (encS l) w hs (neqF hk) (neqT hk2)).mono fun e w' h => beh_fin h (by simp [errR, jumpsP, errP, mustP, hk, hk2]) (by simp) (by simp [nextP])
    · exact (r_beh_5f kind area at_ ni k atx n (encS l) w hs (neqT hk)).mono fun e w' h => beh_fin h (by simp [errR, jumpsP, errP, mustP, hk]) (by simp) (by simp [nextP])
  by_cases o6 : op = 6
  · subst o6
    by_cases hk : k = 1
    · by_cases hk2 : kind = 1
      · exact (r_beh_6t kind area at_ ni k atx n (encS l) w hs (neqF hk) (neqF hk2)).mono fun e w' h => beh_fin h (by simp [errR, jumpsP, errP, mustP, hk, hk2]) (by simp) (by simp [nextP])
      · exact (r_beh_6g kind area at_ ni k atx n (encS l) w hs (neqF hk) (neqT hk2)).mono fun e w' h => beh_fin h (by simp [errR, jumpsP, errP, mustP, hk, hk2]) (by simp) (by simp [nextP])
    · exact (r_beh_6f kind area at_ ni k atx n (encS l) w hs (neqT hk)).mono fun e w' h => beh_fin h (by simp [errR, jumpsP, errP, mustP, hk]) (by simp) (by simp [nextP])
  by_cases o13 : op = 13
  · subst o13
    cases hl2 : logicP k
    · exact (r_beh_13f kind area at_ ni k atx n (encS l) w hs hl2).mono fun e w' h => beh_fin h (by simp [errR, jumpsP, errP, mustP, hl2]) (by simp) (by simp [nextP])
    · exact (r_beh_13t kind area at_ ni k atx n (encS l) w hs hl2).mono fun e w' h => beh_fin h (by simp [errR, jumpsP, errP, mustP, hl2]) (by simp) (by simp [nextP])
  by_cases oa : 7 ≤ op ∧ op ≤ 24
  · obtain ⟨b1, b2⟩ := oa
    have n25 : op ≠ 25 := by omega
    have n26 : op ≠ 26 := by omega
    have n27 : op ≠ 27 := by omega
    have n28 : op ≠ 28 := by omega
    have n29 : op ≠ 29 := by omega
    have n30 : op ≠ 30 := by omega
    have n31 : op ≠ 31 := by omega
    have n32 : op ≠ 32 := by omega
    have n33 : op ≠ 33 := by omega
    have n34 : op ≠ 34 := by omega
    have n35 : op ≠ 35 := by omega
    have n36 : op ≠ 36 := by omega
    have nj : ¬ (25 ≤ op ∧ op ≤ 27) := by omega
    by_cases hk : k = kind
    · subst hk
      cases hm : mayP op k
      · exact (r_beh_am op k area at_ ni k atx n (encS l) w hs b1 b2 o13 (neqF rfl) hm).mono fun e w' h => beh_fin h (by simp [errR, jumpsP, errP, mustP, o1, o2, o3, o4, o5, o6, o13, n25, n26, n27, n28, n29, n30, n31, n32, n33, n34, n35, n36, nj, hm]) (by simp) (by simp [nextP, madeP, o1, o2, o3, o4, o5, o6, o13, n25, n26, n27, n28, n29, n30, n31, n32, n33, n34, n35, n36, nj, hm]; try omega)
      · by_cases b4 : op < 19
        · have b5 : ¬ (19 ≤ op) := by omega
          exact (r_beh_al op k area at_ ni k atx n (encS l) w hs b1 b2 o13 (neqF rfl) hm b4).mono fun e w' h => beh_fin h (by simp [errR, jumpsP, errP, mustP, o1, o2, o3, o4, o5, o6, o13, n25, n26, n27, n28, n29, n30, n31, n32, n33, n34, n35, n36, nj, hm, b5]) (by simp) (by simp [nextP, madeP, o1, o2, o3, o4, o5, o6, o13, n25, n26, n27, n28, n29, n30, n31, n32, n33, n34, n35, n36, nj, hm, b5]; try omega)
        · have b5 : 19 ≤ op := by omega
          exact (r_beh_ah op k area at_ ni k atx n (encS l) w hs b1 b2 o13 (neqF rfl) hm b5).mono fun e w' h => beh_fin h (by simp [errR, jumpsP, errP, mustP, o1, o2, o3, o4, o5, o6, o13, n25, n26, n27, n28, n29, n30, n31, n32, n33, n34, n35, n36, nj, hm, b5, b2]) (by simp) (by simp [nextP, madeP, o1, o2, o3, o4, o5, o6, o13, n25, n26, n27, n28, n29, n30, n31, n32, n33, n34, n35, n36, nj, hm, b5, b2]; try omega)
    · exact (r_beh_af op kind area at_ ni k atx n (encS l) w hs b1 b2 o13 (neqT hk)).mono fun e w' h => beh_fin h (by simp [errR, jumpsP, errP, mustP, o1, o2, o3, o4, o5, o6, o13, n25, n26, n27, n28, n29, n30, n31, n32, n33, n34, n35, n36, nj, hk]) (by simp) (by simp [nextP, madeP, o1, o2, o3, o4, o5, o6, o13, n25, n26, n27, n28, n29, n30, n31, n32, n33, n34, n35, n36, nj, hk]; try omega)
  by_cases o25 : op = 25
  · subst o25
    by_cases hj : at_ ≤ atx
    · exact (r_beh_25a kind area at_ ni k atx n (encS l) w hs hj).mono fun e w' h => beh_fin h (by simp [errR, jumpsP, errP, mustP, hj]) (by simp) (by simp [nextP])
    have hj1 : atx < at_ := by omega
    by_cases hj2 : n < at_
    · exact (r_beh_25b kind area at_ ni k atx n (encS l) w hs hj1 hj2).mono fun e w' h => beh_fin h (by simp [errR, jumpsP, errP, mustP, hj2]) (by simp) (by simp [nextP])
    have hj3 : at_ ≤ n := by omega
    exact (r_beh_25t kind area at_ ni k atx n (encS l) w hs hj1 hj3).mono fun e w' h => beh_fin h (by simp [errR, jumpsP, errP, mustP, hj1, hj3]) (by simp) (by simp [nextP])
  by_cases o26 : op = 26
  · subst o26
    by_cases hj : at_ ≤ atx
    · exact (r_beh_26a kind area at_ ni k atx n (encS l) w hs hj).mono fun e w' h => beh_fin h (by simp [errR, jumpsP, errP, mustP, hj]) (by simp) (by simp [nextP])
    have hj1 : atx < at_ := by omega
    by_cases hj2 : n < at_
    · exact (r_beh_26b kind area at_ ni k atx n (encS l) w hs hj1 hj2).mono fun e w' h => beh_fin h (by simp [errR, jumpsP, errP, mustP, hj2]) (by simp) (by simp [nextP])
    have hj3 : at_ ≤ n := by omega
    by_cases hk : k = 1
    · exact (r_beh_26t kind area at_ ni k atx n (encS l) w hs hj1 hj3 (neqF hk)).mono fun e w' h => beh_fin h (by simp [errR, jumpsP, errP, mustP, hj1, hj3, hk]) (by simp) (by simp [nextP])
    · exact (r_beh_26f kind area at_ ni k atx n (encS l) w hs hj1 hj3 (neqT hk)).mono fun e w' h => beh_fin h (by simp [errR, jumpsP, errP, mustP, hj1, hj3, hk]) (by simp) (by simp [nextP])
  by_cases o27 : op = 27
  · subst o27
    by_cases hj : at_ ≤ atx
    · exact (r_beh_27a kind area at_ ni k atx n (encS l) w hs hj).mono fun e w' h => beh_fin h (by simp [errR, jumpsP, errP, mustP, hj]) (by simp) (by simp [nextP])
    have hj1 : atx < at_ := by omega
    by_cases hj2 : n < at_
    · exact (r_beh_27b kind area at_ ni k atx n (encS l) w hs hj1 hj2).mono fun e w' h => beh_fin h (by simp [errR, jumpsP, errP, mustP, hj2]) (by simp) (by simp [nextP])
    have hj3 : at_ ≤ n := by omega
    by_cases hk : k = 1
    · exact (r_beh_27t kind area at_ ni k atx n (encS l) w hs hj1 hj3 (neqF hk)).mono fun e w' h => beh_fin h (by simp [errR, jumpsP, errP, mustP, hj1, hj3, hk]) (by simp) (by simp [nextP])
    · exact (r_beh_27f kind area at_ ni k atx n (encS l) w hs hj1 hj3 (neqT hk)).mono fun e w' h => beh_fin h (by simp [errR, jumpsP, errP, mustP, hj1, hj3, hk]) (by simp) (by simp [nextP])
  by_cases o28 : op = 28
  · subst o28
    by_cases h0 : l = []
    · exact (r_beh_28t kind area at_ ni k atx n (encS l) w hs l.length hd (by simp [h0])).mono fun e w' h => beh_fin h (by simp [errR, jumpsP, errP, mustP, retE, h0]) (by simp) (by simp [nextP])
    · exact (r_beh_28f kind area at_ ni k atx n (encS l) w hs l.length hd (List.length_pos_iff.2 h0)).mono fun e w' h => beh_fin h (by simp [errR, jumpsP, errP, mustP, retE, h0]) (by simp) (by simp [nextP])
  by_cases o29 : op = 29
  · subst o29
    by_cases hk : k = 1
    · by_cases h0 : l = []
      · exact (r_beh_29t kind area at_ ni k atx n (encS l) w hs l.length hd (neqF hk) (by simp [h0])).mono fun e w' h => beh_fin h (by simp [errR, jumpsP, errP, mustP, retE, h0, hk]) (by simp) (by simp [nextP])
      · exact (r_beh_29g kind area at_ ni k atx n (encS l) w hs l.length hd (neqF hk) (List.length_pos_iff.2 h0)).mono fun e w' h => beh_fin h (by simp [errR, jumpsP, errP, mustP, retE, h0, hk]) (by simp) (by simp [nextP])
    · exact (r_beh_29f kind area at_ ni k atx n (encS l) w hs (neqT hk)).mono fun e w' h => beh_fin h (by simp [errR, jumpsP, errP, mustP, retE, hk]) (by simp) (by simp [nextP])
  by_cases o30 : op = 30
  · subst o30
    by_cases hk : k = 1
    · by_cases h0 : l = []
      · exact (r_beh_30t kind area at_ ni k atx n (encS l) w hs l.length hd (neqF hk) (by simp [h0])).mono fun e w' h => beh_fin h (by simp [errR, jumpsP, errP, mustP, retE, h0, hk]) (by simp) (by simp [nextP])
      · exact (r_beh_30g kind area at_ ni k atx n (encS l) w hs l.length hd (neqF hk) (List.length_pos_iff.2 h0)).mono fun e w' h => beh_fin h (by simp [errR, jumpsP, errP, mustP, retE, h0, hk]) (by simp) (by simp [nextP])
    · exact (r_beh_30f kind area at_ ni k atx n (encS l) w hs (neqT hk)).mono fun e w' h => beh_fin h (by simp [errR, jumpsP, errP, mustP, retE, hk]) (by simp) (by simp [nextP])
  by_cases o31 : op = 31
  · subst o31
    by_cases hk : k = 0
    · exact (r_beh_31f kind area at_ ni k atx n (encS l) w hs (eqT hk)).mono fun e w' h => beh_fin h (by simp [errR, jumpsP, errP, mustP, hk]) (by simp) (by simp [nextP])
    · exact (r_beh_31t kind area at_ ni k atx n (encS l) w hs (eqF hk)).mono fun e w' h => beh_fin h (by simp [errR, jumpsP, errP, mustP, hk]) (by simp) (by simp [nextP])
  by_cases o32 : op = 32
  · subst o32
    cases hm : mayP at_ k
    · exact (r_beh_32f kind area at_ ni k atx n (encS l) w hs hm).mono fun e w' h => beh_fin h (by simp [errR, jumpsP, errP, mustP, pushE, hm]) (by simp) (by simp [nextP])
    · have hml := may_le hm
      by_cases h8 : l.length = 8
      · exact (r_beh_32g kind area at_ ni k atx n (encS l) w hs l.length hd hm (eqT (by omega))).mono fun e w' h => beh_fin h (by simp [errR, jumpsP, errP, mustP, pushE, hm, h8]) (by simp) (by simp [nextP])
      · exact (r_beh_32t kind area at_ ni k atx n (encS l) w hs l.length hd (UInt8.ofNat at_.toNat) (UInt8.ofNat k.toNat) (byte_toNat (by omega) (by omega)) (byte_toNat (by omega) (by omega)) hm (eqF (by omega))).mono fun e w' h => beh_fin h (by simp [errR, jumpsP, errP, mustP, pushE, hm, h8]) (by simp) (by simp [nextP, encS_push])
  by_cases o33 : op = 33
  · subst o33
    rcases List.eq_nil_or_concat l with rfl | ⟨l', x, rfl⟩
    · exact (r_beh_33f kind area at_ ni k atx n (encS []) w hs 0 (by simpa using hd) rfl).mono fun e w' h => beh_fin h (by simp [errR, jumpsP, errP, mustP, popE]) (by simp) (by simp)
    · have hx := hb x (by simp)
      have hlen : (l' ++ [x]).length = l'.length + 1 := by simp
      rw [List.concat_eq_append] at *
      have hx := hb x (by simp)
      rw [hlen] at hd
      have e0 : ∀ h, ((encS (l' ++ [x])).extract (2 * (l'.length + 1) - 2) (2 * (l'.length + 1)))[0]'h = UInt8.ofNat x.1.toNat := by rw [encS_last]; intro h; rfl
      have e1 : ∀ h, ((encS (l' ++ [x])).extract (2 * (l'.length + 1) - 2) (2 * (l'.length + 1)))[1]'h = UInt8.ofNat x.2.toNat := by rw [encS_last]; intro h; rfl
      have t1 := byte_toNat (x := x.1) (by omega) (by omega)
      have t2 := byte_toNat (x := x.2) (by omega) (by omega)
      have hsz : (encS (l' ++ [x])).size = 2 * (l'.length + 1) := by rw [encS_size, hlen]
      have hfore := encS_fore l' x
      by_cases hk : k = x.2
      · by_cases h19 : 19 ≤ x.1
        · exact (r_beh_33h kind area at_ ni k atx n (encS (l' ++ [x])) w hs (l'.length + 1) _ _ hd (by omega) (eqF (by omega)) hsz e0 e1 (neqF (hk.trans t2)) (by rw [← t1]; exact h19)).mono fun e w' h => beh_fin h (by simp [errR, jumpsP, errP, mustP, popE, hk]) (by simp) (by simp [nextP, madeP, h19, hx, hfore])
        · exact (r_beh_33l kind area at_ ni k atx n (encS (l' ++ [x])) w hs (l'.length + 1) _ _ hd (by omega) (eqF (by omega)) hsz e0 e1 (neqF (hk.trans t2)) (by rw [← t1]; omega)).mono fun e w' h => beh_fin h (by simp [errR, jumpsP, errP, mustP, popE, hk]) (by simp) (by simp [nextP, madeP, h19, hk, hfore])
      · exact (r_beh_33g kind area at_ ni k atx n (encS (l' ++ [x])) w hs (l'.length + 1) _ _ hd (by omega) (eqF (by omega)) hsz e0 e1 (neqT (fun h => hk (h.trans t2.symm)))).mono fun e w' h => beh_fin h (by simp [errR, jumpsP, errP, mustP, popE, Ne.symm hk]) (by simp) (by simp)
  by_cases o34 : op = 34
  · subst o34
    by_cases hk : k = 1
    · exact (r_beh_34t kind area at_ ni k atx n (encS l) w hs (neqF hk)).mono fun e w' h => beh_fin h (by simp [errR, jumpsP, errP, mustP, hk]) (by simp) (by simp [nextP])
    · exact (r_beh_34f kind area at_ ni k atx n (encS l) w hs (neqT hk)).mono fun e w' h => beh_fin h (by simp [errR, jumpsP, errP, mustP, hk]) (by simp) (by simp [nextP])
  by_cases o35 : op = 35
  · subst o35
    by_cases hk : k = 1
    · exact (r_beh_35t kind area at_ ni k atx n (encS l) w hs (neqF hk)).mono fun e w' h => beh_fin h (by simp [errR, jumpsP, errP, mustP, hk]) (by simp) (by simp [nextP])
    · exact (r_beh_35f kind area at_ ni k atx n (encS l) w hs (neqT hk)).mono fun e w' h => beh_fin h (by simp [errR, jumpsP, errP, mustP, hk]) (by simp) (by simp [nextP])
  obtain rfl : op = 36 := by omega
  by_cases hk : k = 1
  · exact (r_beh_36t kind area at_ ni k atx n (encS l) w hs (neqF hk)).mono fun e w' h => beh_fin h (by simp [errR, jumpsP, errP, mustP, hk]) (by simp) (by simp [nextP])
  · exact (r_beh_36f kind area at_ ni k atx n (encS l) w hs (neqT hk)).mono fun e w' h => beh_fin h (by simp [errR, jumpsP, errP, mustP, hk]) (by simp) (by simp [nextP])
end Go.Proofs.Ytedmikeamgebjaa
