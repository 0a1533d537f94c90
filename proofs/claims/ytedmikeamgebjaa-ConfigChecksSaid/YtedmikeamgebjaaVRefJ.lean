/- Functions of both sides, as the printed texts ask for them. -/
import Derived.Test.YtedmikeamgebjaaVRefI
set_option linter.unusedVariables false
set_option linter.unusedSimpArgs false
namespace Go.Proofs.Ytedmikeamgebjaa
open Go.RowKit

theorem returned_snd {α : Prop} {e : Ending} {w w' : World} {v : Value} (h : e = .returned v ∧ Mod [] w w') : e = .returned v ∧ Below w.heap.size w w' := ⟨h.1, h.2.toBelow⟩
def in64B (x : Int) : Bool := decide (-9223372036854775808 ≤ x ∧ x ≤ 9223372036854775807)
def Ins.okB (i : Ins) : Bool := in64B i.op && in64B i.kind && in64B i.area && in64B i.at_ && in64B i.n
theorem Ins.okB_iff {i : Ins} : i.okB = true ↔ i.Ok := by
  unfold Ins.okB in64B
  simp only [Bool.and_eq_true, decide_eq_true_eq]
  exact ⟨fun ⟨⟨⟨⟨h1, h2⟩, h3⟩, h4⟩, h5⟩ => ⟨h1, h2, h3, h4, h5⟩, fun ⟨h1, h2, h3, h4, h5⟩ => ⟨⟨⟨⟨h1, h2⟩, h3⟩, h4⟩, h5⟩⟩
def rightF (i : Ins) : Option Bool := if i.okB = true then some (rightP i) else none
theorem rightF_some {i : Ins} (h : i.Ok) : rightF i = some (rightP i) := by unfold rightF; rw [if_pos (Ins.okB_iff.2 h)]
theorem rightF_calls {i : Ins} {r : Bool} (h : rightF i = some r) (w : World) : Calls Try.prog 55 #[i.v] w fun e w' => e = .returned (.bool r) ∧ Below w.heap.size w w' := by
  unfold rightF at h
  split at h
  · rename_i hi
    injection h with h
    subst h
    exact (r_right i w (Ins.okB_iff.1 hi)).mono fun e w' h => ⟨h.1, h.2.toBelow⟩
  · cases h
/-- The brackets out of their bytes. -/
def decSL : List UInt8 → List (Int × Int)
  | a :: b :: r => ((a.toNat : Int), (b.toNat : Int)) :: decSL r
  | _ => []
theorem decSL_encSL : ∀ {l : List (Int × Int)}, BOk l → decSL (encSL l) = l
  | [], _ => rfl
  | x :: l, h => by
    have hx := h x (by simp)
    have e : encSL (x :: l) = UInt8.ofNat x.1.toNat :: UInt8.ofNat x.2.toNat :: encSL l := rfl
    rw [e, decSL, decSL_encSL (fun z hz => h z (by simp [hz])), ← byte_toNat (by omega) (by omega), ← byte_toNat (by omega) (by omega)]
def decS (s : ByteArray) : List (Int × Int) := decSL s.data.toList
theorem decS_encS {l : List (Int × Int)} (h : BOk l) : decS (encS l) = l := by
  unfold decS encS
  simpa using decSL_encSL h
def bokB (l : List (Int × Int)) : Bool := l.all fun x => decide (0 ≤ x.1) && decide (x.1 ≤ 24) && decide (0 ≤ x.2) && decide (x.2 ≤ 7)
theorem bokB_iff {l : List (Int × Int)} : bokB l = true ↔ BOk l := by
  unfold bokB BOk
  simp [List.all_eq_true, and_assoc]
theorem encS_of {s : ByteArray} (h : encSL (decS s) = s.data.toList) : encS (decS s) = s := by
  apply ByteArray.ext
  unfold encS
  rw [h]
def behindF (i : Ins) (k n : Int) (b : Bool) (kd : Int) (s : ByteArray) : Option (Bool × Int × ByteArray × Int) :=
  if b = true ∧ rightP i = true ∧ encSL (decS s) = s.data.toList ∧ (decS s).length ≤ 8 ∧ bokB (decS s) = true then some (true, (outR ⟨kd, decS s⟩ i k n).kind, encS (outR ⟨kd, decS s⟩ i k n).opn, errR ⟨kd, decS s⟩ i k n) else none
theorem behindF_some {i : Ins} {k n : Int} {a : Ah} (hr : rightP i = true) (hl : a.opn.length ≤ 8) (hb : BOk a.opn) : behindF i k n true a.kind (encS a.opn) = some (true, (outR a i k n).kind, encS (outR a i k n).opn, errR a i k n) := by
  unfold behindF
  rw [decS_encS hb, if_pos ⟨rfl, hr, by simp [encS], hl, bokB_iff.2 hb⟩]
theorem behindF_calls {i : Ins} {k n : Int} {b : Bool} {kd : Int} {s : ByteArray} {r1 : Bool} {r2 : Int} {r3 : ByteArray} {r4 : Int} (h : behindF i k n b kd s = some (r1, r2, r3, r4)) (w : World) :
    Calls Try.prog 56 #[i.v, .int .i64 k, .int .i64 n, .agg #[.bool b, .int .i64 kd, .string s]] w fun e w' => e = .returned (.tuple #[.agg #[.bool r1, .int .i64 r2, .string r3], .int .i64 r4]) ∧ Below w.heap.size w w' := by
  unfold behindF at h
  split at h
  · rename_i hc
    obtain ⟨rfl, hr, he, hl, hb⟩ := hc
    have he := encS_of he
    have hb := bokB_iff.1 hb
    simp only [Option.some.injEq, Prod.mk.injEq] at h
    obtain ⟨rfl, rfl, rfl, rfl⟩ := h
    have := (r_behind i k n ⟨kd, decS s⟩ w hr hl hb).mono fun e w' h => (⟨h.1, h.2.toBelow⟩ : e = .returned _ ∧ Below w.heap.size w w')
    unfold ahV at this
    simp only at this
    rw [he] at this
    exact this
  · cases h
end Go.Proofs.Ytedmikeamgebjaa
