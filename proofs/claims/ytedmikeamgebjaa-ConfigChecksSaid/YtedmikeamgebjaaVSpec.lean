/- Which programs may run: what is ahead of each instruction. No program here. -/
import Derived.Test.YtedmikeamgebjaaVPure
set_option linter.unusedVariables false
set_option linter.unusedSimpArgs false
namespace Go.Proofs.Ytedmikeamgebjaa
open Go.RowKit

/-- What is ahead of an instruction: the kind of the result, the open brackets. -/
structure Ah where
  kind : Int
  opn : List (Int × Int)
deriving DecidableEq
instance : Inhabited Ah := ⟨⟨0, []⟩⟩
def logicP (k : Int) : Bool := mayP 13 k
def madeP (op k : Int) : Int := if 19 ≤ op ∧ op ≤ 24 then 1 else k
def mustP (b : Bool) : Int := if b then 0 else 6
def retE (op k : Int) (l : List (Int × Int)) : Int := if op ≠ 28 ∧ k ≠ 1 then 6 else if l ≠ [] then 3 else 0
def pushE (op k : Int) (l : List (Int × Int)) : Int := if mayP op k = false then 6 else if l.length = 8 then 8 else 0
def popE (k : Int) (l : List (Int × Int)) : Int := match l.getLast? with | none => 3 | some x => if x.2 ≠ k then 6 else 0
/-- The error of an instruction behind a. -/
def errP (a : Ah) (i : Ins) : Int :=
  if i.op = 1 then 0 else if i.op = 2 then mustP (logicP i.kind) else if i.op = 3 then mustP (a.kind == i.kind) else
  if i.op = 4 then mustP (a.kind == i.kind && logicP i.kind) else if i.op = 5 ∨ i.op = 6 then mustP (a.kind == 1 && i.kind == 1) else
  if i.op = 13 then mustP (logicP a.kind) else if i.op = 25 then 0 else if i.op = 26 ∨ i.op = 27 ∨ i.op = 34 ∨ i.op = 35 ∨ i.op = 36 then mustP (a.kind == 1) else
  if i.op = 28 ∨ i.op = 29 ∨ i.op = 30 then retE i.op a.kind a.opn else if i.op = 31 then mustP (a.kind != 0) else
  if i.op = 32 then pushE i.at_ a.kind a.opn else if i.op = 33 then popE a.kind a.opn else mustP (a.kind == i.kind && mayP i.op i.kind)
/-- What is behind an instruction without an error. -/
def nextP (a : Ah) (i : Ins) : Ah :=
  if i.op = 1 ∨ i.op = 2 ∨ i.op = 31 then ⟨i.kind, a.opn⟩ else
  if i.op = 3 ∨ i.op = 4 ∨ i.op = 5 ∨ i.op = 6 ∨ i.op = 13 ∨ i.op = 25 ∨ i.op = 26 ∨ i.op = 27 ∨ i.op = 28 ∨ i.op = 29 ∨ i.op = 30 ∨ i.op = 34 ∨ i.op = 35 ∨ i.op = 36 then a else
  if i.op = 32 then ⟨0, a.opn ++ [(i.at_, a.kind)]⟩ else
  if i.op = 33 then ⟨match a.opn.getLast? with | none => 0 | some x => madeP x.1 x.2, a.opn.dropLast⟩ else ⟨madeP i.op i.kind, a.opn⟩
abbrev Tab := List (Option Ah)
def leadT (t : Tab) (to : Nat) (a : Ah) : Tab :=
  match t[to]? with
  | some (some b) => t.set to (some ⟨if b.kind = a.kind then b.kind else 0, b.opn⟩)
  | _ => t.set to (some a)
def leadB (t : Tab) (to : Nat) (a : Ah) : Bool :=
  match t[to]? with
  | some (some b) => decide (b.opn = a.opn)
  | _ => true
def jumpsP (i : Ins) : Bool := decide (25 ≤ i.op ∧ i.op ≤ 27)
def onP (i : Ins) : Bool := decide (i.op ≠ 25 ∧ i.op ≠ 28)
/-- One instruction: the error, or the table behind it. -/
def stepP (n : Nat) (t : Tab) (k : Nat) (i : Ins) : Int × Tab :=
  if rightP i = false then (3, t) else
  match t[k]? with
  | some (some a) =>
    if jumpsP i && (decide (i.at_ ≤ k) || decide ((n : Int) < i.at_)) then (7, t) else
    if errP a i ≠ 0 then (errP a i, t) else
    let b := nextP a i
    if onP i && !leadB t (k + 1) b then (7, t) else
    let t1 := if onP i then leadT t (k + 1) b else t
    if jumpsP i && !leadB t1 i.at_.toNat b then (7, t) else
    (0, if jumpsP i then leadT t1 i.at_.toNat b else t1)
  | _ => (0, t)
/-- From instruction k on: the error, where, the table. -/
def goP (n : Nat) : List Ins → Nat → Tab → Int × Nat × Tab
  | [], k, t => (match t[n]? with | some (some a) => if a.opn ≠ [] then (3, n, t) else (0, 0, t) | _ => (0, 0, t))
  | i :: is, k, t => if (stepP n t k i).1 ≠ 0 then ((stepP n t k i).1, k, t) else goP n is (k + 1) (stepP n t k i).2
def startT (n : Nat) : Tab := (List.replicate (n + 1) (none : Option Ah)).set 0 (some ⟨0, []⟩)
def allP (l : List Ins) : Int × Nat × Tab := if 200 < l.length then (2, 200, []) else goP l.length l 0 (startT l.length)
end Go.Proofs.Ytedmikeamgebjaa
