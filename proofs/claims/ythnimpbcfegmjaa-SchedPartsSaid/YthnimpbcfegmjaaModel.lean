/-
  Plain model of layer 20: a system of threads, which may be, which thread can go on, and a thread's step. No program in sight but for the instruction's type.
-/
import Derived.Test.YthnimpbcfegmjaaPx0
namespace Go.Proofs.Ythnimpbcfegmjaa.Model
open Go.RowKit Go.Proofs.Ythnimpbcfegmjaa.P
set_option linter.unusedVariables false

structure Syst where
  th : List (List S44)
  at_ : List Int
  su : List Int
  lo : List Int
  ce : List Int
  ch : List (List Int)
def Syst.none : Syst := ⟨[], [], [], [], [], []⟩
def inB (n lo hi : Int) : Bool := decide (lo ≤ n) && decide (n ≤ hi)
def okI (i : S44) : Bool := inB i.f0 0 4 && (inB i.f1 0 3 && inB i.f2 (-1000) 1000)
def smB (n : Int) : Bool := decide (-1073741824 < n) && decide (n < 1073741824)
/-- The lengths. -/
def lenB (s : Syst) : Bool := decide (s.th.length ≤ 8) && (decide (s.at_.length = s.th.length) && (decide (s.su.length = s.th.length) && (decide (s.lo.length = 4) && (decide (s.ce.length = 4) && decide (s.ch.length = 4)))))
/-- A thread, and how far it is. -/
def thB (l : List S44) (a : Int) : Bool := decide (l.length ≤ 16) && (inB a 0 l.length && l.all okI)
def thsB (s : Syst) : Bool := (s.th.zip s.at_).all (fun p => thB p.1 p.2)
def loB (s : Syst) : Bool := s.lo.all (fun x => inB x (-1) ((s.th.length : Int) - 1))
def chB (s : Syst) : Bool := s.ch.all (fun l => decide (l.length ≤ 2))
def numB (s : Syst) : Bool := (s.su ++ s.ce ++ s.ch.flatten).all smB
def rightB (s : Syst) : Bool := lenB s && (thsB s && (loB s && (chB s && numB s)))

/-- What a step leaves as it was: the shape. -/
structure Shp (s : Syst) : Prop where
  n : s.th.length ≤ 8
  at_ : s.at_.length = s.th.length
  su : s.su.length = s.th.length
  lo : s.lo.length = 4
  ce : s.ce.length = 4
  ch : s.ch.length = 4
  th : ∀ (t : Nat) (l : List S44) (a : Int), s.th[t]? = some l → s.at_[t]? = some a → l.length ≤ 16 ∧ 0 ≤ a ∧ a ≤ l.length ∧ ∀ i, i ∈ l → okI i = true
  los : ∀ x : Int, x ∈ s.lo → -1 ≤ x ∧ x < s.th.length
  chs : ∀ l : List Int, l ∈ s.ch → l.length ≤ 2
theorem right_shp {s : Syst} (h : rightB s = true) : Shp s := by
  simp only [rightB, lenB, thsB, loB, chB, numB, thB, inB, Bool.and_eq_true, decide_eq_true_eq, List.all_eq_true] at h
  obtain ⟨⟨h1, h2, h3, h4, h5, h6⟩, h7, h8, h9, _⟩ := h
  refine ⟨h1, h2, h3, h4, h5, h6, fun t l a hl ha => ?_, fun x hx => ?_, h9⟩
  · have hz : (l, a) ∈ s.th.zip s.at_ := by
      refine List.mem_of_getElem? (i := t) ?_
      rw [List.getElem?_zip_eq_some]
      exact ⟨hl, ha⟩
    obtain ⟨h10, ⟨h11, h12⟩, h13⟩ := h7 _ hz
    exact ⟨h10, h11, h12, h13⟩
  · have := h8 x hx
    omega
/-- The instruction that a thread is at. -/
def insA (s : Syst) (t : Nat) : Option S44 := match s.th[t]?, s.at_[t]? with
  | some l, some a => l[a.toNat]?
  | _, _ => Option.none
def canI (s : Syst) (i : S44) : Bool :=
  if i.f0 = 0 then s.lo.getD i.f1.toNat 0 == -1
  else if i.f0 = 3 then decide ((s.ch.getD i.f1.toNat []).length < 2)
  else if i.f0 = 4 then decide (0 < (s.ch.getD i.f1.toNat []).length)
  else true
def canB (s : Syst) (t : Nat) : Bool := match insA s t with
  | some i => canI s i
  | Option.none => false
/-- The threads that can go on. -/
def enL (s : Syst) : List Int := ((List.range s.th.length).filter (canB s)).map (fun t : Nat => (t : Int))
def doI (s : Syst) (t : Nat) (i : S44) : Syst :=
  let k := i.f1.toNat
  if i.f0 = 0 then { s with lo := s.lo.set k t }
  else if i.f0 = 1 then (if s.lo.getD k 0 = t then { s with lo := s.lo.set k (-1) } else s)
  else if i.f0 = 2 then { s with ce := s.ce.set k (wrap64 (s.ce.getD k 0 + i.f2)) }
  else if i.f0 = 3 then { s with ch := s.ch.set k (s.ch.getD k [] ++ [i.f2]) }
  else if i.f0 = 4 then { s with su := s.su.set t (wrap64 (s.su.getD t 0 + (s.ch.getD k []).getD 0 0)), ch := s.ch.set k ((s.ch.getD k []).drop 1) }
  else s
def stepS (s : Syst) (t : Nat) (i : S44) : Syst := doI { s with at_ := s.at_.set t (s.at_.getD t 0 + 1) } t i
def doneB (s : Syst) : Bool := (s.th.zip s.at_).all (fun p => decide ((p.1.length : Int) ≤ p.2))
def newS (l : List (List S44)) : Syst := ⟨l, List.replicate l.length 0, List.replicate l.length 0, [-1, -1, -1, -1], [0, 0, 0, 0], [[], [], [], []]⟩
end Go.Proofs.Ythnimpbcfegmjaa.Model
