/- Chapter 15: the statements' head. -/
import Derived.Test.YtiifflojpoobpaaGreatGrown
import Derived.Test.YtiifflojpoobpaaGreatCut15
set_option linter.unusedVariables false
set_option linter.unusedSimpArgs false
namespace Go.Proofs.YtiifflojpoobpaaGreat
open Go.RowKit

theorem sl_of {α : Type} {w : World} {sz : Nat} {c : α → List Value} {B n : Nat} {t : TypeId} {fr : Nat × Nat} (xs : List α) (hw : ∀ x, (c x).length = sz) (hn : n = xs.length) (hm : xs.length ≤ 1000)
    {cs : Array Value} (h : w.heap[B]? = some (.cells cs t fr)) (hcs : cs.toList = xs.flatMap c) : Sl w sz c (some ⟨B, 0, none⟩) n n xs :=
  ⟨hn, Nat.le_refl _, by rw [hn]; simp only [maxLen]; omega, (fun h => by cases h), hw, fun k x hk => ⟨B, 0, rfl, fun j v hj => by
    have := flatMap_at hw xs k x hk j v hj
    rw [← hcs] at this
    rw [Nat.zero_add]
    simp only [World.cell?, h]
    simpa using this⟩⟩
def t0 : T := ⟨⟨#[112]⟩, 8, 0, 0, ⟨#[]⟩⟩
def e1 : ED := ⟨2, ⟨0, 0, 0⟩, 1, 7, [t0], []⟩
def e2 : ED := ⟨3, ⟨0, 0, 0⟩, 1, 7, [], []⟩
def a0 (c : UInt8) : AT := ⟨⟨#[c]⟩, 1, 5, ⟨#[]⟩⟩
def e3 : ED := ⟨1, ⟨0, 0, 0⟩, 0, 0, [], [[a0 112], [a0 113]]⟩
def one : List SD := [⟨1, 7, [t0]⟩]
theorem one_is : applyD [] e1 = one := by simp [applyD, e1, one]
theorem none_is : applyD one e2 = [] := by simp [applyD, e2, one, sideI, cmpI]
theorem nm_p : (⟨#[112]⟩ : ByteArray).toList = [112] := by simp [Lib.toList_data]
theorem nm_q : (⟨#[113]⟩ : ByteArray).toList = [113] := by simp [Lib.toList_data]
theorem m_p : matchesT [t0] [a0 112] = true := by simp [matchesT, holdsT, findA, t0, a0, nm_p, nm_q]; first | rfl | decide
theorem m_q : matchesT [t0] [a0 113] = false := by simp [matchesT, holdsT, findA, t0, a0, nm_p, nm_q]
theorem asked_one (c : Int) : askedD one [c] = if c = 1 then [[t0]] else [] := by
  unfold askedD one
  by_cases h : c = 1
  · subst h; simp
  · rw [if_neg h]; simp; exact fun e => h e.symm
theorem batch_is : batchD one 1 e3 = [[a0 112]] := by simp [batchD, e3, asked_one, matchedD, m_p, m_q]
theorem filters_is : filtersD one [1] = [[t0]] := by simp [filtersD, asked_one, red]
theorem filters_no : filtersD one [2] = [] := by simp [filtersD, asked_one, red]
theorem cut_is : (cutD one [1] e3).es = [[a0 112]] := by simp [cutD, e3, filters_is, matchedD, m_p, m_q]
end Go.Proofs.YtiifflojpoobpaaGreat
