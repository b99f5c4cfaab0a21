/- Chapter 08: the statements' head: plain laws. -/
import Derived.Test.YtjggjkmafcokjaaMatch8
import Derived.Test.YtjggjkmafcokjaaGet8
set_option linter.unusedVariables false
set_option linter.unusedSimpArgs false
namespace Go.Proofs.Ytjggjkmafcokjaa
open Go.RowKit

/-- A slice that was laid just now, whole. -/
theorem sl_ofBlock8 {α : Type} {w : World} {sz : Nat} {c : α → List Value} {B n : Nat} {t : TypeId} {fr : Nat × Nat} (xs : List α) (hw : ∀ x, (c x).length = sz) (hn : n = xs.length) (hm : xs.length ≤ 1000)
    {cs : Array Value} (h : w.heap[B]? = some (.cells cs t fr)) (hcs : cs.toList = xs.flatMap c) : Sl w sz c (some ⟨B, 0, none⟩) n n xs :=
  ⟨hn, Nat.le_refl _, by rw [hn]; simp only [maxLen]; omega, (fun h => by cases h), hw, fun k x hk => ⟨B, 0, rfl, fun j v hj => by
    have := flatMap_at hw xs k x hk j v hj
    rw [← hcs] at this
    rw [Nat.zero_add]
    simp only [World.cell?, h]
    simpa using this⟩⟩
def tP8 : T := ⟨⟨#[112]⟩, 5, 1, 3, ⟨#[]⟩⟩
def aP8 : AT := ⟨⟨#[112]⟩, 1, 4, ⟨#[]⟩⟩
def aQ8 : AT := ⟨⟨#[113]⟩, 1, 4, ⟨#[]⟩⟩
theorem tP8_nm : tP8.nm.toList = [112] := by simp [tP8, Lib.toList_data]
theorem aP8_nm : aP8.nm.toList = [112] := by simp [aP8, Lib.toList_data]
theorem aQ8_nm : aQ8.nm.toList = [113] := by simp [aQ8, Lib.toList_data]
theorem tP8_v : tP8.v = ⟨1, 3, []⟩ := by simp [tP8, T.v, Lib.toList_data]
theorem aP8_v : aP8.v = ⟨1, 4, []⟩ := by simp [aP8, AT.v, Lib.toList_data]
theorem matchP8 : matchesT [tP8] [aP8] = true := by
  simp only [matchesT, holdsT, findA, List.all_cons, List.all_nil, List.find?_cons, aP8_nm, tP8_nm, tP8_v, decide_true, aP8_v, show tP8.op = 5 from rfl]; decide
theorem matchQ8 : matchesT [tP8] [aQ8] = false := by
  simp only [matchesT, holdsT, findA, List.all_cons, List.all_nil, List.find?_cons, List.find?_nil, aQ8_nm, tP8_nm]; decide
theorem chkP8 : chkB [tP8] = true := by
  simp only [chkB, oneB, nameB, List.all_cons, List.all_nil, tP8_nm, show tP8.op = 5 from rfl, show tP8.k = 1 from rfl, show tP8.n = 3 from rfl, show tP8.s = ⟨#[]⟩ from rfl, Lib.toList_data]; decide
theorem chk0 : chkB [] = true := by decide
def fdA : Int → Option (List T) := fun k => if k = 5 then some [] else (fun k => if k = 7 then some [tP8] else (fun _ => none) k) k
theorem fdA_5 : fdA 5 = some [] := rfl
theorem fdA_7 : fdA 7 = some [tP8] := rfl
theorem fdA_9 : fdA 9 = none := rfl
theorem fdA_ts : ∀ id ts, fdA id = some ts → ts.length ≤ 1000 := fun id ts h => by
  unfold fdA at h
  split at h
  · cases h; decide
  · dsimp only at h
    split at h
    · cases h; decide
    · cases h
theorem fdA_P (x : Int) : (∃ ts, fdA x = some ts ∧ matchesT ts [aP8] = true) ↔ (x = 5 ∨ x = 7) := by
  unfold fdA
  by_cases h5 : x = 5
  · subst h5; simp [matchesT]
  · by_cases h7 : x = 7
    · subst h7; simp [matchP8]
    · simp [h5, h7]
theorem fdA_Q (x : Int) : (∃ ts, fdA x = some ts ∧ matchesT ts [aQ8] = true) ↔ x = 5 := by
  unfold fdA
  by_cases h5 : x = 5
  · subst h5; simp [matchesT]
  · by_cases h7 : x = 7
    · subst h7; simp [matchQ8]
    · simp [h5, h7]
theorem one_of {zs : List Int} {a : Int} (hn : zs.Nodup) (h : ∀ x, x ∈ zs ↔ x = a) : zs = [a] := by
  match zs, hn, h with
  | [], _, h => have := (h a).2 rfl; cases this
  | [x], _, h => rw [(h x).1 (by simp)]
  | x :: y :: l, hn, h =>
    have h1 := (h x).1 (by simp)
    have h2 := (h y).1 (by simp)
    rw [h1, h2] at hn
    simp at hn
theorem two_of {zs : List Int} {a b n : Nat} (hab : a < b) (hn : zs.Nodup) (hr : Rise zs 0 n) (hl : n = zs.length) (h : ∀ x : Int, x ∈ zs ↔ x = a ∨ x = b) : zs = [(a : Int), (b : Int)] := by
  match zs, hn, hr, hl, h with
  | [], _, _, _, h => have := (h a).2 (.inl rfl); cases this
  | [x], _, _, _, h =>
    have h1 := (h a).2 (.inl rfl)
    have h2 := (h b).2 (.inr rfl)
    simp at h1 h2
    omega
  | [x, y], hn, hr, hl, h =>
    have h1 := (h x).1 (by simp)
    have h2 := (h y).1 (by simp)
    have h3 := hr 0 1 (by omega) (by omega) (by rw [hl]; simp)
    simp [gN] at h3
    simp at hn
    have hx : x = a := by omega
    have hy : y = b := by omega
    rw [hx, hy]
  | x :: y :: z :: l, hn, _, _, h =>
    have h1 := (h x).1 (by simp)
    have h2 := (h y).1 (by simp)
    have h3 := (h z).1 (by simp)
    simp at hn
    omega
end Go.Proofs.Ytjggjkmafcokjaa
