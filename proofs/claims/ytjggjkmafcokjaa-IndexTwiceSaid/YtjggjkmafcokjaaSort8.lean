/- The library's sort of at most twelve numbers: its walk. -/
import Derived.Test.YtjggjkmafcokjaaIns
import Derived.Test.YtjggjkmafcokjaaLen8
set_option linter.unusedVariables false
set_option linter.unusedSimpArgs false
namespace Go.Proofs.Ytjggjkmafcokjaa
open Go.RowKit

/-- A row that a call puts in order. -/
def SortR (base : Nat) (aa : Option Addr) (n cap : Nat) (ys : List Int) (w : World) (e : Ending) (w' : World) : Prop :=
  e = .returned (.tuple #[]) ∧ ∃ zs, Own w' base 30 1 uC aa n cap zs ∧ zs.Perm ys ∧ Rise zs 0 n ∧ Below base w w'
theorem ins0_any (cap : Nat) (w : World) : Calls Try.prog 68 #[.slice none 0 cap, .int .i64 0, .int .i64 0] w fun e w' => e = .returned (.tuple #[]) ∧ w = w' := by
  go_enter Try.func68, Try.ntmps68
  go_wp2_with fail
  go_loopg [6] 0 (fun gh iv wr => iv = .int .i64 1 ∧ w = wr)
  case atStart => exact ⟨rfl, rfl⟩
  case round =>
    obtain ⟨rfl, rfl⟩ := hrel
    go_wp2
    go_end0
    exact ⟨rfl, rfl⟩
set_option maxRecDepth 100000 in
set_option maxHeartbeats 2000000 in
theorem pdq12_any (aa : Option Addr) (base n cap : Nat) (ys : List Int) (z : Int) (w : World) (hO : Own w base 30 1 uC aa n cap ys) (hn : n ≤ 12) :
    Calls Try.prog 58 #[.slice aa n cap, .int .i64 0, .int .i64 n, .int .i64 z] w (SortR base aa n cap ys w) := by
  have hb : (n : Int) ≤ 12 := by omega
  have hb0 : (0 : Int) ≤ (n : Int) := by omega
  have HO := hid hO
  clear hO
  cases aa with
  | none =>
    have hcap := HO.out.sl.none rfl
    have hlen := HO.out.sl.len
    obtain rfl : cap = 0 := hcap
    obtain rfl : n = 0 := by omega
    go_enter Try.func58, Try.ntmps58
    go_wp2_with fail
    go_loopg [1, 2] 0 (fun gh av iv wr => av = .int .i64 0 ∧ iv = .int .i64 0 ∧ w = wr)
    case atStart => exact ⟨rfl, rfl, rfl⟩
    case round =>
      obtain ⟨rfl, rfl, rfl⟩ := hrel
      go_wp2_with fail
      refine (ins0_any _ _).mono ?_
      rintro e w' ⟨rfl, rfl⟩
      go_wp2
      go_end0
      exact ⟨rfl, ys, HO.out, List.Perm.refl _, Rise.short (by omega), Below.refl _ _⟩
  | some ad =>
    obtain ⟨g, rfl⟩ : ∃ g, ad = ⟨g, 0, none⟩ := by
      rcases HO.out.row.2 with ⟨hv, h0⟩ | ⟨g', cp, cur, hv, _⟩
      · cases hv
      · simp only [Value.slice.injEq, Option.some.injEq] at hv
        exact ⟨g', hv.1⟩
    go_enter Try.func58, Try.ntmps58
    go_wp2_with fail
    go_loopg [1, 2] 0 (fun gh av iv wr => av = .int .i64 0 ∧ iv = .int .i64 n ∧ w = wr)
    case atStart => exact ⟨rfl, rfl, rfl⟩
    case round =>
      obtain ⟨rfl, rfl, rfl⟩ := hrel
      go_wp2_with fail
      refine (ins_any base g n cap ys 0 n w HO.out (Nat.zero_le _) (Nat.le_refl _) (by omega)).mono ?_
      rintro e w' ⟨rfl, zs, h1, h2, h3, h4⟩
      have H1 := hid h1
      have H2 := hid h2
      have H3 := hid h3
      have H4 := hid h4
      clear h1 h2 h3 h4
      go_wp2
      go_end0
      exact ⟨rfl, zs, H1.out, H2.out.perm, H3.out, H4.out⟩
theorem sort12_any (aa : Option Addr) (base n cap : Nat) (ys : List Int) (w : World) (hO : Own w base 30 1 uC aa n cap ys) (hn : n ≤ 12) :
    Calls Try.prog 40 #[.slice aa n cap] w (SortR base aa n cap ys w) := by
  have hb : (n : Int) ≤ 12 := by omega
  have hb0 : (0 : Int) ≤ (n : Int) := by omega
  have HO := hid hO
  clear hO
  go_enter Try.func40, Try.ntmps40
  go_wp2_with fail
  refine (len_any _ _ (by omega) (by omega)).mono ?_
  rintro e w1 ⟨rfl, rfl⟩
  go_wp2_with fail
  refine (pdq12_any aa base n cap ys _ _ HO.out hn).mono ?_
  rintro e w' ⟨rfl, zs, h1, h2, h3, h4⟩
  have H1 := hid h1
  have H2 := hid h2
  have H3 := hid h3
  have H4 := hid h4
  clear h1 h2 h3 h4
  go_wp2
  go_end0
  exact ⟨rfl, zs, H1.out, H2.out, H3.out, H4.out⟩
end Go.Proofs.Ytjggjkmafcokjaa
