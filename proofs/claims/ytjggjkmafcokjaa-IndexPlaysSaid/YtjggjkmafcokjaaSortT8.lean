/- The library's sort of at most a thousand numbers; the index's matching over it. -/
import Derived.Test.YtjggjkmafcokjaaPdq8
import Derived.Test.YtjggjkmafcokjaaMatch8
set_option linter.unusedVariables false
set_option linter.unusedSimpArgs false
namespace Go.Proofs.Ytjggjkmafcokjaa
open Go.RowKit

theorem sort_any (aa : Option Addr) (base n cap : Nat) (ys : List Int) (w : World) (hO : Own w base 30 1 uC aa n cap ys) (hn : n ≤ 1000) :
    Calls Try.prog 40 #[.slice aa n cap] w (SortR base aa n cap ys w) := by
  cases aa with
  | none =>
    have h1 := hO.sl.none rfl
    have h2 := hO.sl.len
    exact sort12_any none base n cap ys w hO (by omega)
  | some ad =>
    obtain ⟨g, rfl⟩ : ∃ g, ad = ⟨g, 0, none⟩ := by
      rcases hO.row.2 with ⟨hv, h0⟩ | ⟨g', cp, cur, hv, _⟩
      · cases hv
      · simp only [Value.slice.injEq, Option.some.injEq] at hv
        exact ⟨g', hv.1⟩
    obtain ⟨k, hk⟩ : ∃ k, k = Lib.bitLen n := ⟨_, rfl⟩
    have hk1 : k ≤ 100 := by
      rw [hk]
      have : ∀ x : _root_.Fin 1001, Lib.bitLen x.val ≤ 100 := by decide +kernel
      exact this ⟨n, by omega⟩
    have hLen : ∀ w, Calls Try.prog 59 #[.int .u64 (n : Int)] w fun e w' => e = .returned (.int .i64 k) ∧ w' = w := fun w => by
      have h := len_any (n : Int) w (by omega) (by omega)
      rwa [Int.toNat_natCast, ← hk] at h
    clear hk
    have hb : (n : Int) ≤ 1000 := by omega
    have hb0 : (0 : Int) ≤ (n : Int) := by omega
    have HO := hid hO
    clear hO
    go_enter Try.func40, Try.ntmps40
    go_wp2_with fail
    refine (hLen _).mono ?_
    rintro e w1 ⟨rfl, rfl⟩
    go_wp2_with fail
    refine (pdq_any base g n cap hn (n + 1) 0 n k ys _ (by omega) HO.out (Nat.zero_le _) (Nat.le_refl _) hk1 (.inl rfl)).mono ?_
    rintro e w' ⟨rfl, zs, h1, h2, h3, h4⟩
    have H1 := hid h1
    have H2 := hid h2.perm
    have H3 := hid h3
    have H4 := hid h4
    clear h1 h2 h3 h4
    go_wp2
    go_end0
    exact ⟨rfl, zs, H1.out, H2.out, H3.out, H4.out⟩
theorem sorted_any (Bm b nn s : Nat) (f : Lit → Option Value) (w : World) (hm : w.cell? ⟨Bm, 0, none⟩ = some (.map (some b))) (hF : MapF w Try.prog 30 b nn s f) (hs : s ≤ 1000) :
    Calls Try.prog 32 #[(.func (.func 41) #[] #[.pointer (some ⟨Bm, 0, none⟩)])] w (RetSorted f w) := by
  obtain ⟨D, hown, rfl, rfl⟩ := hF
  have HG := hid (get_some hown)
  have HM := hid hm
  have HO := hid hown
  clear hm hown
  go_enter Try.func32, Try.ntmps32
  go_wp2_with fail
  refine (collect_any Bm b nn D _ HM.out HO.out (by omega)).mono ?_
  rintro e w1 ⟨aa, n, cap, ss, rfl, h1, h2, h3⟩
  have hn : n ≤ 1000 := by have := h1.neq; have := h2.2.1; omega
  have H1 := hid h1
  have H2 := hid h2
  have H3 := hid h3
  clear h1 h2 h3
  go_wp2_with fail
  refine (sort_any aa w.heap.size n cap ss _ H1.out hn).mono ?_
  rintro e w2 ⟨rfl, zs, h1, h2, h3, h4⟩
  have H4 := hid h1
  have H5 := hid h2
  have H6 := hid h3
  have H7 := hid h4
  clear h1 h2 h3 h4
  go_wp2
  go_ret
  exact ⟨aa, n, cap, zs, rfl, H4.out, ⟨(List.Perm.nodup_iff H5.out).2 H2.out.1, H6.out, fun x => by rw [H5.out.mem_iff, H2.out.2.2 x, HG.out]⟩, H3.out.trans H7.out⟩
theorem sortedTo1000 : SortedTo 1000 := fun Bm b nn s f w h1 h2 h3 => sorted_any Bm b nn s f w h1 h2 h3
end Go.Proofs.Ytjggjkmafcokjaa
