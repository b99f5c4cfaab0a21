/- What is handed on of a list, from a place on: the walk of order's From. -/
import Derived.Test.YtncadipipomebaaOrdA
namespace Go.Proofs.Ytncadipipomebaa
open Go.RowKit
attribute [local go_sem ↓] Go.wp_at_zero Go.wp_at_succ

theorem Ents.part {w : World} {b o n cap : Nat} {ps : List EP} (h : Ents w (some ⟨b, o, none⟩) n cap ps) (k m : Nat) (hk : k + m ≤ n) : Ents w (some ⟨b, o + k * 8, none⟩) m (cap - k) ((ps.drop k).take m) :=
  ⟨⟨by rw [List.length_take, List.length_drop]; have := h.sl.neq; omega, by have := h.sl.len; omega, by have := h.sl.max; omega, (fun e => by cases e), h.sl.wid, fun j x hj => by
    rw [List.getElem?_take] at hj
    split at hj
    · rw [List.getElem?_drop] at hj
      obtain ⟨b', o', hb, hc⟩ := h.sl.at_ _ _ hj
      cases hb
      exact ⟨b, o + k * 8, rfl, by rw [show o + k * 8 + j * 8 = o + (k + j) * 8 from by omega]; exact hc⟩
    · cases hj⟩, fun p hp => h.is p (List.mem_of_mem_drop (List.mem_of_mem_take hp))⟩
theorem Ents.addr {w : World} {a : Option Addr} {n cap : Nat} {ps : List EP} (h : Ents w a n cap ps) (h0 : 0 < n) : ∃ b o, a = some ⟨b, o, none⟩ := by
  obtain ⟨b, o, hb, _⟩ := h.sl.get 0 (by rw [← h.sl.neq]; exact h0)
  exact ⟨b, o, hb⟩
set_option maxRecDepth 100000 in
set_option maxHeartbeats 4000000 in
theorem from19_any (la : Option Addr) (ln lc : Nat) (xs : List EP) (v : Nat) (w : World) (hX : Ents w la ln lc xs) (hsm : ∀ p, p ∈ xs → Small p.d) (hn2 : ln ≤ 1000000) :
    Calls Try.prog 34 #[.slice la ln lc, .int .u64 v] w (RetEO (((xs.drop v).take 4).map (·.d)) w) := by
  have hneq := hX.sl.neq
  have hm := hX.sl.max
  have hl := hX.sl.len
  unfold maxLen at hm
  by_cases hv : ln ≤ v
  · have hvi : (ln : Int) ≤ (v : Int) := by omega
    have e : (xs.drop v).take 4 = [] := by rw [List.drop_eq_nil_of_le (by omega)]; rfl
    rw [e]
    clear hX e hneq
    go_enter Try.func34, Try.ntmps34
    go_wp2
    go_ret
    exact ⟨none, 0, 0, [], rfl, Own.nil _ _ _ EP.wid, (fun p hp => by cases hp), rfl, (by (repeat (first | exact Ext.refl _ | refine Ext.alloc ?_ _ | refine Ext.drewN ?_ _ | refine Ext.drew ?_ | refine Ext.trans ?_ (Hid.out (by assumption)))))⟩
  · have hvi : ¬ (ln : Int) ≤ (v : Int) := by omega
    obtain ⟨b, o, rfl⟩ := hX.addr (by omega)
    have HX := hid hX
    have HN := hid hneq
    have HSM := hid hsm
    clear hX hneq hsm
    by_cases h4 : ln - v ≤ 4
    · have h4i : ((ln - v : Nat) : Int) ≤ 4 := by omega
      have e : (xs.drop v).take 4 = (xs.drop v).take (ln - v) := by
        have := HN.out
        rw [List.take_of_length_le (by rw [List.length_drop]; omega), List.take_of_length_le (by rw [List.length_drop]; omega)]
      rw [e]
      clear e
      go_enter Try.func34, Try.ntmps34
      go_wp2_with (go_at_call 53; refine (copied19_any _ _ _ ((xs.drop v).take (ln - v)) _ (HX.out.part v (ln - v) (by omega)) (fun p hp => HSM.out p (List.mem_of_mem_drop (List.mem_of_mem_take hp))) (by omega)).mono ?_; rintro e w' ⟨aa, n, c, ps, rfl, h1, h2, h3, h4⟩; have H1 := hid h1; have H2 := hid h2; have H3 := hid h3; have H4 := hid h4; clear h1 h2 h3 h4)
      go_ret
      exact ⟨aa, n, c, ps, rfl, H1.out, H2.out, H3.out, H4.out⟩
    · have h4i : ¬ ((ln - v : Nat) : Int) ≤ 4 := by omega
      go_enter Try.func34, Try.ntmps34
      go_wp2_with (go_at_call 53; refine (copied19_any _ _ _ ((xs.drop v).take 4) _ (HX.out.part v 4 (by omega)) (fun p hp => HSM.out p (List.mem_of_mem_drop (List.mem_of_mem_take hp))) (by omega)).mono ?_; rintro e w' ⟨aa, n, c, ps, rfl, h1, h2, h3, h4⟩; have H1 := hid h1; have H2 := hid h2; have H3 := hid h3; have H4 := hid h4; clear h1 h2 h3 h4)
      go_ret
      exact ⟨aa, n, c, ps, rfl, H1.out, H2.out, H3.out, H4.out⟩
end Go.Proofs.Ytncadipipomebaa
