/- Filters that are there twice are reduced as if they were there once: the statement's walk. -/
import Derived.Test.YtclmbonippjhoaaAwake07
set_option linter.unusedVariables false
set_option linter.unusedSimpArgs false
namespace Go.Proofs.Ytclmbonippjhoaa
open Go.RowKit

theorem red_same {xs : List FV} (h : ∀ x, x ∈ xs → chkB x.ts = true) : red [] ((xs ++ xs).map (·.ts)) = red [] (xs.map (·.ts)) := by
  rw [List.map_append]
  refine red_twice fun f hf => ?_
  obtain ⟨x, hx, rfl⟩ := List.mem_map.1 hf
  exact (chk_ok (h x hx)).2
set_option maxRecDepth 100000 in
set_option maxHeartbeats 4000000 in
theorem twice07_any (la : Option Addr) (ln lc : Nat) (xs : List FV) (w : World) (hX : Flts w la ln lc xs) :
    Calls Try.prog 12 #[.slice la ln lc] w fun e w' => e = .returned (.bool true) ∧ Ext w w' := by
  obtain ⟨i0, hi, hz0, hz1, hz2⟩ := info_parts infoF
  obtain rfl := hX.sl.neq
  have hm := hX.sl.max
  have hl := hX.sl.len
  unfold maxLen at hm
  have HX := hid hX
  have I1 := hid hi
  have I2 := hid hz0
  have I3 := hid hz1
  have I4 := hid hz2
  clear hX hi hz0 hz1 hz2
  go_enter Try.func12, Try.ntmps12
  go_wp2_with fail
  refine (awake07_any w).mono ?_
  rintro e w1 ⟨rfl, hb⟩
  have hx1 := hid hb
  clear hb
  go_wp2_with fail
  refine (few07_any _ _ _ xs _ (HX.out.ext (by (repeat (first | exact Ext.refl _ | refine Ext.alloc ?_ _ | refine Ext.drewN ?_ _ | refine Ext.drew ?_ | refine Ext.trans ?_ (Hid.out (by assumption))))))).mono ?_
  rintro e w2 ⟨f1, rfl, hf, hb⟩
  have hx2 := hid hb
  have HF := hid hf
  clear hb hf
  cases f1
  · go_wp2
    go_ret
    refine ⟨rfl, ?_⟩
    (repeat (first | exact Ext.refl _ | refine Ext.alloc ?_ _ | refine Ext.drewN ?_ _ | refine Ext.drew ?_ | refine Ext.trans ?_ (Hid.out (by assumption))))
  have hlen : xs.length ≤ 12 := (HF.out rfl).1
  have HT := hid (HF.out rfl).2
  clear HF
  go_wp2_with fail
  refine (may_any _ _ _ xs _ (HX.out.ext (by (repeat (first | exact Ext.refl _ | refine Ext.alloc ?_ _ | refine Ext.drewN ?_ _ | refine Ext.drew ?_ | refine Ext.trans ?_ (Hid.out (by assumption))))))).mono ?_
  rintro e w3 ⟨f2, rfl, hf, hb⟩
  have hx3 := hid hb
  have HF := hid hf
  clear hb hf
  cases f2
  · go_wp2
    go_ret
    refine ⟨rfl, ?_⟩
    (repeat (first | exact Ext.refl _ | refine Ext.alloc ?_ _ | refine Ext.drewN ?_ _ | refine Ext.drew ?_ | refine Ext.trans ?_ (Hid.out (by assumption))))
  have HC := hid (HF.out rfl)
  clear HF
  go_wp2_with (first | (at_builtin; refine wpList_plain rfl fun KK hKK => ?_; refine wpOn (c := FV.cs) (ys0 := []) (ys := xs) (.tmp 15) (.tmp 16) 49 29 rfl i0 _ 24 Try.underlying49 I1.out I2.out I3.out I4.out rfl (by decide) rfl w3 (by (repeat (first | exact Ext.refl _ | refine Ext.alloc ?_ _ | refine Ext.drewN ?_ _ | refine Ext.drew ?_ | refine Ext.trans ?_ (Hid.out (by assumption))))) (Own.empty (by (repeat (first | (refine heap_new ?_; (simp; done)) | refine heap_old (by first | (simp; done) | (simp; omega)) ?_))) (by simp) FV.wid) rfl (HX.out.sl.ext (by (repeat (first | exact Ext.refl _ | refine Ext.alloc ?_ _ | refine Ext.drewN ?_ _ | refine Ext.drew ?_ | refine Ext.trans ?_ (Hid.out (by assumption)))))) FV.one (by omega) (by decide) ?_; intro b1 n1 cap1 w11 hn1 hown1 hy1 hg1; refine hKK _ _ ?_; have HN1 := hid hn1; have HO1 := hid hown1; have HY1 := hid hy1; clear hn1 hown1 hy1 hg1) | (at_builtin; refine wpList_plain rfl fun KK hKK => ?_; refine wpOn (c := FV.cs) (ys0 := xs) (ys := xs) (.tmp 17) (.tmp 18) 49 29 rfl i0 _ 24 Try.underlying49 I1.out I2.out I3.out I4.out rfl (by decide) rfl w3 (by (repeat (first | exact Ext.refl _ | refine Ext.alloc ?_ _ | refine Ext.drewN ?_ _ | refine Ext.drew ?_ | refine Ext.trans ?_ (Hid.out (by assumption))))) HO1.out rfl (HX.out.sl.ext (by (repeat (first | exact Ext.refl _ | refine Ext.alloc ?_ _ | refine Ext.drewN ?_ _ | refine Ext.drew ?_ | refine Ext.trans ?_ (Hid.out (by assumption)))))) FV.one (by (have := HN1.out; omega)) (by decide) ?_; intro b2 n2 cap2 w22 hn2 hown2 hy2 hg2; refine hKK _ _ ?_; have HN2 := hid hn2; have HO2 := hid hown2; have HY2 := hid hy2; clear hn2 hown2 hy2 hg2))
  have hn2 : n2 ≤ 1000 := by have h1 := HN1.out; have h2 := HN2.out; omega
  have HX2 : Hid (Flts w22 b2 n2 cap2 (xs ++ xs)) := ⟨HO2.out.sl, fun x hx => (HX.out.ts x ((List.mem_append.1 hx).elim id id)).ext (by (repeat (first | exact Ext.refl _ | refine Ext.alloc ?_ _ | refine Ext.drewN ?_ _ | refine Ext.drew ?_ | refine Ext.trans ?_ (Hid.out (by assumption)))))⟩
  refine (reduce_any _ _ _ (xs ++ xs) _ HX2.out hn2 (fun x hx => ?_)).mono ?_
  · rw [(HX2.out.ts x hx).neq]
    exact Nat.le_trans (HT.out x ((List.mem_append.1 hx).elim id id)) (by decide)
  rintro e w4 ⟨a4, n4, c4, y4, rfl, hown, hmap, hb⟩
  have HF4 := hid hown.flts
  have HM4 := hid hmap
  have hx4 := hid hb
  clear hb hown hmap
  go_wp2_with fail
  refine (reduce_any _ _ _ xs _ (HX.out.ext (by (repeat (first | exact Ext.refl _ | refine Ext.alloc ?_ _ | refine Ext.drewN ?_ _ | refine Ext.drew ?_ | refine Ext.trans ?_ (Hid.out (by assumption)))))) (by omega) (fun x hx => ?_)).mono ?_
  · rw [(HX.out.ts x hx).neq]
    exact Nat.le_trans (HT.out x hx) (by decide)
  rintro e w5 ⟨a5, n5, c5, y5, rfl, hown, hmap, hb⟩
  have HF5 := hid hown.flts
  have HM5 := hid hmap
  have hx5 := hid hb
  clear hb hown hmap
  go_wp2_with fail
  refine (same07_any _ _ _ _ _ _ y4 y5 _ (HF4.out.ext (by (repeat (first | exact Ext.refl _ | refine Ext.alloc ?_ _ | refine Ext.drewN ?_ _ | refine Ext.drew ?_ | refine Ext.trans ?_ (Hid.out (by assumption)))))) HF5.out (HM4.out.trans ((red_same HC.out).trans HM5.out.symm))).mono ?_
  rintro e w6 ⟨rfl, hb⟩
  have hx6 := hid hb
  clear hb
  go_wp2
  go_ret
  refine ⟨rfl, ?_⟩
  (repeat (first | exact Ext.refl _ | refine Ext.alloc ?_ _ | refine Ext.drewN ?_ _ | refine Ext.drew ?_ | refine Ext.trans ?_ (Hid.out (by assumption))))
end Go.Proofs.Ytclmbonippjhoaa
