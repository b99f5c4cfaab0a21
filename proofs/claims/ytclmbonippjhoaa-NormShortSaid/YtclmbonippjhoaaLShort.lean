/- A norm's norm is it, no test of it implies another one, and the order of a filter's tests does not matter: the statement's walk. -/
import Derived.Test.YtclmbonippjhoaaLThere
import Derived.Test.YtclmbonippjhoaaCutSl
import Derived.Test.YtclmbonippjhoaaTurn
import Derived.Deep.DeepCutAuto
set_option linter.unusedVariables false
set_option linter.unusedSimpArgs false
namespace Go.Proofs.Ytclmbonippjhoaa
open Go.RowKit

set_option maxRecDepth 100000 in
set_option maxHeartbeats 20000000 in
theorem short06_any (fa : Option Addr) (fn fc : Nat) (fs : List T) (y : Int) (w : World) (hF : Sl w 5 T.cs fa fn fc fs) (hwf : (Lit.int .i64 y).wf = true) :
    Calls Try.prog 4 #[.slice fa fn fc, .int .i64 y] w fun e w' => e = .returned (.bool true) ∧ Ext w w' := by
  obtain ⟨i0, hi, hz0, hz1, hz2⟩ := info_parts infoT
  have hy1 : -9223372036854775808 ≤ y := by simp [Lit.wf, show IntKind.i64.min = -9223372036854775808 from rfl] at hwf; omega
  have hy2 : y ≤ 9223372036854775807 := by simp [Lit.wf, show IntKind.i64.max = 9223372036854775807 from rfl] at hwf; omega
  obtain rfl := hF.neq
  have hm := hF.max
  have hl := hF.len
  unfold maxLen at hm
  have HF := hid hF
  have I1 := hid hi
  have I2 := hid hz0
  have I3 := hid hz1
  have I4 := hid hz2
  clear hF hwf hi hz0 hz1 hz2
  go_enter Try.func4, Try.ntmps4
  go_wp2_with fail
  refine (awake06_any w).mono ?_
  rintro e w1 ⟨rfl, hb⟩
  have hx1 := hid hb
  clear hb
  go_wp2_with fail
  refine (few05_any _ _ _ fs _ (HF.out.ext (by (repeat (first | exact Ext.refl _ | refine Ext.alloc ?_ _ | refine Ext.drewN ?_ _ | refine Ext.drew ?_ | refine Ext.trans ?_ (Hid.out (by assumption))))))).mono ?_
  rintro e w2 ⟨f1, rfl, hf, hb⟩
  have hx2 := hid hb
  have HFW := hid hf
  clear hb hf
  cases f1
  · skip
    go_wp2
    go_ret
    refine ⟨rfl, ?_⟩
    (repeat (first | exact Ext.refl _ | refine Ext.alloc ?_ _ | refine Ext.drewN ?_ _ | refine Ext.drew ?_ | refine Ext.trans ?_ (Hid.out (by assumption))))
  have hlen : fs.length ≤ 10 := HFW.out rfl
  clear HFW
  go_wp2_with fail
  refine (chkF_any _ _ _ fs _ (HF.out.ext (by (repeat (first | exact Ext.refl _ | refine Ext.alloc ?_ _ | refine Ext.drewN ?_ _ | refine Ext.drew ?_ | refine Ext.trans ?_ (Hid.out (by assumption))))))).mono ?_
  rintro e w3 ⟨rfl, hb⟩
  have hx3 := hid hb
  clear hb
  cases hck : chkB fs with
  | false =>
    have h0 : errF false = 50 := rfl
    rw [h0]
    clear h0 hck
    go_wp2
    go_ret
    refine ⟨rfl, ?_⟩
    (repeat (first | exact Ext.refl _ | refine Ext.alloc ?_ _ | refine Ext.drewN ?_ _ | refine Ext.drew ?_ | refine Ext.trans ?_ (Hid.out (by assumption))))
  | true =>
    have h0 : errF true = 0 := rfl
    rw [h0]
    have HOK := hid (chk_ok hck).2
    clear h0 hck
    go_upto_if 23 with (fail)
    go_cut [1] (fun v wx => ∃ z : Int, v = .int .i64 z ∧ 0 ≤ z ∧ z ≤ 9223372036854775807 ∧ w3 = wx)
    case first =>
      by_cases hneg : y < 0
      · go_wp2_with fail
        go_meet
        exact ⟨-(y + 1), by go_num, by omega, by omega, rfl⟩
      · go_wp2_with fail
        go_meet
        exact ⟨y, rfl, by omega, by omega, rfl⟩
    case rest =>
      obtain ⟨z, rfl, hz0, hz9, rfl⟩ := hcut
      obtain ⟨k, hk⟩ : ∃ k : Nat, z % ((fs.length : Int) + 1) = (k : Int) := ⟨(z % ((fs.length : Int) + 1)).toNat, by have := Int.emod_nonneg z (b := (fs.length : Int) + 1) (by omega); omega⟩
      have hkl : k ≤ fs.length := by have := Int.emod_lt_of_pos z (b := (fs.length : Int) + 1) (by omega); omega
      have HK := hid hkl
      go_upto_region 7 with (fail)
      rw [hk]
      clear hk
      go_cut [6, 29, 30, 31, 1] (fun v _ _ _ _ wx => ∃ aa n c, v = .slice aa n c ∧ Hid (Sl wx 5 T.cs aa n c (fs.drop k ++ fs.take k)) ∧ n ≤ 10 ∧ Hid (Ext w3 wx))
      case first =>
        have hkz : (0 : Int) ≤ (k : Int) := by omega
        have hkc : (k : Int) ≤ (fc : Int) := by omega
        have hki : (k : Int) ≤ (fs.length : Int) := by omega
        cases fa with
        | none =>
          have hc0 : fc = 0 := HF.out.none rfl
          subst hc0
          obtain rfl : k = 0 := by omega
          have hx0 : fs = [] := List.eq_nil_of_length_eq_zero (by omega)
          subst hx0
          clear hl hki
          go_region_held3 (fun _ => True) (first | trivial | go_keep) (first | (refine stepOn2 (c := T.cs) (ys0 := []) (ys := ([] : List T).drop 0) rfl (.tmp 32) (.tmp 35) 28 29 25 25 rfl Try.underlying29 i0 _ 56 Try.underlying28 I1.out I2.out I3.out I4.out rfl (by decide) rfl w3 (by (repeat (first | exact Ext.refl _ | refine Ext.alloc ?_ _ | refine Ext.drewN ?_ _ | refine Ext.drew ?_ | refine Ext.trans ?_ (Hid.out (by assumption))))) (Own.empty (by (repeat (first | (refine heap_new ?_; (simp; done)) | refine heap_old (by first | (simp; done) | (simp; omega)) ?_))) (by simp) T.wid) rfl (Sl.nil _ T.wid) T.one (by omega) (by decide) ?_; intro bb n1 cap1 w16 hn1 hown1 hx hg1; have HO1 := hid hown1; have hy := hid hx; have HG1 := hid hg1; have Hn1 := hid hn1; clear hown1 hx hg1 hn1) | (refine stepOn2 (c := T.cs) (ys0 := [] ++ ([] : List T).drop 0) (ys := ([] : List T).take 0) rfl (.tmp 36) (.tmp 39) 28 29 25 25 rfl Try.underlying29 i0 _ 56 Try.underlying28 I1.out I2.out I3.out I4.out rfl (by decide) rfl w3 (by (repeat (first | exact Ext.refl _ | refine Ext.alloc ?_ _ | refine Ext.drewN ?_ _ | refine Ext.drew ?_ | refine Ext.trans ?_ (Hid.out (by assumption))))) (HO1.out.ext (by (repeat (first | exact Ext.refl _ | refine Ext.alloc ?_ _ | refine Ext.drewN ?_ _ | refine Ext.drew ?_ | refine Ext.trans ?_ (Hid.out (by assumption)))))) rfl ((HF.out.take 0 HK.out).ext (by (repeat (first | exact Ext.refl _ | refine Ext.alloc ?_ _ | refine Ext.drewN ?_ _ | refine Ext.drew ?_ | refine Ext.trans ?_ (Hid.out (by assumption)))))) T.one (by have := Hn1.out; omega) (by decide) ?_; intro bb2 n2 cap2 w17 hn2 hown2 hx hg2; have HO2 : Hid (Own w17 w3.heap.size 25 5 T.cs bb2 n2 cap2 (([] : List T).drop 0 ++ ([] : List T).take 0)) := hid hown2; have hy2 := hid hx; have Hn2 := hid hn2; clear hown2 hx hg2 hn2))
          all_goals
            go_wp2_with fail
            go_meet
            exact ⟨_, _, _, rfl, HO2.out.sl, (by have := Hn1.out; have := Hn2.out; omega), (by (repeat (first | exact Ext.refl _ | refine Ext.alloc ?_ _ | refine Ext.drewN ?_ _ | refine Ext.drew ?_ | refine Ext.trans ?_ (Hid.out (by assumption)))))⟩
        | some ad =>
          by_cases h0 : 0 < fs.length
          · obtain ⟨b, o, ha, _⟩ := HF.out.get 0 h0
            simp only [Option.some.injEq] at ha
            subst ha
            have hlc0 : 0 < fc := by omega
            have hlc1 : ¬ fc = 0 := by omega
            have hkN : k ≤ fc := by omega
            by_cases hkc2 : k = fc
            · obtain rfl : k = fc := hkc2
              have HD : Hid (fs.drop k = []) := List.drop_eq_nil_of_le (by omega)
              go_region_held3 (fun _ => True) (first | trivial | go_keep) (first | (refine stepOn2 (c := T.cs) (ys0 := []) (ys := fs.drop k) rfl (.tmp 32) (.tmp 35) 28 29 25 25 rfl Try.underlying29 i0 _ 56 Try.underlying28 I1.out I2.out I3.out I4.out rfl (by decide) rfl w3 (by (repeat (first | exact Ext.refl _ | refine Ext.alloc ?_ _ | refine Ext.drewN ?_ _ | refine Ext.drew ?_ | refine Ext.trans ?_ (Hid.out (by assumption))))) (Own.empty (by (repeat (first | (refine heap_new ?_; (simp; done)) | refine heap_old (by first | (simp; done) | (simp; omega)) ?_))) (by simp) T.wid) rfl (by rw [HD.out]; exact Sl.zeroT (by omega) (by simp only [maxLen]; omega)) T.one (by omega) (by decide) ?_; intro bb n1 cap1 w16 hn1 hown1 hx hg1; have HO1 := hid hown1; have hy := hid hx; have HG1 := hid hg1; have Hn1 := hid hn1; clear hown1 hx hg1 hn1) | (refine stepOn2 (c := T.cs) (ys0 := [] ++ fs.drop k) (ys := fs.take k) rfl (.tmp 36) (.tmp 39) 28 29 25 25 rfl Try.underlying29 i0 _ 56 Try.underlying28 I1.out I2.out I3.out I4.out rfl (by decide) rfl w3 (by (repeat (first | exact Ext.refl _ | refine Ext.alloc ?_ _ | refine Ext.drewN ?_ _ | refine Ext.drew ?_ | refine Ext.trans ?_ (Hid.out (by assumption))))) (HO1.out.ext (by (repeat (first | exact Ext.refl _ | refine Ext.alloc ?_ _ | refine Ext.drewN ?_ _ | refine Ext.drew ?_ | refine Ext.trans ?_ (Hid.out (by assumption)))))) rfl ((HF.out.take k HK.out).ext (by (repeat (first | exact Ext.refl _ | refine Ext.alloc ?_ _ | refine Ext.drewN ?_ _ | refine Ext.drew ?_ | refine Ext.trans ?_ (Hid.out (by assumption)))))) T.one (by have := Hn1.out; omega) (by decide) ?_; intro bb2 n2 cap2 w17 hn2 hown2 hx hg2; have HO2 : Hid (Own w17 w3.heap.size 25 5 T.cs bb2 n2 cap2 (fs.drop k ++ fs.take k)) := hid hown2; have hy2 := hid hx; have Hn2 := hid hn2; clear hown2 hx hg2 hn2))
              all_goals
                go_wp2_with fail
                go_meet
                exact ⟨_, _, _, rfl, HO2.out.sl, (by have := Hn1.out; have := Hn2.out; omega), (by (repeat (first | exact Ext.refl _ | refine Ext.alloc ?_ _ | refine Ext.drewN ?_ _ | refine Ext.drew ?_ | refine Ext.trans ?_ (Hid.out (by assumption)))))⟩
            · have hkl2 : k < fc := by omega
              have hne : ¬ fc = k := by omega
              go_region_held3 (fun _ => True) (first | trivial | go_keep) (first | (refine stepOn2 (c := T.cs) (ys0 := []) (ys := fs.drop k) rfl (.tmp 32) (.tmp 35) 28 29 25 25 rfl Try.underlying29 i0 _ 56 Try.underlying28 I1.out I2.out I3.out I4.out rfl (by decide) rfl w3 (by (repeat (first | exact Ext.refl _ | refine Ext.alloc ?_ _ | refine Ext.drewN ?_ _ | refine Ext.drew ?_ | refine Ext.trans ?_ (Hid.out (by assumption))))) (Own.empty (by (repeat (first | (refine heap_new ?_; (simp; done)) | refine heap_old (by first | (simp; done) | (simp; omega)) ?_))) (by simp) T.wid) rfl ((HF.out.drop k HK.out).ext (by (repeat (first | exact Ext.refl _ | refine Ext.alloc ?_ _ | refine Ext.drewN ?_ _ | refine Ext.drew ?_ | refine Ext.trans ?_ (Hid.out (by assumption)))))) T.one (by omega) (by decide) ?_; intro bb n1 cap1 w16 hn1 hown1 hx hg1; have HO1 := hid hown1; have hy := hid hx; have HG1 := hid hg1; have Hn1 := hid hn1; clear hown1 hx hg1 hn1) | (refine stepOn2 (c := T.cs) (ys0 := [] ++ fs.drop k) (ys := fs.take k) rfl (.tmp 36) (.tmp 39) 28 29 25 25 rfl Try.underlying29 i0 _ 56 Try.underlying28 I1.out I2.out I3.out I4.out rfl (by decide) rfl w3 (by (repeat (first | exact Ext.refl _ | refine Ext.alloc ?_ _ | refine Ext.drewN ?_ _ | refine Ext.drew ?_ | refine Ext.trans ?_ (Hid.out (by assumption))))) (HO1.out.ext (by (repeat (first | exact Ext.refl _ | refine Ext.alloc ?_ _ | refine Ext.drewN ?_ _ | refine Ext.drew ?_ | refine Ext.trans ?_ (Hid.out (by assumption)))))) rfl ((HF.out.take k HK.out).ext (by (repeat (first | exact Ext.refl _ | refine Ext.alloc ?_ _ | refine Ext.drewN ?_ _ | refine Ext.drew ?_ | refine Ext.trans ?_ (Hid.out (by assumption)))))) T.one (by have := Hn1.out; omega) (by decide) ?_; intro bb2 n2 cap2 w17 hn2 hown2 hx hg2; have HO2 : Hid (Own w17 w3.heap.size 25 5 T.cs bb2 n2 cap2 (fs.drop k ++ fs.take k)) := hid hown2; have hy2 := hid hx; have Hn2 := hid hn2; clear hown2 hx hg2 hn2))
              all_goals
                go_wp2_with fail
                go_meet
                exact ⟨_, _, _, rfl, HO2.out.sl, (by have := Hn1.out; have := Hn2.out; omega), (by (repeat (first | exact Ext.refl _ | refine Ext.alloc ?_ _ | refine Ext.drewN ?_ _ | refine Ext.drew ?_ | refine Ext.trans ?_ (Hid.out (by assumption)))))⟩
          · have hx0 : fs = [] := List.eq_nil_of_length_eq_zero (by omega)
            obtain rfl : k = 0 := by omega
            subst hx0
            clear hl hki h0
            by_cases hlc : 0 < fc
            · skip
              go_region_held3 (fun _ => True) (first | trivial | go_keep) (first | (refine stepOn2 (c := T.cs) (ys0 := []) (ys := ([] : List T).drop 0) rfl (.tmp 32) (.tmp 35) 28 29 25 25 rfl Try.underlying29 i0 _ 56 Try.underlying28 I1.out I2.out I3.out I4.out rfl (by decide) rfl w3 (by (repeat (first | exact Ext.refl _ | refine Ext.alloc ?_ _ | refine Ext.drewN ?_ _ | refine Ext.drew ?_ | refine Ext.trans ?_ (Hid.out (by assumption))))) (Own.empty (by (repeat (first | (refine heap_new ?_; (simp; done)) | refine heap_old (by first | (simp; done) | (simp; omega)) ?_))) (by simp) T.wid) rfl (Sl.zeroT (by simp) (by simp only [maxLen]; omega)) T.one (by omega) (by decide) ?_; intro bb n1 cap1 w16 hn1 hown1 hx hg1; have HO1 := hid hown1; have hy := hid hx; have HG1 := hid hg1; have Hn1 := hid hn1; clear hown1 hx hg1 hn1) | (refine stepOn2 (c := T.cs) (ys0 := [] ++ ([] : List T).drop 0) (ys := ([] : List T).take 0) rfl (.tmp 36) (.tmp 39) 28 29 25 25 rfl Try.underlying29 i0 _ 56 Try.underlying28 I1.out I2.out I3.out I4.out rfl (by decide) rfl w3 (by (repeat (first | exact Ext.refl _ | refine Ext.alloc ?_ _ | refine Ext.drewN ?_ _ | refine Ext.drew ?_ | refine Ext.trans ?_ (Hid.out (by assumption))))) (HO1.out.ext (by (repeat (first | exact Ext.refl _ | refine Ext.alloc ?_ _ | refine Ext.drewN ?_ _ | refine Ext.drew ?_ | refine Ext.trans ?_ (Hid.out (by assumption)))))) rfl ((HF.out.take 0 HK.out).ext (by (repeat (first | exact Ext.refl _ | refine Ext.alloc ?_ _ | refine Ext.drewN ?_ _ | refine Ext.drew ?_ | refine Ext.trans ?_ (Hid.out (by assumption)))))) T.one (by have := Hn1.out; omega) (by decide) ?_; intro bb2 n2 cap2 w17 hn2 hown2 hx hg2; have HO2 : Hid (Own w17 w3.heap.size 25 5 T.cs bb2 n2 cap2 (([] : List T).drop 0 ++ ([] : List T).take 0)) := hid hown2; have hy2 := hid hx; have Hn2 := hid hn2; clear hown2 hx hg2 hn2))
              all_goals
                go_wp2_with fail
                go_meet
                exact ⟨_, _, _, rfl, HO2.out.sl, (by have := Hn1.out; have := Hn2.out; omega), (by (repeat (first | exact Ext.refl _ | refine Ext.alloc ?_ _ | refine Ext.drewN ?_ _ | refine Ext.drew ?_ | refine Ext.trans ?_ (Hid.out (by assumption)))))⟩
            · obtain rfl : fc = 0 := by omega
              clear hlc
              go_region_held3 (fun _ => True) (first | trivial | go_keep) (first | (refine stepOn2 (c := T.cs) (ys0 := []) (ys := ([] : List T).drop 0) rfl (.tmp 32) (.tmp 35) 28 29 25 25 rfl Try.underlying29 i0 _ 56 Try.underlying28 I1.out I2.out I3.out I4.out rfl (by decide) rfl w3 (by (repeat (first | exact Ext.refl _ | refine Ext.alloc ?_ _ | refine Ext.drewN ?_ _ | refine Ext.drew ?_ | refine Ext.trans ?_ (Hid.out (by assumption))))) (Own.empty (by (repeat (first | (refine heap_new ?_; (simp; done)) | refine heap_old (by first | (simp; done) | (simp; omega)) ?_))) (by simp) T.wid) rfl (Sl.zeroT (by simp) (by simp only [maxLen]; omega)) T.one (by omega) (by decide) ?_; intro bb n1 cap1 w16 hn1 hown1 hx hg1; have HO1 := hid hown1; have hy := hid hx; have HG1 := hid hg1; have Hn1 := hid hn1; clear hown1 hx hg1 hn1) | (refine stepOn2 (c := T.cs) (ys0 := [] ++ ([] : List T).drop 0) (ys := ([] : List T).take 0) rfl (.tmp 36) (.tmp 39) 28 29 25 25 rfl Try.underlying29 i0 _ 56 Try.underlying28 I1.out I2.out I3.out I4.out rfl (by decide) rfl w3 (by (repeat (first | exact Ext.refl _ | refine Ext.alloc ?_ _ | refine Ext.drewN ?_ _ | refine Ext.drew ?_ | refine Ext.trans ?_ (Hid.out (by assumption))))) (HO1.out.ext (by (repeat (first | exact Ext.refl _ | refine Ext.alloc ?_ _ | refine Ext.drewN ?_ _ | refine Ext.drew ?_ | refine Ext.trans ?_ (Hid.out (by assumption)))))) rfl ((HF.out.take 0 HK.out).ext (by (repeat (first | exact Ext.refl _ | refine Ext.alloc ?_ _ | refine Ext.drewN ?_ _ | refine Ext.drew ?_ | refine Ext.trans ?_ (Hid.out (by assumption)))))) T.one (by have := Hn1.out; omega) (by decide) ?_; intro bb2 n2 cap2 w17 hn2 hown2 hx hg2; have HO2 : Hid (Own w17 w3.heap.size 25 5 T.cs bb2 n2 cap2 (([] : List T).drop 0 ++ ([] : List T).take 0)) := hid hown2; have hy2 := hid hx; have Hn2 := hid hn2; clear hown2 hx hg2 hn2))
              all_goals
                go_wp2_with fail
                go_meet
                exact ⟨_, _, _, rfl, HO2.out.sl, (by have := Hn1.out; have := Hn2.out; omega), (by (repeat (first | exact Ext.refl _ | refine Ext.alloc ?_ _ | refine Ext.drewN ?_ _ | refine Ext.drew ?_ | refine Ext.trans ?_ (Hid.out (by assumption)))))⟩
      case rest =>
        obtain ⟨aa, n, c, rfl, hall, hn10, hxa⟩ := hcut
        go_wp2_with fail
        refine (norm_any _ _ _ fs _ (HF.out.ext (by (repeat (first | exact Ext.refl _ | refine Ext.alloc ?_ _ | refine Ext.drewN ?_ _ | refine Ext.drew ?_ | refine Ext.trans ?_ (Hid.out (by assumption)))))) hlen).mono ?_
        rintro e w6 ⟨na, nn, nc, rfl, hown, hb⟩
        have HN := hid hown.sl
        have hx6 := hid hb
        clear hown hb
        have HAG := hid (norm_again fs)
        have HPE := hid (norm_perm (turn_perm fs k))
        have HPR := hid (fun (i j : Nat) (hi : i < (normT fs).length) (hj : j < (normT fs).length) (hne : i ≠ j) => norm_pair HOK.out hi hj hne)
        have hnl := norm_len fs
        generalize normT fs = N at HN HAG HPE HPR hnl
        obtain rfl := HN.out.neq
        have hnm := HN.out.max
        have hnc := HN.out.len
        unfold maxLen at hnm
        go_wp2_with fail
        refine (norm_any _ _ _ N _ (HN.out.ext (by (repeat (first | exact Ext.refl _ | refine Ext.alloc ?_ _ | refine Ext.drewN ?_ _ | refine Ext.drew ?_ | refine Ext.trans ?_ (Hid.out (by assumption)))))) (by omega)).mono ?_
        rintro e w7 ⟨ma, mn, mc, rfl, hown, hb⟩
        rw [HAG.out] at hown
        have HM := hid hown.sl
        have hx7 := hid hb
        clear hown hb
        go_wp2_with fail
        refine (same05_any _ _ _ _ _ _ N _ (HM.out.ext (by (repeat (first | exact Ext.refl _ | refine Ext.alloc ?_ _ | refine Ext.drewN ?_ _ | refine Ext.drew ?_ | refine Ext.trans ?_ (Hid.out (by assumption)))))) (HN.out.ext (by (repeat (first | exact Ext.refl _ | refine Ext.alloc ?_ _ | refine Ext.drewN ?_ _ | refine Ext.drew ?_ | refine Ext.trans ?_ (Hid.out (by assumption))))))).mono ?_
        rintro e w8 ⟨rfl, hb⟩
        have hx8 := hid hb
        clear hb
        go_wp2_with fail
        refine (norm_any _ _ _ (fs.drop k ++ fs.take k) _ (hall.out.ext (by (repeat (first | exact Ext.refl _ | refine Ext.alloc ?_ _ | refine Ext.drewN ?_ _ | refine Ext.drew ?_ | refine Ext.trans ?_ (Hid.out (by assumption)))))) hn10).mono ?_
        rintro e w9 ⟨oa, on, oc, rfl, hown, hb⟩
        rw [HPE.out] at hown
        have HO := hid hown.sl
        have hx9 := hid hb
        clear hown hb
        go_wp2_with fail
        refine (same05_any _ _ _ _ _ _ N _ (HO.out.ext (by (repeat (first | exact Ext.refl _ | refine Ext.alloc ?_ _ | refine Ext.drewN ?_ _ | refine Ext.drew ?_ | refine Ext.trans ?_ (Hid.out (by assumption)))))) (HN.out.ext (by (repeat (first | exact Ext.refl _ | refine Ext.alloc ?_ _ | refine Ext.drewN ?_ _ | refine Ext.drew ?_ | refine Ext.trans ?_ (Hid.out (by assumption))))))).mono ?_
        rintro e w10 ⟨rfl, hb⟩
        have hx10 := hid hb
        clear hb
        go_wp2_with fail
        go_loopg [10, 11] (N.length) (fun g st _ wr => ∃ i : Nat, g + i = N.length ∧ st = .int .i64 i ∧ Hid (Ext w10 wr))
        case atStart => exact ⟨0, by omega, rfl, Ext.refl _⟩
        case round =>
          obtain ⟨i, hg, rfl, hx⟩ := hrel
          obtain ⟨G, hG⟩ : ∃ G, G = gk := ⟨_, rfl⟩
          by_cases hi : i < N.length
          · obtain ⟨b, o, rfl, hc⟩ := HN.out.get i hi
            have HC1 := hid hc
            clear hc
            have b0 : (0 : Int) ≤ (i : Int) := by omega
            have b1 : (i : Int) < (N.length : Int) := by omega
            go_wp2_with fail
            go_loopg [11] (N.length) (fun g st wl => ∃ j : Nat, g + j = N.length ∧ st = .int .i64 j ∧ Hid (Ext wr wl))
            case atStart => exact ⟨0, by omega, rfl, Ext.refl _⟩
            case round =>
              obtain ⟨j, hg2, rfl, hy0⟩ := hrel
              rename World => wl
              by_cases hj : j < N.length
              · obtain ⟨b', o', hbo, hc'⟩ := HN.out.get j hj
                simp only [Option.some.injEq, Addr.mk.injEq, and_true] at hbo
                obtain ⟨rfl, rfl⟩ := hbo
                have hE : Ext w6 wl := (by (repeat (first | exact Ext.refl _ | refine Ext.alloc ?_ _ | refine Ext.drewN ?_ _ | refine Ext.drew ?_ | refine Ext.trans ?_ (Hid.out (by assumption)))))
                obtain ⟨c0, c1, c2, c3, c4⟩ := cellsT (w := wl) (b := b) (o := o + i * 5) (x := N[i]) (fun q v hq => hE.keep (HC1.out q v hq))
                obtain ⟨d0, d1, d2, d3, d4⟩ := cellsT (w := wl) (b := b) (o := o + j * 5) (x := N[j]) (fun q v hq => hE.keep (hc' q v hq))
                replace c0 := ExtBy.cell c0
                replace c1 := ExtBy.cell c1
                replace c2 := ExtBy.cell c2
                replace c3 := ExtBy.cell c3
                replace c4 := ExtBy.cell c4
                replace d0 := ExtBy.cell d0
                replace d1 := ExtBy.cell d1
                replace d2 := ExtBy.cell d2
                replace d3 := ExtBy.cell d3
                replace d4 := ExtBy.cell d4
                clear hc' hE
                have e0 : (0 : Int) ≤ (j : Int) := by omega
                have e1 : (j : Int) < (N.length : Int) := by omega
                by_cases hij : i = j
                · have hd : ((i : Int) != (j : Int)) = false := by simp [hij]
                  have hd2 : decide ((i : Int) < (j : Int)) = false := by simp [hij]
                  have hd3 : decide (i < j) = false := by simp [hij]
                  clear hij
                  go_wp2_with fail
                  refine wp_region_quiet_ext (by kernel_rfl) (by kernel_rfl) ?_
                  repeat (first | go_big_quiet_step ((fail)) | quiet_step ((fail)))
                  refine wpQuiet_nil ?_
                  intro _ hw'
                  obtain ⟨pe, hw''⟩ := hw'
                  subst hw''
                  obtain ⟨wq, hwq⟩ := pe
                  dsimp only
                  have hxq := hid hwq
                  clear hwq
                  go_wp2
                  go_roundg (gk - 1)
                  case measure => omega
                  case rel => exact ⟨j + 1, by omega, by go_num, (by (repeat (first | exact Ext.refl _ | refine Ext.alloc ?_ _ | refine Ext.drewN ?_ _ | refine Ext.drew ?_ | refine Ext.trans ?_ (Hid.out (by assumption)))))⟩
                · have hd : ((i : Int) != (j : Int)) = true := by simp; omega
                  have C1 := hid (HPR.out i j hi hj hij).1
                  by_cases hlt : i < j
                  · have hd2 : decide ((i : Int) < (j : Int)) = true := by simp; exact hlt
                    have hd3 : decide (i < j) = true := by simp; exact hlt
                    have hor := (HPR.out i j hi hj hij).2 hlt
                    have C2 := hid (show ordT N[i].ts N[j].ts = -1 from by have := ordT_range N[i].ts N[j].ts; omega)
                    clear hij hlt hor
                    go_wp2_with fail
                    refine wp_region_quiet_ext (by kernel_rfl) (by kernel_rfl) ?_
                    repeat (first | go_big_quiet_step ((first | (go_at_call 19; exact Calls.extOf (implies_any N[i] N[j] _) (congrArg Value.bool C1.out)) | (go_at_call 24; exact Calls.extOf (order06_any N[i] N[j] _) (congrArg (Value.int IntKind.i64) C2.out)))) | quiet_step ((first | (go_at_call 19; exact Calls.extOf (implies_any N[i] N[j] _) (congrArg Value.bool C1.out)) | (go_at_call 24; exact Calls.extOf (order06_any N[i] N[j] _) (congrArg (Value.int IntKind.i64) C2.out)))))
                    refine wpQuiet_nil ?_
                    intro _ hw'
                    obtain ⟨pe, hw''⟩ := hw'
                    subst hw''
                    obtain ⟨wq, hwq⟩ := pe
                    dsimp only
                    have hxq := hid hwq
                    clear hwq
                    go_wp2
                    go_roundg (gk - 1)
                    case measure => omega
                    case rel => exact ⟨j + 1, by omega, by go_num, (by (repeat (first | exact Ext.refl _ | refine Ext.alloc ?_ _ | refine Ext.drewN ?_ _ | refine Ext.drew ?_ | refine Ext.trans ?_ (Hid.out (by assumption)))))⟩
                  · have hd2 : decide ((i : Int) < (j : Int)) = false := by simp; omega
                    have hd3 : decide (i < j) = false := by simp; omega
                    clear hij hlt
                    go_wp2_with fail
                    refine wp_region_quiet_ext (by kernel_rfl) (by kernel_rfl) ?_
                    repeat (first | go_big_quiet_step ((go_at_call 19; exact Calls.extOf (implies_any N[i] N[j] _) (congrArg Value.bool C1.out))) | quiet_step ((go_at_call 19; exact Calls.extOf (implies_any N[i] N[j] _) (congrArg Value.bool C1.out))))
                    refine wpQuiet_nil ?_
                    intro _ hw'
                    obtain ⟨pe, hw''⟩ := hw'
                    subst hw''
                    obtain ⟨wq, hwq⟩ := pe
                    dsimp only
                    have hxq := hid hwq
                    clear hwq
                    go_wp2
                    go_roundg (gk - 1)
                    case measure => omega
                    case rel => exact ⟨j + 1, by omega, by go_num, (by (repeat (first | exact Ext.refl _ | refine Ext.alloc ?_ _ | refine Ext.drewN ?_ _ | refine Ext.drew ?_ | refine Ext.trans ?_ (Hid.out (by assumption)))))⟩
              · go_wp2_with fail
                go_roundg (G - 1)
                case measure => omega
                case rel => exact ⟨i + 1, by omega, by go_num, (by (repeat (first | exact Ext.refl _ | refine Ext.alloc ?_ _ | refine Ext.drewN ?_ _ | refine Ext.drew ?_ | refine Ext.trans ?_ (Hid.out (by assumption)))))⟩
          · skip
            go_wp2
            go_ret
            refine ⟨rfl, ?_⟩
            (repeat (first | exact Ext.refl _ | refine Ext.alloc ?_ _ | refine Ext.drewN ?_ _ | refine Ext.drew ?_ | refine Ext.trans ?_ (Hid.out (by assumption))))
end Go.Proofs.Ytclmbonippjhoaa
