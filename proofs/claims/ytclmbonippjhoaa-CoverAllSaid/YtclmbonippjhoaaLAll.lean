/- Filters with one that has no test among them are reduced to one without a test: the statement's walk. -/
import Derived.Test.YtclmbonippjhoaaLChain7
import Derived.Test.YtclmbonippjhoaaCutSl
import Derived.Deep.RegionLaw
set_option linter.unusedVariables false
set_option linter.unusedSimpArgs false
namespace Go.Proofs.Ytclmbonippjhoaa
open Go.RowKit

def nilF : FV := ⟨⟨none, 0, 0⟩, []⟩
theorem one_f {w : World} {aa : Option Addr} {n c : Nat} {ys : List FV} (h : Flts w aa n c ys) (hm : ys.map (·.ts) = [[]]) :
    ∃ b o a2 c2, n = 1 ∧ aa = some ⟨b, o, none⟩ ∧ w.cell? ⟨b, o, none⟩ = some (.slice a2 0 c2) ∧ 1 ≤ c := by
  have hl : ys.length = 1 := by have := congrArg List.length hm; simpa using this
  match ys, hl with
  | [y], _ =>
    simp at hm
    obtain ⟨b, o, ha, hc⟩ := h.sl.get 0 (by simp)
    have hy := h.ts y (by simp)
    rw [hm] at hy
    have h0 := cellsF hc
    simp only [List.getElem_cons_zero, Nat.zero_mul, Nat.add_zero] at h0
    have hyn : y.v.n = 0 := hy.neq
    rw [hyn] at h0
    have hsl := h.sl.len
    have hsn : n = 1 := h.sl.neq
    exact ⟨b, o, _, _, hsn, ha, h0, by omega⟩
theorem Sl.zero {α : Type} {w : World} {sz : Nat} {c : α → List Value} {ad : Addr} {n cap : Nat} (hw : ∀ x, (c x).length = sz) (hn : n = 0) (hm : cap ≤ maxLen) : Sl w sz c (some ad) n cap ([] : List α) :=
  ⟨hn, by omega, hm, (fun h => by cases h), hw, fun k x hk => by cases hk⟩
theorem all_empty {xs : List FV} {k : Nat} : red [] ((xs.take k ++ [nilF] ++ xs.drop k).map (·.ts)) = [[]] := red_empty _ (by simp [nilF])
theorem mem_all {xs : List FV} {k : Nat} {x : FV} (h : x ∈ xs.take k ++ [nilF] ++ xs.drop k) : x ∈ xs ∨ x = nilF := by
  rcases List.mem_append.1 h with h | h
  · rcases List.mem_append.1 h with h | h
    · exact .inl (List.mem_of_mem_take h)
    · exact .inr (List.mem_singleton.1 h)
  · exact .inl (List.mem_of_mem_drop h)
set_option maxRecDepth 100000 in
set_option maxHeartbeats 4000000 in
theorem all07_any (la : Option Addr) (ln lc : Nat) (xs : List FV) (fa : Option Addr) (fn fc : Nat) (fs : List T) (y : Int) (w : World) (hX : Flts w la ln lc xs) (hF : Sl w 5 T.cs fa fn fc fs) (hwf : (Lit.int .i64 y).wf = true) :
    Calls Try.prog 11 #[.slice la ln lc, .slice fa fn fc, .int .i64 y] w fun e w' => e = .returned (.bool true) ∧ Ext w w' := by
  obtain ⟨i0, hi, hz0, hz1, hz2⟩ := info_parts infoF
  have hy1 : -9223372036854775808 ≤ y := by simp [Lit.wf, show IntKind.i64.min = -9223372036854775808 from rfl] at hwf; omega
  have hy2 : y ≤ 9223372036854775807 := by simp [Lit.wf, show IntKind.i64.max = 9223372036854775807 from rfl] at hwf; omega
  obtain rfl := hX.sl.neq
  obtain rfl := hF.neq
  have hm := hX.sl.max
  have hl := hX.sl.len
  unfold maxLen at hm
  have HX := hid hX
  have HF := hid hF
  have I1 := hid hi
  have I2 := hid hz0
  have I3 := hid hz1
  have I4 := hid hz2
  clear hX hF hwf hi hz0 hz1 hz2
  go_enter Try.func11, Try.ntmps11
  go_wp2_with fail
  refine (awake07_any w).mono ?_
  rintro e w1 ⟨rfl, hb⟩
  have hx1 := hid hb
  clear hb
  go_wp2_with fail
  refine (few07_any _ _ _ xs _ (HX.out.ext (by (repeat (first | exact Ext.refl _ | refine Ext.alloc ?_ _ | refine Ext.drewN ?_ _ | refine Ext.drew ?_ | refine Ext.trans ?_ (Hid.out (by assumption))))))).mono ?_
  rintro e w2 ⟨f1, rfl, hf, hb⟩
  have hx2 := hid hb
  have HFW := hid hf
  clear hb hf
  cases f1
  · skip
    go_wp2
    go_ret
    refine ⟨rfl, ?_⟩
    (repeat (first | exact Ext.refl _ | refine Ext.alloc ?_ _ | refine Ext.drewN ?_ _ | refine Ext.drew ?_ | refine Ext.trans ?_ (Hid.out (by assumption))))
  have hlen : xs.length ≤ 12 := (HFW.out (by first | rfl | trivial)).1
  have HT := hid (HFW.out (by first | rfl | trivial)).2
  clear HFW
  go_wp2_with fail
  refine (few07_any _ _ _ [(⟨⟨fa, fs.length, fc⟩, fs⟩ : FV)] _ (flts_of (t := 29) (fr := (0, 0)) (by (repeat (first | (refine heap_new ?_; (simp; done)) | refine heap_old (by first | (simp; done) | (simp; omega)) ?_))) rfl rfl (by simp) (fun x hx => by (obtain rfl := List.mem_singleton.1 hx; exact HF.out.ext (by (repeat (first | exact Ext.refl _ | refine Ext.alloc ?_ _ | refine Ext.drewN ?_ _ | refine Ext.drew ?_ | refine Ext.trans ?_ (Hid.out (by assumption))))))))).mono ?_
  rintro e w3 ⟨f2, rfl, hf, hb⟩
  have hx3 := hid (Ext.trans ((Ext.refl w2).alloc _) hb)
  have HFW := hid hf
  clear hb hf
  cases f2
  · skip
    go_wp2
    go_ret
    refine ⟨rfl, ?_⟩
    (repeat (first | exact Ext.refl _ | refine Ext.alloc ?_ _ | refine Ext.drewN ?_ _ | refine Ext.drew ?_ | refine Ext.trans ?_ (Hid.out (by assumption))))
  have hfl : fs.length ≤ 10 := (HFW.out (by first | rfl | trivial)).2 _ (List.mem_cons_self ..)
  clear HFW
  go_wp2_with fail
  refine (may_any _ _ _ xs _ (HX.out.ext (by (repeat (first | exact Ext.refl _ | refine Ext.alloc ?_ _ | refine Ext.drewN ?_ _ | refine Ext.drew ?_ | refine Ext.trans ?_ (Hid.out (by assumption))))))).mono ?_
  rintro e w4 ⟨f3, rfl, hf, hb⟩
  have hx4 := hid hb
  clear hb hf
  cases f3
  · skip
    go_wp2
    go_ret
    refine ⟨rfl, ?_⟩
    (repeat (first | exact Ext.refl _ | refine Ext.alloc ?_ _ | refine Ext.drewN ?_ _ | refine Ext.drew ?_ | refine Ext.trans ?_ (Hid.out (by assumption))))
  go_wp2_with fail
  refine (chkF_any _ _ _ fs _ (HF.out.ext (by (repeat (first | exact Ext.refl _ | refine Ext.alloc ?_ _ | refine Ext.drewN ?_ _ | refine Ext.drew ?_ | refine Ext.trans ?_ (Hid.out (by assumption))))))).mono ?_
  rintro e w5 ⟨rfl, hb⟩
  have hx5 := hid hb
  clear hb
  cases hck : chkB fs with
  | false =>
    have h0 : errF false = 50 := rfl
    rw [h0]
    clear h0 hck
    go_wp2
    go_ret
    refine ⟨rfl, ?_⟩
    (repeat (first | exact Ext.refl _ | refine Ext.alloc ?_ _ | refine Ext.drewN ?_ _ | refine Ext.drew ?_ | refine Ext.trans ?_ (Hid.out (by assumption))))
  | true =>
    have h0 : errF true = 0 := rfl
    rw [h0]
    clear h0 hck
    go_upto_if 33 with (fail)
    go_cut [2] (fun v wx => ∃ z : Int, v = .int .i64 z ∧ 0 ≤ z ∧ z ≤ 9223372036854775807 ∧ w5 = wx)
    case first =>
      by_cases hneg : y < 0
      · go_wp2_with fail
        go_meet
        exact ⟨-(y + 1), by go_num, by omega, by omega, rfl⟩
      · go_wp2_with fail
        go_meet
        exact ⟨y, rfl, by omega, by omega, rfl⟩
    case rest =>
      obtain ⟨z, rfl, hz0, hz9, rfl⟩ := hcut
      obtain ⟨k, hk⟩ : ∃ k : Nat, z % ((xs.length : Int) + 1) = (k : Int) := ⟨(z % ((xs.length : Int) + 1)).toNat, by have := Int.emod_nonneg z (b := (xs.length : Int) + 1) (by omega); omega⟩
      have hkl : k ≤ xs.length := by have := Int.emod_lt_of_pos z (b := (xs.length : Int) + 1) (by omega); omega
      have HK := hid hkl
      go_upto_region 7 with (fail)
      rw [hk]
      clear hk
      go_cut [8, 39, 40, 41, 2] (fun v _ _ _ _ wx => ∃ aa n c, v = .slice aa n c ∧ Hid (Flts wx aa n c (xs.take k ++ [nilF] ++ xs.drop k)) ∧ n ≤ 14 ∧ Hid (Ext w5 wx))
      case first =>
        have hkz : (0 : Int) ≤ (k : Int) := by omega
        have hkc : (k : Int) ≤ (lc : Int) := by omega
        have hki : (k : Int) ≤ (xs.length : Int) := by omega
        cases la with
        | none =>
          have hc0 : lc = 0 := HX.out.sl.none rfl
          subst hc0
          obtain rfl : k = 0 := by omega
          have hx0 : xs = [] := List.eq_nil_of_length_eq_zero (by omega)
          subst hx0
          have HD : Hid ((([] : List FV).drop 0) = []) := rfl
          clear hl hki
          go_region_held3 (fun _ => True) (first | trivial | go_keep) (first | (refine stepOn (c := FV.cs) (ys0 := []) (ys := ([] : List FV).take 0) rfl (.tmp 42) (.tmp 45) 49 29 rfl i0 _ 24 Try.underlying49 I1.out I2.out I3.out I4.out rfl (by decide) rfl w5 (by (repeat (first | exact Ext.refl _ | refine Ext.alloc ?_ _ | refine Ext.drewN ?_ _ | refine Ext.drew ?_ | refine Ext.trans ?_ (Hid.out (by assumption))))) (Own.empty (by (repeat (first | (refine heap_new ?_; (simp; done)) | refine heap_old (by first | (simp; done) | (simp; omega)) ?_))) (by simp) FV.wid) rfl ((HX.out.sl.take 0 HK.out).ext (by (repeat (first | exact Ext.refl _ | refine Ext.alloc ?_ _ | refine Ext.drewN ?_ _ | refine Ext.drew ?_ | refine Ext.trans ?_ (Hid.out (by assumption)))))) FV.one (by omega) (by decide) ?_; intro bb n1 cap1 w16 hn1 hown1 hx hg1; have HO1 := hid hown1; have hy := hid hx; have HG1 := hid hg1; have Hn1 := hid hn1; clear hown1 hx hg1 hn1) | (refine stepOn (c := FV.cs) (ys0 := [] ++ ([] : List FV).take 0) (ys := [nilF]) rfl (.tmp 46) (.tmp 47) 49 29 rfl i0 _ 24 Try.underlying49 I1.out I2.out I3.out I4.out rfl (by decide) rfl w5 (by (repeat (first | exact Ext.refl _ | refine Ext.alloc ?_ _ | refine Ext.drewN ?_ _ | refine Ext.drew ?_ | refine Ext.trans ?_ (Hid.out (by assumption))))) (HO1.out.ext (by (repeat (first | exact Ext.refl _ | refine Ext.alloc ?_ _ | refine Ext.drewN ?_ _ | refine Ext.drew ?_ | refine Ext.trans ?_ (Hid.out (by assumption)))))) rfl (by first | (refine sl_ofBlock [nilF] FV.wid rfl (by simp) (t := 29) (fr := (0, 0)) ?_ rfl; (repeat (first | (refine heap_new ?_; (simp; done)) | refine heap_old (by first | (simp; done) | (simp; omega)) ?_)); done) | (refine sl_ofBlock [nilF] FV.wid rfl (by simp) (t := 29) (fr := (0, 0)) ?_ rfl; refine (HG1.out.block _ (by first | (simp; done) | (simp; omega)) (by first | (simp [Value.ownBlock]; done) | (simp [Value.ownBlock]; omega))).trans ?_; (repeat (first | (refine heap_new ?_; (simp; done)) | refine heap_old (by first | (simp; done) | (simp; omega)) ?_)); done)) FV.one (by have := Hn1.out; omega) (by decide) ?_; intro bb2 n2 cap2 w17 hn2 hown2 hx hg2; have HO2 := hid hown2; have hy2 := hid hx; have Hn2 := hid hn2; clear hown2 hx hg2 hn2) | (refine stepOn (c := FV.cs) (ys0 := [] ++ ([] : List FV).take 0 ++ [nilF]) (ys := ([] : List FV).drop 0) rfl (.tmp 48) (.tmp 51) 49 29 rfl i0 _ 24 Try.underlying49 I1.out I2.out I3.out I4.out rfl (by decide) rfl w5 (by (repeat (first | exact Ext.refl _ | refine Ext.alloc ?_ _ | refine Ext.drewN ?_ _ | refine Ext.drew ?_ | refine Ext.trans ?_ (Hid.out (by assumption))))) (HO2.out.ext (by (repeat (first | exact Ext.refl _ | refine Ext.alloc ?_ _ | refine Ext.drewN ?_ _ | refine Ext.drew ?_ | refine Ext.trans ?_ (Hid.out (by assumption)))))) rfl (by rw [HD.out]; exact Sl.nil _ FV.wid) FV.one (by have := Hn1.out; have := Hn2.out; omega) (by decide) ?_; intro bb3 n3 cap3 w18 hn3 hown3 hx hg3; have HO3 : Hid (Own w18 w5.heap.size 29 1 FV.cs bb3 n3 cap3 (([] : List FV).take 0 ++ [nilF] ++ ([] : List FV).drop 0)) := hid hown3; have hy3 := hid hx; have Hn3 := hid hn3; clear hown3 hx hg3 hn3))
          all_goals
            go_wp2_with fail
            go_meet
            exact ⟨_, _, _, rfl, ⟨HO3.out.sl, fun x hx => (mem_all hx).elim (fun h => (HX.out.ts x h).ext (by (repeat (first | exact Ext.refl _ | refine Ext.alloc ?_ _ | refine Ext.drewN ?_ _ | refine Ext.drew ?_ | refine Ext.trans ?_ (Hid.out (by assumption)))))) (fun h => h ▸ Sl.nil _ T.wid)⟩, (by have := Hn1.out; have := Hn2.out; have := Hn3.out; omega), (by (repeat (first | exact Ext.refl _ | refine Ext.alloc ?_ _ | refine Ext.drewN ?_ _ | refine Ext.drew ?_ | refine Ext.trans ?_ (Hid.out (by assumption)))))⟩
        | some ad =>
          by_cases h0 : 0 < xs.length
          · obtain ⟨b, o, ha, _⟩ := HX.out.sl.get 0 h0
            simp only [Option.some.injEq] at ha
            subst ha
            have hlc0 : 0 < lc := by omega
            have hlc1 : ¬ lc = 0 := by omega
            have hkN : k ≤ lc := by omega
            by_cases hkc2 : k = lc
            · obtain rfl : k = lc := hkc2
              have HD : Hid (xs.drop k = []) := List.drop_eq_nil_of_le (by omega)
              go_region_held3 (fun _ => True) (first | trivial | go_keep) (first | (refine stepOn (c := FV.cs) (ys0 := []) (ys := xs.take k) rfl (.tmp 42) (.tmp 45) 49 29 rfl i0 _ 24 Try.underlying49 I1.out I2.out I3.out I4.out rfl (by decide) rfl w5 (by (repeat (first | exact Ext.refl _ | refine Ext.alloc ?_ _ | refine Ext.drewN ?_ _ | refine Ext.drew ?_ | refine Ext.trans ?_ (Hid.out (by assumption))))) (Own.empty (by (repeat (first | (refine heap_new ?_; (simp; done)) | refine heap_old (by first | (simp; done) | (simp; omega)) ?_))) (by simp) FV.wid) rfl ((HX.out.sl.take k HK.out).ext (by (repeat (first | exact Ext.refl _ | refine Ext.alloc ?_ _ | refine Ext.drewN ?_ _ | refine Ext.drew ?_ | refine Ext.trans ?_ (Hid.out (by assumption)))))) FV.one (by omega) (by decide) ?_; intro bb n1 cap1 w16 hn1 hown1 hx hg1; have HO1 := hid hown1; have hy := hid hx; have HG1 := hid hg1; have Hn1 := hid hn1; clear hown1 hx hg1 hn1) | (refine stepOn (c := FV.cs) (ys0 := [] ++ xs.take k) (ys := [nilF]) rfl (.tmp 46) (.tmp 47) 49 29 rfl i0 _ 24 Try.underlying49 I1.out I2.out I3.out I4.out rfl (by decide) rfl w5 (by (repeat (first | exact Ext.refl _ | refine Ext.alloc ?_ _ | refine Ext.drewN ?_ _ | refine Ext.drew ?_ | refine Ext.trans ?_ (Hid.out (by assumption))))) (HO1.out.ext (by (repeat (first | exact Ext.refl _ | refine Ext.alloc ?_ _ | refine Ext.drewN ?_ _ | refine Ext.drew ?_ | refine Ext.trans ?_ (Hid.out (by assumption)))))) rfl (by first | (refine sl_ofBlock [nilF] FV.wid rfl (by simp) (t := 29) (fr := (0, 0)) ?_ rfl; (repeat (first | (refine heap_new ?_; (simp; done)) | refine heap_old (by first | (simp; done) | (simp; omega)) ?_)); done) | (refine sl_ofBlock [nilF] FV.wid rfl (by simp) (t := 29) (fr := (0, 0)) ?_ rfl; refine (HG1.out.block _ (by first | (simp; done) | (simp; omega)) (by first | (simp [Value.ownBlock]; done) | (simp [Value.ownBlock]; omega))).trans ?_; (repeat (first | (refine heap_new ?_; (simp; done)) | refine heap_old (by first | (simp; done) | (simp; omega)) ?_)); done)) FV.one (by have := Hn1.out; omega) (by decide) ?_; intro bb2 n2 cap2 w17 hn2 hown2 hx hg2; have HO2 := hid hown2; have hy2 := hid hx; have Hn2 := hid hn2; clear hown2 hx hg2 hn2) | (refine stepOn (c := FV.cs) (ys0 := [] ++ xs.take k ++ [nilF]) (ys := xs.drop k) rfl (.tmp 48) (.tmp 51) 49 29 rfl i0 _ 24 Try.underlying49 I1.out I2.out I3.out I4.out rfl (by decide) rfl w5 (by (repeat (first | exact Ext.refl _ | refine Ext.alloc ?_ _ | refine Ext.drewN ?_ _ | refine Ext.drew ?_ | refine Ext.trans ?_ (Hid.out (by assumption))))) (HO2.out.ext (by (repeat (first | exact Ext.refl _ | refine Ext.alloc ?_ _ | refine Ext.drewN ?_ _ | refine Ext.drew ?_ | refine Ext.trans ?_ (Hid.out (by assumption)))))) rfl (by rw [HD.out]; exact Sl.zero FV.wid (by omega) (by simp only [maxLen]; omega)) FV.one (by have := Hn1.out; have := Hn2.out; omega) (by decide) ?_; intro bb3 n3 cap3 w18 hn3 hown3 hx hg3; have HO3 : Hid (Own w18 w5.heap.size 29 1 FV.cs bb3 n3 cap3 (xs.take k ++ [nilF] ++ xs.drop k)) := hid hown3; have hy3 := hid hx; have Hn3 := hid hn3; clear hown3 hx hg3 hn3))
              all_goals
                go_wp2_with fail
                go_meet
                exact ⟨_, _, _, rfl, ⟨HO3.out.sl, fun x hx => (mem_all hx).elim (fun h => (HX.out.ts x h).ext (by (repeat (first | exact Ext.refl _ | refine Ext.alloc ?_ _ | refine Ext.drewN ?_ _ | refine Ext.drew ?_ | refine Ext.trans ?_ (Hid.out (by assumption)))))) (fun h => h ▸ Sl.nil _ T.wid)⟩, (by have := Hn1.out; have := Hn2.out; have := Hn3.out; omega), (by (repeat (first | exact Ext.refl _ | refine Ext.alloc ?_ _ | refine Ext.drewN ?_ _ | refine Ext.drew ?_ | refine Ext.trans ?_ (Hid.out (by assumption)))))⟩
            · have hkl2 : k < lc := by omega
              have hne : ¬ lc = k := by omega
              go_region_held3 (fun _ => True) (first | trivial | go_keep) (first | (refine stepOn (c := FV.cs) (ys0 := []) (ys := xs.take k) rfl (.tmp 42) (.tmp 45) 49 29 rfl i0 _ 24 Try.underlying49 I1.out I2.out I3.out I4.out rfl (by decide) rfl w5 (by (repeat (first | exact Ext.refl _ | refine Ext.alloc ?_ _ | refine Ext.drewN ?_ _ | refine Ext.drew ?_ | refine Ext.trans ?_ (Hid.out (by assumption))))) (Own.empty (by (repeat (first | (refine heap_new ?_; (simp; done)) | refine heap_old (by first | (simp; done) | (simp; omega)) ?_))) (by simp) FV.wid) rfl ((HX.out.sl.take k HK.out).ext (by (repeat (first | exact Ext.refl _ | refine Ext.alloc ?_ _ | refine Ext.drewN ?_ _ | refine Ext.drew ?_ | refine Ext.trans ?_ (Hid.out (by assumption)))))) FV.one (by omega) (by decide) ?_; intro bb n1 cap1 w16 hn1 hown1 hx hg1; have HO1 := hid hown1; have hy := hid hx; have HG1 := hid hg1; have Hn1 := hid hn1; clear hown1 hx hg1 hn1) | (refine stepOn (c := FV.cs) (ys0 := [] ++ xs.take k) (ys := [nilF]) rfl (.tmp 46) (.tmp 47) 49 29 rfl i0 _ 24 Try.underlying49 I1.out I2.out I3.out I4.out rfl (by decide) rfl w5 (by (repeat (first | exact Ext.refl _ | refine Ext.alloc ?_ _ | refine Ext.drewN ?_ _ | refine Ext.drew ?_ | refine Ext.trans ?_ (Hid.out (by assumption))))) (HO1.out.ext (by (repeat (first | exact Ext.refl _ | refine Ext.alloc ?_ _ | refine Ext.drewN ?_ _ | refine Ext.drew ?_ | refine Ext.trans ?_ (Hid.out (by assumption)))))) rfl (by first | (refine sl_ofBlock [nilF] FV.wid rfl (by simp) (t := 29) (fr := (0, 0)) ?_ rfl; (repeat (first | (refine heap_new ?_; (simp; done)) | refine heap_old (by first | (simp; done) | (simp; omega)) ?_)); done) | (refine sl_ofBlock [nilF] FV.wid rfl (by simp) (t := 29) (fr := (0, 0)) ?_ rfl; refine (HG1.out.block _ (by first | (simp; done) | (simp; omega)) (by first | (simp [Value.ownBlock]; done) | (simp [Value.ownBlock]; omega))).trans ?_; (repeat (first | (refine heap_new ?_; (simp; done)) | refine heap_old (by first | (simp; done) | (simp; omega)) ?_)); done)) FV.one (by have := Hn1.out; omega) (by decide) ?_; intro bb2 n2 cap2 w17 hn2 hown2 hx hg2; have HO2 := hid hown2; have hy2 := hid hx; have Hn2 := hid hn2; clear hown2 hx hg2 hn2) | (refine stepOn (c := FV.cs) (ys0 := [] ++ xs.take k ++ [nilF]) (ys := xs.drop k) rfl (.tmp 48) (.tmp 51) 49 29 rfl i0 _ 24 Try.underlying49 I1.out I2.out I3.out I4.out rfl (by decide) rfl w5 (by (repeat (first | exact Ext.refl _ | refine Ext.alloc ?_ _ | refine Ext.drewN ?_ _ | refine Ext.drew ?_ | refine Ext.trans ?_ (Hid.out (by assumption))))) (HO2.out.ext (by (repeat (first | exact Ext.refl _ | refine Ext.alloc ?_ _ | refine Ext.drewN ?_ _ | refine Ext.drew ?_ | refine Ext.trans ?_ (Hid.out (by assumption)))))) rfl ((HX.out.sl.drop1 k HK.out).ext (by (repeat (first | exact Ext.refl _ | refine Ext.alloc ?_ _ | refine Ext.drewN ?_ _ | refine Ext.drew ?_ | refine Ext.trans ?_ (Hid.out (by assumption)))))) FV.one (by have := Hn1.out; have := Hn2.out; omega) (by decide) ?_; intro bb3 n3 cap3 w18 hn3 hown3 hx hg3; have HO3 : Hid (Own w18 w5.heap.size 29 1 FV.cs bb3 n3 cap3 (xs.take k ++ [nilF] ++ xs.drop k)) := hid hown3; have hy3 := hid hx; have Hn3 := hid hn3; clear hown3 hx hg3 hn3))
              all_goals
                go_wp2_with fail
                go_meet
                exact ⟨_, _, _, rfl, ⟨HO3.out.sl, fun x hx => (mem_all hx).elim (fun h => (HX.out.ts x h).ext (by (repeat (first | exact Ext.refl _ | refine Ext.alloc ?_ _ | refine Ext.drewN ?_ _ | refine Ext.drew ?_ | refine Ext.trans ?_ (Hid.out (by assumption)))))) (fun h => h ▸ Sl.nil _ T.wid)⟩, (by have := Hn1.out; have := Hn2.out; have := Hn3.out; omega), (by (repeat (first | exact Ext.refl _ | refine Ext.alloc ?_ _ | refine Ext.drewN ?_ _ | refine Ext.drew ?_ | refine Ext.trans ?_ (Hid.out (by assumption)))))⟩
          · have hx0 : xs = [] := List.eq_nil_of_length_eq_zero (by omega)
            obtain rfl : k = 0 := by omega
            subst hx0
            have HD : Hid ((([] : List FV).drop 0) = []) := rfl
            clear hl hki h0
            by_cases hlc : 0 < lc
            · go_region_held3 (fun _ => True) (first | trivial | go_keep) (first | (refine stepOn (c := FV.cs) (ys0 := []) (ys := ([] : List FV).take 0) rfl (.tmp 42) (.tmp 45) 49 29 rfl i0 _ 24 Try.underlying49 I1.out I2.out I3.out I4.out rfl (by decide) rfl w5 (by (repeat (first | exact Ext.refl _ | refine Ext.alloc ?_ _ | refine Ext.drewN ?_ _ | refine Ext.drew ?_ | refine Ext.trans ?_ (Hid.out (by assumption))))) (Own.empty (by (repeat (first | (refine heap_new ?_; (simp; done)) | refine heap_old (by first | (simp; done) | (simp; omega)) ?_))) (by simp) FV.wid) rfl ((HX.out.sl.take 0 HK.out).ext (by (repeat (first | exact Ext.refl _ | refine Ext.alloc ?_ _ | refine Ext.drewN ?_ _ | refine Ext.drew ?_ | refine Ext.trans ?_ (Hid.out (by assumption)))))) FV.one (by omega) (by decide) ?_; intro bb n1 cap1 w16 hn1 hown1 hx hg1; have HO1 := hid hown1; have hy := hid hx; have HG1 := hid hg1; have Hn1 := hid hn1; clear hown1 hx hg1 hn1) | (refine stepOn (c := FV.cs) (ys0 := [] ++ ([] : List FV).take 0) (ys := [nilF]) rfl (.tmp 46) (.tmp 47) 49 29 rfl i0 _ 24 Try.underlying49 I1.out I2.out I3.out I4.out rfl (by decide) rfl w5 (by (repeat (first | exact Ext.refl _ | refine Ext.alloc ?_ _ | refine Ext.drewN ?_ _ | refine Ext.drew ?_ | refine Ext.trans ?_ (Hid.out (by assumption))))) (HO1.out.ext (by (repeat (first | exact Ext.refl _ | refine Ext.alloc ?_ _ | refine Ext.drewN ?_ _ | refine Ext.drew ?_ | refine Ext.trans ?_ (Hid.out (by assumption)))))) rfl (by first | (refine sl_ofBlock [nilF] FV.wid rfl (by simp) (t := 29) (fr := (0, 0)) ?_ rfl; (repeat (first | (refine heap_new ?_; (simp; done)) | refine heap_old (by first | (simp; done) | (simp; omega)) ?_)); done) | (refine sl_ofBlock [nilF] FV.wid rfl (by simp) (t := 29) (fr := (0, 0)) ?_ rfl; refine (HG1.out.block _ (by first | (simp; done) | (simp; omega)) (by first | (simp [Value.ownBlock]; done) | (simp [Value.ownBlock]; omega))).trans ?_; (repeat (first | (refine heap_new ?_; (simp; done)) | refine heap_old (by first | (simp; done) | (simp; omega)) ?_)); done)) FV.one (by have := Hn1.out; omega) (by decide) ?_; intro bb2 n2 cap2 w17 hn2 hown2 hx hg2; have HO2 := hid hown2; have hy2 := hid hx; have Hn2 := hid hn2; clear hown2 hx hg2 hn2) | (refine stepOn (c := FV.cs) (ys0 := [] ++ ([] : List FV).take 0 ++ [nilF]) (ys := ([] : List FV).drop 0) rfl (.tmp 48) (.tmp 51) 49 29 rfl i0 _ 24 Try.underlying49 I1.out I2.out I3.out I4.out rfl (by decide) rfl w5 (by (repeat (first | exact Ext.refl _ | refine Ext.alloc ?_ _ | refine Ext.drewN ?_ _ | refine Ext.drew ?_ | refine Ext.trans ?_ (Hid.out (by assumption))))) (HO2.out.ext (by (repeat (first | exact Ext.refl _ | refine Ext.alloc ?_ _ | refine Ext.drewN ?_ _ | refine Ext.drew ?_ | refine Ext.trans ?_ (Hid.out (by assumption)))))) rfl (by rw [HD.out]; exact Sl.zero FV.wid (by simp) (by simp only [maxLen]; omega)) FV.one (by have := Hn1.out; have := Hn2.out; omega) (by decide) ?_; intro bb3 n3 cap3 w18 hn3 hown3 hx hg3; have HO3 : Hid (Own w18 w5.heap.size 29 1 FV.cs bb3 n3 cap3 (([] : List FV).take 0 ++ [nilF] ++ ([] : List FV).drop 0)) := hid hown3; have hy3 := hid hx; have Hn3 := hid hn3; clear hown3 hx hg3 hn3))
              all_goals
                go_wp2_with fail
                go_meet
                exact ⟨_, _, _, rfl, ⟨HO3.out.sl, fun x hx => (mem_all hx).elim (fun h => (HX.out.ts x h).ext (by (repeat (first | exact Ext.refl _ | refine Ext.alloc ?_ _ | refine Ext.drewN ?_ _ | refine Ext.drew ?_ | refine Ext.trans ?_ (Hid.out (by assumption)))))) (fun h => h ▸ Sl.nil _ T.wid)⟩, (by have := Hn1.out; have := Hn2.out; have := Hn3.out; omega), (by (repeat (first | exact Ext.refl _ | refine Ext.alloc ?_ _ | refine Ext.drewN ?_ _ | refine Ext.drew ?_ | refine Ext.trans ?_ (Hid.out (by assumption)))))⟩
            · obtain rfl : lc = 0 := by omega
              clear hlc
              go_region_held3 (fun _ => True) (first | trivial | go_keep) (first | (refine stepOn (c := FV.cs) (ys0 := []) (ys := ([] : List FV).take 0) rfl (.tmp 42) (.tmp 45) 49 29 rfl i0 _ 24 Try.underlying49 I1.out I2.out I3.out I4.out rfl (by decide) rfl w5 (by (repeat (first | exact Ext.refl _ | refine Ext.alloc ?_ _ | refine Ext.drewN ?_ _ | refine Ext.drew ?_ | refine Ext.trans ?_ (Hid.out (by assumption))))) (Own.empty (by (repeat (first | (refine heap_new ?_; (simp; done)) | refine heap_old (by first | (simp; done) | (simp; omega)) ?_))) (by simp) FV.wid) rfl ((HX.out.sl.take 0 HK.out).ext (by (repeat (first | exact Ext.refl _ | refine Ext.alloc ?_ _ | refine Ext.drewN ?_ _ | refine Ext.drew ?_ | refine Ext.trans ?_ (Hid.out (by assumption)))))) FV.one (by omega) (by decide) ?_; intro bb n1 cap1 w16 hn1 hown1 hx hg1; have HO1 := hid hown1; have hy := hid hx; have HG1 := hid hg1; have Hn1 := hid hn1; clear hown1 hx hg1 hn1) | (refine stepOn (c := FV.cs) (ys0 := [] ++ ([] : List FV).take 0) (ys := [nilF]) rfl (.tmp 46) (.tmp 47) 49 29 rfl i0 _ 24 Try.underlying49 I1.out I2.out I3.out I4.out rfl (by decide) rfl w5 (by (repeat (first | exact Ext.refl _ | refine Ext.alloc ?_ _ | refine Ext.drewN ?_ _ | refine Ext.drew ?_ | refine Ext.trans ?_ (Hid.out (by assumption))))) (HO1.out.ext (by (repeat (first | exact Ext.refl _ | refine Ext.alloc ?_ _ | refine Ext.drewN ?_ _ | refine Ext.drew ?_ | refine Ext.trans ?_ (Hid.out (by assumption)))))) rfl (by first | (refine sl_ofBlock [nilF] FV.wid rfl (by simp) (t := 29) (fr := (0, 0)) ?_ rfl; (repeat (first | (refine heap_new ?_; (simp; done)) | refine heap_old (by first | (simp; done) | (simp; omega)) ?_)); done) | (refine sl_ofBlock [nilF] FV.wid rfl (by simp) (t := 29) (fr := (0, 0)) ?_ rfl; refine (HG1.out.block _ (by first | (simp; done) | (simp; omega)) (by first | (simp [Value.ownBlock]; done) | (simp [Value.ownBlock]; omega))).trans ?_; (repeat (first | (refine heap_new ?_; (simp; done)) | refine heap_old (by first | (simp; done) | (simp; omega)) ?_)); done)) FV.one (by have := Hn1.out; omega) (by decide) ?_; intro bb2 n2 cap2 w17 hn2 hown2 hx hg2; have HO2 := hid hown2; have hy2 := hid hx; have Hn2 := hid hn2; clear hown2 hx hg2 hn2) | (refine stepOn (c := FV.cs) (ys0 := [] ++ ([] : List FV).take 0 ++ [nilF]) (ys := ([] : List FV).drop 0) rfl (.tmp 48) (.tmp 51) 49 29 rfl i0 _ 24 Try.underlying49 I1.out I2.out I3.out I4.out rfl (by decide) rfl w5 (by (repeat (first | exact Ext.refl _ | refine Ext.alloc ?_ _ | refine Ext.drewN ?_ _ | refine Ext.drew ?_ | refine Ext.trans ?_ (Hid.out (by assumption))))) (HO2.out.ext (by (repeat (first | exact Ext.refl _ | refine Ext.alloc ?_ _ | refine Ext.drewN ?_ _ | refine Ext.drew ?_ | refine Ext.trans ?_ (Hid.out (by assumption)))))) rfl (by rw [HD.out]; exact Sl.zero FV.wid (by simp) (by simp only [maxLen]; omega)) FV.one (by have := Hn1.out; have := Hn2.out; omega) (by decide) ?_; intro bb3 n3 cap3 w18 hn3 hown3 hx hg3; have HO3 : Hid (Own w18 w5.heap.size 29 1 FV.cs bb3 n3 cap3 (([] : List FV).take 0 ++ [nilF] ++ ([] : List FV).drop 0)) := hid hown3; have hy3 := hid hx; have Hn3 := hid hn3; clear hown3 hx hg3 hn3))
              all_goals
                go_wp2_with fail
                go_meet
                exact ⟨_, _, _, rfl, ⟨HO3.out.sl, fun x hx => (mem_all hx).elim (fun h => (HX.out.ts x h).ext (by (repeat (first | exact Ext.refl _ | refine Ext.alloc ?_ _ | refine Ext.drewN ?_ _ | refine Ext.drew ?_ | refine Ext.trans ?_ (Hid.out (by assumption)))))) (fun h => h ▸ Sl.nil _ T.wid)⟩, (by have := Hn1.out; have := Hn2.out; have := Hn3.out; omega), (by (repeat (first | exact Ext.refl _ | refine Ext.alloc ?_ _ | refine Ext.drewN ?_ _ | refine Ext.drew ?_ | refine Ext.trans ?_ (Hid.out (by assumption)))))⟩
      case rest =>
        obtain ⟨aa, n, c, rfl, hall, hn14, hxa⟩ := hcut
        go_wp2_with fail
        refine (reduce_any _ _ _ (xs.take k ++ [nilF] ++ xs.drop k) _ hall.out (by omega) (fun x hx => ?_)).mono ?_
        · rw [(hall.out.ts x hx).neq]
          rcases mem_all hx with h | rfl
          · exact Nat.le_trans (HT.out x h) (by decide)
          · exact Nat.zero_le _
        rintro e w6 ⟨ra, rn, rc, ys, rfl, hown, hmap, hb⟩
        obtain ⟨b, o, a2, c2, rfl, rfl, r0, hr1⟩ := one_f hown.flts (hmap.trans all_empty)
        have hx6 := hid hb
        clear hb hown hmap
        go_wp2_with fail
        refine (reduce_any _ _ _ [(⟨⟨fa, fs.length, fc⟩, fs⟩ : FV)] _ (flts_of (t := 29) (fr := (0, 0)) (by (repeat (first | (refine heap_new ?_; (simp; done)) | refine heap_old (by first | (simp; done) | (simp; omega)) ?_))) rfl rfl (by simp) (fun x hx => by (obtain rfl := List.mem_singleton.1 hx; exact HF.out.ext (by (repeat (first | exact Ext.refl _ | refine Ext.alloc ?_ _ | refine Ext.drewN ?_ _ | refine Ext.drew ?_ | refine Ext.trans ?_ (Hid.out (by assumption)))))))) (by simp) (fun x hx => ?_)).mono ?_
        · obtain rfl := List.mem_singleton.1 hx
          exact Nat.le_trans hfl (by decide)
        rintro e w7 ⟨sa, sn, sc, zs, rfl, hown, hmap, hb⟩
        have r1 : w7.cell? ⟨b, o, none⟩ = some (.slice a2 0 c2) := (Ext.trans ((Ext.refl w6).alloc _) hb).keep r0
        have HZ := hid hown.flts
        have HZM := hid hmap
        have hx7 := hid (Ext.trans ((Ext.refl w6).alloc _) hb)
        clear hb hown hmap r0
        go_wp2_with fail
        refine (same07_any _ _ _ _ _ _ zs [(⟨⟨fa, fs.length, fc⟩, fs⟩ : FV)] _ (HZ.out.ext (by (repeat (first | exact Ext.refl _ | refine Ext.alloc ?_ _ | refine Ext.drewN ?_ _ | refine Ext.drew ?_ | refine Ext.trans ?_ (Hid.out (by assumption)))))) (flts_of (t := 29) (fr := (0, 0)) (by (repeat (first | (refine heap_new ?_; (simp; done)) | refine heap_old (by first | (simp; done) | (simp; omega)) ?_))) rfl rfl (by simp) (fun x hx => by (obtain rfl := List.mem_singleton.1 hx; exact HF.out.ext (by (repeat (first | exact Ext.refl _ | refine Ext.alloc ?_ _ | refine Ext.drewN ?_ _ | refine Ext.drew ?_ | refine Ext.trans ?_ (Hid.out (by assumption)))))))) HZM.out).mono ?_
        rintro e w8 ⟨rfl, hb⟩
        have r2 : w8.cell? ⟨b, o, none⟩ = some (.slice a2 0 c2) := (Ext.trans ((Ext.refl w7).alloc _) hb).keep r1
        have hx8 := hid (Ext.trans ((Ext.refl w7).alloc _) hb)
        clear hb r1
        go_wp2
        go_ret
        refine ⟨rfl, ?_⟩
        (repeat (first | exact Ext.refl _ | refine Ext.alloc ?_ _ | refine Ext.drewN ?_ _ | refine Ext.drew ?_ | refine Ext.trans ?_ (Hid.out (by assumption))))
end Go.Proofs.Ytclmbonippjhoaa
