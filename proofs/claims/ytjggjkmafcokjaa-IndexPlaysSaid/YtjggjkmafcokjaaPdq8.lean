/- The library's pdqsort of numbers: its walk. -/
import Derived.Test.YtjggjkmafcokjaaSrtB8
import Derived.Test.YtjggjkmafcokjaaSrtA8
import Derived.Test.YtjggjkmafcokjaaPart8
import Derived.Test.YtjggjkmafcokjaaBrk8
set_option linter.unusedVariables false
set_option linter.unusedSimpArgs false
namespace Go.Proofs.Ytjggjkmafcokjaa
open Go.RowKit

theorem own_ext {w w' : World} {base g n cap : Nat} {zs : List Int} (h : Own w base 30 1 uC (some ⟨g, 0, none⟩) n cap zs) (hx : Ext w w') (hbg : base ≤ g) : Own w' base 30 1 uC (some ⟨g, 0, none⟩) n cap zs ∧ Below base w w' :=
  ⟨h.ext hx, Below.mono hx (Nat.le_trans hbg (Nat.le_of_lt (h.lt _ rfl).2))⟩
theorem Low.same {a b : Nat} {zs zt : List Int} (h : Low a b zs) (he : ∀ k, k < b → gN zt k = gN zs k) : Low a b zt := by
  rcases h with h | h
  · exact .inl h
  · exact .inr fun k h1 h2 => by rw [he (a - 1) (by omega), he k h2]; exact h k h1 h2
theorem len_own {w : World} {base g n cap : Nat} {zs : List Int} (h : Own w base 30 1 uC (some ⟨g, 0, none⟩) n cap zs) : zs.length = n := h.neq.symm
set_option maxRecDepth 100000 in
set_option maxHeartbeats 8000000 in
theorem pdq_any (base g n cap : Nat) (hn : n ≤ 1000) : ∀ (N a b lim : Nat) (ys : List Int) (w : World), b - a < N → Own w base 30 1 uC (some ⟨g, 0, none⟩) n cap ys → a ≤ b → b ≤ n → lim ≤ 100 → Low a b ys →
    Calls Try.prog 58 #[.slice (some ⟨g, 0, none⟩) n cap, .int .i64 a, .int .i64 b, .int .i64 lim] w (SegR base g n cap ys a b (fun zs => Rise zs a b) w) := by
  have hn6 : n ≤ 1000000 := by omega
  intro N
  induction N with
  | zero => intro _ _ _ _ _ h; exact absurd h (Nat.not_lt_zero _)
  | succ N ih =>
    intro a b lim0 ys w hN hO hab hbn hlim0 hlow
    have IH := hid ih
    clear ih
    have hbg := rowN_base hO
    have hcap := hO.sl.max
    have hlen := hO.sl.len
    unfold maxLen at hcap
    have HN := hid hO.neq
    have HO := hid hO
    clear hO
    have HW := hid hlow
    clear hlow
    go_enter Try.func58, Try.ntmps58
    go_wp2_with fail
    go_loopg [1, 2, 3, 8, 9] (b - a) (fun gh v1 v2 v3 v8 v9 wr => ∃ (a' b' lim : Nat) (wb wp : Bool) (zs : List Int), gh = b' - a' ∧ v1 = .int .i64 a' ∧ v2 = .int .i64 b' ∧ v3 = .int .i64 lim ∧ v8 = .bool wb ∧ v9 = .bool wp ∧
      a ≤ a' ∧ a' ≤ b' ∧ b' ≤ b ∧ lim ≤ 100 ∧ Hid (Own wr base 30 1 uC (some ⟨g, 0, none⟩) n cap zs) ∧ Hid (Fin a b a' b' zs ys) ∧ Hid (Low a' b' zs) ∧ Hid (Below base w wr))
    case atStart => exact ⟨a, b, lim0, true, true, ys, rfl, rfl, rfl, rfl, rfl, rfl, Nat.le_refl _, hab, Nat.le_refl _, hlim0, HO.out, Fin.start a b ys, HW.out, Below.refl _ _⟩
    case round =>
      obtain ⟨a', b', lim, wb, wp, zs, hg, rfl, rfl, rfl, rfl, rfl, haa, hab', hbb, hlim, ho, hf, hw, hx⟩ := hrel
      have HLT := hid (len_own ho.out)
      by_cases h12 : b' - a' ≤ 12
      · have y0 : (b' : Int) - (a' : Int) ≤ 12 := by omega
        go_wp2_with (go_at_call 68; refine (ins_any base g n cap zs a' b' _ ho.out hab' (by omega) hn6).mono ?_; rintro e w1 ⟨rfl, z1, h1, h2, h3, h4⟩; have H1 := hid h1; have H2 := hid (hf.out _ h2 h3); have H4 := hid (Below.trans hx.out h4); clear h1 h2 h3 h4)
        go_end0
        exact ⟨rfl, z1, H1.out, H2.out.1, H2.out.2, H4.out⟩
      · have y0 : ¬ ((b' : Int) - (a' : Int) ≤ 12) := by omega
        by_cases hl0 : lim = 0
        · subst hl0
          go_wp2_with (go_at_call 69; refine (heap_any base g n cap zs a' b' _ ho.out (by omega) (by omega) hn6).mono ?_; rintro e w1 ⟨rfl, z1, h1, h2, h3, h4⟩; have H1 := hid h1; have H2 := hid (hf.out _ h2 h3); have H4 := hid (Below.trans hx.out h4); clear h1 h2 h3 h4)
          go_end0
          exact ⟨rfl, z1, H1.out, H2.out.1, H2.out.2, H4.out⟩
        · have y1 : ¬ ((lim : Int) = 0) := by omega
          have y2 : (1 : Int) ≤ (lim : Int) := by omega
          go_upto_if 35 with (fail)
          go_cut [3] (fun sv wx => ∃ (l1 : Nat) (z1 : List Int), sv = .int .i64 l1 ∧ l1 ≤ 100 ∧ Hid (Own wx base 30 1 uC (some ⟨g, 0, none⟩) n cap z1) ∧ Hid (Seg a' b' z1 zs) ∧ Hid (Below base w wx))
          case first =>
            cases wb
            · go_wp2_with (go_at_call 70; refine (brk_any base g n cap zs a' b' _ ho.out (by omega) (by omega) (by omega) hn6).mono ?_; rintro e w1 ⟨rfl, z1, h1, h2, h3, h4⟩; have H1 := hid h1; have H2 := hid h2; have H4 := hid (Below.trans hx.out h4); clear h1 h2 h3 h4)
              go_meet
              exact ⟨lim - 1, z1, congrArg (Value.int .i64) (by omega), by omega, H1, H2, H4⟩
            · go_wp2_with fail
              go_meet
              exact ⟨lim, zs, rfl, hlim, ho, hid (Seg.refl _ _ _), hx⟩
          case rest =>
            obtain ⟨l1, z1, rfl, hl1, ho1, hs1, hx1⟩ := hcut
            have HF1 := hid (hf.out.seg hs1.out)
            have HW1 := hid (hw.out.seg hs1.out (by rw [HLT.out]; omega))
            clear ho hx hs1 hf hw HLT
            rename World => wa
            have HG1 := hid (show g < wa.heap.size from (ho1.out.lt _ rfl).2)
            go_upto_if 50 with (go_at_call 71; refine (pivot_any base g n cap z1 a' b' _ ho1.out (by omega) (by omega) (by omega) hn6).mono ?_; rintro e w1 ⟨x, h, rfl, hx0, hx2, hh, hb⟩; have H1 := hid (own_ext ho1.out hb hbg); have HH := hid hh; clear hb hh)
            go_cut [11, 12] (fun pv hv wx => ∃ (p : Nat) (h2 : Int) (z2 : List Int), pv = .int .i64 p ∧ hv = .int .i64 h2 ∧ a' ≤ p ∧ p < b' ∧ Hid (h2 = 0 ∨ h2 = 1 ∨ h2 = 2) ∧ Hid (Own wx base 30 1 uC (some ⟨g, 0, none⟩) n cap z2) ∧ Hid (Seg a' b' z2 z1) ∧ Hid (Below base w wx))
            case first =>
              rcases HH.out with hh | hh | hh
              · subst hh
                go_wp2_with fail
                go_meet
                exact ⟨x, 0, z1, rfl, rfl, hx0, hx2, hid (.inl rfl), hid H1.out.1, hid (Seg.refl _ _ _), hid (Below.trans hx1.out H1.out.2)⟩
              · subst hh
                go_wp2_with fail
                go_meet
                exact ⟨x, 1, z1, rfl, rfl, hx0, hx2, hid (.inr (.inl rfl)), hid H1.out.1, hid (Seg.refl _ _ _), hid (Below.trans hx1.out H1.out.2)⟩
              · subst hh
                go_wp2_with (go_at_call 72; refine (rev_any base g n cap z1 a' b' _ H1.out.1 (by omega) (by omega) hn6).mono ?_; rintro e w2 ⟨rfl, z2, h1, h2, h3, h4⟩; have K1 := hid h1; have K2 := hid h2; have K4 := hid (Below.trans (Below.trans hx1.out H1.out.2) h4); clear h1 h2 h3 h4)
                go_meet
                exact ⟨b' - 1 - (x - a'), 1, z2, congrArg (Value.int .i64) (by omega), rfl, by omega, by omega, hid (.inr (.inl rfl)), K1, K2, K4⟩
            case rest =>
              obtain ⟨p, h2, z2, rfl, rfl, hp1, hp2, hh2, ho2, hs2, hx2⟩ := hcut
              have HF2 := hid (HF1.out.seg hs2.out)
              have HW2 := hid (HW1.out.seg hs2.out (by rw [len_own ho1.out]; omega))
              clear ho1 hx1 hs2 HF1 HW1 HH H1 HG1
              rename World => wb2
              go_upto_region 15 with (fail)
              go_cut [68] (fun sv wx => ∃ K : Bool, sv = .bool K ∧ wb2 = wx)
              case first =>
                rcases hh2.out with hh | hh | hh
                all_goals subst hh
                all_goals cases wb
                all_goals cases wp
                all_goals
                  go_wp2_with fail
                  go_meet
                  exact ⟨_, rfl, rfl⟩
              case rest =>
                obtain ⟨K, rfl, rfl⟩ := hcut
                go_upto_if 68 with (fail)
                go_cut [] (fun wx => ∃ z3 : List Int, Hid (Own wx base 30 1 uC (some ⟨g, 0, none⟩) n cap z3) ∧ Hid (Seg a' b' z3 z2) ∧ Hid (Below base w wx))
                case first =>
                  cases K
                  · go_wp2_with fail
                    go_meet
                    exact ⟨z2, ho2, hid (Seg.refl _ _ _), hx2⟩
                  · go_upto_if 72 with (go_at_call 73; refine (pins_any base g n cap z2 a' b' _ ho2.out (by omega) (by omega) hn6 HW2.out).mono ?_; rintro e w3 ⟨v, z3, rfl, h1, h2, ⟨K2, rfl, h3⟩, h4⟩; have K1 := hid h1; have K2s := hid h2; have K3 := hid h3; have K4 := hid (Below.trans hx2.out h4); clear h1 h2 h3 h4)
                    cases K2
                    · go_wp2_with fail
                      go_meet
                      exact ⟨z3, K1, K2s, K4⟩
                    · have HD := hid (HF2.out _ K2s.out (K3.out rfl))
                      go_wp2
                      go_end0
                      exact ⟨rfl, z3, K1.out, HD.out.1, HD.out.2, K4.out⟩
                case rest =>
                  obtain ⟨z3, ho3, hs3, hx3⟩ := hcut
                  have HF3 := hid (HF2.out.seg hs3.out)
                  have HW3 := hid (HW2.out.seg hs3.out (by rw [len_own ho2.out]; omega))
                  clear ho2 hx2 hs3 HF2 HW2 hh2
                  rename World => w3
                  have HLT := hid (len_own ho3.out)
                  go_upto_region 17 with (fail)
                  go_cut [87] (fun sv wx => ∃ K : Bool, sv = .bool K ∧ Hid (K = true → 0 < a' ∧ gN z3 p ≤ gN z3 (a' - 1)) ∧ Hid (Ext w3 wx))
                  case first =>
                    by_cases ha0 : 0 < a'
                    · have d0 : (0 : Int) < (a' : Int) := by omega
                      have d1 : (1 : Int) ≤ (a' : Int) := by omega
                      have d2 : (0 : Int) ≤ (a' : Int) - 1 := by omega
                      have d3 : (a' : Int) - 1 < (n : Int) := by omega
                      have d4 : ((a' : Int) - 1).toNat = a' - 1 := by omega
                      have d5 : (0 : Int) ≤ (p : Int) := by omega
                      have d6 : (p : Int) < (n : Int) := by omega
                      have c0 := rowN_cell ho3.out (k := (a' - 1)) (by rw [HLT.out]; omega)
                      have c1 := rowN_cell ho3.out (k := p) (by rw [HLT.out]; omega)
                      have f0 := Own.free ho3.out (a' - 1)
                      have f1 := Own.free ho3.out p
                      go_quiet ((go_at_call 74; exact Calls.quiet_of_same (less8_any _ _ _)))
                      go_wp2_with fail
                      go_meet
                      exact ⟨_, rfl, hid (fun hk => ⟨ha0, by have := hk; simp only [Bool.not_eq_true', decide_eq_false_iff_not] at this; omega⟩), hid (by (repeat (first | exact Ext.refl _ | refine Ext.drewN ?_ _ | refine Ext.drew ?_)))⟩
                    · have d0 : ¬ ((0 : Int) < (a' : Int)) := by omega
                      go_quiet (fail)
                      go_wp2_with fail
                      go_meet
                      exact ⟨_, rfl, hid (fun hk => by cases hk), hid (by (repeat (first | exact Ext.refl _ | refine Ext.drewN ?_ _ | refine Ext.drew ?_)))⟩
                  case rest =>
                    obtain ⟨K, rfl, hk, hxe⟩ := hcut
                    rename World => w4
                    have HE := hid (own_ext ho3.out hxe.out hbg)
                    have ho4 := hid HE.out.1
                    have hx4 := hid (Below.trans hx3.out HE.out.2)
                    clear HE ho3 hx3 hxe
                    have hbl : b' ≤ z3.length := by rw [HLT.out]; omega
                    have HBL := hid hbl
                    clear hbl
                    cases K
                    · go_upto_if 113 with (go_at_call 76; refine (part_any base g n cap z3 a' b' p _ ho4.out hp1 hp2 (by omega) hn6).mono ?_; rintro e w5 ⟨v, z5, rfl, h1, h2, ⟨m, K5, rfl, h3, h4, h5, h6⟩, h7⟩; have K1 := hid h1; have K2 := hid h2; have K5l := hid h5; have K5u := hid h6; have K7 := hid (Below.trans hx4.out h7); have KL := hid (show b' ≤ z5.length from (by rw [h2.len]; exact HBL.out)); clear h1 h2 h5 h6 h7)
                      by_cases hsm : m - a' < b' - m
                      · have y5 : (m : Int) - (a' : Int) < (b' : Int) - (m : Int) := by omega
                        go_wp2_with (go_at_call 58; refine (IH.out a' m l1 z5 _ (by omega) K1.out h3 (by omega) hl1 ((HW3.out.seg K2.out HBL.out).sub (by omega))).mono ?_; rintro e w6 ⟨rfl, z6, h1, h2, h5, h7⟩; have L1 := hid h1; have LF := hid (HF3.out.left HBL.out h3 h4 K2.out K5l.out K5u.out h2 h5); have L7 := hid (Below.trans K7.out h7); clear h1 h2 h5 h7)
                        go_roundg (b' - (m + 1))
                        case measure => omega
                        case rel => exact ⟨m + 1, b', l1, _, K5, z6, rfl, by go_num, rfl, rfl, rfl, rfl, by omega, by omega, hbb, hl1, L1.out, LF.out.1, LF.out.2, L7.out⟩
                      · have y5 : ¬ ((m : Int) - (a' : Int) < (b' : Int) - (m : Int)) := by omega
                        obtain ⟨m1, hm1⟩ : ∃ m1, m1 = m + 1 := ⟨_, rfl⟩
                        have e1 : (m : Int) + 1 = (m1 : Int) := by omega
                        have e2 : b' - m1 < N ∧ m1 ≤ b' := by omega
                        have HM := hid hm1
                        have HE2 := hid e2
                        clear hm1 e2
                        go_wp2_with (go_at_call 58; refine (IH.out m1 b' l1 z5 _ HE2.out.1 K1.out HE2.out.2 (by omega) hl1 (by rw [HM.out]; exact .inr fun k k1 k2 => K5u.out k (by omega) k2)).mono ?_; rintro e w6 ⟨rfl, z6, h1, h2, h5, h7⟩; rw [HM.out] at h2 h5; have L1 := hid h1; have LW := hid (((HW3.out.seg K2.out HBL.out).sub (Nat.le_of_lt h4)).same (fun k hk => h2.out k (.inl (by omega)))); have LF := hid (HF3.out.right HBL.out h3 h4 K2.out K5l.out K5u.out h2 h5); have L7 := hid (Below.trans K7.out h7); clear h1 h2 h5 h7)
                        go_roundg (m - a')
                        case measure => omega
                        case rel => exact ⟨a', m, l1, _, K5, z6, rfl, rfl, rfl, rfl, rfl, rfl, haa, h3, by omega, hl1, L1.out, LF.out, LW.out, L7.out⟩
                    · have HALL := hid (show 0 < a' ∧ ∀ k, a' ≤ k → k < b' → gN z3 p ≤ gN z3 k from ⟨(hk.out rfl).1, fun k k1 k2 => by
                        rcases HW3.out with h | h
                        · have := (hk.out rfl).1; omega
                        · have := h k k1 k2; have := (hk.out rfl).2; omega⟩)
                      go_wp2_with (go_at_call 75; refine (peq_any base g n cap z3 a' b' p _ ho4.out hp1 hp2 (by omega) hn6).mono ?_; rintro e w5 ⟨v, z5, rfl, h1, h2, ⟨m, rfl, h3, h4, h5, h6⟩, h7⟩; have K1 := hid h1; have KF := hid (HF3.out.eql HBL.out h3 h4 h2 HALL.out.2 h5 h6); have K7 := hid (Below.trans hx4.out h7); clear h1 h2 h5 h6 h7)
                      go_roundg (b' - m)
                      case measure => omega
                      case rel => exact ⟨m, b', l1, wb, wp, z5, rfl, rfl, rfl, rfl, rfl, rfl, by omega, h4, hbb, hl1, K1.out, KF.out.1, KF.out.2, K7.out⟩
end Go.Proofs.Ytjggjkmafcokjaa
