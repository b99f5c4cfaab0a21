/- Reduced filters match, together, just what all did: the statement's walk. -/
import Derived.Test.YtclmbonippjhoaaAwake07
import Derived.Deep.RegionHeld3
set_option linter.unusedVariables false
set_option linter.unusedSimpArgs false
namespace Go.Proofs.Ytclmbonippjhoaa
open Go.RowKit

theorem okF_of {xs : List FV} (h : ∀ x, x ∈ xs → chkB x.ts = true) : ∀ f, f ∈ xs.map (·.ts) → okF f := fun f hf => by
  obtain ⟨x, hx, rfl⟩ := List.mem_map.1 hf
  exact (chk_ok (h x hx)).2
theorem red_facts {xs ys : List FV} {es : List AT} (hk : ∀ x, x ∈ xs → chkB x.ts = true) (he : okE es) (hm : ys.map (·.ts) = red [] (xs.map (·.ts))) :
    ys.length ≤ xs.length ∧ decide (0 < ys.length) = decide (0 < xs.length) ∧ (∀ i k (hi : i < ys.length) (hk : k < ys.length), i ≠ k → cov ys[i].ts ys[k].ts = false) ∧ red [] (ys.map (·.ts)) = ys.map (·.ts) ∧
    ys.any (fun y => matchesT y.ts es) = xs.any (fun x => matchesT x.ts es) := by
  have hl : ys.length = (red [] (xs.map (·.ts))).length := by rw [← hm, List.length_map]
  refine ⟨?_, ?_, fun i k hi hkk hne => ?_, ?_, ?_⟩
  · rw [hl]; have := red_len (xs.map (·.ts)) []; simp at this; exact this
  · rw [hl, red_nonempty (okF_of hk), List.length_map]
  · have hi' : i < (red [] (xs.map (·.ts))).length := by omega
    have hk' : k < (red [] (xs.map (·.ts))).length := by omega
    have := red_pair hi' hk' hne
    simp only [← hm, List.getElem_map] at this
    exact this
  · rw [hm]; exact red_again _
  · have h1 : ys.any (fun y => matchesT y.ts es) = (ys.map (·.ts)).any (fun f => matchesT f es) := by rw [List.any_map]; rfl
    have h2 : xs.any (fun y => matchesT y.ts es) = (xs.map (·.ts)).any (fun f => matchesT f es) := by rw [List.any_map]; rfl
    rw [h1, h2, hm]; exact red_any (okF_of hk) he
set_option maxRecDepth 100000 in
set_option maxHeartbeats 4000000 in
theorem reduces07_any (la : Option Addr) (ln lc : Nat) (xs : List FV) (ea : Option Addr) (en ec : Nat) (es : List AT) (w : World) (hX : Flts w la ln lc xs) (hE : Sl w 4 AT.cs ea en ec es) :
    Calls Try.prog 14 #[.slice la ln lc, .slice ea en ec] w fun e w' => e = .returned (.bool true) ∧ Ext w w' := by
  obtain rfl := hX.sl.neq
  have hm := hX.sl.max
  have hl := hX.sl.len
  unfold maxLen at hm
  have HX := hid hX
  have HE := hid hE
  clear hX hE
  go_enter Try.func14, Try.ntmps14
  go_wp2_with fail
  refine (awake07_any w).mono ?_
  rintro e w1 ⟨rfl, hb⟩
  have hx1 := hid hb
  clear hb
  go_wp2_with fail
  refine (few07_any _ _ _ xs _ (HX.out.ext (by (repeat (first | exact Ext.refl _ | refine Ext.alloc ?_ _ | refine Ext.drewN ?_ _ | refine Ext.drew ?_ | refine Ext.trans ?_ (Hid.out (by assumption))))))).mono ?_
  rintro e w2 ⟨f1, rfl, hf, hb⟩
  have hx2 := hid hb
  have HF := hid hf
  clear hb hf
  cases f1
  · skip
    go_wp2
    go_ret
    refine ⟨rfl, ?_⟩
    (repeat (first | exact Ext.refl _ | refine Ext.alloc ?_ _ | refine Ext.drewN ?_ _ | refine Ext.drew ?_ | refine Ext.trans ?_ (Hid.out (by assumption))))
  have hlen : xs.length ≤ 12 := (HF.out rfl).1
  have HT := hid (HF.out rfl).2
  clear HF
  go_wp2_with fail
  refine (few04_any _ _ _ es _ (HE.out.ext (by (repeat (first | exact Ext.refl _ | refine Ext.alloc ?_ _ | refine Ext.drewN ?_ _ | refine Ext.drew ?_ | refine Ext.trans ?_ (Hid.out (by assumption))))))).mono ?_
  rintro e w3 ⟨f2, rfl, hf, hb⟩
  have hx3 := hid hb
  clear hb hf
  cases f2
  · skip
    go_wp2
    go_ret
    refine ⟨rfl, ?_⟩
    (repeat (first | exact Ext.refl _ | refine Ext.alloc ?_ _ | refine Ext.drewN ?_ _ | refine Ext.drew ?_ | refine Ext.trans ?_ (Hid.out (by assumption))))
  go_wp2_with fail
  refine (may_any _ _ _ xs _ (HX.out.ext (by (repeat (first | exact Ext.refl _ | refine Ext.alloc ?_ _ | refine Ext.drewN ?_ _ | refine Ext.drew ?_ | refine Ext.trans ?_ (Hid.out (by assumption))))))).mono ?_
  rintro e w4 ⟨f3, rfl, hf, hb⟩
  have hx4 := hid hb
  have HF := hid hf
  clear hb hf
  cases f3
  · skip
    go_wp2
    go_ret
    refine ⟨rfl, ?_⟩
    (repeat (first | exact Ext.refl _ | refine Ext.alloc ?_ _ | refine Ext.drewN ?_ _ | refine Ext.drew ?_ | refine Ext.trans ?_ (Hid.out (by assumption))))
  have HC := hid (HF.out rfl)
  clear HF
  go_wp2_with fail
  refine (chkE_any _ _ _ es _ (HE.out.ext (by (repeat (first | exact Ext.refl _ | refine Ext.alloc ?_ _ | refine Ext.drewN ?_ _ | refine Ext.drew ?_ | refine Ext.trans ?_ (Hid.out (by assumption))))))).mono ?_
  rintro e w5 ⟨z, rfl, hz, hz2, hb⟩
  have hx5 := hid hb
  clear hb
  rcases hz2 with rfl | rfl
  · have hek := hid (hz rfl)
    clear hz
    go_wp2_with fail
    refine (reduce_any _ _ _ xs _ (HX.out.ext (by (repeat (first | exact Ext.refl _ | refine Ext.alloc ?_ _ | refine Ext.drewN ?_ _ | refine Ext.drew ?_ | refine Ext.trans ?_ (Hid.out (by assumption)))))) (by omega) (fun x hx => ?_)).mono ?_
    · rw [(HX.out.ts x hx).neq]
      exact Nat.le_trans (HT.out x hx) (by decide)
    rintro e w6 ⟨ya, yn, yc, ys, rfl, hown, hmap, hb⟩
    have HY := hid hown.flts
    obtain ⟨hyl, hyp, hpair, hag, hany⟩ := red_facts HC.out hek.out hmap
    have HYT : Hid (∀ y, y ∈ ys → y.ts.length ≤ 1000) := fun y hy => by
      have : y.ts ∈ red [] (xs.map (·.ts)) := by rw [← hmap]; exact List.mem_map_of_mem hy
      obtain ⟨x, hx, hxe⟩ := List.mem_map.1 (red_all this)
      rw [← hxe]; exact Nat.le_trans (HT.out x hx) (by decide)
    obtain rfl := HY.out.sl.neq
    have hym := HY.out.sl.max
    have hyc := HY.out.sl.len
    unfold maxLen at hym
    have HP := hid hpair
    have HAG := hid hag
    have HAN := hid hany
    have HYP := hid hyp
    have hx6 := hid hb
    clear hb hown hmap hpair hag hany hyp
    go_wp2_with fail
    go_loopg [7, 8] (ys.length) (fun g st _ wr => ∃ i : Nat, g + i = ys.length ∧ st = .int .i64 i ∧ Hid (Ext w6 wr))
    case atStart => exact ⟨0, by omega, rfl, Ext.refl _⟩
    case round =>
      obtain ⟨i, hg, rfl, hx⟩ := hrel
      obtain ⟨G, hG⟩ : ∃ G, G = gk := ⟨_, rfl⟩
      by_cases hi : i < ys.length
      · obtain ⟨b, o, rfl, hc⟩ := HY.out.sl.get i hi
        have HC1 := hid hc
        clear hc
        have b0 : (0 : Int) ≤ (i : Int) := by omega
        have b1 : (i : Int) < (ys.length : Int) := by omega
        go_wp2_with fail
        go_loopg [8] (ys.length) (fun g st wl => ∃ k : Nat, g + k = ys.length ∧ st = .int .i64 k ∧ Hid (Ext wr wl))
        case atStart => exact ⟨0, by omega, rfl, Ext.refl _⟩
        case round =>
          obtain ⟨k, hg2, rfl, hy0⟩ := hrel
          rename World => wl
          by_cases hk : k < ys.length
          · obtain ⟨b', o', hbo, hc'⟩ := HY.out.sl.get k hk
            simp only [Option.some.injEq, Addr.mk.injEq, and_true] at hbo
            obtain ⟨rfl, rfl⟩ := hbo
            have hE : Ext w6 wl := (by (repeat (first | exact Ext.refl _ | refine Ext.alloc ?_ _ | refine Ext.drewN ?_ _ | refine Ext.drew ?_ | refine Ext.trans ?_ (Hid.out (by assumption)))))
            have c0 := cellsF (w := wl) (b := b) (o := o + i * 1) (x := ys[i]) (fun q v hq => hE.keep (HC1.out q v hq))
            have d0 := cellsF (w := wl) (b := b) (o := o + k * 1) (x := ys[k]) (fun q v hq => hE.keep (hc' q v hq))
            rw [Nat.mul_one] at c0 d0
            clear hc' hE
            have e0 : (0 : Int) ≤ (k : Int) := by omega
            have e1 : (k : Int) < (ys.length : Int) := by omega
            by_cases hik : i = k
            · have hd : ((i : Int) != (k : Int)) = false := by simp [hik]
              clear hik
              go_wp2_with fail
              go_quiet (fail)
              go_wp2
              go_roundg (gk - 1)
              case measure => omega
              case rel => exact ⟨k + 1, by omega, by go_num, (by (repeat (first | exact Ext.refl _ | refine Ext.alloc ?_ _ | refine Ext.drewN ?_ _ | refine Ext.drew ?_ | refine Ext.trans ?_ (Hid.out (by assumption)))))⟩
            · have hd : ((i : Int) != (k : Int)) = true := by simp; omega
              have He := hid (HP.out i k hi hk hik)
              clear hik
              go_wp2_with fail
              go_region_held3 (fun w' => w'.cell? ⟨b, o + i, none⟩ = some (.slice ys[i].v.a ys[i].v.n ys[i].v.c) ∧ w'.cell? ⟨b, o + k, none⟩ = some (.slice ys[k].v.a ys[k].v.n ys[k].v.c)) (first | (go_split_ands; refine ⟨?_, ?_⟩ <;> exact (Hid.out hy).keep (by assumption)) | go_keep) ((go_at_call 34; refine (covers_any _ _ _ _ _ _ ys[i].ts ys[k].ts _ ((HY.out.ts _ (List.getElem_mem hi)).ext (by (repeat (first | exact Ext.refl _ | refine Ext.alloc ?_ _ | refine Ext.drewN ?_ _ | refine Ext.drew ?_ | refine Ext.trans ?_ (Hid.out (by assumption)))))) ((HY.out.ts _ (List.getElem_mem hk)).ext (by (repeat (first | exact Ext.refl _ | refine Ext.alloc ?_ _ | refine Ext.drewN ?_ _ | refine Ext.drew ?_ | refine Ext.trans ?_ (Hid.out (by assumption))))))).mono ?_; rintro e w' ⟨he, hb⟩; rw [He.out] at he; subst he; have hy := hid hb; clear hb))
              all_goals
                go_wp2
                go_roundg (gk - 1)
                case measure => omega
                case rel => exact ⟨k + 1, by omega, by go_num, (by (repeat (first | exact Ext.refl _ | refine Ext.alloc ?_ _ | refine Ext.drewN ?_ _ | refine Ext.drew ?_ | refine Ext.trans ?_ (Hid.out (by assumption)))))⟩
          · go_wp2_with fail
            go_roundg (G - 1)
            case measure => omega
            case rel => exact ⟨i + 1, by omega, by go_num, (by (repeat (first | exact Ext.refl _ | refine Ext.alloc ?_ _ | refine Ext.drewN ?_ _ | refine Ext.drew ?_ | refine Ext.trans ?_ (Hid.out (by assumption)))))⟩
      · go_wp2_with fail
        refine (reduce_any _ _ _ ys _ (HY.out.ext (by (repeat (first | exact Ext.refl _ | refine Ext.alloc ?_ _ | refine Ext.drewN ?_ _ | refine Ext.drew ?_ | refine Ext.trans ?_ (Hid.out (by assumption)))))) (by omega) (fun y hy => ?_)).mono ?_
        · rw [(HY.out.ts y hy).neq]
          exact HYT.out y hy
        rintro e w7 ⟨za, zn, zc, zs, rfl, hown, hmap, hb⟩
        have HZ := hid hown.flts
        have HZM := hid (hmap.trans HAG.out)
        have hx7 := hid hb
        clear hb hown hmap
        go_wp2_with fail
        refine (same07_any _ _ _ _ _ _ zs ys _ HZ.out (HY.out.ext (by (repeat (first | exact Ext.refl _ | refine Ext.alloc ?_ _ | refine Ext.drewN ?_ _ | refine Ext.drew ?_ | refine Ext.trans ?_ (Hid.out (by assumption)))))) HZM.out).mono ?_
        rintro e w8 ⟨rfl, hb⟩
        have hx8 := hid hb
        clear hb
        obtain ⟨v, hv⟩ : ∃ v, v = xs.any (fun x => matchesT x.ts es) := ⟨_, rfl⟩
        have HV := hid hv
        have HV1 := hid (HAN.out.trans hv.symm)
        clear hv
        go_wp2_with fail
        refine (any_any _ _ _ ys _ _ _ es _ (HY.out.ext (by (repeat (first | exact Ext.refl _ | refine Ext.alloc ?_ _ | refine Ext.drewN ?_ _ | refine Ext.drew ?_ | refine Ext.trans ?_ (Hid.out (by assumption)))))) (HE.out.ext (by (repeat (first | exact Ext.refl _ | refine Ext.alloc ?_ _ | refine Ext.drewN ?_ _ | refine Ext.drew ?_ | refine Ext.trans ?_ (Hid.out (by assumption))))))).mono ?_
        rintro e w9 ⟨he, hb⟩
        rw [HV1.out] at he
        subst he
        have hx9 := hid hb
        clear hb
        go_wp2_with fail
        refine (any_any _ _ _ xs _ _ _ es _ (HX.out.ext (by (repeat (first | exact Ext.refl _ | refine Ext.alloc ?_ _ | refine Ext.drewN ?_ _ | refine Ext.drew ?_ | refine Ext.trans ?_ (Hid.out (by assumption)))))) (HE.out.ext (by (repeat (first | exact Ext.refl _ | refine Ext.alloc ?_ _ | refine Ext.drewN ?_ _ | refine Ext.drew ?_ | refine Ext.trans ?_ (Hid.out (by assumption))))))).mono ?_
        rintro e w10 ⟨he, hb⟩
        rw [← HV.out] at he
        subst he
        have hx10 := hid hb
        clear hb
        have hyl' : (ys.length : Int) ≤ (xs.length : Int) := by omega
        by_cases h0 : 0 < xs.length
        · have h1 : 0 < ys.length := by have := HYP.out; simp [h0] at this; exact this
          have h0' : (0 : Int) < (xs.length : Int) := by omega
          have h1' : (0 : Int) < (ys.length : Int) := by omega
          cases v
          · skip
            go_wp2
            go_ret
            refine ⟨rfl, ?_⟩
            (repeat (first | exact Ext.refl _ | refine Ext.alloc ?_ _ | refine Ext.drewN ?_ _ | refine Ext.drew ?_ | refine Ext.trans ?_ (Hid.out (by assumption))))
          · skip
            go_wp2
            go_ret
            refine ⟨rfl, ?_⟩
            (repeat (first | exact Ext.refl _ | refine Ext.alloc ?_ _ | refine Ext.drewN ?_ _ | refine Ext.drew ?_ | refine Ext.trans ?_ (Hid.out (by assumption))))
        · have h1 : ys.length = 0 := by omega
          have h2 : xs.length = 0 := by omega
          have h0' : ¬ (0 : Int) < (xs.length : Int) := by omega
          have h1' : ¬ (0 : Int) < (ys.length : Int) := by omega
          have H1 := hid h1
          have H2 := hid h2
          clear h1 h2
          cases v
          · skip
            go_wp2
            go_ret
            refine ⟨ret_bool (by simp [H1.out]), ?_⟩
            (repeat (first | exact Ext.refl _ | refine Ext.alloc ?_ _ | refine Ext.drewN ?_ _ | refine Ext.drew ?_ | refine Ext.trans ?_ (Hid.out (by assumption))))
          · skip
            go_wp2
            go_ret
            refine ⟨ret_bool (by simp [H1.out]), ?_⟩
            (repeat (first | exact Ext.refl _ | refine Ext.alloc ?_ _ | refine Ext.drewN ?_ _ | refine Ext.drew ?_ | refine Ext.trans ?_ (Hid.out (by assumption))))
  · clear hz
    go_wp2
    go_ret
    refine ⟨rfl, ?_⟩
    (repeat (first | exact Ext.refl _ | refine Ext.alloc ?_ _ | refine Ext.drewN ?_ _ | refine Ext.drew ?_ | refine Ext.trans ?_ (Hid.out (by assumption))))
end Go.Proofs.Ytclmbonippjhoaa
