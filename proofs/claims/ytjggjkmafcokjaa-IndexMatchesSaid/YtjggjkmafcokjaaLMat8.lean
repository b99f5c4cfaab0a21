/- The filters that match an event are just those that do alone: the statement's walk. -/
import Derived.Test.YtjggjkmafcokjaaMatL8
import Derived.Test.YtjggjkmafcokjaaLawM8
import Derived.Test.YtjggjkmafcokjaaFewD
import Derived.Test.YtjggjkmafcokjaaQuiet
import Derived.Deep.DeepCutAuto
import Derived.IntWalk
set_option linter.unusedVariables false
set_option linter.unusedSimpArgs false
namespace Go.Proofs.Ytjggjkmafcokjaa
open Go.RowKit

set_option maxRecDepth 100000 in
set_option maxHeartbeats 8000000 in
theorem matches8_any (a0 : Option Addr) (n0 c0 : Nat) (xs : List FV) (a1 : Option Addr) (n1 c1 : Nat) (es : List AT) (at0 : Int) (w : World) (hF : Flts w a0 n0 c0 xs) (hE : Sl w 4 AT.cs a1 n1 c1 es) (hat : (Lit.int .i64 at0).wf = true) :
    Calls Try.prog 7 #[.slice a0 n0 c0, .slice a1 n1 c1, .int .i64 at0] w fun e w' => e = .returned (.bool true) ∧ Ext w w' := by
  obtain rfl := hF.sl.neq
  obtain rfl := hE.neq
  have hl0 := hF.sl.len
  have hm0 := hF.sl.max
  have hr1 : -9223372036854775808 ≤ at0 ∧ at0 ≤ 9223372036854775807 := by
    have h1 : IntKind.i64.min = -9223372036854775808 := by decide
    have h2 : IntKind.i64.max = 9223372036854775807 := by decide
    simpa only [Lit.wf, h1, h2, Bool.and_eq_true, decide_eq_true_eq] using hat
  unfold maxLen at hm0
  have HF := hid hF
  have HE := hid hE
  clear hF hE hat
  go_enter Try.func7, Try.ntmps7
  go_wp2_with fail
  refine (awake8_any _).mono ?_
  rintro e w1 ⟨rfl, hb⟩
  have hx1 := hid hb
  clear hb
  by_cases hn : xs.length ≤ 20
  · have hn2 : (xs.length : Int) ≤ 20 := by omega
    go_wp2_with fail
    refine (few04n_any _ _ _ es _ (HE.out.ext (by (repeat (first | exact Ext.refl _ | refine Ext.alloc ?_ _ | refine Ext.drewN ?_ _ | refine Ext.drew ?_ | refine Ext.trans ?_ (Hid.out (by assumption))))))).mono ?_
    rintro e w2 ⟨f4, rfl, hf4, hb⟩
    have H4 := hid hf4
    have hx2 := hid (hx1.out.trans hb)
    clear hb hf4 hx1
    cases f4 with
    | false => (go_wp2; go_ret; refine ⟨rfl, ?_⟩; (repeat (first | exact Ext.refl _ | refine Ext.alloc ?_ _ | refine Ext.drewN ?_ _ | refine Ext.drew ?_ | refine Ext.trans ?_ (Hid.out (by assumption)))))
    | true =>
    have hl4 := hid (H4.out rfl)
    clear H4
    go_upto_if 29 with (fail)
    go_cut [2] (fun v wx => ∃ z : Nat, v = .int .i64 z ∧ z ≤ 9223372036854775807 ∧ w2 = wx)
    case first =>
      by_cases h0 : at0 < 0
      · go_wp2_with fail
        go_meet
        exact ⟨(-(at0 + 1)).toNat, congrArg (Value.int .i64) (by omega), by omega, rfl⟩
      · go_wp2_with fail
        go_meet
        exact ⟨at0.toNat, congrArg (Value.int .i64) (by omega), by omega, rfl⟩
    case rest =>
      obtain ⟨z, rfl, hz, rfl⟩ := hcut
      have HSZ := hid hx2.out.size
      go_wp2_with fail
      refine (new8_any _).mono ?_
      rintro e w3 ⟨p, ownX, rfl, hI, hb⟩
      have HIX := hid hI
      have hx3 := hid (hx2.out.trans hb)
      have hz3 := hb.size
      clear hI hb hx2
      go_wp2_with fail
      refine (new8_any _).mono ?_
      rintro e w4 ⟨q, ownY, rfl, hI, hb⟩
      have HAP : Hid (Apart ownX ownY) := hid (fun b => by
        cases e : ownY b with
        | none => exact .inr rfl
        | some l => exact .inl (ix_lab HIX.out (ix_base hI b l e)))
      have HIY := hid hI
      have HIX4 := hid (ix_ext HIX.out hb)
      have hx4 := hid (hx3.out.trans hb)
      have hz4 := hb.size
      have hz34 := hz3
      obtain ⟨BX, hBX⟩ : ∃ BX, BX = w2.heap.size := ⟨_, rfl⟩
      obtain ⟨BY, hBY⟩ : ∃ BY, BY = w3.heap.size := ⟨_, rfl⟩
      have HSX := hid (show w.heap.size ≤ BX from by rw [hBX]; exact HSZ.out)
      have HSY := hid (show BX ≤ BY from by rw [hBX, hBY]; exact hz3)
      have HSY4 : BY ≤ w4.heap.size := by rw [hBY]; exact hz4
      have HIX0 : Hid (Ix w4 BX p 0 (fdI (tsF xs) (setX 0)) 0 ownX) := hid (by rw [hBX, setX_zero, ← fdI_start]; exact HIX4.out)
      have HIY0 : Hid (Ix w4 BY q 0 (fdI (tsF xs) (setY (z % 20) xs.length 0)) 0 ownY) := hid (by rw [hBY, setY_zero, ← fdI_start]; exact HIY.out)
      clear hI hb hx3 HIX HIX4 HIY hBX hBY hz3 hz4 hz34 HSZ
      obtain ⟨s, hs⟩ : ∃ s, s = z % 20 := ⟨_, rfl⟩
      have hs20 : s < 20 := by omega
      have hzs : (z : Int) % 20 = (s : Int) := by omega
      rw [← hs] at HIY0
      clear hs
      go_wp2_with fail
      go_loopg [10, 11] (xs.length) (fun g cv iv wr => ∃ (i sx sy : Nat) (oX oY : Nat → Option Lab), g + i = xs.length ∧ iv = .int .i64 i ∧ cv = .int .i64 (cntM xs es i) ∧ sx ≤ i ∧ sy ≤ i ∧
        Hid (Ix wr BX p (17 * i) (fdI (tsF xs) (setX i)) sx oX) ∧ Hid (Ix wr BY q (17 * i) (fdI (tsF xs) (setY s xs.length i)) sy oY) ∧ Hid (Apart oX oY) ∧ BY ≤ wr.heap.size ∧ Hid (Ext w wr))
      case atStart => exact ⟨0, 0, 0, ownX, ownY, by omega, rfl, rfl, Nat.le_refl _, Nat.le_refl _, HIX0, HIY0, HAP, HSY4, hx4⟩
      case round =>
        obtain ⟨i, sx, sy, oX, oY, hg, rfl, rfl, hsx, hsy, HIX, HIY, HAPr, hz, hx⟩ := hrel
        clear HAP HIX0 HIY0 HSY4
        by_cases hk : i < xs.length
        · obtain ⟨b, o, rfl, hcs⟩ := HF.out.sl.get i hk
          obtain ⟨k, hkk⟩ : ∃ k, k = (i + s) % xs.length := ⟨_, rfl⟩
          have hk2 : k < xs.length := by rw [hkk]; exact Nat.mod_lt _ (by omega)
          have hkI : ((i : Int) + (s : Int)) % (xs.length : Int) = (k : Int) := by rw [hkk]; simp
          obtain ⟨b', o', hbo, hcs'⟩ := HF.out.sl.get k hk2
          obtain ⟨rfl, rfl⟩ : b = b' ∧ o = o' := by cases hbo; exact ⟨rfl, rfl⟩
          have D0 := hid (show w.cell? ⟨b, o + i, none⟩ = some (.slice xs[i].v.a xs[i].v.n xs[i].v.c) from by have := cellsF hcs; rwa [Nat.mul_one] at this)
          have D1 := hid (show w.cell? ⟨b, o + k, none⟩ = some (.slice xs[k].v.a xs[k].v.n xs[k].v.c) from by have := cellsF hcs'; rwa [Nat.mul_one] at this)
          clear hcs hcs' hbo
          have HKK := hid hkk
          clear hkk
          have d0 := hx.out.keep D0.out
          have d1 := hx.out.keep D1.out
          have b0 : (0 : Int) ≤ (i : Int) := by omega
          have b1 : (i : Int) < (xs.length : Int) := by omega
          have b2 : (0 : Int) ≤ (k : Int) := by omega
          have b3 : (k : Int) < (xs.length : Int) := by omega
          have b4 : ¬ ((xs.length : Int) = 0) := by omega
          have HTI := hid (HF.out.ts _ (List.getElem_mem hk))
          have HTK := hid (HF.out.ts _ (List.getElem_mem hk2))
          have HLI := hid (fun ad (e : xs[i].v.a = some ad) (hne : xs[i].ts ≠ []) => Nat.lt_of_lt_of_le (sl_low8 HTI.out (by decide) e hne) HSX.out)
          have HLK := hid (fun ad (e : xs[k].v.a = some ad) (hne : xs[k].ts ≠ []) => Nat.lt_of_lt_of_le (sl_low8 HTK.out (by decide) e hne) (Nat.le_trans HSX.out HSY.out))
          go_upto_region 14 with (fail)
          go_cut [12] (fun v wx => v = .int .i64 k ∧ wr = wx)
          case first =>
            go_wp2_with fail
            go_meet
            exact ⟨congrArg (Value.int .i64) hkI, rfl⟩
          case rest =>
          obtain ⟨rfl, rfl⟩ := hcut
          clear hkI hzs
          obtain ⟨HIX0, HIY0, hx0, hz0⟩ : Hid (Ix wr BX p (17 * i) (fdI (tsF xs) (setX i)) sx oX) ∧ Hid (Ix wr BY q (17 * i) (fdI (tsF xs) (setY s xs.length i)) sy oY) ∧ Hid (Ext w wr) ∧ BY ≤ wr.heap.size := ⟨HIX, HIY, hx, hz⟩
          clear HIX HIY hx hz
          go_wp2_with fail
          refine (few05_any _ _ _ xs[i].ts _ (HTI.out.ext (by (repeat (first | exact Ext.refl _ | refine Ext.alloc ?_ _ | refine Ext.drewN ?_ _ | refine Ext.drew ?_ | refine Ext.trans ?_ (Hid.out (by assumption))))))).mono ?_
          rintro e w5 ⟨f5, rfl, hf5, hb⟩
          have HF5 := hid hf5
          clear hf5
          have HIX5 := hid (ix_ext HIX0.out hb)
          have HIY5 := hid (ix_ext HIY0.out hb)
          have hx5 := hid (hx0.out.trans hb)
          have hz5 := Nat.le_trans hz0 hb.size
          clear hb HIX0 HIY0 hx0 hz0 d0 d1
          have d0 := hx5.out.keep D0.out
          have d1 := hx5.out.keep D1.out
          go_wp2_with fail
          refine (few05_any _ _ _ xs[k].ts _ (HTK.out.ext (by (repeat (first | exact Ext.refl _ | refine Ext.alloc ?_ _ | refine Ext.drewN ?_ _ | refine Ext.drew ?_ | refine Ext.trans ?_ (Hid.out (by assumption))))))).mono ?_
          rintro e w6 ⟨f6, rfl, hf6, hb⟩
          have HF6 := hid hf6
          clear hf6
          have HIX6 := hid (ix_ext HIX5.out hb)
          have HIY6 := hid (ix_ext HIY5.out hb)
          have hx6 := hid (hx5.out.trans hb)
          have hz6 := Nat.le_trans hz5 hb.size
          clear hb HIX5 HIY5 hx5 hz5 d0 d1
          have d0 := hx6.out.keep D0.out
          have d1 := hx6.out.keep D1.out
          cases f5 with
          | false => (go_wp2; go_ret; refine ⟨rfl, ?_⟩; (repeat (first | exact Ext.refl _ | refine Ext.alloc ?_ _ | refine Ext.drewN ?_ _ | refine Ext.drew ?_ | refine Ext.trans ?_ (Hid.out (by assumption)))))
          | true =>
          cases f6 with
          | false => (go_wp2; go_ret; refine ⟨rfl, ?_⟩; (repeat (first | exact Ext.refl _ | refine Ext.alloc ?_ _ | refine Ext.drewN ?_ _ | refine Ext.drew ?_ | refine Ext.trans ?_ (Hid.out (by assumption)))))
          | true =>
          have HLen := hid (HF5.out rfl)
          clear HF5 HF6
          go_wp2_with fail
          refine (addI_any (fs := tsF xs) i _ _ _ _ (by rw [tsF_len]; exact hk) (by omega) (by rw [tsF_at hk]; exact HTI.out.ext (by (repeat (first | exact Ext.refl _ | refine Ext.alloc ?_ _ | refine Ext.drewN ?_ _ | refine Ext.drew ?_ | refine Ext.trans ?_ (Hid.out (by assumption)))))) (fun ad e hne => ix_low HIX6.out (HLI.out ad e (by rwa [tsF_at hk] at hne))) HIX6.out (Nat.le_trans HSY.out hz6) (setX_new i) (by omega) (by omega)).mono ?_
          rintro e w7 ⟨v7, oX', sx', rfl, hs7, hI, hC, hF⟩
          rw [← setX_succ] at hI
          have HIX7 := hid hI
          have HIY7 := hid (ix_far HIY6.out hC HAPr.out.symm)
          have HAP7 := hid (Apart.fresh HAPr.out.symm HIY6.out hF)
          have hx7 := hid (ext_chg (w := w) hx6.out hC (fun b l e => Nat.le_trans HSX.out (ix_base HIX6.out b l e)))
          have hz7 := Nat.le_trans hz6 hC.size
          clear hI hC hF HIX6 HIY6 hx6 hz6 HAPr d0 d1
          have d0 := hx7.out.keep D0.out
          have d1 := hx7.out.keep D1.out
          go_wp2_with fail
          refine (addI_any (fs := tsF xs) k _ _ _ _ (by rw [tsF_len]; exact hk2) (by omega) (by rw [tsF_at hk2]; exact HTK.out.ext (by (repeat (first | exact Ext.refl _ | refine Ext.alloc ?_ _ | refine Ext.drewN ?_ _ | refine Ext.drew ?_ | refine Ext.trans ?_ (Hid.out (by assumption)))))) (fun ad e hne => ix_low HIY7.out (HLK.out ad e (by rwa [tsF_at hk2] at hne))) HIY7.out hz7 (by rw [HKK.out]; exact setY_new hk) (by omega) (by omega)).mono ?_
          rintro e w8 ⟨v8, oY', sy', rfl, hs8, hI, hC, hF⟩
          rw [HKK.out, ← setY_succ] at hI
          have HIY8 := hid hI
          have HIX8 := hid (ix_far HIX7.out hC HAP7.out.symm)
          have HAP8 := hid (Apart.fresh HAP7.out.symm HIX7.out hF)
          have hx8 := hid (ext_chg (w := w) hx7.out hC (fun b l e => Nat.le_trans (Nat.le_trans HSX.out HSY.out) (ix_base HIY7.out b l e)))
          have hz8 := Nat.le_trans hz7 hC.size
          clear hI hC hF HIX7 HIY7 hx7 hz7 HAP7 d0 d1
          have d0 := hx8.out.keep D0.out
          have d1 := hx8.out.keep D1.out
          go_wp2_with fail
          refine (chkF_any _ _ _ xs[i].ts _ (HTI.out.ext (by (repeat (first | exact Ext.refl _ | refine Ext.alloc ?_ _ | refine Ext.drewN ?_ _ | refine Ext.drew ?_ | refine Ext.trans ?_ (Hid.out (by assumption))))))).mono ?_
          rintro e w9 ⟨rfl, hb⟩
          have HIX9 := hid (ix_ext HIX8.out hb)
          have HIY9 := hid (ix_ext HIY8.out hb)
          have hx9 := hid (hx8.out.trans hb)
          have hz9 := Nat.le_trans hz8 hb.size
          clear hb HIX8 HIY8 hx8 hz8 d0 d1
          have d0 := hx9.out.keep D0.out
          have d1 := hx9.out.keep D1.out
          have hsx' : sx' ≤ i + 1 := by omega
          have hsy' : sy' ≤ i + 1 := by omega
          cases hc : chkB xs[i].ts with
          | false =>
            have HG := hid (show goodM es xs[i].ts = false from by unfold goodM; rw [hc]; rfl)
            clear hc
            rw [show errF false = 50 from rfl]
            go_wp2
            go_roundg (gk - 1)
            case measure => omega
            case rel => exact ⟨i + 1, sx', sy', oX', oY', by omega, by go_num, by rw [cntM_succ hk, HG.out]; rfl, hsx', hsy', hid (ix_mono HIX9.out (by omega)), hid (ix_mono HIY9.out (by omega)), HAP8, hz9, hx9⟩
          | true =>
            rw [show errF true = 0 from rfl]
            have HC := hid hc
            clear hc
            go_wp2_with fail
            refine (matches_any _ _ _ xs[i].ts _ _ _ es _ (HTI.out.ext (by (repeat (first | exact Ext.refl _ | refine Ext.alloc ?_ _ | refine Ext.drewN ?_ _ | refine Ext.drew ?_ | refine Ext.trans ?_ (Hid.out (by assumption)))))) (HE.out.ext (by (repeat (first | exact Ext.refl _ | refine Ext.alloc ?_ _ | refine Ext.drewN ?_ _ | refine Ext.drew ?_ | refine Ext.trans ?_ (Hid.out (by assumption))))))).mono ?_
            rintro e w10 ⟨rfl, hb⟩
            have HIX10 := hid (ix_ext HIX9.out hb)
            have HIY10 := hid (ix_ext HIY9.out hb)
            have hx10 := hid (hx9.out.trans hb)
            have hz10 := Nat.le_trans hz9 hb.size
            clear hb HIX9 HIY9 hx9 hz9 d0 d1
            have d0 := hx10.out.keep D0.out
            have d1 := hx10.out.keep D1.out
            have hcn := cntM_le xs es i
            cases hm : matchesT xs[i].ts es with
            | false =>
              have HG := hid (show goodM es xs[i].ts = false from by unfold goodM; rw [hm, Bool.and_false])
              clear hm
              go_wp2
              go_roundg (gk - 1)
              case measure => omega
              case rel => exact ⟨i + 1, sx', sy', oX', oY', by omega, by go_num, by rw [cntM_succ hk, HG.out]; rfl, hsx', hsy', hid (ix_mono HIX10.out (by omega)), hid (ix_mono HIY10.out (by omega)), HAP8, hz10, hx10⟩
            | true =>
              have HG := hid (show goodM es xs[i].ts = true from by unfold goodM; rw [hm, HC.out]; rfl)
              clear hm
              go_wp2
              go_roundg (gk - 1)
              case measure => omega
              case rel => exact ⟨i + 1, sx', sy', oX', oY', by omega, by go_num, by rw [cntM_succ hk, HG.out]; go_num, hsx', hsy', hid (ix_mono HIX10.out (by omega)), hid (ix_mono HIY10.out (by omega)), HAP8, hz10, hx10⟩
        · have hin : i = xs.length := by omega
          subst hin
          have hcn := cntM_all xs es
          have hle := cntM_le xs es xs.length
          go_wp2_with fail
          refine (match_any sortedTo1000 _ _ _ es _ HIX.out (by omega) (by omega) fdI_ts (HE.out.ext (by (repeat (first | exact Ext.refl _ | refine Ext.alloc ?_ _ | refine Ext.drewN ?_ _ | refine Ext.drew ?_ | refine Ext.trans ?_ (Hid.out (by assumption)))))) (by have := hl4.out.1; omega) (fun e he => by have := hl4.out.2 e he; unfold maxLen; omega)).mono ?_
          rintro e w5 ⟨la, ln, lc, zs, rfl, hown, ⟨hz1, hz2, hz3⟩, hb⟩
          have HM := hid (show ∀ x, x ∈ zs ↔ (0 ≤ x ∧ x.toNat < xs.length ∧ goodM es ((tsF xs).getD x.toNat []) = true) from fun x => by
            have := fdI_mem (fs := tsF xs) (es := es) x
            rw [tsF_len] at this
            exact (hz3 x).trans this)
          have HIY5 := hid (show Ix w5 BY q (17 * xs.length) (fdI (tsF xs) (setX xs.length)) sy oY from by
            have h1 := ix_ext HIY.out hb
            have h2 := setXY (fs := tsF xs) s
            rw [tsF_len] at h2
            rwa [h2] at h1)
          have hx5 := hid (hx.out.trans hb)
          have HO := hid hown.sl
          obtain rfl := hown.neq
          have HCNT := hid (show zs.length = cntM xs es xs.length from by
            rw [hcn]
            exact zs_count hz1 (fun x => by rw [tsF_len]; exact HM.out x))
          have hlz := HO.out.len
          have hmz := HO.out.max
          unfold maxLen at hmz
          have ZN := hid hz1
          have ZR := hid hz2
          clear hz1 hz2 hz3 hb hown HIX HIY hx HAPr hz hsx hcn
          go_wp2_with fail
          go_loopg [16] (zs.length) (fun g st wl => ∃ k : Nat, g + k = zs.length ∧ st = .int .i64 k ∧ Hid (Ext w5 wl))
          case atStart => exact ⟨0, by omega, rfl, Ext.refl _⟩
          case round =>
            obtain ⟨k, hg2, rfl, hxl⟩ := hrel
            have hxw := hid (hx5.out.trans hxl.out)
            by_cases hkz : k < zs.length
            · obtain ⟨m1, m2, m3⟩ := (HM.out zs[k]).1 (List.getElem_mem hkz)
              obtain ⟨r, hr⟩ : ∃ r : Nat, zs[k] = (r : Int) := ⟨zs[k].toNat, (Int.toNat_of_nonneg m1).symm⟩
              rw [hr, Int.toNat_natCast] at m2 m3
              rw [tsF_at m2] at m3
              have hmt : matchesT xs[r].ts es = true := by
                unfold goodM at m3
                rw [Bool.and_eq_true] at m3
                exact m3.2
              obtain ⟨lb, lo, rfl, hd⟩ := cellU (HO.out.ext hxl.out) hkz
              obtain ⟨b, o, rfl, hcs⟩ := HF.out.sl.get r m2
              have d2 : wr.cell? ⟨b, o + r, none⟩ = some (.slice xs[r].v.a xs[r].v.n xs[r].v.c) := hxw.out.keep (by have := cellsF hcs; rwa [Nat.mul_one] at this)
              have HTR := hid (HF.out.ts _ (List.getElem_mem m2))
              have HMT := hid hmt
              rw [hr] at hd
              have HR := hid hr
              clear hcs hmt m1 m3 hr
              have b0 : (0 : Int) ≤ (k : Int) := by omega
              have b1 : (k : Int) < (zs.length : Int) := by omega
              have b2 : (0 : Int) ≤ (r : Int) := by omega
              have b3 : (r : Int) < (xs.length : Int) := by omega
              have b4 : decide ((xs.length : Int) ≤ (r : Int)) = false := decide_eq_false (by omega)
              have q0 := ExtBy.cell hd
              have q2 := ExtBy.cell d2
              by_cases hk0 : ¬ 0 < k
              · have e2 : decide ((0 : Int) < (k : Int)) = false := decide_eq_false (by omega)
                have e2' : decide (0 < k) = false := decide_eq_false hk0
                have HK0 := hid hk0
                clear hk0
                go_wp2_with fail
                refine wp_region_quiet_ext (by kernel_rfl) (by kernel_rfl) ?_
                repeat (first | go_big_quiet_step ((go_at_call 26; exact Calls.extOf (matches_any _ _ _ xs[r].ts _ _ _ es _ (HTR.out.ext (Ext.trans hxw.out (ExtBy.is _))) (HE.out.ext (Ext.trans hxw.out (ExtBy.is _)))) (congrArg Value.bool HMT.out))) | quiet_step ((go_at_call 26; exact Calls.extOf (matches_any _ _ _ xs[r].ts _ _ _ es _ (HTR.out.ext (Ext.trans hxw.out (ExtBy.is _))) (HE.out.ext (Ext.trans hxw.out (ExtBy.is _)))) (congrArg Value.bool HMT.out))))
                refine wpQuiet_nil ?_
                intro _ hw'
                obtain ⟨pe, hw''⟩ := hw'
                subst hw''
                obtain ⟨wq, hwq⟩ := pe
                dsimp only
                have hxq := hid hwq
                clear hwq
                go_wp2
                go_roundg (gk - 1)
                case measure => omega
                case rel => exact ⟨k + 1, by omega, by go_num, hid (hxl.out.trans hxq.out)⟩
              · obtain ⟨j, hj⟩ : ∃ j, k = j + 1 := ⟨k - 1, by omega⟩
                have hup : zs[j] < zs[k] := by
                  have := zs_up ZN.out ZR.out (show j + 1 < zs.length by omega)
                  simp only [← hj] at this
                  exact this
                rw [HR.out] at hup
                obtain ⟨v0, hv0⟩ : ∃ v0, v0 = zs[j] := ⟨_, rfl⟩
                rw [← hv0] at hup
                obtain ⟨lb', lo', hl', hd'⟩ := cellU (HO.out.ext hxl.out) (show j < zs.length by omega)
                obtain ⟨rfl, rfl⟩ : lb = lb' ∧ lo = lo' := by cases hl'; exact ⟨rfl, rfl⟩
                rw [← hv0] at hd'
                have q1 := ExtBy.cell hd'
                clear hv0 hl'
                have e1 : decide ((r : Int) ≤ v0) = false := decide_eq_false (by omega)
                have e2 : decide ((0 : Int) < (k : Int)) = true := decide_eq_true (by omega)
                have e2' : decide (0 < k) = true := decide_eq_true (by omega)
                have e3 : (k : Int) - 1 = (j : Int) := by omega
                have e4 : (0 : Int) ≤ (j : Int) := by omega
                have e5 : (j : Int) < (zs.length : Int) := by omega
                have HJ := hid hj
                clear hj hk0
                have HUP := hid hup
                clear hup
                go_wp2_with fail
                refine wp_region_quiet_ext (by kernel_rfl) (by kernel_rfl) ?_
                repeat (first | go_big_quiet_step ((go_at_call 26; exact Calls.extOf (matches_any _ _ _ xs[r].ts _ _ _ es _ (HTR.out.ext (Ext.trans hxw.out (ExtBy.is _))) (HE.out.ext (Ext.trans hxw.out (ExtBy.is _)))) (congrArg Value.bool HMT.out))) | quiet_step ((go_at_call 26; exact Calls.extOf (matches_any _ _ _ xs[r].ts _ _ _ es _ (HTR.out.ext (Ext.trans hxw.out (ExtBy.is _))) (HE.out.ext (Ext.trans hxw.out (ExtBy.is _)))) (congrArg Value.bool HMT.out))))
                refine wpQuiet_nil ?_
                intro _ hw'
                obtain ⟨pe, hw''⟩ := hw'
                subst hw''
                obtain ⟨wq, hwq⟩ := pe
                dsimp only
                have hxq := hid hwq
                clear hwq
                go_wp2
                go_roundg (gk - 1)
                case measure => omega
                case rel => exact ⟨k + 1, by omega, by go_num, hid (hxl.out.trans hxq.out)⟩
            · have HIYl := hid (ix_ext HIY5.out hxl.out)
              have hcc : (zs.length : Int) = (cntM xs es xs.length : Int) := by rw [HCNT.out]
              go_wp2_with fail
              refine (match_any sortedTo1000 _ _ _ es _ HIYl.out (by omega) (by omega) fdI_ts (HE.out.ext (by (repeat (first | exact Ext.refl _ | refine Ext.alloc ?_ _ | refine Ext.drewN ?_ _ | refine Ext.drew ?_ | refine Ext.trans ?_ (Hid.out (by assumption)))))) (by have := hl4.out.1; omega) (fun e he => by have := hl4.out.2 e he; unfold maxLen; omega)).mono ?_
              rintro e w6 ⟨la', ln', lc', zs', rfl, hown, ⟨hz1, hz2, hz3⟩, hb⟩
              have HO' := hid hown.sl
              obtain rfl := hown.neq
              have HZZ := hid (show decide (zs' = zs) = true from decide_eq_true (zs_one hz1 hz2 ZN.out ZR.out (fun x => by
                have := fdI_mem (fs := tsF xs) (es := es) x
                rw [tsF_len] at this
                rw [hz3, this, HM.out])))
              have hx6 := hid (hxw.out.trans hb)
              have HOz := hid (HO.out.ext (hxl.out.trans hb))
              clear hz1 hz2 hz3 hb hown hxw
              go_wp2_with fail
              refine (same8_any _ _ _ zs' _ _ _ zs _ (HO'.out.ext (by (repeat (first | exact Ext.refl _ | refine Ext.alloc ?_ _ | refine Ext.drewN ?_ _ | refine Ext.drew ?_ | refine Ext.trans ?_ (Hid.out (by assumption)))))) (HOz.out.ext (by (repeat (first | exact Ext.refl _ | refine Ext.alloc ?_ _ | refine Ext.drewN ?_ _ | refine Ext.drew ?_ | refine Ext.trans ?_ (Hid.out (by assumption))))))).mono ?_
              rintro e w7 ⟨rfl, hb⟩
              rw [HZZ.out]
              have hx7 := hid (hx6.out.trans hb)
              clear hb hx6
              go_wp2
              go_ret
              refine ⟨rfl, ?_⟩
              (repeat (first | exact Ext.refl _ | refine Ext.alloc ?_ _ | refine Ext.drewN ?_ _ | refine Ext.drew ?_ | refine Ext.trans ?_ (Hid.out (by assumption))))
  · have hn2 : ¬ ((xs.length : Int) ≤ 20) := by omega
    (go_wp2; go_ret; refine ⟨rfl, ?_⟩; (repeat (first | exact Ext.refl _ | refine Ext.alloc ?_ _ | refine Ext.drewN ?_ _ | refine Ext.drew ?_ | refine Ext.trans ?_ (Hid.out (by assumption)))))
end Go.Proofs.Ytjggjkmafcokjaa
