/- A filter that is added and dropped leaves an index as it was: the statement's walk. -/
import Derived.Test.YtjggjkmafcokjaaUndP8
import Derived.Test.YtjggjkmafcokjaaSameD
import Derived.Test.YtjggjkmafcokjaaOwn8
import Derived.Deep.DeepCutAuto
import Derived.IntWalk
set_option linter.unusedVariables false
set_option linter.unusedSimpArgs false
namespace Go.Proofs.Ytjggjkmafcokjaa
open Go.RowKit

set_option maxRecDepth 100000 in
set_option maxHeartbeats 8000000 in
theorem undoes8_any (a0 : Option Addr) (n0 c0 : Nat) (xs : List CallV) (id : Int) (a2 : Option Addr) (n2 c2 : Nat) (ts : List T) (a3 : Option Addr) (n3 c3 : Nat) (es : List AT) (w : World) (hX : Script w a0 n0 c0 xs) (hU : U64 id) (hF : Sl w 5 T.cs a2 n2 c2 ts) (hE : Sl w 4 AT.cs a3 n3 c3 es) :
    Calls Try.prog 5 #[.slice a0 n0 c0, .int .u64 id, .slice a2 n2 c2, .slice a3 n3 c3] w fun e w' => e = .returned (.bool true) ∧ Ext w w' := by
  obtain rfl := hX.sl.neq
  obtain rfl := hF.neq
  obtain rfl := hE.neq
  have hl0 := hX.sl.len
  have hm0 := hX.sl.max
  have hl2 := hF.len
  have hm2 := hF.max
  unfold maxLen at hm0 hm2
  have HX := hid hX
  have HF := hid hF
  have HE := hid hE
  have HU := hid hU
  clear hX hF hE hU
  go_enter Try.func5, Try.ntmps5
  go_wp2_with fail
  refine (awake8_any _).mono ?_
  rintro e w1 ⟨rfl, hb⟩
  have hx1 := hid hb
  clear hb
  go_wp2_with fail
  refine (few05_any _ _ _ ts _ (HF.out.ext (by (repeat (first | exact Ext.refl _ | refine Ext.alloc ?_ _ | refine Ext.drewN ?_ _ | refine Ext.drew ?_ | refine Ext.trans ?_ (Hid.out (by assumption))))))).mono ?_
  rintro e w2 ⟨f5, rfl, hf5, hb⟩
  have H5 := hid hf5
  have hx2 := hid (hx1.out.trans hb)
  clear hb hf5 hx1
  cases f5 with
  | false => (go_wp2; go_ret; refine ⟨rfl, ?_⟩; (repeat (first | exact Ext.refl _ | refine Ext.alloc ?_ _ | refine Ext.drewN ?_ _ | refine Ext.drew ?_ | refine Ext.trans ?_ (Hid.out (by assumption)))))
  | true =>
  have hl5 := hid (H5.out rfl)
  go_wp2_with fail
  refine (few04n_any _ _ _ es _ (HE.out.ext (by (repeat (first | exact Ext.refl _ | refine Ext.alloc ?_ _ | refine Ext.drewN ?_ _ | refine Ext.drew ?_ | refine Ext.trans ?_ (Hid.out (by assumption))))))).mono ?_
  rintro e w3 ⟨f4, rfl, hf4, hb⟩
  have H4 := hid hf4
  have hx3 := hid (hx2.out.trans hb)
  clear hb hf4 hx2 H5
  cases f4 with
  | false => (go_wp2; go_ret; refine ⟨rfl, ?_⟩; (repeat (first | exact Ext.refl _ | refine Ext.alloc ?_ _ | refine Ext.drewN ?_ _ | refine Ext.drew ?_ | refine Ext.trans ?_ (Hid.out (by assumption)))))
  | true =>
  have hl4 := hid (H4.out rfl)
  clear H4
  have HSZ := hid hx3.out.size
  go_wp2_with fail
  refine (new8_any _).mono ?_
  rintro e w4 ⟨p, own0, rfl, hI, hb⟩
  obtain ⟨B, hB⟩ : ∃ B, B = w3.heap.size := ⟨_, rfl⟩
  have HSB := hid (show w.heap.size ≤ B from by rw [hB]; exact HSZ.out)
  have hz4 : B ≤ w4.heap.size := by rw [hB]; exact hb.size
  rw [← hB] at hI
  have HI0 := hid hI
  have hx4 := hid (hx3.out.trans hb)
  clear hI hb hx3 hB HSZ
  go_wp2_with fail
  go_loopg [11] (xs.length) (fun g iv wr => ∃ (i s : Nat) (fd : Int → Option (List T)) (own : Nat → Option Lab), g + i = xs.length ∧ iv = .int .i64 i ∧ i ≤ 30 ∧ s ≤ i ∧
    Hid (Ix wr B p (17 * i) fd s own) ∧ Hid (FdOk fd) ∧ B ≤ wr.heap.size ∧ Hid (Ext w wr))
  case atStart => exact ⟨0, 0, _, own0, by omega, rfl, by omega, by omega, HI0, hid FdOk.none, hz4, hx4⟩
  case round =>
    obtain ⟨i, s, fd, own, hg, rfl, hi30, hsi, HI, HFd, hz, hx⟩ := hrel
    clear HI0 hz4 hx4
    by_cases hk : i < xs.length ∧ i < 30
    · obtain ⟨hk, hk30⟩ := hk
      have q1 : (i : Int) < (xs.length : Int) := by omega
      have q2 : (i : Int) < 30 := by omega
      have q0 : (0 : Int) ≤ (i : Int) := by omega
      obtain ⟨b, o, rfl, hcs⟩ := HX.out.sl.get i hk
      obtain ⟨D0, D1, D2, D3⟩ := cellsC hcs
      have D0 := hid D0
      have D1 := hid D1
      have D2 := hid D2
      have D3 := hid D3
      clear hcs
      have HIT := hid (HX.out.it _ (List.getElem_mem hk))
      have HLI := hid (fun ad (e : xs[i].f.a = some ad) (hne : xs[i].ts ≠ []) => Nat.lt_of_lt_of_le (sl_low8 HIT.out.f (by decide) e hne) HSB.out)
      have d0 := hx.out.keep D0.out
      have d1 := hx.out.keep D1.out
      have d2 := hx.out.keep D2.out
      have d3 := hx.out.keep D3.out
      go_wp2_with fail
      refine (small_any xs[i] _ (HIT.out.ext (by (repeat (first | exact Ext.refl _ | refine Ext.alloc ?_ _ | refine Ext.drewN ?_ _ | refine Ext.drew ?_ | refine Ext.trans ?_ (Hid.out (by assumption))))))).mono ?_
      rintro e w5 ⟨K, rfl, hK, hb⟩
      have HI5 := hid (ix_ext HI.out hb)
      have hx5 := hid (hx.out.trans hb)
      have hz5 := Nat.le_trans hz hb.size
      clear hb hx hz HI d0 d1 d2 d3 hK
      have d0 := hx5.out.keep D0.out
      have d1 := hx5.out.keep D1.out
      have d2 := hx5.out.keep D2.out
      have d3 := hx5.out.keep D3.out
      by_cases hk1 : xs[i].k = 1
      · have r1 : (xs[i].k == 1) = true := by simp [hk1]
        have r2 : (xs[i].k == 2) = false := by simp [hk1]
        have HK1 := hid hk1
        clear hk1
        cases K with
        | false =>
          go_wp2
          go_roundg (gk - 1)
          case measure => omega
          case rel => exact ⟨i + 1, s, fd, own, by omega, by go_num, by omega, by omega, hid (ix_mono HI5.out (by omega)), HFd, hz5, hx5⟩
        | true =>
          go_wp2_with fail
          refine wp_region_held_drew (S := (fun w' => w'.cell? ⟨b, o + i * 4 + 1, none⟩ = some (.int .u64 xs[i].id) ∧ w'.cell? ⟨b, o + i * 4 + 2, none⟩ = some (.slice xs[i].f.a xs[i].f.n xs[i].f.c))) (by kernel_rfl) ?_ (fun hHeld => ?_)
          · ((try dsimp only); (exact ⟨d1, d2⟩))
          (refine hTake 0 (some 54) (v := ?_) (by kernel_rfl) (by kernel_rfl) (by kernel_rfl) (fun _ _ _ h => h) ⟨_, rfl, rfl, Or.inl ⟨by rfl, ?_⟩⟩ hHeld ?_; rotate_left; (focus (intro w hSw; (try dsimp only at hSw); go_simp; (first | done | with_reducible rfl))); (try simp only [Act.put, List.setIfInBounds_toArray, List.set_cons_zero, List.set_cons_succ]))
          (refine hTake 1 (some 55) (v := ?_) (by kernel_rfl) (by kernel_rfl) (by kernel_rfl) (fun _ _ _ h => h) ⟨_, rfl, rfl, Or.inl ⟨by rfl, ?_⟩⟩ hHeld ?_; rotate_left; (focus (intro w hSw; (try dsimp only at hSw); go_simp; (first | done | with_reducible rfl))); (try simp only [Act.put, List.setIfInBounds_toArray, List.set_cons_zero, List.set_cons_succ]))
          (refine hTake 2 (some 56) (v := ?_) (by kernel_rfl) (by kernel_rfl) (by kernel_rfl) (fun _ _ _ h => h) ⟨_, rfl, rfl, Or.inl ⟨by rfl, ?_⟩⟩ hHeld ?_; rotate_left; (focus (intro w hSw; (try dsimp only at hSw); go_simp; (first | done | with_reducible rfl))); (try simp only [Act.put, List.setIfInBounds_toArray, List.set_cons_zero, List.set_cons_succ]))
          (refine hTake 3 (some 57) (v := ?_) (by kernel_rfl) (by kernel_rfl) (by kernel_rfl) (fun _ _ _ h => h) ⟨_, rfl, rfl, Or.inl ⟨by rfl, ?_⟩⟩ hHeld ?_; rotate_left; (focus (intro w hSw; (try dsimp only at hSw); go_simp; (first | done | with_reducible rfl))); (try simp only [Act.put, List.setIfInBounds_toArray, List.set_cons_zero, List.set_cons_succ]))
          (refine hTake 4 (some 58) (v := ?_) (by kernel_rfl) (by kernel_rfl) (by kernel_rfl) (fun _ _ _ h => h) ⟨_, rfl, rfl, Or.inl ⟨by rfl, ?_⟩⟩ hHeld ?_; rotate_left; (focus (intro w hSw; (try dsimp only at hSw); go_simp; (first | done | with_reducible rfl))); (try simp only [Act.put, List.setIfInBounds_toArray, List.set_cons_zero, List.set_cons_succ]))
          (refine hTake 5 (some 59) (v := ?_) (by kernel_rfl) (by kernel_rfl) (by kernel_rfl) (fun _ _ _ h => h) ⟨_, rfl, rfl, Or.inl ⟨by rfl, ?_⟩⟩ hHeld ?_; rotate_left; (focus (intro w hSw; (try dsimp only at hSw); go_simp; (first | done | with_reducible rfl))); (try simp only [Act.put, List.setIfInBounds_toArray, List.set_cons_zero, List.set_cons_succ]))
          (refine hTake 6 (some 60) (v := ?_) (by kernel_rfl) (by kernel_rfl) (by kernel_rfl) (fun _ _ _ h => h) ⟨_, rfl, rfl, Or.inl ⟨by rfl, ?_⟩⟩ hHeld ?_; rotate_left; (focus (intro w hSw; (try dsimp only at hSw); go_simp; (first | done | with_reducible rfl))); (try simp only [Act.put, List.setIfInBounds_toArray, List.set_cons_zero, List.set_cons_succ]))
          (refine hTake 7 (some 61) (v := ?_) (by kernel_rfl) (by kernel_rfl) (by kernel_rfl) (fun _ _ _ h => h) ⟨_, rfl, rfl, Or.inl ⟨by rfl, ?_⟩⟩ hHeld ?_; rotate_left; (focus (intro w hSw; (try dsimp only at hSw); go_simp; (first | done | with_reducible rfl))); (try simp only [Act.put, List.setIfInBounds_toArray, List.set_cons_zero, List.set_cons_succ]))
          (refine hTake 8 (some 62) (v := ?_) (by kernel_rfl) (by kernel_rfl) (by kernel_rfl) (fun _ _ _ h => h) ⟨_, rfl, rfl, Or.inl ⟨by rfl, ?_⟩⟩ hHeld ?_; rotate_left; (focus (intro w hSw; (try dsimp only at hSw); go_simp; (first | done | with_reducible rfl))); (try simp only [Act.put, List.setIfInBounds_toArray, List.set_cons_zero, List.set_cons_succ]))
          (refine hTake 9 (some 63) (v := ?_) (by kernel_rfl) (by kernel_rfl) (by kernel_rfl) (fun _ _ _ h => h) ⟨_, rfl, rfl, Or.inl ⟨by rfl, ?_⟩⟩ hHeld ?_; rotate_left; (focus (intro w hSw; (try dsimp only at hSw); go_simp; (first | done | with_reducible rfl))); (try simp only [Act.put, List.setIfInBounds_toArray, List.set_cons_zero, List.set_cons_succ]))
          (refine hTake 10 (some 64) (v := ?_) (by kernel_rfl) (by kernel_rfl) (by kernel_rfl) (fun _ _ _ h => h) ⟨_, rfl, rfl, Or.inl ⟨by rfl, ?_⟩⟩ hHeld ?_; rotate_left; (focus (intro w hSw; (try dsimp only at hSw); go_simp; (first | done | with_reducible rfl))); (try simp only [Act.put, List.setIfInBounds_toArray, List.set_cons_zero, List.set_cons_succ]))
          refine wpAnyH_ready (rs := [11]) (by kernel_rfl) (by simp) ?_
          refine AllReadyH.cons rfl (fun K hK => ?_) AllReadyH.nil
          (go_simp; (go_at_call 12; refine (addL_any (base := B) (p := p) (m := 17 * i) (s := s) (fd := fd) (own := own) xs[i].id _ _ _ xs[i].ts _ HIT.out.u (HIT.out.f.ext (by (repeat (first | exact Ext.refl _ | refine Ext.alloc ?_ _ | refine Ext.drewN ?_ _ | refine Ext.drew ?_ | refine Ext.trans ?_ (Hid.out (by assumption)))))) (fun ad e hne => ix_low HI5.out (HLI.out ad e hne)) (ix_ext HI5.out (by (repeat (first | exact Ext.refl _ | refine Ext.alloc ?_ _ | refine Ext.drewN ?_ _ | refine Ext.drew ?_ | refine Ext.trans ?_ (Hid.out (by assumption)))))) (Nat.le_trans hz5 (Ext.size (W := w5) (by (repeat (first | exact Ext.refl _ | refine Ext.alloc ?_ _ | refine Ext.drewN ?_ _ | refine Ext.drew ?_ | refine Ext.trans ?_ (Hid.out (by assumption))))))) (by omega) (by omega)).mono ?_; rintro e w6 ⟨v6, fd', s', own', rfl, hs', hfd, hI, hC, hFr⟩; have HI6 := hid hI; have HFd6 := hid (hfd HFd.out); have hx6 := hid (ext_chg (w := w) (Ext.trans hx5.out (Ext.drew (Ext.refl w5))) hC (fun b l e => Nat.le_trans HSB.out (ix_base HI5.out b l e))); have hz6 := Nat.le_trans hz5 hC.size; clear hI hC hFr hfd); (first | refine hK.out _ _ ?_ (fun hHeld => ?_) | (go_wp2_with fail; refine hK.out _ _ ?_ (fun hHeld => ?_))); (focus ((try dsimp only); (exact ⟨hx6.out.keep D1.out, hx6.out.keep D2.out⟩))); clear hK K; (try simp only [Act.put, List.setIfInBounds_toArray, List.set_cons_zero, List.set_cons_succ]))
          refine wpAnyH_done (by kernel_rfl) ?_ _
          have e0 := hx6.out.keep D0.out
          have e1 := hx6.out.keep D1.out
          clear d0 d1 d2 d3 hx5 hz5 HI5
          go_wp2
          go_roundg (gk - 1)
          case measure => omega
          case rel => exact ⟨i + 1, s', fd', own', by omega, by go_num, by omega, by omega, hid (ix_mono HI6.out (by omega)), HFd6, hz6, hx6⟩
      · have r1 : (xs[i].k == 1) = false := by simp [hk1]
        have HK1 := hid hk1
        clear hk1
        by_cases hk2 : xs[i].k = 2
        · have r2 : (xs[i].k == 2) = true := by simp [hk2]
          have HK2 := hid hk2
          clear hk2
          cases K
          all_goals
            go_wp2_with fail
            refine (dropL_any (base := B) (p := p) (m := 17 * i) (s := s) (fd := fd) (own := own) xs[i].id _ HIT.out.u (ix_ext HI5.out (by (repeat (first | exact Ext.refl _ | refine Ext.alloc ?_ _ | refine Ext.drewN ?_ _ | refine Ext.drew ?_ | refine Ext.trans ?_ (Hid.out (by assumption)))))) HFd.out).mono ?_
            rintro e w6 ⟨v6, fd', s', rfl, hs', hfd, hI, hC⟩
            have HI6 := hid hI
            have HFd6 := hid (hfd HFd.out)
            have hx6 := hid (ext_chg (w := w) hx5.out hC (fun b l e => Nat.le_trans HSB.out (ix_base HI5.out b l e)))
            have hz6 := Nat.le_trans hz5 hC.size
            clear hI hC hfd
            go_wp2
            go_roundg (gk - 1)
            case measure => omega
            case rel => exact ⟨i + 1, s', fd', own, by omega, by go_num, by omega, by omega, hid (ix_mono HI6.out (by omega)), HFd6, hz6, hx6⟩
        · have r2 : (xs[i].k == 2) = false := by simp [hk2]
          have HK2 := hid hk2
          clear hk2
          cases K
          all_goals
            go_wp2
            go_roundg (gk - 1)
            case measure => omega
            case rel => exact ⟨i + 1, s, fd, own, by omega, by go_num, by omega, by omega, hid (ix_mono HI5.out (by omega)), HFd, hz5, hx5⟩
    · have hcs : ¬ i < xs.length ∨ (i < xs.length ∧ ¬ i < 30) := by omega
      rcases hcs with q | ⟨q, q'⟩
      · have q1 : ¬ ((i : Int) < (xs.length : Int)) := by omega
        have HQ := hid q
        clear q hk
        go_wp2_with fail
        refine (match_any sortedTo1000 _ _ _ es _ HI.out (by omega) (by omega) HFd.out.ts (HE.out.ext (by (repeat (first | exact Ext.refl _ | refine Ext.alloc ?_ _ | refine Ext.drewN ?_ _ | refine Ext.drew ?_ | refine Ext.trans ?_ (Hid.out (by assumption)))))) (by have := hl4.out.1; omega) (fun e he => by have := hl4.out.2 e he; unfold maxLen; omega)).mono ?_
        rintro e w5 ⟨la, ln, lc, zs, rfl, hown, hzz, hb⟩
        have HI5 := hid (ix_ext HI.out hb)
        obtain rfl := hown.neq
        have HOZ5 := hid hown
        have HZN := hid (fun ad (e : la = some ad) => ix_lab HI.out (hown.lt ad e).1)
        have HZL := hid (fun ad (e : la = some ad) => (hown.lt ad e).2)
        obtain ⟨BZ, hBZ⟩ : ∃ BZ, BZ = wr.heap.size := ⟨_, rfl⟩
        rw [← hBZ] at HOZ5
        clear hBZ
        have HM := hid hzz
        have hx5 := hid (hx.out.trans hb)
        have hz5 := Nat.le_trans hz hb.size
        clear hown hzz hb hx hz HI
        go_wp2_with fail
        refine (count_any _ HI5.out).mono ?_
        rintro e w6 ⟨rfl, hb⟩
        have HI6 := hid (ix_ext HI5.out hb)
        have HOZ6 := hid (HOZ5.out.ext hb)
        have HZL6 := hid (fun ad (e : la = some ad) => Nat.lt_of_lt_of_le (HZL.out ad e) hb.size)
        have hx6 := hid (hx5.out.trans hb)
        have hz6 := Nat.le_trans hz5 hb.size
        clear hb hx5 hz5 HI5 HOZ5 HZL
        obtain ⟨i0, hi0, hiz0, hiz1, hiz2⟩ := info_parts infoT
        have I1 := hid hi0
        have I2 := hid hiz0
        have I3 := hid hiz1
        have I4 := hid hiz2
        clear hi0 hiz0 hiz1 hiz2
        have hl5' := hl5.out
        have sz6 := hx6.out.size
        go_wp2_with (at_builtin; go_loud (refine wpList_plain rfl fun KK hKK => ?_; refine wpOn (c := T.cs) (ys0 := []) (ys := ts) (.tmp 84) (.tmp 85) 32 54 rfl i0 _ 56 Try.underlying32 I1.out I2.out I3.out I4.out rfl (by decide) rfl w6 (by (repeat (first | exact Ext.refl _ | refine Ext.alloc ?_ _ | refine Ext.drewN ?_ _ | refine Ext.drew ?_ | refine Ext.trans ?_ (Hid.out (by assumption))))) (Own.empty (by (repeat (first | (refine heap_new ?_; (simp; done)) | refine heap_old (by first | (simp; done) | (simp; omega)) ?_))) (by simp) T.wid) rfl (HF.out.ext (by (repeat (first | exact Ext.refl _ | refine Ext.alloc ?_ _ | refine Ext.drewN ?_ _ | refine Ext.drew ?_ | refine Ext.trans ?_ (Hid.out (by assumption)))))) T.one (by omega) (by decide) ?_; intro bb nn cap w7 hn hown hy hg; refine hKK _ _ ?_; have HN := hid hn; have HO := hid hown; have HY := hid hy; clear hn hown hy hg))
        obtain rfl : nn = ts.length := by rw [HN.out]; omega
        have HO7 := hid (show Own w7 w6.heap.size 54 5 T.cs bb ts.length cap ts from by have := HO.out; rwa [List.nil_append] at this)
        have HI7 := hid (ix_ext HI6.out HY.out)
        have HOZ7 := hid (HOZ6.out.ext HY.out)
        have HZL7 := hid (fun ad (e : la = some ad) => Nat.lt_of_lt_of_le (HZL6.out ad e) HY.out.size)
        have HNE := hid (fun ad ae (e : la = some ad) (e' : bb = some ae) => Nat.ne_of_lt (Nat.lt_of_lt_of_le (HZL6.out ad e) (HO7.out.lt ae e').1))
        have HNL := hid (fun ad (e : bb = some ad) => ix_lab HI6.out (HO7.out.lt ad e).1)
        have HBG := hid (fun ad (e : bb = some ad) => Nat.le_trans sz6 (HO7.out.lt ad e).1)
        have HOL := hid (fun ad (e : bb = some ad) => (HO7.out.lt ad e).2)
        obtain ⟨BM, hBM⟩ : ∃ BM, BM = w6.heap.size := ⟨_, rfl⟩
        rw [← hBM] at HO7
        clear hBM
        have hx7 := hid (hx6.out.trans HY.out)
        have hz7 := Nat.le_trans hz6 HY.out.size
        clear HO HI6 HOZ6 HZL6 hx6 hz6 HY HN I1 I2 I3 I4
        cases hc : chkB ts with
        | false =>
          go_wp2_with fail
          refine (add_bad p id _ _ _ ts _ HO7.out.sl hc).mono ?_
          rintro e w8 ⟨rfl, hb⟩
          have HI8 := hid (ix_ext HI7.out hb)
          have hx8 := hid (hx7.out.trans hb)
          clear hb hx7
          go_wp2_with fail
          refine (count_any _ HI8.out).mono ?_
          rintro e w9 ⟨rfl, hb⟩
          have hx9 := hid (hx8.out.trans hb)
          clear hb hx8
          go_wp2
          go_ret
          refine ⟨rfl, ?_⟩
          (repeat (first | exact Ext.refl _ | refine Ext.alloc ?_ _ | refine Ext.drewN ?_ _ | refine Ext.drew ?_ | refine Ext.trans ?_ (Hid.out (by assumption))))
        | true =>
          cases hd : fd id with
          | some us =>
            go_wp2_with fail
            obtain ⟨bF, bT, sT, fF, fT, hBB⟩ := HI7.out
            refine (add_dup id _ _ _ ts _ HU.out HO7.out.sl hc hBB (.inl (by rw [hd]; rfl))).mono ?_
            rintro e w8 ⟨rfl, hb⟩
            clear hBB
            have HI8 := hid (ix_ext HI7.out hb)
            have hx8 := hid (hx7.out.trans hb)
            clear hb hx7
            go_wp2_with fail
            refine (count_any _ HI8.out).mono ?_
            rintro e w9 ⟨rfl, hb⟩
            have hx9 := hid (hx8.out.trans hb)
            clear hb hx8
            go_wp2
            go_ret
            refine ⟨rfl, ?_⟩
            (repeat (first | exact Ext.refl _ | refine Ext.alloc ?_ _ | refine Ext.drewN ?_ _ | refine Ext.drew ?_ | refine Ext.trans ?_ (Hid.out (by assumption))))
          | none =>
            have HC := hid hc
            have HD := hid hd
            clear hc hd
            go_wp2_with fail
            refine (add_ok (base := B) (p := p) (m := 17 * i) (s := s) (fd := fd) (own := own) id _ _ _ ts _ HU.out HO7.out.sl (fun ad e _ => HNL.out ad e) HC.out HI7.out hz7 HD.out (by omega) (by omega)).mono ?_
            rintro e w8 ⟨own', rfl, hI, hC, hFr⟩
            have HI8 := hid hI
            have hx8 := hid (ext_chg (w := w) hx7.out hC (fun b l e => Nat.le_trans HSB.out (ix_base HI7.out b l e)))
            have hz8 := Nat.le_trans hz7 hC.size
            have HO8 := hid (HO7.out.keep (fun ad e => hC.block _ (HOL.out ad e) (HNL.out ad e)))
            have HOZ8 := hid (HOZ7.out.keep (fun ad e => hC.block _ (HZL7.out ad e) (HZN.out ad e)))
            have HZN8 := hid (fun ad (e : la = some ad) => show own' ad.block = none from by
              cases e' : own' ad.block with
              | none => rfl
              | some l =>
                rcases hFr.new _ l e' with h | h
                · rw [HZN.out ad e] at h; cases h
                · have := HZL7.out ad e; omega)
            have HNL8 := hid (fun ad (e : bb = some ad) => show own' ad.block = none from by
              cases e' : own' ad.block with
              | none => rfl
              | some l =>
                rcases hFr.new _ l e' with h | h
                · rw [HNL.out ad e] at h; cases h
                · have := HOL.out ad e; omega)
            clear hI hC hFr HO7 HI7 hx7 hz7 HOZ7 HZL7 HZN HNL HOL
            go_wp2_with fail
            go_loopg [15] (ts.length) (fun g iv wr => ∃ (k : Nat) (ys : List T), g + k = ts.length ∧ iv = .int .i64 k ∧ Hid (Own wr BM 54 5 T.cs bb ts.length cap ys) ∧
              Hid (Ix wr B p (17 * i + 17) (fun k => if k = id then some ts else fd k) (s + 1) own') ∧ Hid (Own wr BZ 30 1 uC la zs.length lc zs) ∧ Hid (Ext w wr))
            case atStart => exact ⟨0, ts, by omega, rfl, HO8, HI8, HOZ8, hx8⟩
            case round =>
              obtain ⟨k, ys, hg, rfl, HOk, HIk, HOZk, hxk⟩ := hrel
              by_cases hkk : k < ts.length
              · have hky : k < ys.length := by rw [← HOk.out.neq]; exact hkk
                obtain ⟨g, rfl⟩ := Own.form bb HOk.out (by omega)
                obtain ⟨c0, c1, c2, c3, c4⟩ := cellsT (HOk.out.at0 k hky)
                have f0 := HOk.out.free
                have b0 : (0 : Int) ≤ (k : Int) := by omega
                have b1 : (k : Int) < (ts.length : Int) := by omega
                have hgw : w.heap.size ≤ g := HBG.out _ rfl
                have hgl : own' g = none := HNL8.out _ rfl
                go_wp2
                have HC := hid (show Chg (only g) wr _ from (((((Chg.of (Ext.refl wr)).set (k * 5) (.string chT.nm)).set (k * 5 + 1) (.int .i64 chT.op)).set (k * 5 + 2) (.int .i64 chT.k)).set (k * 5 + 3) (.int .i64 chT.n)).set (k * 5 + 4) (.string chT.s))
                have HOn := hid (own_ch HOk.out hky chT)
                have HIn := hid (ix_far HIk.out HC.out (fun b => by
                  by_cases e : b = g
                  · subst e; exact .inl hgl
                  · exact .inr (only_none e)))
                have HOZn := hid (HOZk.out.keep (fun ad e => HC.out.block _ (HOZk.out.lt ad e).2 (only_none (HNE.out ad _ e rfl))))
                go_roundg (gk - 1)
                case measure => omega
                case rel => exact ⟨k + 1, _, by omega, by go_num, HOn, HIn, HOZn, (by repeat (first | exact hxk.out | refine Below.setCell (p := ⟨g, _, none⟩) ?_ hgw _))⟩
              · have HQ2 := hid hkk
                clear hkk
                go_wp2_with fail
                refine (filter_any id _ HU.out HIk.out (by rw [if_pos (show id = id from rfl)]; exact Nat.le_trans hl5.out (by decide))).mono ?_
                rw [if_pos (show id = id from rfl)]
                rintro e w9 ⟨la9, ln9, lc9, rfl, hown9, hb⟩
                have HS9 := hid (show Sl w9 5 T.cs la9 ln9 lc9 ts from hown9.sl)
                have HI9 := hid (ix_ext HIk.out hb)
                have HOZ9 := hid (HOZk.out.ext hb)
                have hx9 := hid (hxk.out.trans hb)
                clear hb hown9 hxk HIk HOZk HOk
                rw [show (some ts).isSome = true from rfl]
                go_wp2_with fail
                refine (same05_any _ _ _ _ _ _ ts _ (HF.out.ext (by (repeat (first | exact Ext.refl _ | refine Ext.alloc ?_ _ | refine Ext.drewN ?_ _ | refine Ext.drew ?_ | refine Ext.trans ?_ (Hid.out (by assumption)))))) HS9.out).mono ?_
                rintro e w10 ⟨rfl, hb⟩
                have HI10 := hid (ix_ext HI9.out hb)
                have HOZ10 := hid (HOZ9.out.ext hb)
                have hx10 := hid (hx9.out.trans hb)
                clear hb hx9 HI9 HOZ9 HS9
                go_wp2_with fail
                refine (count_any _ HI10.out).mono ?_
                rintro e w11 ⟨rfl, hb⟩
                have HI11 := hid (ix_ext HI10.out hb)
                have HOZ11 := hid (HOZ10.out.ext hb)
                have hx11 := hid (hx10.out.trans hb)
                clear hb hx10 HI10 HOZ10
                have hs1 : ((s + 1 : Nat) : Int) = (s : Int) + 1 := by omega
                have hs2 : (s : Int) ≤ 30 := by omega
                have hs3 : (0 : Int) ≤ (s : Int) := by omega
                go_wp2_with fail
                refine (drop_ok id ts _ HU.out HC.out HI11.out (if_pos rfl)).mono ?_
                rintro e w12 ⟨rfl, hI, hC⟩
                have hfe : (fun k => if k = id then none else (fun k => if k = id then some ts else fd k) k) = fd := funext fun k => by
                  by_cases e : k = id
                  · subst e; simp [HD.out]
                  · simp [e]
                rw [hfe, Nat.add_sub_cancel] at hI
                have HI12 := hid hI
                have HOZ12 := hid (HOZ11.out.keep (fun ad e => hC.block _ (HOZ11.out.lt ad e).2 (HZN8.out ad e)))
                have hx12 := hid (ext_chg (w := w) hx11.out hC (fun b l e => Nat.le_trans HSB.out (ix_base HI11.out b l e)))
                clear hI hC hfe hx11 HI11 HOZ11
                go_wp2_with fail
                refine (count_any _ HI12.out).mono ?_
                rintro e w13 ⟨rfl, hb⟩
                have HI13 := hid (ix_ext HI12.out hb)
                have HOZ13 := hid (HOZ12.out.ext hb)
                have hx13 := hid (hx12.out.trans hb)
                clear hb hx12 HI12 HOZ12
                go_wp2_with fail
                refine (match_any sortedTo1000 _ _ _ es _ HI13.out (by omega) (by omega) HFd.out.ts (HE.out.ext (by (repeat (first | exact Ext.refl _ | refine Ext.alloc ?_ _ | refine Ext.drewN ?_ _ | refine Ext.drew ?_ | refine Ext.trans ?_ (Hid.out (by assumption)))))) (by have := hl4.out.1; omega) (fun e he => by have := hl4.out.2 e he; unfold maxLen; omega)).mono ?_
                rintro e w14 ⟨la', ln', lc', zs', rfl, hown, ⟨hz1, hz2, hz3⟩, hb⟩
                have HO' := hid hown.sl
                obtain rfl := hown.neq
                have HZZ := hid (show decide (zs' = zs) = true from decide_eq_true (zs_one hz1 hz2 HM.out.1 HM.out.2.1 (fun x => by rw [hz3, HM.out.2.2])))
                have HOz := hid ((HOZ13.out.ext hb).sl)
                have hx14 := hid (hx13.out.trans hb)
                clear hz1 hz2 hz3 hb hown hx13 HI13 HOZ13
                go_wp2_with fail
                refine (same8_any _ _ _ zs' _ _ _ zs _ (HO'.out.ext (by (repeat (first | exact Ext.refl _ | refine Ext.alloc ?_ _ | refine Ext.drewN ?_ _ | refine Ext.drew ?_ | refine Ext.trans ?_ (Hid.out (by assumption)))))) (HOz.out.ext (by (repeat (first | exact Ext.refl _ | refine Ext.alloc ?_ _ | refine Ext.drewN ?_ _ | refine Ext.drew ?_ | refine Ext.trans ?_ (Hid.out (by assumption))))))).mono ?_
                rintro e w15 ⟨rfl, hb⟩
                rw [HZZ.out]
                have hx15 := hid (hx14.out.trans hb)
                clear hb hx14
                go_wp2
                go_ret
                refine ⟨rfl, ?_⟩
                (repeat (first | exact Ext.refl _ | refine Ext.alloc ?_ _ | refine Ext.drewN ?_ _ | refine Ext.drew ?_ | refine Ext.trans ?_ (Hid.out (by assumption))))
      · have q1 : (i : Int) < (xs.length : Int) := by omega
        have q2 : ¬ ((i : Int) < 30) := by omega
        clear hk
        go_wp2_with fail
        refine (match_any sortedTo1000 _ _ _ es _ HI.out (by omega) (by omega) HFd.out.ts (HE.out.ext (by (repeat (first | exact Ext.refl _ | refine Ext.alloc ?_ _ | refine Ext.drewN ?_ _ | refine Ext.drew ?_ | refine Ext.trans ?_ (Hid.out (by assumption)))))) (by have := hl4.out.1; omega) (fun e he => by have := hl4.out.2 e he; unfold maxLen; omega)).mono ?_
        rintro e w5 ⟨la, ln, lc, zs, rfl, hown, hzz, hb⟩
        have HI5 := hid (ix_ext HI.out hb)
        obtain rfl := hown.neq
        have HOZ5 := hid hown
        have HZN := hid (fun ad (e : la = some ad) => ix_lab HI.out (hown.lt ad e).1)
        have HZL := hid (fun ad (e : la = some ad) => (hown.lt ad e).2)
        obtain ⟨BZ, hBZ⟩ : ∃ BZ, BZ = wr.heap.size := ⟨_, rfl⟩
        rw [← hBZ] at HOZ5
        clear hBZ
        have HM := hid hzz
        have hx5 := hid (hx.out.trans hb)
        have hz5 := Nat.le_trans hz hb.size
        clear hown hzz hb hx hz HI
        go_wp2_with fail
        refine (count_any _ HI5.out).mono ?_
        rintro e w6 ⟨rfl, hb⟩
        have HI6 := hid (ix_ext HI5.out hb)
        have HOZ6 := hid (HOZ5.out.ext hb)
        have HZL6 := hid (fun ad (e : la = some ad) => Nat.lt_of_lt_of_le (HZL.out ad e) hb.size)
        have hx6 := hid (hx5.out.trans hb)
        have hz6 := Nat.le_trans hz5 hb.size
        clear hb hx5 hz5 HI5 HOZ5 HZL
        obtain ⟨i0, hi0, hiz0, hiz1, hiz2⟩ := info_parts infoT
        have I1 := hid hi0
        have I2 := hid hiz0
        have I3 := hid hiz1
        have I4 := hid hiz2
        clear hi0 hiz0 hiz1 hiz2
        have hl5' := hl5.out
        have sz6 := hx6.out.size
        go_wp2_with (at_builtin; go_loud (refine wpList_plain rfl fun KK hKK => ?_; refine wpOn (c := T.cs) (ys0 := []) (ys := ts) (.tmp 84) (.tmp 85) 32 54 rfl i0 _ 56 Try.underlying32 I1.out I2.out I3.out I4.out rfl (by decide) rfl w6 (by (repeat (first | exact Ext.refl _ | refine Ext.alloc ?_ _ | refine Ext.drewN ?_ _ | refine Ext.drew ?_ | refine Ext.trans ?_ (Hid.out (by assumption))))) (Own.empty (by (repeat (first | (refine heap_new ?_; (simp; done)) | refine heap_old (by first | (simp; done) | (simp; omega)) ?_))) (by simp) T.wid) rfl (HF.out.ext (by (repeat (first | exact Ext.refl _ | refine Ext.alloc ?_ _ | refine Ext.drewN ?_ _ | refine Ext.drew ?_ | refine Ext.trans ?_ (Hid.out (by assumption)))))) T.one (by omega) (by decide) ?_; intro bb nn cap w7 hn hown hy hg; refine hKK _ _ ?_; have HN := hid hn; have HO := hid hown; have HY := hid hy; clear hn hown hy hg))
        obtain rfl : nn = ts.length := by rw [HN.out]; omega
        have HO7 := hid (show Own w7 w6.heap.size 54 5 T.cs bb ts.length cap ts from by have := HO.out; rwa [List.nil_append] at this)
        have HI7 := hid (ix_ext HI6.out HY.out)
        have HOZ7 := hid (HOZ6.out.ext HY.out)
        have HZL7 := hid (fun ad (e : la = some ad) => Nat.lt_of_lt_of_le (HZL6.out ad e) HY.out.size)
        have HNE := hid (fun ad ae (e : la = some ad) (e' : bb = some ae) => Nat.ne_of_lt (Nat.lt_of_lt_of_le (HZL6.out ad e) (HO7.out.lt ae e').1))
        have HNL := hid (fun ad (e : bb = some ad) => ix_lab HI6.out (HO7.out.lt ad e).1)
        have HBG := hid (fun ad (e : bb = some ad) => Nat.le_trans sz6 (HO7.out.lt ad e).1)
        have HOL := hid (fun ad (e : bb = some ad) => (HO7.out.lt ad e).2)
        obtain ⟨BM, hBM⟩ : ∃ BM, BM = w6.heap.size := ⟨_, rfl⟩
        rw [← hBM] at HO7
        clear hBM
        have hx7 := hid (hx6.out.trans HY.out)
        have hz7 := Nat.le_trans hz6 HY.out.size
        clear HO HI6 HOZ6 HZL6 hx6 hz6 HY HN I1 I2 I3 I4
        cases hc : chkB ts with
        | false =>
          go_wp2_with fail
          refine (add_bad p id _ _ _ ts _ HO7.out.sl hc).mono ?_
          rintro e w8 ⟨rfl, hb⟩
          have HI8 := hid (ix_ext HI7.out hb)
          have hx8 := hid (hx7.out.trans hb)
          clear hb hx7
          go_wp2_with fail
          refine (count_any _ HI8.out).mono ?_
          rintro e w9 ⟨rfl, hb⟩
          have hx9 := hid (hx8.out.trans hb)
          clear hb hx8
          go_wp2
          go_ret
          refine ⟨rfl, ?_⟩
          (repeat (first | exact Ext.refl _ | refine Ext.alloc ?_ _ | refine Ext.drewN ?_ _ | refine Ext.drew ?_ | refine Ext.trans ?_ (Hid.out (by assumption))))
        | true =>
          cases hd : fd id with
          | some us =>
            go_wp2_with fail
            obtain ⟨bF, bT, sT, fF, fT, hBB⟩ := HI7.out
            refine (add_dup id _ _ _ ts _ HU.out HO7.out.sl hc hBB (.inl (by rw [hd]; rfl))).mono ?_
            rintro e w8 ⟨rfl, hb⟩
            clear hBB
            have HI8 := hid (ix_ext HI7.out hb)
            have hx8 := hid (hx7.out.trans hb)
            clear hb hx7
            go_wp2_with fail
            refine (count_any _ HI8.out).mono ?_
            rintro e w9 ⟨rfl, hb⟩
            have hx9 := hid (hx8.out.trans hb)
            clear hb hx8
            go_wp2
            go_ret
            refine ⟨rfl, ?_⟩
            (repeat (first | exact Ext.refl _ | refine Ext.alloc ?_ _ | refine Ext.drewN ?_ _ | refine Ext.drew ?_ | refine Ext.trans ?_ (Hid.out (by assumption))))
          | none =>
            have HC := hid hc
            have HD := hid hd
            clear hc hd
            go_wp2_with fail
            refine (add_ok (base := B) (p := p) (m := 17 * i) (s := s) (fd := fd) (own := own) id _ _ _ ts _ HU.out HO7.out.sl (fun ad e _ => HNL.out ad e) HC.out HI7.out hz7 HD.out (by omega) (by omega)).mono ?_
            rintro e w8 ⟨own', rfl, hI, hC, hFr⟩
            have HI8 := hid hI
            have hx8 := hid (ext_chg (w := w) hx7.out hC (fun b l e => Nat.le_trans HSB.out (ix_base HI7.out b l e)))
            have hz8 := Nat.le_trans hz7 hC.size
            have HO8 := hid (HO7.out.keep (fun ad e => hC.block _ (HOL.out ad e) (HNL.out ad e)))
            have HOZ8 := hid (HOZ7.out.keep (fun ad e => hC.block _ (HZL7.out ad e) (HZN.out ad e)))
            have HZN8 := hid (fun ad (e : la = some ad) => show own' ad.block = none from by
              cases e' : own' ad.block with
              | none => rfl
              | some l =>
                rcases hFr.new _ l e' with h | h
                · rw [HZN.out ad e] at h; cases h
                · have := HZL7.out ad e; omega)
            have HNL8 := hid (fun ad (e : bb = some ad) => show own' ad.block = none from by
              cases e' : own' ad.block with
              | none => rfl
              | some l =>
                rcases hFr.new _ l e' with h | h
                · rw [HNL.out ad e] at h; cases h
                · have := HOL.out ad e; omega)
            clear hI hC hFr HO7 HI7 hx7 hz7 HOZ7 HZL7 HZN HNL HOL
            go_wp2_with fail
            go_loopg [15] (ts.length) (fun g iv wr => ∃ (k : Nat) (ys : List T), g + k = ts.length ∧ iv = .int .i64 k ∧ Hid (Own wr BM 54 5 T.cs bb ts.length cap ys) ∧
              Hid (Ix wr B p (17 * i + 17) (fun k => if k = id then some ts else fd k) (s + 1) own') ∧ Hid (Own wr BZ 30 1 uC la zs.length lc zs) ∧ Hid (Ext w wr))
            case atStart => exact ⟨0, ts, by omega, rfl, HO8, HI8, HOZ8, hx8⟩
            case round =>
              obtain ⟨k, ys, hg, rfl, HOk, HIk, HOZk, hxk⟩ := hrel
              by_cases hkk : k < ts.length
              · have hky : k < ys.length := by rw [← HOk.out.neq]; exact hkk
                obtain ⟨g, rfl⟩ := Own.form bb HOk.out (by omega)
                obtain ⟨c0, c1, c2, c3, c4⟩ := cellsT (HOk.out.at0 k hky)
                have f0 := HOk.out.free
                have b0 : (0 : Int) ≤ (k : Int) := by omega
                have b1 : (k : Int) < (ts.length : Int) := by omega
                have hgw : w.heap.size ≤ g := HBG.out _ rfl
                have hgl : own' g = none := HNL8.out _ rfl
                go_wp2
                have HC := hid (show Chg (only g) wr _ from (((((Chg.of (Ext.refl wr)).set (k * 5) (.string chT.nm)).set (k * 5 + 1) (.int .i64 chT.op)).set (k * 5 + 2) (.int .i64 chT.k)).set (k * 5 + 3) (.int .i64 chT.n)).set (k * 5 + 4) (.string chT.s))
                have HOn := hid (own_ch HOk.out hky chT)
                have HIn := hid (ix_far HIk.out HC.out (fun b => by
                  by_cases e : b = g
                  · subst e; exact .inl hgl
                  · exact .inr (only_none e)))
                have HOZn := hid (HOZk.out.keep (fun ad e => HC.out.block _ (HOZk.out.lt ad e).2 (only_none (HNE.out ad _ e rfl))))
                go_roundg (gk - 1)
                case measure => omega
                case rel => exact ⟨k + 1, _, by omega, by go_num, HOn, HIn, HOZn, (by repeat (first | exact hxk.out | refine Below.setCell (p := ⟨g, _, none⟩) ?_ hgw _))⟩
              · have HQ2 := hid hkk
                clear hkk
                go_wp2_with fail
                refine (filter_any id _ HU.out HIk.out (by rw [if_pos (show id = id from rfl)]; exact Nat.le_trans hl5.out (by decide))).mono ?_
                rw [if_pos (show id = id from rfl)]
                rintro e w9 ⟨la9, ln9, lc9, rfl, hown9, hb⟩
                have HS9 := hid (show Sl w9 5 T.cs la9 ln9 lc9 ts from hown9.sl)
                have HI9 := hid (ix_ext HIk.out hb)
                have HOZ9 := hid (HOZk.out.ext hb)
                have hx9 := hid (hxk.out.trans hb)
                clear hb hown9 hxk HIk HOZk HOk
                rw [show (some ts).isSome = true from rfl]
                go_wp2_with fail
                refine (same05_any _ _ _ _ _ _ ts _ (HF.out.ext (by (repeat (first | exact Ext.refl _ | refine Ext.alloc ?_ _ | refine Ext.drewN ?_ _ | refine Ext.drew ?_ | refine Ext.trans ?_ (Hid.out (by assumption)))))) HS9.out).mono ?_
                rintro e w10 ⟨rfl, hb⟩
                have HI10 := hid (ix_ext HI9.out hb)
                have HOZ10 := hid (HOZ9.out.ext hb)
                have hx10 := hid (hx9.out.trans hb)
                clear hb hx9 HI9 HOZ9 HS9
                go_wp2_with fail
                refine (count_any _ HI10.out).mono ?_
                rintro e w11 ⟨rfl, hb⟩
                have HI11 := hid (ix_ext HI10.out hb)
                have HOZ11 := hid (HOZ10.out.ext hb)
                have hx11 := hid (hx10.out.trans hb)
                clear hb hx10 HI10 HOZ10
                have hs1 : ((s + 1 : Nat) : Int) = (s : Int) + 1 := by omega
                have hs2 : (s : Int) ≤ 30 := by omega
                have hs3 : (0 : Int) ≤ (s : Int) := by omega
                go_wp2_with fail
                refine (drop_ok id ts _ HU.out HC.out HI11.out (if_pos rfl)).mono ?_
                rintro e w12 ⟨rfl, hI, hC⟩
                have hfe : (fun k => if k = id then none else (fun k => if k = id then some ts else fd k) k) = fd := funext fun k => by
                  by_cases e : k = id
                  · subst e; simp [HD.out]
                  · simp [e]
                rw [hfe, Nat.add_sub_cancel] at hI
                have HI12 := hid hI
                have HOZ12 := hid (HOZ11.out.keep (fun ad e => hC.block _ (HOZ11.out.lt ad e).2 (HZN8.out ad e)))
                have hx12 := hid (ext_chg (w := w) hx11.out hC (fun b l e => Nat.le_trans HSB.out (ix_base HI11.out b l e)))
                clear hI hC hfe hx11 HI11 HOZ11
                go_wp2_with fail
                refine (count_any _ HI12.out).mono ?_
                rintro e w13 ⟨rfl, hb⟩
                have HI13 := hid (ix_ext HI12.out hb)
                have HOZ13 := hid (HOZ12.out.ext hb)
                have hx13 := hid (hx12.out.trans hb)
                clear hb hx12 HI12 HOZ12
                go_wp2_with fail
                refine (match_any sortedTo1000 _ _ _ es _ HI13.out (by omega) (by omega) HFd.out.ts (HE.out.ext (by (repeat (first | exact Ext.refl _ | refine Ext.alloc ?_ _ | refine Ext.drewN ?_ _ | refine Ext.drew ?_ | refine Ext.trans ?_ (Hid.out (by assumption)))))) (by have := hl4.out.1; omega) (fun e he => by have := hl4.out.2 e he; unfold maxLen; omega)).mono ?_
                rintro e w14 ⟨la', ln', lc', zs', rfl, hown, ⟨hz1, hz2, hz3⟩, hb⟩
                have HO' := hid hown.sl
                obtain rfl := hown.neq
                have HZZ := hid (show decide (zs' = zs) = true from decide_eq_true (zs_one hz1 hz2 HM.out.1 HM.out.2.1 (fun x => by rw [hz3, HM.out.2.2])))
                have HOz := hid ((HOZ13.out.ext hb).sl)
                have hx14 := hid (hx13.out.trans hb)
                clear hz1 hz2 hz3 hb hown hx13 HI13 HOZ13
                go_wp2_with fail
                refine (same8_any _ _ _ zs' _ _ _ zs _ (HO'.out.ext (by (repeat (first | exact Ext.refl _ | refine Ext.alloc ?_ _ | refine Ext.drewN ?_ _ | refine Ext.drew ?_ | refine Ext.trans ?_ (Hid.out (by assumption)))))) (HOz.out.ext (by (repeat (first | exact Ext.refl _ | refine Ext.alloc ?_ _ | refine Ext.drewN ?_ _ | refine Ext.drew ?_ | refine Ext.trans ?_ (Hid.out (by assumption))))))).mono ?_
                rintro e w15 ⟨rfl, hb⟩
                rw [HZZ.out]
                have hx15 := hid (hx14.out.trans hb)
                clear hb hx14
                go_wp2
                go_ret
                refine ⟨rfl, ?_⟩
                (repeat (first | exact Ext.refl _ | refine Ext.alloc ?_ _ | refine Ext.drewN ?_ _ | refine Ext.drew ?_ | refine Ext.trans ?_ (Hid.out (by assumption))))
end Go.Proofs.Ytjggjkmafcokjaa
