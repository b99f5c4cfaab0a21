/- A script of calls answers as the document's index does: the statement's walk. -/
import Derived.Test.YtjggjkmafcokjaaPlayM8
import Derived.Test.YtjggjkmafcokjaaSameD
import Derived.Test.YtjggjkmafcokjaaOwn8
import Derived.Deep.DeepCutAuto
import Derived.IntWalk
set_option linter.unusedVariables false
set_option linter.unusedSimpArgs false
namespace Go.Proofs.Ytjggjkmafcokjaa
open Go.RowKit

set_option maxRecDepth 100000 in
set_option maxHeartbeats 16000000 in
theorem plays8_any (a0 : Option Addr) (n0 c0 : Nat) (xs : List CallV) (w : World) (hX : Script w a0 n0 c0 xs) :
    Calls Try.prog 4 #[.slice a0 n0 c0] w fun e w' => e = .returned (.bool true) ∧ Ext w w' := by
  obtain rfl := hX.sl.neq
  have hl0 := hX.sl.len
  have hm0 := hX.sl.max
  unfold maxLen at hm0
  have HX := hid hX
  clear hX
  go_enter Try.func4, Try.ntmps4
  go_wp2_with fail
  refine (awake8_any _).mono ?_
  rintro e w1 ⟨rfl, hb⟩
  have hx1 := hid hb
  clear hb
  go_wp2_with fail
  refine (new8_any _).mono ?_
  rintro e w2 ⟨p, own0, rfl, hI, hb⟩
  have HS0 := hid (St0.start (W := w) (Ext.trans (show Ext w w1 from (by (repeat (first | exact Ext.refl _ | refine Ext.alloc ?_ _ | refine Ext.drewN ?_ _ | refine Ext.drew ?_ | refine Ext.trans ?_ (Hid.out (by assumption)))))) (Ext.refl _)) hI hb)
  clear hI hb hx1
  go_wp2_with fail
  go_loopg [6] (xs.length) (fun g iv wr => ∃ (i s : Nat) (fd : Int → Option (List T)), g + i = xs.length ∧ iv = .int .i64 i ∧ i ≤ 60 ∧ s ≤ i ∧ Hid (St0 w w1.heap.size p w2.heap.size (17 * i) fd s fd s wr))
  case atStart => exact ⟨0, 0, _, by omega, rfl, by omega, by omega, HS0⟩
  case round =>
    obtain ⟨i, s, fd, hg, rfl, hi60, hsi, HI⟩ := hrel
    clear HS0
    have hx := hid HI.out.ext
    by_cases hk : i < xs.length ∧ i < 60
    · obtain ⟨hk, hk60⟩ := hk
      have q1 : (i : Int) < (xs.length : Int) := by omega
      have q2 : (i : Int) < 60 := by omega
      have q0 : (0 : Int) ≤ (i : Int) := by omega
      obtain ⟨b, o, rfl, hcs⟩ := HX.out.sl.get i hk
      obtain ⟨D0, D1, D2, D3⟩ := cellsC hcs
      have d0 := hx.out.keep D0
      have d1 := hx.out.keep D1
      have d2 := hx.out.keep D2
      have d3 := hx.out.keep D3
      have HIT := hid (HX.out.it _ (List.getElem_mem hk))
      clear hcs D0 D1 D2 D3
      go_wp2_with fail
      refine (small2_any xs[i] _ (HIT.out.ext (by (repeat (first | exact Ext.refl _ | refine Ext.alloc ?_ _ | refine Ext.drewN ?_ _ | refine Ext.drew ?_ | refine Ext.trans ?_ (Hid.out (by assumption))))))).mono ?_
      rintro e w5 ⟨K, rfl, hK, hb⟩
      have HK := hid hK
      have H5 := hid (HI.out.st (o := .cells #[.int .i64 xs[i].k, .int .u64 xs[i].id, .slice xs[i].f.a xs[i].f.n xs[i].f.c, .slice xs[i].e.a xs[i].e.n xs[i].e.c] 36 (0, 0)) (Ext.trans ((Ext.refl _).alloc _) hb) ((hb.block _ (by simp)).trans (heap_alloc_new _ _)))
      obtain ⟨g1, hg1⟩ : ∃ g1, g1 = wr.heap.size := ⟨_, rfl⟩
      rw [← hg1] at H5
      rw [← hg1]
      clear hg1 hb hx HI d0 d1 d2 d3 hK
      have d0 := cellH (o := 0) H5.out.blk rfl
      have d1 := cellH (o := 1) H5.out.blk rfl
      have d2 := cellH (o := 2) H5.out.blk rfl
      have d3 := cellH (o := 3) H5.out.blk rfl
      cases K with
      | false =>
        have HE9 := H5
        go_wp2
        go_roundg (gk - 1)
        case measure => omega
        case rel => (exact ⟨i + 1, _, _, by omega, by go_num, by omega, by omega, hid (HE9.out.st0.more (by omega))⟩)
      | true =>
      have HL := hid (HK.out rfl)
      clear HK
      by_cases hk1 : xs[i].k = 1
      · have r1 : (xs[i].k == 1) = true := by simp [hk1]
        have HK1 := hid hk1
        clear hk1
        go_wp2_with fail
        refine wp_region_held_drew (S := (fun w' => w'.cell? ⟨g1, 1, none⟩ = some (.int .u64 xs[i].id) ∧ w'.cell? ⟨g1, 2, none⟩ = some (.slice xs[i].f.a xs[i].f.n xs[i].f.c))) (by kernel_rfl) ?_ (fun hHeld => ?_)
        · ((try dsimp only); (exact ⟨d1, d2⟩))
        (refine hTake 0 (some 41) (v := ?_) (by kernel_rfl) (by kernel_rfl) (by kernel_rfl) (fun _ _ _ h => h) ⟨_, rfl, rfl, Or.inl ⟨by rfl, ?_⟩⟩ hHeld ?_; rotate_left; (focus (intro w hSw; (try dsimp only at hSw); go_simp; (first | done | with_reducible rfl))); (try simp only [Act.put, List.setIfInBounds_toArray, List.set_cons_zero, List.set_cons_succ]))
        (refine hTake 1 (some 42) (v := ?_) (by kernel_rfl) (by kernel_rfl) (by kernel_rfl) (fun _ _ _ h => h) ⟨_, rfl, rfl, Or.inl ⟨by rfl, ?_⟩⟩ hHeld ?_; rotate_left; (focus (intro w hSw; (try dsimp only at hSw); go_simp; (first | done | with_reducible rfl))); (try simp only [Act.put, List.setIfInBounds_toArray, List.set_cons_zero, List.set_cons_succ]))
        (refine hTake 2 (some 43) (v := ?_) (by kernel_rfl) (by kernel_rfl) (by kernel_rfl) (fun _ _ _ h => h) ⟨_, rfl, rfl, Or.inl ⟨by rfl, ?_⟩⟩ hHeld ?_; rotate_left; (focus (intro w hSw; (try dsimp only at hSw); go_simp; (first | done | with_reducible rfl))); (try simp only [Act.put, List.setIfInBounds_toArray, List.set_cons_zero, List.set_cons_succ]))
        (refine hTake 3 (some 44) (v := ?_) (by kernel_rfl) (by kernel_rfl) (by kernel_rfl) (fun _ _ _ h => h) ⟨_, rfl, rfl, Or.inl ⟨by rfl, ?_⟩⟩ hHeld ?_; rotate_left; (focus (intro w hSw; (try dsimp only at hSw); go_simp; (first | done | with_reducible rfl))); (try simp only [Act.put, List.setIfInBounds_toArray, List.set_cons_zero, List.set_cons_succ]))
        (refine hTake 4 (some 45) (v := ?_) (by kernel_rfl) (by kernel_rfl) (by kernel_rfl) (fun _ _ _ h => h) ⟨_, rfl, rfl, Or.inl ⟨by rfl, ?_⟩⟩ hHeld ?_; rotate_left; (focus (intro w hSw; (try dsimp only at hSw); go_simp; (first | done | with_reducible rfl))); (try simp only [Act.put, List.setIfInBounds_toArray, List.set_cons_zero, List.set_cons_succ]))
        (refine hTake 6 (some 47) (v := ?_) (by kernel_rfl) (by kernel_rfl) (by kernel_rfl) (fun _ _ _ h => h) ⟨_, rfl, rfl, Or.inl ⟨by rfl, ?_⟩⟩ hHeld ?_; rotate_left; (focus (intro w hSw; (try dsimp only at hSw); go_simp; (first | done | with_reducible rfl))); (try simp only [Act.put, List.setIfInBounds_toArray, List.set_cons_zero, List.set_cons_succ]))
        (refine hTake 7 (some 48) (v := ?_) (by kernel_rfl) (by kernel_rfl) (by kernel_rfl) (fun _ _ _ h => h) ⟨_, rfl, rfl, Or.inl ⟨by rfl, ?_⟩⟩ hHeld ?_; rotate_left; (focus (intro w hSw; (try dsimp only at hSw); go_simp; (first | done | with_reducible rfl))); (try simp only [Act.put, List.setIfInBounds_toArray, List.set_cons_zero, List.set_cons_succ]))
        (refine hTake 8 (some 49) (v := ?_) (by kernel_rfl) (by kernel_rfl) (by kernel_rfl) (fun _ _ _ h => h) ⟨_, rfl, rfl, Or.inl ⟨by rfl, ?_⟩⟩ hHeld ?_; rotate_left; (focus (intro w hSw; (try dsimp only at hSw); go_simp; (first | done | with_reducible rfl))); (try simp only [Act.put, List.setIfInBounds_toArray, List.set_cons_zero, List.set_cons_succ]))
        (refine hTake 9 (some 50) (v := ?_) (by kernel_rfl) (by kernel_rfl) (by kernel_rfl) (fun _ _ _ h => h) ⟨_, rfl, rfl, Or.inl ⟨by rfl, ?_⟩⟩ hHeld ?_; rotate_left; (focus (intro w hSw; (try dsimp only at hSw); go_simp; (first | done | with_reducible rfl))); (try simp only [Act.put, List.setIfInBounds_toArray, List.set_cons_zero, List.set_cons_succ]))
        (refine hTake 10 (some 51) (v := ?_) (by kernel_rfl) (by kernel_rfl) (by kernel_rfl) (fun _ _ _ h => h) ⟨_, rfl, rfl, Or.inl ⟨by rfl, ?_⟩⟩ hHeld ?_; rotate_left; (focus (intro w hSw; (try dsimp only at hSw); go_simp; (first | done | with_reducible rfl))); (try simp only [Act.put, List.setIfInBounds_toArray, List.set_cons_zero, List.set_cons_succ]))
        refine wpAnyH_ready (rs := [5]) (by kernel_rfl) (by simp) ?_
        refine AllReadyH.cons rfl (fun K hK => ?_) AllReadyH.nil
        (go_simp; (go_at_call 12; refine (addX xs[i].id _ _ _ xs[i].ts _ HIT.out.u HIT.out.f (H5.out.up (by (repeat (first | exact Ext.refl _ | refine Ext.alloc ?_ _ | refine Ext.drewN ?_ _ | refine Ext.drew ?_ | refine Ext.trans ?_ (Hid.out (by assumption)))))) (by omega) (by omega)).mono ?_; rintro e w6 ⟨rfl, hst⟩; have H6 := hid hst; clear hst); (first | refine hK.out _ _ ?_ (fun hHeld => ?_) | (go_wp2_with fail; refine hK.out _ _ ?_ (fun hHeld => ?_))); (focus ((try dsimp only); (exact ⟨cellH H6.out.blk rfl, cellH H6.out.blk rfl⟩))); clear hK K; (try simp only [Act.put, List.setIfInBounds_toArray, List.set_cons_zero, List.set_cons_succ]))
        refine wpAnyH_ready (rs := [11]) (by kernel_rfl) (by simp) ?_
        refine AllReadyH.cons rfl (fun K hK => ?_) AllReadyH.nil
        (go_simp; (go_at_call 13; refine (raddX xs[i].id _ _ _ xs[i].ts _ HIT.out.f (fun t ht => Nat.le_trans (HL.out.2.1 t ht) (by decide)) (H6.out.up (by (repeat (first | exact Ext.refl _ | refine Ext.alloc ?_ _ | refine Ext.drewN ?_ _ | refine Ext.drew ?_ | refine Ext.trans ?_ (Hid.out (by assumption)))))) (by omega)).mono ?_; rintro e w7 ⟨rfl, hst⟩; have H7 := hid hst; clear hst); (first | refine hK.out _ _ ?_ (fun hHeld => ?_) | (go_wp2_with fail; refine hK.out _ _ ?_ (fun hHeld => ?_))); (focus ((try dsimp only); (exact ⟨cellH H7.out.blk rfl, cellH H7.out.blk rfl⟩))); clear hK K; (try simp only [Act.put, List.setIfInBounds_toArray, List.set_cons_zero, List.set_cons_succ]))
        (refine hTake 12 (some 53) (v := ?_) (by kernel_rfl) (by kernel_rfl) (by kernel_rfl) (fun _ _ _ h => h) ⟨_, rfl, rfl, Or.inl ⟨by rfl, ?_⟩⟩ hHeld ?_; rotate_left; (focus (intro w hSw; (try dsimp only at hSw); go_simp; (first | done | with_reducible rfl))); (try simp only [Act.put, List.setIfInBounds_toArray, List.set_cons_zero, List.set_cons_succ]))
        (refine hTake 13 (some 8) (v := ?_) (by kernel_rfl) (by kernel_rfl) (by kernel_rfl) (fun _ _ _ h => h) ⟨_, rfl, rfl, Or.inl ⟨by rfl, ?_⟩⟩ hHeld ?_; rotate_left; (focus (intro w hSw; (try dsimp only at hSw); go_simp; (first | done | with_reducible rfl))); (try simp only [Act.put, List.setIfInBounds_toArray, List.set_cons_zero, List.set_cons_succ]))
        refine wpAnyH_done (by kernel_rfl) ?_ _
        clear d0 d1 d2 d3
        have hle := addN_le fd s xs[i].id xs[i].ts
        obtain ⟨s', fd', hle, H8⟩ : ∃ s' fd', s' ≤ s + 1 ∧ Hid (St w w1.heap.size p w2.heap.size (17 * i + 17) fd' s' fd' s' g1 _ w7) := ⟨_, _, hle, H7⟩
        obtain ⟨ra, rc, hrow⟩ := H8.out.st0.row
        have HRW := hid hrow
        clear hrow
        go_wp2_with fail
        refine wp_region_held_drew (S := (fun w' => w'.cell? ⟨w2.heap.size, 0, none⟩ = some (.slice ra s' rc))) (by kernel_rfl) ?_ (fun hHeld => ?_)
        · ((try dsimp only); (exact HRW.out))
        (refine hTake 0 (some 101) (v := ?_) (by kernel_rfl) (by kernel_rfl) (by kernel_rfl) (fun _ _ _ h => h) ⟨_, rfl, rfl, Or.inl ⟨by rfl, ?_⟩⟩ hHeld ?_; rotate_left; (focus (intro w hSw; (try dsimp only at hSw); go_simp; (first | done | with_reducible rfl))); (try simp only [Act.put, List.setIfInBounds_toArray, List.set_cons_zero, List.set_cons_succ]))
        (refine hTake 1 (some 102) (v := ?_) (by kernel_rfl) (by kernel_rfl) (by kernel_rfl) (fun _ _ _ h => h) ⟨_, rfl, rfl, Or.inl ⟨by rfl, ?_⟩⟩ hHeld ?_; rotate_left; (focus (intro w hSw; (try dsimp only at hSw); go_simp; (first | done | with_reducible rfl))); (try simp only [Act.put, List.setIfInBounds_toArray, List.set_cons_zero, List.set_cons_succ]))
        (refine hTake 2 (some 103) (v := ?_) (by kernel_rfl) (by kernel_rfl) (by kernel_rfl) (fun _ _ _ h => h) ⟨_, rfl, rfl, Or.inl ⟨by rfl, ?_⟩⟩ hHeld ?_; rotate_left; (focus (intro w hSw; (try dsimp only at hSw); go_simp; (first | done | with_reducible rfl))); (try simp only [Act.put, List.setIfInBounds_toArray, List.set_cons_zero, List.set_cons_succ]))
        (refine hTake 3 (some 104) (v := ?_) (by kernel_rfl) (by kernel_rfl) (by kernel_rfl) (fun _ _ _ h => h) ⟨_, rfl, rfl, Or.inl ⟨by rfl, ?_⟩⟩ hHeld ?_; rotate_left; (focus (intro w hSw; (try dsimp only at hSw); go_simp; (first | done | with_reducible rfl))); (try simp only [Act.put, List.setIfInBounds_toArray, List.set_cons_zero, List.set_cons_succ]))
        (refine hTake 5 (some 106) (v := ?_) (by kernel_rfl) (by kernel_rfl) (by kernel_rfl) (fun _ _ _ h => h) ⟨_, rfl, rfl, Or.inl ⟨by rfl, ?_⟩⟩ hHeld ?_; rotate_left; (focus (intro w hSw; (try dsimp only at hSw); go_simp; (first | done | with_reducible rfl))); (try simp only [Act.put, List.setIfInBounds_toArray, List.set_cons_zero, List.set_cons_succ]))
        (refine hTake 6 (some 107) (v := ?_) (by kernel_rfl) (by kernel_rfl) (by kernel_rfl) (fun _ _ _ h => h) ⟨_, rfl, rfl, Or.inl ⟨by rfl, ?_⟩⟩ hHeld ?_; rotate_left; (focus (intro w hSw; (try dsimp only at hSw); go_simp; (first | done | with_reducible rfl))); (try simp only [Act.put, List.setIfInBounds_toArray, List.set_cons_zero, List.set_cons_succ]))
        (refine hTake 7 (some 108) (v := ?_) (by kernel_rfl) (by kernel_rfl) (by kernel_rfl) (fun _ _ _ h => h) ⟨_, rfl, rfl, Or.inl ⟨by rfl, ?_⟩⟩ hHeld ?_; rotate_left; (focus (intro w hSw; (try dsimp only at hSw); go_simp; (first | done | with_reducible rfl))); (try simp only [Act.put, List.setIfInBounds_toArray, List.set_cons_zero, List.set_cons_succ]))
        (refine hTake 8 (some 109) (v := ?_) (by kernel_rfl) (by kernel_rfl) (by kernel_rfl) (fun _ _ _ h => h) ⟨_, rfl, rfl, Or.inl ⟨by rfl, ?_⟩⟩ hHeld ?_; rotate_left; (focus (intro w hSw; (try dsimp only at hSw); go_simp; (first | done | with_reducible rfl))); (try simp only [Act.put, List.setIfInBounds_toArray, List.set_cons_zero, List.set_cons_succ]))
        (refine hTake 9 (some 110) (v := ?_) (by kernel_rfl) (by kernel_rfl) (by kernel_rfl) (fun _ _ _ h => h) ⟨_, rfl, rfl, Or.inl ⟨by rfl, ?_⟩⟩ hHeld ?_; rotate_left; (focus (intro w hSw; (try dsimp only at hSw); go_simp; (first | done | with_reducible rfl))); (try simp only [Act.put, List.setIfInBounds_toArray, List.set_cons_zero, List.set_cons_succ]))
        refine wpAnyH_ready (rs := [4]) (by kernel_rfl) (by simp) ?_
        refine AllReadyH.cons rfl (fun K hK => ?_) AllReadyH.nil
        (go_simp; (go_at_call 22; refine (cntX _ (H8.out.up (by (repeat (first | exact Ext.refl _ | refine Ext.alloc ?_ _ | refine Ext.drewN ?_ _ | refine Ext.drew ?_ | refine Ext.trans ?_ (Hid.out (by assumption))))))).mono ?_; rintro e w9 ⟨rfl, hb⟩; have HE9 := hid ((H8.out.up (by (repeat (first | exact Ext.refl _ | refine Ext.alloc ?_ _ | refine Ext.drewN ?_ _ | refine Ext.drew ?_ | refine Ext.trans ?_ (Hid.out (by assumption)))))).up hb); have HRW9 := hid (hb.keep HRW.out); clear hb); (first | refine hK.out _ _ ?_ (fun hHeld => ?_) | (go_wp2_with fail; refine hK.out _ _ ?_ (fun hHeld => ?_))); (focus ((try dsimp only); (exact HRW9.out))); clear hK K; (try simp only [Act.put, List.setIfInBounds_toArray, List.set_cons_zero, List.set_cons_succ]))
        (refine hTake 10 (some 111) (v := ?_) (by kernel_rfl) (by kernel_rfl) (by kernel_rfl) (fun _ _ _ h => h) ⟨_, rfl, rfl, Or.inl ⟨by rfl, ?_⟩⟩ hHeld ?_; rotate_left; (focus (intro w hSw; (try dsimp only at hSw); go_simp; (first | done | with_reducible rfl))); (try simp only [Act.put, List.setIfInBounds_toArray, List.set_cons_zero, List.set_cons_succ]))
        (refine hTake 11 (some 112) (v := ?_) (by kernel_rfl) (by kernel_rfl) (by kernel_rfl) (fun _ _ _ h => h) ⟨_, rfl, rfl, Or.inl ⟨by rfl, ?_⟩⟩ hHeld ?_; rotate_left; (focus (intro w hSw; (try dsimp only at hSw); go_simp; (first | done | with_reducible rfl))); (try simp only [Act.put, List.setIfInBounds_toArray, List.set_cons_zero, List.set_cons_succ]))
        refine wpAnyH_done (by kernel_rfl) ?_ _
        go_wp2
        go_roundg (gk - 1)
        case measure => omega
        case rel => (exact ⟨i + 1, _, _, by omega, by go_num, by omega, by omega, hid (HE9.out.st0.more (by omega))⟩)
      · have r1 : (xs[i].k == 1) = false := by simp [hk1]
        have HK1 := hid hk1
        clear hk1
        by_cases hk2 : xs[i].k = 2
        · have r2 : (xs[i].k == 2) = true := by simp [hk2]
          have HK2 := hid hk2
          clear hk2
          go_wp2_with fail
          refine wp_region_held_drew (S := (fun w' => w'.cell? ⟨g1, 1, none⟩ = some (.int .u64 xs[i].id))) (by kernel_rfl) ?_ (fun hHeld => ?_)
          · ((try dsimp only); (exact d1))
          (refine hTake 0 (some 56) (v := ?_) (by kernel_rfl) (by kernel_rfl) (by kernel_rfl) (fun _ _ _ h => h) ⟨_, rfl, rfl, Or.inl ⟨by rfl, ?_⟩⟩ hHeld ?_; rotate_left; (focus (intro w hSw; (try dsimp only at hSw); go_simp; (first | done | with_reducible rfl))); (try simp only [Act.put, List.setIfInBounds_toArray, List.set_cons_zero, List.set_cons_succ]))
          (refine hTake 1 (some 57) (v := ?_) (by kernel_rfl) (by kernel_rfl) (by kernel_rfl) (fun _ _ _ h => h) ⟨_, rfl, rfl, Or.inl ⟨by rfl, ?_⟩⟩ hHeld ?_; rotate_left; (focus (intro w hSw; (try dsimp only at hSw); go_simp; (first | done | with_reducible rfl))); (try simp only [Act.put, List.setIfInBounds_toArray, List.set_cons_zero, List.set_cons_succ]))
          (refine hTake 2 (some 58) (v := ?_) (by kernel_rfl) (by kernel_rfl) (by kernel_rfl) (fun _ _ _ h => h) ⟨_, rfl, rfl, Or.inl ⟨by rfl, ?_⟩⟩ hHeld ?_; rotate_left; (focus (intro w hSw; (try dsimp only at hSw); go_simp; (first | done | with_reducible rfl))); (try simp only [Act.put, List.setIfInBounds_toArray, List.set_cons_zero, List.set_cons_succ]))
          (refine hTake 4 (some 60) (v := ?_) (by kernel_rfl) (by kernel_rfl) (by kernel_rfl) (fun _ _ _ h => h) ⟨_, rfl, rfl, Or.inl ⟨by rfl, ?_⟩⟩ hHeld ?_; rotate_left; (focus (intro w hSw; (try dsimp only at hSw); go_simp; (first | done | with_reducible rfl))); (try simp only [Act.put, List.setIfInBounds_toArray, List.set_cons_zero, List.set_cons_succ]))
          (refine hTake 5 (some 61) (v := ?_) (by kernel_rfl) (by kernel_rfl) (by kernel_rfl) (fun _ _ _ h => h) ⟨_, rfl, rfl, Or.inl ⟨by rfl, ?_⟩⟩ hHeld ?_; rotate_left; (focus (intro w hSw; (try dsimp only at hSw); go_simp; (first | done | with_reducible rfl))); (try simp only [Act.put, List.setIfInBounds_toArray, List.set_cons_zero, List.set_cons_succ]))
          (refine hTake 6 (some 62) (v := ?_) (by kernel_rfl) (by kernel_rfl) (by kernel_rfl) (fun _ _ _ h => h) ⟨_, rfl, rfl, Or.inl ⟨by rfl, ?_⟩⟩ hHeld ?_; rotate_left; (focus (intro w hSw; (try dsimp only at hSw); go_simp; (first | done | with_reducible rfl))); (try simp only [Act.put, List.setIfInBounds_toArray, List.set_cons_zero, List.set_cons_succ]))
          refine wpAnyH_ready (rs := [3]) (by kernel_rfl) (by simp) ?_
          refine AllReadyH.cons rfl (fun K hK => ?_) AllReadyH.nil
          (go_simp; (go_at_call 14; refine (dropX xs[i].id _ HIT.out.u (H5.out.up (by (repeat (first | exact Ext.refl _ | refine Ext.alloc ?_ _ | refine Ext.drewN ?_ _ | refine Ext.drew ?_ | refine Ext.trans ?_ (Hid.out (by assumption))))))).mono ?_; rintro e w6 ⟨rfl, hst⟩; have H6 := hid hst; clear hst); (first | refine hK.out _ _ ?_ (fun hHeld => ?_) | (go_wp2_with fail; refine hK.out _ _ ?_ (fun hHeld => ?_))); (focus ((try dsimp only); (exact cellH H6.out.blk rfl))); clear hK K; (try simp only [Act.put, List.setIfInBounds_toArray, List.set_cons_zero, List.set_cons_succ]))
          refine wpAnyH_ready (rs := [7]) (by kernel_rfl) (by simp) ?_
          refine AllReadyH.cons rfl (fun K hK => ?_) AllReadyH.nil
          (go_simp; (go_at_call 15; refine (rdropX xs[i].id _ (H6.out.up (by (repeat (first | exact Ext.refl _ | refine Ext.alloc ?_ _ | refine Ext.drewN ?_ _ | refine Ext.drew ?_ | refine Ext.trans ?_ (Hid.out (by assumption)))))) (by omega)).mono ?_; rintro e w7 ⟨rfl, hst⟩; have H7 := hid hst; clear hst); (first | refine hK.out _ _ ?_ (fun hHeld => ?_) | (go_wp2_with fail; refine hK.out _ _ ?_ (fun hHeld => ?_))); (focus ((try dsimp only); (exact cellH H7.out.blk rfl))); clear hK K; (try simp only [Act.put, List.setIfInBounds_toArray, List.set_cons_zero, List.set_cons_succ]))
          (refine hTake 8 (some 64) (v := ?_) (by kernel_rfl) (by kernel_rfl) (by kernel_rfl) (fun _ _ _ h => h) ⟨_, rfl, rfl, Or.inl ⟨by rfl, ?_⟩⟩ hHeld ?_; rotate_left; (focus (intro w hSw; (try dsimp only at hSw); go_simp; (first | done | with_reducible rfl))); (try simp only [Act.put, List.setIfInBounds_toArray, List.set_cons_zero, List.set_cons_succ]))
          (refine hTake 9 (some 8) (v := ?_) (by kernel_rfl) (by kernel_rfl) (by kernel_rfl) (fun _ _ _ h => h) ⟨_, rfl, rfl, Or.inl ⟨by rfl, ?_⟩⟩ hHeld ?_; rotate_left; (focus (intro w hSw; (try dsimp only at hSw); go_simp; (first | done | with_reducible rfl))); (try simp only [Act.put, List.setIfInBounds_toArray, List.set_cons_zero, List.set_cons_succ]))
          refine wpAnyH_done (by kernel_rfl) ?_ _
          clear d0 d1 d2 d3
          have hle := dropN_le fd s xs[i].id
          obtain ⟨s', fd', hle, H8⟩ : ∃ s' fd', s' ≤ s ∧ Hid (St w w1.heap.size p w2.heap.size (17 * i) fd' s' fd' s' g1 _ w7) := ⟨_, _, hle, H7⟩
          obtain ⟨ra, rc, hrow⟩ := H8.out.st0.row
          have HRW := hid hrow
          clear hrow
          go_wp2_with fail
          refine wp_region_held_drew (S := (fun w' => w'.cell? ⟨w2.heap.size, 0, none⟩ = some (.slice ra s' rc))) (by kernel_rfl) ?_ (fun hHeld => ?_)
          · ((try dsimp only); (exact HRW.out))
          (refine hTake 0 (some 101) (v := ?_) (by kernel_rfl) (by kernel_rfl) (by kernel_rfl) (fun _ _ _ h => h) ⟨_, rfl, rfl, Or.inl ⟨by rfl, ?_⟩⟩ hHeld ?_; rotate_left; (focus (intro w hSw; (try dsimp only at hSw); go_simp; (first | done | with_reducible rfl))); (try simp only [Act.put, List.setIfInBounds_toArray, List.set_cons_zero, List.set_cons_succ]))
          (refine hTake 1 (some 102) (v := ?_) (by kernel_rfl) (by kernel_rfl) (by kernel_rfl) (fun _ _ _ h => h) ⟨_, rfl, rfl, Or.inl ⟨by rfl, ?_⟩⟩ hHeld ?_; rotate_left; (focus (intro w hSw; (try dsimp only at hSw); go_simp; (first | done | with_reducible rfl))); (try simp only [Act.put, List.setIfInBounds_toArray, List.set_cons_zero, List.set_cons_succ]))
          (refine hTake 2 (some 103) (v := ?_) (by kernel_rfl) (by kernel_rfl) (by kernel_rfl) (fun _ _ _ h => h) ⟨_, rfl, rfl, Or.inl ⟨by rfl, ?_⟩⟩ hHeld ?_; rotate_left; (focus (intro w hSw; (try dsimp only at hSw); go_simp; (first | done | with_reducible rfl))); (try simp only [Act.put, List.setIfInBounds_toArray, List.set_cons_zero, List.set_cons_succ]))
          (refine hTake 3 (some 104) (v := ?_) (by kernel_rfl) (by kernel_rfl) (by kernel_rfl) (fun _ _ _ h => h) ⟨_, rfl, rfl, Or.inl ⟨by rfl, ?_⟩⟩ hHeld ?_; rotate_left; (focus (intro w hSw; (try dsimp only at hSw); go_simp; (first | done | with_reducible rfl))); (try simp only [Act.put, List.setIfInBounds_toArray, List.set_cons_zero, List.set_cons_succ]))
          (refine hTake 5 (some 106) (v := ?_) (by kernel_rfl) (by kernel_rfl) (by kernel_rfl) (fun _ _ _ h => h) ⟨_, rfl, rfl, Or.inl ⟨by rfl, ?_⟩⟩ hHeld ?_; rotate_left; (focus (intro w hSw; (try dsimp only at hSw); go_simp; (first | done | with_reducible rfl))); (try simp only [Act.put, List.setIfInBounds_toArray, List.set_cons_zero, List.set_cons_succ]))
          (refine hTake 6 (some 107) (v := ?_) (by kernel_rfl) (by kernel_rfl) (by kernel_rfl) (fun _ _ _ h => h) ⟨_, rfl, rfl, Or.inl ⟨by rfl, ?_⟩⟩ hHeld ?_; rotate_left; (focus (intro w hSw; (try dsimp only at hSw); go_simp; (first | done | with_reducible rfl))); (try simp only [Act.put, List.setIfInBounds_toArray, List.set_cons_zero, List.set_cons_succ]))
          (refine hTake 7 (some 108) (v := ?_) (by kernel_rfl) (by kernel_rfl) (by kernel_rfl) (fun _ _ _ h => h) ⟨_, rfl, rfl, Or.inl ⟨by rfl, ?_⟩⟩ hHeld ?_; rotate_left; (focus (intro w hSw; (try dsimp only at hSw); go_simp; (first | done | with_reducible rfl))); (try simp only [Act.put, List.setIfInBounds_toArray, List.set_cons_zero, List.set_cons_succ]))
          (refine hTake 8 (some 109) (v := ?_) (by kernel_rfl) (by kernel_rfl) (by kernel_rfl) (fun _ _ _ h => h) ⟨_, rfl, rfl, Or.inl ⟨by rfl, ?_⟩⟩ hHeld ?_; rotate_left; (focus (intro w hSw; (try dsimp only at hSw); go_simp; (first | done | with_reducible rfl))); (try simp only [Act.put, List.setIfInBounds_toArray, List.set_cons_zero, List.set_cons_succ]))
          (refine hTake 9 (some 110) (v := ?_) (by kernel_rfl) (by kernel_rfl) (by kernel_rfl) (fun _ _ _ h => h) ⟨_, rfl, rfl, Or.inl ⟨by rfl, ?_⟩⟩ hHeld ?_; rotate_left; (focus (intro w hSw; (try dsimp only at hSw); go_simp; (first | done | with_reducible rfl))); (try simp only [Act.put, List.setIfInBounds_toArray, List.set_cons_zero, List.set_cons_succ]))
          refine wpAnyH_ready (rs := [4]) (by kernel_rfl) (by simp) ?_
          refine AllReadyH.cons rfl (fun K hK => ?_) AllReadyH.nil
          (go_simp; (go_at_call 22; refine (cntX _ (H8.out.up (by (repeat (first | exact Ext.refl _ | refine Ext.alloc ?_ _ | refine Ext.drewN ?_ _ | refine Ext.drew ?_ | refine Ext.trans ?_ (Hid.out (by assumption))))))).mono ?_; rintro e w9 ⟨rfl, hb⟩; have HE9 := hid ((H8.out.up (by (repeat (first | exact Ext.refl _ | refine Ext.alloc ?_ _ | refine Ext.drewN ?_ _ | refine Ext.drew ?_ | refine Ext.trans ?_ (Hid.out (by assumption)))))).up hb); have HRW9 := hid (hb.keep HRW.out); clear hb); (first | refine hK.out _ _ ?_ (fun hHeld => ?_) | (go_wp2_with fail; refine hK.out _ _ ?_ (fun hHeld => ?_))); (focus ((try dsimp only); (exact HRW9.out))); clear hK K; (try simp only [Act.put, List.setIfInBounds_toArray, List.set_cons_zero, List.set_cons_succ]))
          (refine hTake 10 (some 111) (v := ?_) (by kernel_rfl) (by kernel_rfl) (by kernel_rfl) (fun _ _ _ h => h) ⟨_, rfl, rfl, Or.inl ⟨by rfl, ?_⟩⟩ hHeld ?_; rotate_left; (focus (intro w hSw; (try dsimp only at hSw); go_simp; (first | done | with_reducible rfl))); (try simp only [Act.put, List.setIfInBounds_toArray, List.set_cons_zero, List.set_cons_succ]))
          (refine hTake 11 (some 112) (v := ?_) (by kernel_rfl) (by kernel_rfl) (by kernel_rfl) (fun _ _ _ h => h) ⟨_, rfl, rfl, Or.inl ⟨by rfl, ?_⟩⟩ hHeld ?_; rotate_left; (focus (intro w hSw; (try dsimp only at hSw); go_simp; (first | done | with_reducible rfl))); (try simp only [Act.put, List.setIfInBounds_toArray, List.set_cons_zero, List.set_cons_succ]))
          refine wpAnyH_done (by kernel_rfl) ?_ _
          go_wp2
          go_roundg (gk - 1)
          case measure => omega
          case rel => (exact ⟨i + 1, _, _, by omega, by go_num, by omega, by omega, hid (HE9.out.st0.more (by omega))⟩)
        · have r2 : (xs[i].k == 2) = false := by simp [hk2]
          have HK2 := hid hk2
          clear hk2
          by_cases hk3 : xs[i].k = 3
          · have r3 : (xs[i].k == 3) = true := by simp [hk3]
            have HK3 := hid hk3
            clear hk3
            go_wp2_with fail
            refine wp_region_held_drew (S := (fun w' => w'.cell? ⟨g1, 3, none⟩ = some (.slice xs[i].e.a xs[i].e.n xs[i].e.c))) (by kernel_rfl) ?_ (fun hHeld => ?_)
            · ((try dsimp only); (exact d3))
            (refine hTake 0 (some 67) (v := ?_) (by kernel_rfl) (by kernel_rfl) (by kernel_rfl) (fun _ _ _ h => h) ⟨_, rfl, rfl, Or.inl ⟨by rfl, ?_⟩⟩ hHeld ?_; rotate_left; (focus (intro w hSw; (try dsimp only at hSw); go_simp; (first | done | with_reducible rfl))); (try simp only [Act.put, List.setIfInBounds_toArray, List.set_cons_zero, List.set_cons_succ]))
            (refine hTake 1 (some 68) (v := ?_) (by kernel_rfl) (by kernel_rfl) (by kernel_rfl) (fun _ _ _ h => h) ⟨_, rfl, rfl, Or.inl ⟨by rfl, ?_⟩⟩ hHeld ?_; rotate_left; (focus (intro w hSw; (try dsimp only at hSw); go_simp; (first | done | with_reducible rfl))); (try simp only [Act.put, List.setIfInBounds_toArray, List.set_cons_zero, List.set_cons_succ]))
            (refine hTake 2 (some 69) (v := ?_) (by kernel_rfl) (by kernel_rfl) (by kernel_rfl) (fun _ _ _ h => h) ⟨_, rfl, rfl, Or.inl ⟨by rfl, ?_⟩⟩ hHeld ?_; rotate_left; (focus (intro w hSw; (try dsimp only at hSw); go_simp; (first | done | with_reducible rfl))); (try simp only [Act.put, List.setIfInBounds_toArray, List.set_cons_zero, List.set_cons_succ]))
            (refine hTake 4 (some 71) (v := ?_) (by kernel_rfl) (by kernel_rfl) (by kernel_rfl) (fun _ _ _ h => h) ⟨_, rfl, rfl, Or.inl ⟨by rfl, ?_⟩⟩ hHeld ?_; rotate_left; (focus (intro w hSw; (try dsimp only at hSw); go_simp; (first | done | with_reducible rfl))); (try simp only [Act.put, List.setIfInBounds_toArray, List.set_cons_zero, List.set_cons_succ]))
            (refine hTake 5 (some 72) (v := ?_) (by kernel_rfl) (by kernel_rfl) (by kernel_rfl) (fun _ _ _ h => h) ⟨_, rfl, rfl, Or.inl ⟨by rfl, ?_⟩⟩ hHeld ?_; rotate_left; (focus (intro w hSw; (try dsimp only at hSw); go_simp; (first | done | with_reducible rfl))); (try simp only [Act.put, List.setIfInBounds_toArray, List.set_cons_zero, List.set_cons_succ]))
            (refine hTake 6 (some 73) (v := ?_) (by kernel_rfl) (by kernel_rfl) (by kernel_rfl) (fun _ _ _ h => h) ⟨_, rfl, rfl, Or.inl ⟨by rfl, ?_⟩⟩ hHeld ?_; rotate_left; (focus (intro w hSw; (try dsimp only at hSw); go_simp; (first | done | with_reducible rfl))); (try simp only [Act.put, List.setIfInBounds_toArray, List.set_cons_zero, List.set_cons_succ]))
            refine wpAnyH_ready (rs := [3]) (by kernel_rfl) (by simp) ?_
            refine AllReadyH.cons rfl (fun K hK => ?_) AllReadyH.nil
            (go_simp; (go_at_call 17; refine (matX _ _ _ xs[i].es _ HIT.out.e HL.out.2.2.1 HL.out.2.2.2 (H5.out.up (by (repeat (first | exact Ext.refl _ | refine Ext.alloc ?_ _ | refine Ext.drewN ?_ _ | refine Ext.drew ?_ | refine Ext.trans ?_ (Hid.out (by assumption)))))) (by omega)).mono ?_; rintro e w6 ⟨za, zn, zc, zs, rfl, hsl, hmz, hb⟩; have HZ6 := hid hsl; have HM := hid hmz; have H6 := hid ((H5.out.up (by (repeat (first | exact Ext.refl _ | refine Ext.alloc ?_ _ | refine Ext.drewN ?_ _ | refine Ext.drew ?_ | refine Ext.trans ?_ (Hid.out (by assumption)))))).up hb); clear hsl hmz hb); (first | refine hK.out _ _ ?_ (fun hHeld => ?_) | (go_wp2_with fail; refine hK.out _ _ ?_ (fun hHeld => ?_))); (focus ((try dsimp only); (exact cellH H6.out.blk rfl))); clear hK K; (try simp only [Act.put, List.setIfInBounds_toArray, List.set_cons_zero, List.set_cons_succ]))
            refine wpAnyH_ready (rs := [7]) (by kernel_rfl) (by simp) ?_
            refine AllReadyH.cons rfl (fun K hK => ?_) AllReadyH.nil
            (go_simp; (go_at_call 18; refine (rmatX _ _ _ xs[i].es _ HIT.out.e (H6.out.up (by (repeat (first | exact Ext.refl _ | refine Ext.alloc ?_ _ | refine Ext.drewN ?_ _ | refine Ext.drew ?_ | refine Ext.trans ?_ (Hid.out (by assumption)))))) (by omega)).mono ?_; rintro e w7 ⟨ya, yn, yc, ys, rfl, hsl, hmz, hb⟩; obtain rfl := hmz _ HM.out; have HY7 := hid hsl; have H7 := hid ((H6.out.up (by (repeat (first | exact Ext.refl _ | refine Ext.alloc ?_ _ | refine Ext.drewN ?_ _ | refine Ext.drew ?_ | refine Ext.trans ?_ (Hid.out (by assumption)))))).up hb); have HZ7 := hid ((HZ6.out.ext (by (repeat (first | exact Ext.refl _ | refine Ext.alloc ?_ _ | refine Ext.drewN ?_ _ | refine Ext.drew ?_ | refine Ext.trans ?_ (Hid.out (by assumption)))))).ext hb); clear hsl hmz hb); (first | refine hK.out _ _ ?_ (fun hHeld => ?_) | (go_wp2_with fail; refine hK.out _ _ ?_ (fun hHeld => ?_))); (focus ((try dsimp only); (exact cellH H7.out.blk rfl))); clear hK K; (try simp only [Act.put, List.setIfInBounds_toArray, List.set_cons_zero, List.set_cons_succ]))
            refine wpAnyH_ready (rs := [8]) (by kernel_rfl) (by simp) ?_
            refine AllReadyH.cons rfl (fun K hK => ?_) AllReadyH.nil
            (go_simp; (go_at_call 16; refine (same8_any _ _ _ zs _ _ _ zs _ (HZ7.out.ext (by (repeat (first | exact Ext.refl _ | refine Ext.alloc ?_ _ | refine Ext.drewN ?_ _ | refine Ext.drew ?_ | refine Ext.trans ?_ (Hid.out (by assumption)))))) (HY7.out.ext (by (repeat (first | exact Ext.refl _ | refine Ext.alloc ?_ _ | refine Ext.drewN ?_ _ | refine Ext.drew ?_ | refine Ext.trans ?_ (Hid.out (by assumption))))))).mono ?_; rintro e w8 ⟨rfl, hb⟩; rw [decide_eq_true (show zs = zs from rfl)]; have H8 := hid ((H7.out.up (by (repeat (first | exact Ext.refl _ | refine Ext.alloc ?_ _ | refine Ext.drewN ?_ _ | refine Ext.drew ?_ | refine Ext.trans ?_ (Hid.out (by assumption)))))).up hb); clear hb); (first | refine hK.out _ _ ?_ (fun hHeld => ?_) | (go_wp2_with fail; refine hK.out _ _ ?_ (fun hHeld => ?_))); (focus ((try dsimp only); (exact cellH H8.out.blk rfl))); clear hK K; (try simp only [Act.put, List.setIfInBounds_toArray, List.set_cons_zero, List.set_cons_succ]))
            (refine hTake 9 (some 8) (v := ?_) (by kernel_rfl) (by kernel_rfl) (by kernel_rfl) (fun _ _ _ h => h) ⟨_, rfl, rfl, Or.inl ⟨by rfl, ?_⟩⟩ hHeld ?_; rotate_left; (focus (intro w hSw; (try dsimp only at hSw); go_simp; (first | done | with_reducible rfl))); (try simp only [Act.put, List.setIfInBounds_toArray, List.set_cons_zero, List.set_cons_succ]))
            refine wpAnyH_done (by kernel_rfl) ?_ _
            clear d0 d1 d2 d3
            obtain ⟨ra, rc, hrow⟩ := H8.out.st0.row
            have HRW := hid hrow
            clear hrow
            go_wp2_with fail
            refine wp_region_held_drew (S := (fun w' => w'.cell? ⟨w2.heap.size, 0, none⟩ = some (.slice ra s rc))) (by kernel_rfl) ?_ (fun hHeld => ?_)
            · ((try dsimp only); (exact HRW.out))
            (refine hTake 0 (some 101) (v := ?_) (by kernel_rfl) (by kernel_rfl) (by kernel_rfl) (fun _ _ _ h => h) ⟨_, rfl, rfl, Or.inl ⟨by rfl, ?_⟩⟩ hHeld ?_; rotate_left; (focus (intro w hSw; (try dsimp only at hSw); go_simp; (first | done | with_reducible rfl))); (try simp only [Act.put, List.setIfInBounds_toArray, List.set_cons_zero, List.set_cons_succ]))
            (refine hTake 1 (some 102) (v := ?_) (by kernel_rfl) (by kernel_rfl) (by kernel_rfl) (fun _ _ _ h => h) ⟨_, rfl, rfl, Or.inl ⟨by rfl, ?_⟩⟩ hHeld ?_; rotate_left; (focus (intro w hSw; (try dsimp only at hSw); go_simp; (first | done | with_reducible rfl))); (try simp only [Act.put, List.setIfInBounds_toArray, List.set_cons_zero, List.set_cons_succ]))
            (refine hTake 2 (some 103) (v := ?_) (by kernel_rfl) (by kernel_rfl) (by kernel_rfl) (fun _ _ _ h => h) ⟨_, rfl, rfl, Or.inl ⟨by rfl, ?_⟩⟩ hHeld ?_; rotate_left; (focus (intro w hSw; (try dsimp only at hSw); go_simp; (first | done | with_reducible rfl))); (try simp only [Act.put, List.setIfInBounds_toArray, List.set_cons_zero, List.set_cons_succ]))
            (refine hTake 3 (some 104) (v := ?_) (by kernel_rfl) (by kernel_rfl) (by kernel_rfl) (fun _ _ _ h => h) ⟨_, rfl, rfl, Or.inl ⟨by rfl, ?_⟩⟩ hHeld ?_; rotate_left; (focus (intro w hSw; (try dsimp only at hSw); go_simp; (first | done | with_reducible rfl))); (try simp only [Act.put, List.setIfInBounds_toArray, List.set_cons_zero, List.set_cons_succ]))
            (refine hTake 5 (some 106) (v := ?_) (by kernel_rfl) (by kernel_rfl) (by kernel_rfl) (fun _ _ _ h => h) ⟨_, rfl, rfl, Or.inl ⟨by rfl, ?_⟩⟩ hHeld ?_; rotate_left; (focus (intro w hSw; (try dsimp only at hSw); go_simp; (first | done | with_reducible rfl))); (try simp only [Act.put, List.setIfInBounds_toArray, List.set_cons_zero, List.set_cons_succ]))
            (refine hTake 6 (some 107) (v := ?_) (by kernel_rfl) (by kernel_rfl) (by kernel_rfl) (fun _ _ _ h => h) ⟨_, rfl, rfl, Or.inl ⟨by rfl, ?_⟩⟩ hHeld ?_; rotate_left; (focus (intro w hSw; (try dsimp only at hSw); go_simp; (first | done | with_reducible rfl))); (try simp only [Act.put, List.setIfInBounds_toArray, List.set_cons_zero, List.set_cons_succ]))
            (refine hTake 7 (some 108) (v := ?_) (by kernel_rfl) (by kernel_rfl) (by kernel_rfl) (fun _ _ _ h => h) ⟨_, rfl, rfl, Or.inl ⟨by rfl, ?_⟩⟩ hHeld ?_; rotate_left; (focus (intro w hSw; (try dsimp only at hSw); go_simp; (first | done | with_reducible rfl))); (try simp only [Act.put, List.setIfInBounds_toArray, List.set_cons_zero, List.set_cons_succ]))
            (refine hTake 8 (some 109) (v := ?_) (by kernel_rfl) (by kernel_rfl) (by kernel_rfl) (fun _ _ _ h => h) ⟨_, rfl, rfl, Or.inl ⟨by rfl, ?_⟩⟩ hHeld ?_; rotate_left; (focus (intro w hSw; (try dsimp only at hSw); go_simp; (first | done | with_reducible rfl))); (try simp only [Act.put, List.setIfInBounds_toArray, List.set_cons_zero, List.set_cons_succ]))
            (refine hTake 9 (some 110) (v := ?_) (by kernel_rfl) (by kernel_rfl) (by kernel_rfl) (fun _ _ _ h => h) ⟨_, rfl, rfl, Or.inl ⟨by rfl, ?_⟩⟩ hHeld ?_; rotate_left; (focus (intro w hSw; (try dsimp only at hSw); go_simp; (first | done | with_reducible rfl))); (try simp only [Act.put, List.setIfInBounds_toArray, List.set_cons_zero, List.set_cons_succ]))
            refine wpAnyH_ready (rs := [4]) (by kernel_rfl) (by simp) ?_
            refine AllReadyH.cons rfl (fun K hK => ?_) AllReadyH.nil
            (go_simp; (go_at_call 22; refine (cntX _ (H8.out.up (by (repeat (first | exact Ext.refl _ | refine Ext.alloc ?_ _ | refine Ext.drewN ?_ _ | refine Ext.drew ?_ | refine Ext.trans ?_ (Hid.out (by assumption))))))).mono ?_; rintro e w9 ⟨rfl, hb⟩; have HE9 := hid ((H8.out.up (by (repeat (first | exact Ext.refl _ | refine Ext.alloc ?_ _ | refine Ext.drewN ?_ _ | refine Ext.drew ?_ | refine Ext.trans ?_ (Hid.out (by assumption)))))).up hb); have HRW9 := hid (hb.keep HRW.out); clear hb); (first | refine hK.out _ _ ?_ (fun hHeld => ?_) | (go_wp2_with fail; refine hK.out _ _ ?_ (fun hHeld => ?_))); (focus ((try dsimp only); (exact HRW9.out))); clear hK K; (try simp only [Act.put, List.setIfInBounds_toArray, List.set_cons_zero, List.set_cons_succ]))
            (refine hTake 10 (some 111) (v := ?_) (by kernel_rfl) (by kernel_rfl) (by kernel_rfl) (fun _ _ _ h => h) ⟨_, rfl, rfl, Or.inl ⟨by rfl, ?_⟩⟩ hHeld ?_; rotate_left; (focus (intro w hSw; (try dsimp only at hSw); go_simp; (first | done | with_reducible rfl))); (try simp only [Act.put, List.setIfInBounds_toArray, List.set_cons_zero, List.set_cons_succ]))
            (refine hTake 11 (some 112) (v := ?_) (by kernel_rfl) (by kernel_rfl) (by kernel_rfl) (fun _ _ _ h => h) ⟨_, rfl, rfl, Or.inl ⟨by rfl, ?_⟩⟩ hHeld ?_; rotate_left; (focus (intro w hSw; (try dsimp only at hSw); go_simp; (first | done | with_reducible rfl))); (try simp only [Act.put, List.setIfInBounds_toArray, List.set_cons_zero, List.set_cons_succ]))
            refine wpAnyH_done (by kernel_rfl) ?_ _
            go_wp2
            go_roundg (gk - 1)
            case measure => omega
            case rel => (exact ⟨i + 1, _, _, by omega, by go_num, by omega, by omega, hid (HE9.out.st0.more (by omega))⟩)
          · have r3 : (xs[i].k == 3) = false := by simp [hk3]
            have HK3 := hid hk3
            clear hk3
            by_cases hk4 : xs[i].k = 4
            · have r4 : (xs[i].k == 4) = true := by simp [hk4]
              have HK4 := hid hk4
              clear hk4
              go_wp2_with fail
              refine (fltX xs[i].id _ HIT.out.u (H5.out.up (by (repeat (first | exact Ext.refl _ | refine Ext.alloc ?_ _ | refine Ext.drewN ?_ _ | refine Ext.drew ?_ | refine Ext.trans ?_ (Hid.out (by assumption))))))).mono ?_
              rintro e w6 ⟨za, zn, zc, rfl, hsl, hb⟩
              have HZ6 := hid hsl
              have H6 := hid ((H5.out.up (by (repeat (first | exact Ext.refl _ | refine Ext.alloc ?_ _ | refine Ext.drewN ?_ _ | refine Ext.drew ?_ | refine Ext.trans ?_ (Hid.out (by assumption)))))).up hb)
              clear hsl hb d0 d1 d2 d3
              have d1 := cellH (o := 1) H6.out.blk rfl
              go_wp2_with fail
              refine (rfltX xs[i].id _ (H6.out.up (by (repeat (first | exact Ext.refl _ | refine Ext.alloc ?_ _ | refine Ext.drewN ?_ _ | refine Ext.drew ?_ | refine Ext.trans ?_ (Hid.out (by assumption))))))).mono ?_
              rintro e w7 ⟨ya, yn, yc, rfl, hsl, hb⟩
              have HY7 := hid hsl
              have H7 := hid ((H6.out.up (by (repeat (first | exact Ext.refl _ | refine Ext.alloc ?_ _ | refine Ext.drewN ?_ _ | refine Ext.drew ?_ | refine Ext.trans ?_ (Hid.out (by assumption)))))).up hb)
              have HZ7 := hid ((HZ6.out.ext (by (repeat (first | exact Ext.refl _ | refine Ext.alloc ?_ _ | refine Ext.drewN ?_ _ | refine Ext.drew ?_ | refine Ext.trans ?_ (Hid.out (by assumption)))))).ext hb)
              clear hsl hb d1
              go_wp2_with fail
              refine (same05_any _ _ _ _ _ _ ((fd xs[i].id).getD []) _ (HZ7.out.ext (by (repeat (first | exact Ext.refl _ | refine Ext.alloc ?_ _ | refine Ext.drewN ?_ _ | refine Ext.drew ?_ | refine Ext.trans ?_ (Hid.out (by assumption)))))) (HY7.out.ext (by (repeat (first | exact Ext.refl _ | refine Ext.alloc ?_ _ | refine Ext.drewN ?_ _ | refine Ext.drew ?_ | refine Ext.trans ?_ (Hid.out (by assumption))))))).mono ?_
              rintro e w8 ⟨rfl, hb⟩
              have H8 := hid ((H7.out.up (by (repeat (first | exact Ext.refl _ | refine Ext.alloc ?_ _ | refine Ext.drewN ?_ _ | refine Ext.drew ?_ | refine Ext.trans ?_ (Hid.out (by assumption)))))).up hb)
              clear hb
              generalize (fd xs[i].id).isSome = Z
              cases Z
              all_goals
                obtain ⟨ra, rc, hrow⟩ := H8.out.st0.row
                have HRW := hid hrow
                clear hrow
                go_wp2_with fail
                refine wp_region_held_drew (S := (fun w' => w'.cell? ⟨w2.heap.size, 0, none⟩ = some (.slice ra s rc))) (by kernel_rfl) ?_ (fun hHeld => ?_)
                · ((try dsimp only); (exact HRW.out))
                (refine hTake 0 (some 101) (v := ?_) (by kernel_rfl) (by kernel_rfl) (by kernel_rfl) (fun _ _ _ h => h) ⟨_, rfl, rfl, Or.inl ⟨by rfl, ?_⟩⟩ hHeld ?_; rotate_left; (focus (intro w hSw; (try dsimp only at hSw); go_simp; (first | done | with_reducible rfl))); (try simp only [Act.put, List.setIfInBounds_toArray, List.set_cons_zero, List.set_cons_succ]))
                (refine hTake 1 (some 102) (v := ?_) (by kernel_rfl) (by kernel_rfl) (by kernel_rfl) (fun _ _ _ h => h) ⟨_, rfl, rfl, Or.inl ⟨by rfl, ?_⟩⟩ hHeld ?_; rotate_left; (focus (intro w hSw; (try dsimp only at hSw); go_simp; (first | done | with_reducible rfl))); (try simp only [Act.put, List.setIfInBounds_toArray, List.set_cons_zero, List.set_cons_succ]))
                (refine hTake 2 (some 103) (v := ?_) (by kernel_rfl) (by kernel_rfl) (by kernel_rfl) (fun _ _ _ h => h) ⟨_, rfl, rfl, Or.inl ⟨by rfl, ?_⟩⟩ hHeld ?_; rotate_left; (focus (intro w hSw; (try dsimp only at hSw); go_simp; (first | done | with_reducible rfl))); (try simp only [Act.put, List.setIfInBounds_toArray, List.set_cons_zero, List.set_cons_succ]))
                (refine hTake 3 (some 104) (v := ?_) (by kernel_rfl) (by kernel_rfl) (by kernel_rfl) (fun _ _ _ h => h) ⟨_, rfl, rfl, Or.inl ⟨by rfl, ?_⟩⟩ hHeld ?_; rotate_left; (focus (intro w hSw; (try dsimp only at hSw); go_simp; (first | done | with_reducible rfl))); (try simp only [Act.put, List.setIfInBounds_toArray, List.set_cons_zero, List.set_cons_succ]))
                (refine hTake 5 (some 106) (v := ?_) (by kernel_rfl) (by kernel_rfl) (by kernel_rfl) (fun _ _ _ h => h) ⟨_, rfl, rfl, Or.inl ⟨by rfl, ?_⟩⟩ hHeld ?_; rotate_left; (focus (intro w hSw; (try dsimp only at hSw); go_simp; (first | done | with_reducible rfl))); (try simp only [Act.put, List.setIfInBounds_toArray, List.set_cons_zero, List.set_cons_succ]))
                (refine hTake 6 (some 107) (v := ?_) (by kernel_rfl) (by kernel_rfl) (by kernel_rfl) (fun _ _ _ h => h) ⟨_, rfl, rfl, Or.inl ⟨by rfl, ?_⟩⟩ hHeld ?_; rotate_left; (focus (intro w hSw; (try dsimp only at hSw); go_simp; (first | done | with_reducible rfl))); (try simp only [Act.put, List.setIfInBounds_toArray, List.set_cons_zero, List.set_cons_succ]))
                (refine hTake 7 (some 108) (v := ?_) (by kernel_rfl) (by kernel_rfl) (by kernel_rfl) (fun _ _ _ h => h) ⟨_, rfl, rfl, Or.inl ⟨by rfl, ?_⟩⟩ hHeld ?_; rotate_left; (focus (intro w hSw; (try dsimp only at hSw); go_simp; (first | done | with_reducible rfl))); (try simp only [Act.put, List.setIfInBounds_toArray, List.set_cons_zero, List.set_cons_succ]))
                (refine hTake 8 (some 109) (v := ?_) (by kernel_rfl) (by kernel_rfl) (by kernel_rfl) (fun _ _ _ h => h) ⟨_, rfl, rfl, Or.inl ⟨by rfl, ?_⟩⟩ hHeld ?_; rotate_left; (focus (intro w hSw; (try dsimp only at hSw); go_simp; (first | done | with_reducible rfl))); (try simp only [Act.put, List.setIfInBounds_toArray, List.set_cons_zero, List.set_cons_succ]))
                (refine hTake 9 (some 110) (v := ?_) (by kernel_rfl) (by kernel_rfl) (by kernel_rfl) (fun _ _ _ h => h) ⟨_, rfl, rfl, Or.inl ⟨by rfl, ?_⟩⟩ hHeld ?_; rotate_left; (focus (intro w hSw; (try dsimp only at hSw); go_simp; (first | done | with_reducible rfl))); (try simp only [Act.put, List.setIfInBounds_toArray, List.set_cons_zero, List.set_cons_succ]))
                refine wpAnyH_ready (rs := [4]) (by kernel_rfl) (by simp) ?_
                refine AllReadyH.cons rfl (fun K hK => ?_) AllReadyH.nil
                (go_simp; (go_at_call 22; refine (cntX _ (H8.out.up (by (repeat (first | exact Ext.refl _ | refine Ext.alloc ?_ _ | refine Ext.drewN ?_ _ | refine Ext.drew ?_ | refine Ext.trans ?_ (Hid.out (by assumption))))))).mono ?_; rintro e w9 ⟨rfl, hb⟩; have HE9 := hid ((H8.out.up (by (repeat (first | exact Ext.refl _ | refine Ext.alloc ?_ _ | refine Ext.drewN ?_ _ | refine Ext.drew ?_ | refine Ext.trans ?_ (Hid.out (by assumption)))))).up hb); have HRW9 := hid (hb.keep HRW.out); clear hb); (first | refine hK.out _ _ ?_ (fun hHeld => ?_) | (go_wp2_with fail; refine hK.out _ _ ?_ (fun hHeld => ?_))); (focus ((try dsimp only); (exact HRW9.out))); clear hK K; (try simp only [Act.put, List.setIfInBounds_toArray, List.set_cons_zero, List.set_cons_succ]))
                (refine hTake 10 (some 111) (v := ?_) (by kernel_rfl) (by kernel_rfl) (by kernel_rfl) (fun _ _ _ h => h) ⟨_, rfl, rfl, Or.inl ⟨by rfl, ?_⟩⟩ hHeld ?_; rotate_left; (focus (intro w hSw; (try dsimp only at hSw); go_simp; (first | done | with_reducible rfl))); (try simp only [Act.put, List.setIfInBounds_toArray, List.set_cons_zero, List.set_cons_succ]))
                (refine hTake 11 (some 112) (v := ?_) (by kernel_rfl) (by kernel_rfl) (by kernel_rfl) (fun _ _ _ h => h) ⟨_, rfl, rfl, Or.inl ⟨by rfl, ?_⟩⟩ hHeld ?_; rotate_left; (focus (intro w hSw; (try dsimp only at hSw); go_simp; (first | done | with_reducible rfl))); (try simp only [Act.put, List.setIfInBounds_toArray, List.set_cons_zero, List.set_cons_succ]))
                refine wpAnyH_done (by kernel_rfl) ?_ _
                go_wp2
                go_roundg (gk - 1)
                case measure => omega
                case rel => (exact ⟨i + 1, _, _, by omega, by go_num, by omega, by omega, hid (HE9.out.st0.more (by omega))⟩)
            · have r4 : (xs[i].k == 4) = false := by simp [hk4]
              have HK4 := hid hk4
              clear hk4
              have H8 := H5
              obtain ⟨ra, rc, hrow⟩ := H8.out.st0.row
              have HRW := hid hrow
              clear hrow
              go_wp2_with fail
              refine wp_region_held_drew (S := (fun w' => w'.cell? ⟨w2.heap.size, 0, none⟩ = some (.slice ra s rc))) (by kernel_rfl) ?_ (fun hHeld => ?_)
              · ((try dsimp only); (exact HRW.out))
              (refine hTake 0 (some 101) (v := ?_) (by kernel_rfl) (by kernel_rfl) (by kernel_rfl) (fun _ _ _ h => h) ⟨_, rfl, rfl, Or.inl ⟨by rfl, ?_⟩⟩ hHeld ?_; rotate_left; (focus (intro w hSw; (try dsimp only at hSw); go_simp; (first | done | with_reducible rfl))); (try simp only [Act.put, List.setIfInBounds_toArray, List.set_cons_zero, List.set_cons_succ]))
              (refine hTake 1 (some 102) (v := ?_) (by kernel_rfl) (by kernel_rfl) (by kernel_rfl) (fun _ _ _ h => h) ⟨_, rfl, rfl, Or.inl ⟨by rfl, ?_⟩⟩ hHeld ?_; rotate_left; (focus (intro w hSw; (try dsimp only at hSw); go_simp; (first | done | with_reducible rfl))); (try simp only [Act.put, List.setIfInBounds_toArray, List.set_cons_zero, List.set_cons_succ]))
              (refine hTake 2 (some 103) (v := ?_) (by kernel_rfl) (by kernel_rfl) (by kernel_rfl) (fun _ _ _ h => h) ⟨_, rfl, rfl, Or.inl ⟨by rfl, ?_⟩⟩ hHeld ?_; rotate_left; (focus (intro w hSw; (try dsimp only at hSw); go_simp; (first | done | with_reducible rfl))); (try simp only [Act.put, List.setIfInBounds_toArray, List.set_cons_zero, List.set_cons_succ]))
              (refine hTake 3 (some 104) (v := ?_) (by kernel_rfl) (by kernel_rfl) (by kernel_rfl) (fun _ _ _ h => h) ⟨_, rfl, rfl, Or.inl ⟨by rfl, ?_⟩⟩ hHeld ?_; rotate_left; (focus (intro w hSw; (try dsimp only at hSw); go_simp; (first | done | with_reducible rfl))); (try simp only [Act.put, List.setIfInBounds_toArray, List.set_cons_zero, List.set_cons_succ]))
              (refine hTake 5 (some 106) (v := ?_) (by kernel_rfl) (by kernel_rfl) (by kernel_rfl) (fun _ _ _ h => h) ⟨_, rfl, rfl, Or.inl ⟨by rfl, ?_⟩⟩ hHeld ?_; rotate_left; (focus (intro w hSw; (try dsimp only at hSw); go_simp; (first | done | with_reducible rfl))); (try simp only [Act.put, List.setIfInBounds_toArray, List.set_cons_zero, List.set_cons_succ]))
              (refine hTake 6 (some 107) (v := ?_) (by kernel_rfl) (by kernel_rfl) (by kernel_rfl) (fun _ _ _ h => h) ⟨_, rfl, rfl, Or.inl ⟨by rfl, ?_⟩⟩ hHeld ?_; rotate_left; (focus (intro w hSw; (try dsimp only at hSw); go_simp; (first | done | with_reducible rfl))); (try simp only [Act.put, List.setIfInBounds_toArray, List.set_cons_zero, List.set_cons_succ]))
              (refine hTake 7 (some 108) (v := ?_) (by kernel_rfl) (by kernel_rfl) (by kernel_rfl) (fun _ _ _ h => h) ⟨_, rfl, rfl, Or.inl ⟨by rfl, ?_⟩⟩ hHeld ?_; rotate_left; (focus (intro w hSw; (try dsimp only at hSw); go_simp; (first | done | with_reducible rfl))); (try simp only [Act.put, List.setIfInBounds_toArray, List.set_cons_zero, List.set_cons_succ]))
              (refine hTake 8 (some 109) (v := ?_) (by kernel_rfl) (by kernel_rfl) (by kernel_rfl) (fun _ _ _ h => h) ⟨_, rfl, rfl, Or.inl ⟨by rfl, ?_⟩⟩ hHeld ?_; rotate_left; (focus (intro w hSw; (try dsimp only at hSw); go_simp; (first | done | with_reducible rfl))); (try simp only [Act.put, List.setIfInBounds_toArray, List.set_cons_zero, List.set_cons_succ]))
              (refine hTake 9 (some 110) (v := ?_) (by kernel_rfl) (by kernel_rfl) (by kernel_rfl) (fun _ _ _ h => h) ⟨_, rfl, rfl, Or.inl ⟨by rfl, ?_⟩⟩ hHeld ?_; rotate_left; (focus (intro w hSw; (try dsimp only at hSw); go_simp; (first | done | with_reducible rfl))); (try simp only [Act.put, List.setIfInBounds_toArray, List.set_cons_zero, List.set_cons_succ]))
              refine wpAnyH_ready (rs := [4]) (by kernel_rfl) (by simp) ?_
              refine AllReadyH.cons rfl (fun K hK => ?_) AllReadyH.nil
              (go_simp; (go_at_call 22; refine (cntX _ (H8.out.up (by (repeat (first | exact Ext.refl _ | refine Ext.alloc ?_ _ | refine Ext.drewN ?_ _ | refine Ext.drew ?_ | refine Ext.trans ?_ (Hid.out (by assumption))))))).mono ?_; rintro e w9 ⟨rfl, hb⟩; have HE9 := hid ((H8.out.up (by (repeat (first | exact Ext.refl _ | refine Ext.alloc ?_ _ | refine Ext.drewN ?_ _ | refine Ext.drew ?_ | refine Ext.trans ?_ (Hid.out (by assumption)))))).up hb); have HRW9 := hid (hb.keep HRW.out); clear hb); (first | refine hK.out _ _ ?_ (fun hHeld => ?_) | (go_wp2_with fail; refine hK.out _ _ ?_ (fun hHeld => ?_))); (focus ((try dsimp only); (exact HRW9.out))); clear hK K; (try simp only [Act.put, List.setIfInBounds_toArray, List.set_cons_zero, List.set_cons_succ]))
              (refine hTake 10 (some 111) (v := ?_) (by kernel_rfl) (by kernel_rfl) (by kernel_rfl) (fun _ _ _ h => h) ⟨_, rfl, rfl, Or.inl ⟨by rfl, ?_⟩⟩ hHeld ?_; rotate_left; (focus (intro w hSw; (try dsimp only at hSw); go_simp; (first | done | with_reducible rfl))); (try simp only [Act.put, List.setIfInBounds_toArray, List.set_cons_zero, List.set_cons_succ]))
              (refine hTake 11 (some 112) (v := ?_) (by kernel_rfl) (by kernel_rfl) (by kernel_rfl) (fun _ _ _ h => h) ⟨_, rfl, rfl, Or.inl ⟨by rfl, ?_⟩⟩ hHeld ?_; rotate_left; (focus (intro w hSw; (try dsimp only at hSw); go_simp; (first | done | with_reducible rfl))); (try simp only [Act.put, List.setIfInBounds_toArray, List.set_cons_zero, List.set_cons_succ]))
              refine wpAnyH_done (by kernel_rfl) ?_ _
              go_wp2
              go_roundg (gk - 1)
              case measure => omega
              case rel => (exact ⟨i + 1, _, _, by omega, by go_num, by omega, by omega, hid (HE9.out.st0.more (by omega))⟩)
    · have hcs : ¬ i < xs.length ∨ (i < xs.length ∧ ¬ i < 60) := by omega
      rcases hcs with q | ⟨q, q'⟩
      · have q1 : ¬ ((i : Int) < (xs.length : Int)) := by omega
        clear q hk
        go_wp2
        go_ret
        refine ⟨rfl, ?_⟩
        (repeat (first | exact Ext.refl _ | refine Ext.alloc ?_ _ | refine Ext.drewN ?_ _ | refine Ext.drew ?_ | refine Ext.trans ?_ (Hid.out (by assumption))))
      · have q1 : (i : Int) < (xs.length : Int) := by omega
        have q2 : ¬ ((i : Int) < 60) := by omega
        clear hk
        go_wp2
        go_ret
        refine ⟨rfl, ?_⟩
        (repeat (first | exact Ext.refl _ | refine Ext.alloc ?_ _ | refine Ext.drewN ?_ _ | refine Ext.drew ?_ | refine Ext.trans ?_ (Hid.out (by assumption))))
end Go.Proofs.Ytjggjkmafcokjaa
