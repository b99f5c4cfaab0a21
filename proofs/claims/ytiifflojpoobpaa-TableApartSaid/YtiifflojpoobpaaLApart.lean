/- A client's batch is of its own subscriptions alone: the statement's walk. -/
import Derived.Test.YtiifflojpoobpaaAwake15
import Derived.Test.YtiifflojpoobpaaEve15
import Derived.Test.YtiifflojpoobpaaHeld
set_option linter.unusedVariables false
set_option linter.unusedSimpArgs false
namespace Go.Proofs.Ytiifflojpoobpaa
open Go.RowKit

set_option maxRecDepth 100000 in
set_option maxHeartbeats 4000000 in
theorem apart15_any (a : Option Addr) (n cap : Nat) (ps : List EP) (c : Int) (x : EV) (d : ED) (w : World) (hE : Ents w a n cap ps) (hI : EntryIs w x d) :
    Calls Try.prog 6 #[.slice a n cap, .int .i64 c, .agg #[.int .i64 x.k, .int .i64 x.id.b, .int .u64 x.id.l, .int .u64 x.id.s, .int .i64 x.c, .int .u64 x.u, .slice x.f.a x.f.n x.f.c, .slice x.e.a x.e.n x.e.c]] w fun e w' => e = .returned (.bool true) ∧ Ext w w' := by
  obtain ⟨i0, hi, hz0, hz1, hz2⟩ := info_parts infoS
  have I1 := hid hi
  have I2 := hid hz0
  have I3 := hid hz1
  have I4 := hid hz2
  clear hi hz0 hz1 hz2
  have HE := hid hE
  have HI := hid hI
  clear hE hI
  go_enter Try.func6, Try.ntmps6
  go_wp2_with fail
  refine (awake15_any _).mono ?_
  rintro e w1 ⟨rfl, hb⟩
  have HB1 := hid ((Box.new (w := w) (x := x) (t := 31)).ext hb)
  have hx1 := hid (show Ext w w1 from Ext.trans ((Ext.refl w).alloc _) hb)
  clear hb
  obtain ⟨c0, c1, c2, c3, c4, c5, c6, c7⟩ := HB1.out.cells
  go_wp2_with fail
  refine (few11_any x d _ (HI.out.ext (by (repeat (first | exact Ext.refl _ | refine Ext.alloc ?_ _ | refine Ext.drewN ?_ _ | refine Ext.drew ?_ | refine Ext.trans ?_ (Hid.out (by assumption))))))).mono ?_
  rintro e w2 ⟨f, rfl, hf, hb⟩
  have HFW := hid hf
  have HB2 := hid (HB1.out.ext hb)
  have hx2 := hid (hx1.out.trans hb)
  clear hb hf HB1 hx1 c0 c1 c2 c3 c4 c5 c6 c7
  cases f with
  | false =>
    go_wp2
    go_ret
    refine ⟨rfl, ?_⟩
    (repeat (first | exact Ext.refl _ | refine Ext.alloc ?_ _ | refine Ext.drewN ?_ _ | refine Ext.drew ?_ | refine Ext.trans ?_ (Hid.out (by assumption))))
  | true =>
    have HSM := hid (HFW.out rfl)
    clear HFW
    go_wp2_with fail
    refine (grown_any _ _ _ ps _ (HE.out.ext (by (repeat (first | exact Ext.refl _ | refine Ext.alloc ?_ _ | refine Ext.drewN ?_ _ | refine Ext.drew ?_ | refine Ext.trans ?_ (Hid.out (by assumption))))))).mono ?_
    rintro e w3 ⟨a3, n3, cp3, xs, rfl, hS, hG, hb⟩
    have HB3 := hid (HB2.out.ext hb)
    have hx3 := hid (hx2.out.trans hb)
    obtain rfl := hS.sl.neq
    have hlen : xs.length ≤ 30 := by have := hG.len; rwa [List.length_map] at this
    have hm := hS.sl.max
    have hl := hS.sl.len
    unfold maxLen at hm
    have HS := hid hS
    clear hb hS hG HB2 hx2
    go_wp2_with fail
    go_loopg [9, 10] (xs.length) (fun g ov st wr => ∃ (k : Nat) (aa : Option Addr) (m cp : Nat), g + k = xs.length ∧ st = .int .i64 k ∧ ov = .slice aa m cp ∧ m ≤ k ∧ Hid (Own wr w3.heap.size 44 3 SB.cs aa m cp ((xs.take k).filter (fun s : SB => decide (s.c = c)))) ∧ Hid (Ext w3 wr))
    case atStart => exact ⟨0, none, 0, 0, by omega, rfl, rfl, by omega, Own.nil _ _ _ SB.wid, Ext.refl _⟩
    case round =>
      obtain ⟨k, aa, m, cp, hg, rfl, rfl, hmk, hown, hx⟩ := hrel
      by_cases hk : k < xs.length
      · obtain ⟨b, o, rfl, hc⟩ := HS.out.sl.get k hk
        obtain ⟨d0, d1, d2⟩ := cellsSB (w := wr) (b := b) (o := o + k * 3) (x := xs[k]) (fun j v hj => hx.out.keep (hc j v hj))
        clear hc
        have b0 : (0 : Int) ≤ (k : Int) := by omega
        have b1 : (k : Int) < (xs.length : Int) := by omega
        by_cases he : xs[k].c = c
        · have He := hid (show (fun s : SB => decide (s.c = c)) xs[k] = true from decide_eq_true he)
          have hq : (xs[k].c == c) = true := by simpa using he
          clear he
          go_wp2_with (at_builtin; refine app1 (ys := (xs.take k).filter (fun s : SB => decide (s.c = c))) rfl (.tmp 32) (.tmp 37) 36 rfl i0 _ 40 Try.underlying36 I1.out I2.out I3.out I4.out rfl (by decide) rfl (hown.out.ext (by (repeat (first | exact Ext.refl _ | refine Ext.alloc ?_ _ | refine Ext.drewN ?_ _ | refine Ext.drew ?_ | refine Ext.trans ?_ (Hid.out (by assumption)))))) xs[k] _ rfl (news_alloc (cs := SB.cs xs[k]) rfl) (SB.one _) (by omega) (by decide) (Ext.size (by (repeat (first | exact Ext.refl _ | refine Ext.alloc ?_ _ | refine Ext.drewN ?_ _ | refine Ext.drew ?_ | refine Ext.trans ?_ (Hid.out (by assumption)))))) ?_; intro g cap' w5 hown5 hgrow; have HO5 := hid hown5; have HG := hid hgrow; clear hown5 hgrow)
          go_roundg (gk - 1)
          case measure => omega
          case rel => exact ⟨k + 1, _, _, _, by omega, by go_num, rfl, by omega, by (rw [filt_yes (p := (fun s : SB => decide (s.c = c))) hk He.out]; exact HO5.out), HG.out.ext (hown.out.ext (by (repeat (first | exact Ext.refl _ | refine Ext.alloc ?_ _ | refine Ext.drewN ?_ _ | refine Ext.drew ?_ | refine Ext.trans ?_ (Hid.out (by assumption)))))) (Nat.le_refl _) (by (repeat (first | exact Ext.refl _ | refine Ext.alloc ?_ _ | refine Ext.drewN ?_ _ | refine Ext.drew ?_ | refine Ext.trans ?_ (Hid.out (by assumption)))))⟩
        · have He := hid (show (fun s : SB => decide (s.c = c)) xs[k] = false from decide_eq_false he)
          have hq : (xs[k].c == c) = false := by simpa using he
          clear he
          go_wp2
          go_roundg (gk - 1)
          case measure => omega
          case rel => exact ⟨k + 1, aa, m, cp, by omega, by go_num, rfl, by omega, by (rw [filt_no (p := (fun s : SB => decide (s.c = c))) hk He.out]; exact hown.out), hx.out⟩
      · have hk' : xs.take k = xs := List.take_of_length_le (by omega)
        rw [hk'] at hown
        clear hk'
        have HOWN := hid (show batchD ((xs.filter (fun s : SB => decide (s.c = c))).map SB.d) c d = batchD (xs.map SB.d) c d from by rw [show (xs.filter (fun s : SB => decide (s.c = c))).map SB.d = (xs.map SB.d).filter (fun s => decide (s.c = c)) from filter_d (fun s => decide (s.c = c))]; exact batch_own _ _ _)
        have HW := hid (show Subs wr aa m cp (xs.filter (fun s : SB => decide (s.c = c))) from ⟨hown.out.sl, fun s hs => (HS.out.ts s (List.mem_filter.1 hs).1).ext hx.out⟩)
        have hmn := hown.out.neq
        have HMN := hid hmn
        clear hmn
        obtain ⟨c0, c1, c2, c3, c4, c5, c6, c7⟩ := (HB3.out.ext hx.out).cells
        by_cases h0 : 0 < m
        · go_wp2_with fail
          refine wp_region_held_drew (S := (fun w' => w'.cell? ⟨w.heap.size, 0, none⟩ = some (.int .i64 x.k) ∧ w'.cell? ⟨w.heap.size, 1, none⟩ = some (.int .i64 x.id.b) ∧ w'.cell? ⟨w.heap.size, 2, none⟩ = some (.int .u64 x.id.l) ∧ w'.cell? ⟨w.heap.size, 3, none⟩ = some (.int .u64 x.id.s) ∧ w'.cell? ⟨w.heap.size, 4, none⟩ = some (.int .i64 x.c) ∧ w'.cell? ⟨w.heap.size, 5, none⟩ = some (.int .u64 x.u) ∧ w'.cell? ⟨w.heap.size, 6, none⟩ = some (.slice x.f.a x.f.n x.f.c) ∧ w'.cell? ⟨w.heap.size, 7, none⟩ = some (.slice x.e.a x.e.n x.e.c))) (by kernel_rfl) ?_ (fun hHeld => ?_)
          · ((try dsimp only); (first | (go_split_ands; refine ⟨?_, ?_, ?_, ?_, ?_, ?_, ?_, ?_⟩ <;> exact (Hid.out hy).keep (by assumption)) | go_keep))
          (refine hTake 0 (some 39) (v := ?_) (by kernel_rfl) (by kernel_rfl) (by kernel_rfl) (fun _ _ _ h => h) ⟨_, rfl, rfl, Or.inl ⟨by rfl, ?_⟩⟩ hHeld ?_; rotate_left; (focus (intro w hSw; (try dsimp only at hSw); go_simp; (first | done | with_reducible rfl))); (try simp only [Act.put, List.setIfInBounds_toArray, List.set_cons_zero, List.set_cons_succ]))
          (refine hTake 1 (some 40) (v := ?_) (by kernel_rfl) (by kernel_rfl) (by kernel_rfl) (fun _ _ _ h => h) ⟨_, rfl, rfl, Or.inl ⟨by rfl, ?_⟩⟩ hHeld ?_; rotate_left; (focus (intro w hSw; (try dsimp only at hSw); go_simp; (first | done | with_reducible rfl))); (try simp only [Act.put, List.setIfInBounds_toArray, List.set_cons_zero, List.set_cons_succ]))
          (refine hTake 2 (some 41) (v := ?_) (by kernel_rfl) (by kernel_rfl) (by kernel_rfl) (fun _ _ _ h => h) ⟨_, rfl, rfl, Or.inl ⟨by rfl, ?_⟩⟩ hHeld ?_; rotate_left; (focus (intro w hSw; (try dsimp only at hSw); go_simp; (first | done | with_reducible rfl))); (try simp only [Act.put, List.setIfInBounds_toArray, List.set_cons_zero, List.set_cons_succ]))
          (refine hTake 4 (some 43) (v := ?_) (by kernel_rfl) (by kernel_rfl) (by kernel_rfl) (fun _ _ _ h => h) ⟨_, rfl, rfl, Or.inl ⟨by rfl, ?_⟩⟩ hHeld ?_; rotate_left; (focus (intro w hSw; (try dsimp only at hSw); go_simp; (first | done | with_reducible rfl))); (try simp only [Act.put, List.setIfInBounds_toArray, List.set_cons_zero, List.set_cons_succ]))
          (refine hTake 5 (some 44) (v := ?_) (by kernel_rfl) (by kernel_rfl) (by kernel_rfl) (fun _ _ _ h => h) ⟨_, rfl, rfl, Or.inl ⟨by rfl, ?_⟩⟩ hHeld ?_; rotate_left; (focus (intro w hSw; (try dsimp only at hSw); go_simp; (first | done | with_reducible rfl))); (try simp only [Act.put, List.setIfInBounds_toArray, List.set_cons_zero, List.set_cons_succ]))
          (refine hTake 6 (some 45) (v := ?_) (by kernel_rfl) (by kernel_rfl) (by kernel_rfl) (fun _ _ _ h => h) ⟨_, rfl, rfl, Or.inl ⟨by rfl, ?_⟩⟩ hHeld ?_; rotate_left; (focus (intro w hSw; (try dsimp only at hSw); go_simp; (first | done | with_reducible rfl))); (try simp only [Act.put, List.setIfInBounds_toArray, List.set_cons_zero, List.set_cons_succ]))
          refine wpAnyH_ready (rs := [3]) (by kernel_rfl) (by simp) ?_
          refine AllReadyH.cons rfl (fun K hK => ?_) AllReadyH.nil
          (go_simp; (go_at_call_of 14 (Value.slice a3 xs.length cp3); refine (batch_any _ _ _ xs c x d _ ⟨HS.out.sl.ext (by (repeat (first | exact Ext.refl _ | refine Ext.alloc ?_ _ | refine Ext.drewN ?_ _ | refine Ext.drew ?_ | refine Ext.trans ?_ (Hid.out (by assumption))))), fun s hs => (HS.out.ts s hs).ext (by (repeat (first | exact Ext.refl _ | refine Ext.alloc ?_ _ | refine Ext.drewN ?_ _ | refine Ext.drew ?_ | refine Ext.trans ?_ (Hid.out (by assumption)))))⟩ (HI.out.ext (by (repeat (first | exact Ext.refl _ | refine Ext.alloc ?_ _ | refine Ext.drewN ?_ _ | refine Ext.drew ?_ | refine Ext.trans ?_ (Hid.out (by assumption)))))) (by omega) (Nat.le_trans HSM.out.es (by decide)) (fun e he => Nat.le_trans (HSM.out.ats e he) (by decide))).mono ?_; rintro e w6 ⟨a6, n6, c6, bs, rfl, hbs, hmb, hb⟩; have HB6 := hid hbs; have HM6 := hid hmb; have hy := hid hb; skip; clear hbs hmb hb); (first | refine hK.out _ _ ?_ (fun hHeld => ?_) | (go_wp2_with fail; refine hK.out _ _ ?_ (fun hHeld => ?_))); (focus ((try dsimp only); (first | (go_split_ands; refine ⟨?_, ?_, ?_, ?_, ?_, ?_, ?_, ?_⟩ <;> exact (Hid.out hy).keep (by assumption)) | go_keep))); clear hK K; (try simp only [Act.put, List.setIfInBounds_toArray, List.set_cons_zero, List.set_cons_succ]))
          refine wpAnyH_ready (rs := [7]) (by kernel_rfl) (by simp) ?_
          refine AllReadyH.cons rfl (fun K hK => ?_) AllReadyH.nil
          (go_simp; ((first | go_at_call_of 14 (Value.slice aa m cp) | go_at_call_of 14 (Value.slice aa 0 cp)); refine (batch_any _ _ _ (xs.filter (fun s : SB => decide (s.c = c))) c x d _ ⟨HW.out.sl.ext (by (repeat (first | exact Ext.refl _ | refine Ext.alloc ?_ _ | refine Ext.drewN ?_ _ | refine Ext.drew ?_ | refine Ext.trans ?_ (Hid.out (by assumption))))), fun s hs => (HW.out.ts s hs).ext (by (repeat (first | exact Ext.refl _ | refine Ext.alloc ?_ _ | refine Ext.drewN ?_ _ | refine Ext.drew ?_ | refine Ext.trans ?_ (Hid.out (by assumption)))))⟩ (HI.out.ext (by (repeat (first | exact Ext.refl _ | refine Ext.alloc ?_ _ | refine Ext.drewN ?_ _ | refine Ext.drew ?_ | refine Ext.trans ?_ (Hid.out (by assumption)))))) (by omega) (Nat.le_trans HSM.out.es (by decide)) (fun e he => Nat.le_trans (HSM.out.ats e he) (by decide))).mono ?_; rintro e w7 ⟨a7, n7, c7', cs, rfl, hbs, hmb, hb⟩; have HB7 := hid hbs; have HM7 := hid hmb; have hy := hid hb; skip; clear hbs hmb hb); (first | refine hK.out _ _ ?_ (fun hHeld => ?_) | (go_wp2_with fail; refine hK.out _ _ ?_ (fun hHeld => ?_))); (focus ((try dsimp only); (first | (go_split_ands; refine ⟨?_, ?_, ?_, ?_, ?_, ?_, ?_, ?_⟩ <;> exact (Hid.out hy).keep (by assumption)) | go_keep))); clear hK K; (try simp only [Act.put, List.setIfInBounds_toArray, List.set_cons_zero, List.set_cons_succ]))
          refine wpAnyH_ready (rs := [8]) (by kernel_rfl) (by simp) ?_
          refine AllReadyH.cons rfl (fun K hK => ?_) AllReadyH.nil
          (go_simp; (go_at_call 13; refine (same_evs _ _ _ _ _ _ bs cs _ (by have h := HB6.out; exact ⟨h.sl.ext (by (repeat (first | exact Ext.refl _ | refine Ext.alloc ?_ _ | refine Ext.drewN ?_ _ | refine Ext.drew ?_ | refine Ext.trans ?_ (Hid.out (by assumption))))), fun x hx => (h.ats x hx).ext (by (repeat (first | exact Ext.refl _ | refine Ext.alloc ?_ _ | refine Ext.drewN ?_ _ | refine Ext.drew ?_ | refine Ext.trans ?_ (Hid.out (by assumption)))))⟩) (by have h := HB7.out; exact ⟨h.sl.ext (by (repeat (first | exact Ext.refl _ | refine Ext.alloc ?_ _ | refine Ext.drewN ?_ _ | refine Ext.drew ?_ | refine Ext.trans ?_ (Hid.out (by assumption))))), fun x hx => (h.ats x hx).ext (by (repeat (first | exact Ext.refl _ | refine Ext.alloc ?_ _ | refine Ext.drewN ?_ _ | refine Ext.drew ?_ | refine Ext.trans ?_ (Hid.out (by assumption)))))⟩) (HM6.out.trans (HOWN.out.symm.trans HM7.out.symm))).mono ?_; rintro e w8 ⟨rfl, hb⟩; have hy := hid hb; clear hb); (first | refine hK.out _ _ ?_ (fun hHeld => ?_) | (go_wp2_with fail; refine hK.out _ _ ?_ (fun hHeld => ?_))); (focus ((try dsimp only); (first | (go_split_ands; refine ⟨?_, ?_, ?_, ?_, ?_, ?_, ?_, ?_⟩ <;> exact (Hid.out hy).keep (by assumption)) | go_keep))); clear hK K; (try simp only [Act.put, List.setIfInBounds_toArray, List.set_cons_zero, List.set_cons_succ]))
          (refine hTake 9 (some 48) (v := ?_) (by kernel_rfl) (by kernel_rfl) (by kernel_rfl) (fun _ _ _ h => h) ⟨_, rfl, rfl, Or.inl ⟨by rfl, ?_⟩⟩ hHeld ?_; rotate_left; (focus (intro w hSw; (try dsimp only at hSw); go_simp; (first | done | with_reducible rfl))); (try simp only [Act.put, List.setIfInBounds_toArray, List.set_cons_zero, List.set_cons_succ]))
          (refine hTake 10 (some 49) (v := ?_) (by kernel_rfl) (by kernel_rfl) (by kernel_rfl) (fun _ _ _ h => h) ⟨_, rfl, rfl, Or.inl ⟨by rfl, ?_⟩⟩ hHeld ?_; rotate_left; (focus (intro w hSw; (try dsimp only at hSw); go_simp; (first | done | with_reducible rfl))); (try simp only [Act.put, List.setIfInBounds_toArray, List.set_cons_zero, List.set_cons_succ]))
          (refine hTake 11 (some 50) (v := ?_) (by kernel_rfl) (by kernel_rfl) (by kernel_rfl) (fun _ _ _ h => h) ⟨_, rfl, rfl, Or.inl ⟨by rfl, ?_⟩⟩ hHeld ?_; rotate_left; (focus (intro w hSw; (try dsimp only at hSw); go_simp; (first | done | with_reducible rfl))); (try simp only [Act.put, List.setIfInBounds_toArray, List.set_cons_zero, List.set_cons_succ]))
          (refine hTake 12 (some 51) (v := ?_) (by kernel_rfl) (by kernel_rfl) (by kernel_rfl) (fun _ _ _ h => h) ⟨_, rfl, rfl, Or.inl ⟨by rfl, ?_⟩⟩ hHeld ?_; rotate_left; (focus (intro w hSw; (try dsimp only at hSw); go_simp; (first | done | with_reducible rfl))); (try simp only [Act.put, List.setIfInBounds_toArray, List.set_cons_zero, List.set_cons_succ]))
          (refine hTake 13 (some 52) (v := ?_) (by kernel_rfl) (by kernel_rfl) (by kernel_rfl) (fun _ _ _ h => h) ⟨_, rfl, rfl, Or.inl ⟨by rfl, ?_⟩⟩ hHeld ?_; rotate_left; (focus (intro w hSw; (try dsimp only at hSw); go_simp; (first | done | with_reducible rfl))); (try simp only [Act.put, List.setIfInBounds_toArray, List.set_cons_zero, List.set_cons_succ]))
          (refine hTake 14 (some 53) (v := undef) (by kernel_rfl) (by kernel_rfl) (by kernel_rfl) (fun _ _ _ h => h) ⟨_, rfl, rfl, Or.inr ⟨by rfl, rfl⟩⟩ hHeld ?_; (try simp only [Act.put, List.setIfInBounds_toArray, List.set_cons_zero, List.set_cons_succ]))
          (refine hTake 15 (some 54) (v := undef) (by kernel_rfl) (by kernel_rfl) (by kernel_rfl) (fun _ _ _ h => h) ⟨_, rfl, rfl, Or.inr ⟨by rfl, rfl⟩⟩ hHeld ?_; (try simp only [Act.put, List.setIfInBounds_toArray, List.set_cons_zero, List.set_cons_succ]))
          (refine hTake 16 (some 55) (v := undef) (by kernel_rfl) (by kernel_rfl) (by kernel_rfl) (fun _ _ _ h => h) ⟨_, rfl, rfl, Or.inr ⟨by rfl, rfl⟩⟩ hHeld ?_; (try simp only [Act.put, List.setIfInBounds_toArray, List.set_cons_zero, List.set_cons_succ]))
          (refine hTake 17 (some 56) (v := undef) (by kernel_rfl) (by kernel_rfl) (by kernel_rfl) (fun _ _ _ h => h) ⟨_, rfl, rfl, Or.inr ⟨by rfl, rfl⟩⟩ hHeld ?_; (try simp only [Act.put, List.setIfInBounds_toArray, List.set_cons_zero, List.set_cons_succ]))
          (refine hTake 18 (some 57) (v := undef) (by kernel_rfl) (by kernel_rfl) (by kernel_rfl) (fun _ _ _ h => h) ⟨_, rfl, rfl, Or.inr ⟨by rfl, rfl⟩⟩ hHeld ?_; (try simp only [Act.put, List.setIfInBounds_toArray, List.set_cons_zero, List.set_cons_succ]))
          (refine hTake 19 (some 58) (v := undef) (by kernel_rfl) (by kernel_rfl) (by kernel_rfl) (fun _ _ _ h => h) ⟨_, rfl, rfl, Or.inr ⟨by rfl, rfl⟩⟩ hHeld ?_; (try simp only [Act.put, List.setIfInBounds_toArray, List.set_cons_zero, List.set_cons_succ]))
          (refine hTake 20 (some 59) (v := ?_) (by kernel_rfl) (by kernel_rfl) (by kernel_rfl) (fun _ _ _ h => h) ⟨_, rfl, rfl, Or.inl ⟨by rfl, ?_⟩⟩ hHeld ?_; rotate_left; (focus (intro w hSw; (try dsimp only at hSw); go_simp; (first | done | with_reducible rfl))); (try simp only [Act.put, List.setIfInBounds_toArray, List.set_cons_zero, List.set_cons_succ]))
          (refine hTake 21 (some 60) (v := ?_) (by kernel_rfl) (by kernel_rfl) (by kernel_rfl) (fun _ _ _ h => h) ⟨_, rfl, rfl, Or.inl ⟨by rfl, ?_⟩⟩ hHeld ?_; rotate_left; (focus (intro w hSw; (try dsimp only at hSw); go_simp; (first | done | with_reducible rfl))); (try simp only [Act.put, List.setIfInBounds_toArray, List.set_cons_zero, List.set_cons_succ]))
          (refine hTake 22 (some 6) (v := ?_) (by kernel_rfl) (by kernel_rfl) (by kernel_rfl) (fun _ _ _ h => h) ⟨_, rfl, rfl, Or.inl ⟨by rfl, ?_⟩⟩ hHeld ?_; rotate_left; (focus (intro w hSw; (try dsimp only at hSw); go_simp; (first | done | with_reducible rfl))); (try simp only [Act.put, List.setIfInBounds_toArray, List.set_cons_zero, List.set_cons_succ]))
          refine wpAnyH_done (by kernel_rfl) ?_ _
          go_wp2
          go_ret
          refine ⟨rfl, ?_⟩
          (repeat (first | exact Ext.refl _ | refine Ext.alloc ?_ _ | refine Ext.drewN ?_ _ | refine Ext.drew ?_ | refine Ext.trans ?_ (Hid.out (by assumption))))
        · obtain rfl : m = 0 := by omega
          have HNIL := hid (show batchD (xs.map SB.d) c d = [] from by rw [← HOWN.out, List.eq_nil_of_length_eq_zero HMN.out.symm]; unfold batchD askedD matchedD; simp)
          go_wp2_with fail
          (first | (go_region_held3 (fun w' => w'.cell? ⟨w.heap.size, 0, none⟩ = some (.int .i64 x.k) ∧ w'.cell? ⟨w.heap.size, 1, none⟩ = some (.int .i64 x.id.b) ∧ w'.cell? ⟨w.heap.size, 2, none⟩ = some (.int .u64 x.id.l) ∧ w'.cell? ⟨w.heap.size, 3, none⟩ = some (.int .u64 x.id.s) ∧ w'.cell? ⟨w.heap.size, 4, none⟩ = some (.int .i64 x.c) ∧ w'.cell? ⟨w.heap.size, 5, none⟩ = some (.int .u64 x.u) ∧ w'.cell? ⟨w.heap.size, 6, none⟩ = some (.slice x.f.a x.f.n x.f.c) ∧ w'.cell? ⟨w.heap.size, 7, none⟩ = some (.slice x.e.a x.e.n x.e.c)) (first | (go_split_ands; refine ⟨?_, ?_, ?_, ?_, ?_, ?_, ?_, ?_⟩ <;> exact (Hid.out hy).keep (by assumption)) | go_keep) (first | (go_at_call_of 14 (Value.slice a3 xs.length cp3); refine (batch_any _ _ _ xs c x d _ ⟨HS.out.sl.ext (by (repeat (first | exact Ext.refl _ | refine Ext.alloc ?_ _ | refine Ext.drewN ?_ _ | refine Ext.drew ?_ | refine Ext.trans ?_ (Hid.out (by assumption))))), fun s hs => (HS.out.ts s hs).ext (by (repeat (first | exact Ext.refl _ | refine Ext.alloc ?_ _ | refine Ext.drewN ?_ _ | refine Ext.drew ?_ | refine Ext.trans ?_ (Hid.out (by assumption)))))⟩ (HI.out.ext (by (repeat (first | exact Ext.refl _ | refine Ext.alloc ?_ _ | refine Ext.drewN ?_ _ | refine Ext.drew ?_ | refine Ext.trans ?_ (Hid.out (by assumption)))))) (by omega) (Nat.le_trans HSM.out.es (by decide)) (fun e he => Nat.le_trans (HSM.out.ats e he) (by decide))).mono ?_; rintro e w6 ⟨a6, n6, c6, bs, rfl, hbs, hmb, hb⟩; have HB6 := hid hbs; have HM6 := hid hmb; have hy := hid hb; (obtain rfl : n6 = 0 := by rw [hbs.sl.neq, ← List.length_map (f := (·.ats)), hmb, HNIL.out]; rfl); clear hbs hmb hb) | ((first | go_at_call_of 14 (Value.slice aa m cp) | go_at_call_of 14 (Value.slice aa 0 cp)); refine (batch_any _ _ _ (xs.filter (fun s : SB => decide (s.c = c))) c x d _ ⟨HW.out.sl.ext (by (repeat (first | exact Ext.refl _ | refine Ext.alloc ?_ _ | refine Ext.drewN ?_ _ | refine Ext.drew ?_ | refine Ext.trans ?_ (Hid.out (by assumption))))), fun s hs => (HW.out.ts s hs).ext (by (repeat (first | exact Ext.refl _ | refine Ext.alloc ?_ _ | refine Ext.drewN ?_ _ | refine Ext.drew ?_ | refine Ext.trans ?_ (Hid.out (by assumption)))))⟩ (HI.out.ext (by (repeat (first | exact Ext.refl _ | refine Ext.alloc ?_ _ | refine Ext.drewN ?_ _ | refine Ext.drew ?_ | refine Ext.trans ?_ (Hid.out (by assumption)))))) (by omega) (Nat.le_trans HSM.out.es (by decide)) (fun e he => Nat.le_trans (HSM.out.ats e he) (by decide))).mono ?_; rintro e w7 ⟨a7, n7, c7', cs, rfl, hbs, hmb, hb⟩; have HB7 := hid hbs; have HM7 := hid hmb; have hy := hid hb; skip; clear hbs hmb hb) | (go_at_call 13; refine (same_evs _ _ _ _ _ _ bs cs _ (by have h := HB6.out; exact ⟨h.sl.ext (by (repeat (first | exact Ext.refl _ | refine Ext.alloc ?_ _ | refine Ext.drewN ?_ _ | refine Ext.drew ?_ | refine Ext.trans ?_ (Hid.out (by assumption))))), fun x hx => (h.ats x hx).ext (by (repeat (first | exact Ext.refl _ | refine Ext.alloc ?_ _ | refine Ext.drewN ?_ _ | refine Ext.drew ?_ | refine Ext.trans ?_ (Hid.out (by assumption)))))⟩) (by have h := HB7.out; exact ⟨h.sl.ext (by (repeat (first | exact Ext.refl _ | refine Ext.alloc ?_ _ | refine Ext.drewN ?_ _ | refine Ext.drew ?_ | refine Ext.trans ?_ (Hid.out (by assumption))))), fun x hx => (h.ats x hx).ext (by (repeat (first | exact Ext.refl _ | refine Ext.alloc ?_ _ | refine Ext.drewN ?_ _ | refine Ext.drew ?_ | refine Ext.trans ?_ (Hid.out (by assumption)))))⟩) (HM6.out.trans (HOWN.out.symm.trans HM7.out.symm))).mono ?_; rintro e w8 ⟨rfl, hb⟩; have hy := hid hb; clear hb))) | fail "held")
          go_wp2
          go_ret
          refine ⟨rfl, ?_⟩
          (repeat (first | exact Ext.refl _ | refine Ext.alloc ?_ _ | refine Ext.drewN ?_ _ | refine Ext.drew ?_ | refine Ext.trans ?_ (Hid.out (by assumption))))
end Go.Proofs.Ytiifflojpoobpaa
