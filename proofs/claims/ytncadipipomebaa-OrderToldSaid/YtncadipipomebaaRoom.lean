/- A broker never promises more than it has room for: the statement's walk. -/
import Derived.Test.YtncadipipomebaaAwake
import Derived.Test.YtncadipipomebaaOpen
import Derived.Test.YtncadipipomebaaRoomP
import Derived.Deep.DeepCutAuto
namespace Go.Proofs.Ytncadipipomebaa
open Go.RowKit
attribute [local go_sem ↓] Go.wp_at_zero Go.wp_at_succ

def cntE (l : List EP) (i : Id) : Nat := l.countP fun p => idEq p.x.id i
theorem cntE_succ {l : List EP} {i : Id} {j : Nat} (hj : j < l.length) : cntE (l.take (j + 1)) i = cntE (l.take j) i + if idEq l[j].x.id i = true then 1 else 0 := by
  unfold cntE; rw [List.take_succ_eq_append_getElem hj, List.countP_append, List.countP_singleton]
theorem cntI_succ {l : List Id} {i : Id} {j : Nat} (hj : j < l.length) : cntI (l.take (j + 1)) i = cntI (l.take j) i + if idEq l[j] i = true then 1 else 0 := by
  unfold cntI; rw [List.take_succ_eq_append_getElem hj, List.countP_append, List.countP_singleton]
theorem cntE_le (l : List EP) (i : Id) (j : Nat) : cntE (l.take j) i ≤ j := Nat.le_trans List.countP_le_length (by rw [List.length_take]; omega)
theorem cntI_le (l : List Id) (i : Id) (j : Nat) : cntI (l.take j) i ≤ j := Nat.le_trans List.countP_le_length (by rw [List.length_take]; omega)
theorem cntE_eq (i : Id) : ∀ (l : List EP), (∀ p, p ∈ l → p.x.id = p.d.id) → cntP (l.map (·.d)) i = cntE l i
  | [], _ => rfl
  | p :: l, h => by
    have ih := cntE_eq i l (fun q hq => h q (List.mem_cons_of_mem _ hq))
    unfold cntP cntE at *
    rw [List.map_cons, List.countP_cons, List.countP_cons, ih, h p (List.mem_cons_self ..)]
theorem room_last {R : List Id} {n m : Nat} (h : R = [] ∨ 6 ≤ n + m) : (R.length == 0 || decide (6 ≤ n + m)) = true := by
  rcases h with h | h
  · subst h; rfl
  · rw [decide_eq_true h, Bool.or_true]

set_option maxRecDepth 100000 in
set_option maxHeartbeats 4000000 in
theorem room18_any (s : StV) (ls ps : List EP) (bs : List Id) (a : Option Addr) (n cap : Nat) (ds : List EP) (w : World) (hS : StIs w s ls ps bs) (hL : Ents w a n cap ds) :
    Calls Try.prog 6 #[.agg #[.int .u64 s.life, .slice s.l.a s.l.n s.l.c, .slice s.p.a s.p.n s.p.c, .slice s.b.a s.b.n s.b.c], .slice a n cap] w fun e w' => e = .returned (.bool true) ∧ Ext w w' := by
  obtain rfl := hL.sl.neq
  have hm := hL.sl.max
  have hl := hL.sl.len
  unfold maxLen at hm
  have HS := hid hS
  have HL := hid hL
  have HP := hid hS.p.sl.neq
  clear hS hL
  go_enter Try.func6, Try.ntmps6
  go_wp2_with fail
  have BS : (w.alloc (Obj.cells #[.int .u64 s.life, .slice s.l.a s.l.n s.l.c, .slice s.p.a s.p.n s.p.c, .slice s.b.a s.b.n s.b.c] 27)).heap[w.heap.size]? = some (Obj.cells #[.int .u64 s.life, .slice s.l.a s.l.n s.l.c, .slice s.p.a s.p.n s.p.c, .slice s.b.a s.b.n s.b.c] 27) := by (repeat (first | (refine heap_new ?_; (simp; done)) | refine heap_old (by first | (simp; done) | (simp; omega)) ?_))
  refine (awake18_any (w.alloc (Obj.cells #[.int .u64 s.life, .slice s.l.a s.l.n s.l.c, .slice s.p.a s.p.n s.p.c, .slice s.b.a s.b.n s.b.c] 27))).mono ?_
  rintro e w1 ⟨rfl, hb⟩
  have as0 : w1.cell? ⟨w.heap.size, 0, none⟩ = some (.int .u64 s.life) := hb.keep (cellH BS rfl)
  have as1 : w1.cell? ⟨w.heap.size, 1, none⟩ = some (.slice s.l.a s.l.n s.l.c) := hb.keep (cellH BS rfl)
  have as2 : w1.cell? ⟨w.heap.size, 2, none⟩ = some (.slice s.p.a s.p.n s.p.c) := hb.keep (cellH BS rfl)
  have as3 : w1.cell? ⟨w.heap.size, 3, none⟩ = some (.slice s.b.a s.b.n s.b.c) := hb.keep (cellH BS rfl)
  have hx1 := hid hb
  have hz1 : w.heap.size < w1.heap.size := by have := hb.size; simp at this; omega
  clear hb BS
  go_wp2_with fail
  refine (few18_any s ls ps bs none 0 0 [] _ (HS.out.ext (by (repeat (first | exact Ext.refl _ | refine Ext.alloc ?_ _ | refine Ext.drewN ?_ _ | refine Ext.drew ?_ | refine Ext.trans ?_ (Hid.out (by assumption)))))) ⟨⟨Sl.nil _ (fun _ => rfl), fun m hm => by cases hm⟩, fun m hm => by cases hm⟩).mono ?_
  rintro e w2 ⟨f1, rfl, hf1, hb⟩
  have bs0 := hb.keep as0; have bs1 := hb.keep as1; have bs2 := hb.keep as2; have bs3 := hb.keep as3
  clear as0 as1 as2 as3
  have hx2 := hid hb
  have hz2 : w.heap.size < w2.heap.size := by have := hb.size; omega
  have HF1 := hid hf1
  clear hb hf1
  cases f1
  · go_wp2
    go_ret
    refine ⟨rfl, ?_⟩
    (repeat (first | exact Ext.refl _ | refine Ext.alloc ?_ _ | refine Ext.drewN ?_ _ | refine Ext.drew ?_ | refine Ext.trans ?_ (Hid.out (by assumption))))
  go_wp2_with fail
  refine (few18_any ⟨0, ⟨a, ds.length, cap⟩, ⟨none, 0, 0⟩, ⟨none, 0, 0⟩⟩ ds [] [] none 0 0 [] _ ⟨HL.out.ext (by (repeat (first | exact Ext.refl _ | refine Ext.alloc ?_ _ | refine Ext.drewN ?_ _ | refine Ext.drew ?_ | refine Ext.trans ?_ (Hid.out (by assumption))))), Ents.nil _, Sl.nil _ (fun _ => rfl)⟩ ⟨⟨Sl.nil _ (fun _ => rfl), fun m hm => by cases hm⟩, fun m hm => by cases hm⟩).mono ?_
  rintro e w3 ⟨f2, rfl, hf2, hb⟩
  have cs0 := hb.keep bs0; have cs1 := hb.keep bs1; have cs2 := hb.keep bs2; have cs3 := hb.keep bs3
  clear bs0 bs1 bs2 bs3
  have hx3 := hid hb
  have hz3 : w.heap.size < w3.heap.size := by have := hb.size; omega
  have HF2 := hid hf2
  clear hb hf2
  cases f2
  · go_wp2
    go_ret
    refine ⟨rfl, ?_⟩
    (repeat (first | exact Ext.refl _ | refine Ext.alloc ?_ _ | refine Ext.drewN ?_ _ | refine Ext.drew ?_ | refine Ext.trans ?_ (Hid.out (by assumption))))
  have HD := hid (HF2.out (by trivial)).1
  have HQ := hid (HF1.out (by trivial)).2.1
  clear HF1 HF2
  go_wp2_with fail
  refine (promise_any s (ls.map (·.x)) (ps.map (·.x)) bs a ds.length cap ds _ (HS.out.l.evs.ext (by (repeat (first | exact Ext.refl _ | refine Ext.alloc ?_ _ | refine Ext.drewN ?_ _ | refine Ext.drew ?_ | refine Ext.trans ?_ (Hid.out (by assumption)))))) (HS.out.p.evs.ext (by (repeat (first | exact Ext.refl _ | refine Ext.alloc ?_ _ | refine Ext.drewN ?_ _ | refine Ext.drew ?_ | refine Ext.trans ?_ (Hid.out (by assumption)))))) (HS.out.b.ext (by (repeat (first | exact Ext.refl _ | refine Ext.alloc ?_ _ | refine Ext.drewN ?_ _ | refine Ext.drew ?_ | refine Ext.trans ?_ (Hid.out (by assumption)))))) (HL.out.ext (by (repeat (first | exact Ext.refl _ | refine Ext.alloc ?_ _ | refine Ext.drewN ?_ _ | refine Ext.drew ?_ | refine Ext.trans ?_ (Hid.out (by assumption)))))) HD.out.2 (by have := HQ.out.1; have := HP.out; omega) (by have := HD.out.1; omega)).mono ?_
  rintro e w4 ⟨ea, en, ec, fa, fm, fc, eps, rfl, hents, hmap, hfs, hb⟩
  have HR := prom_room (knows3 (ls.map (·.x)) (ps.map (·.x)) bs) s.p.n (ds.map (·.d))
  generalize promOf (knows3 (ls.map (·.x)) (ps.map (·.x)) bs) s.p.n (ds.map (·.d)) = pr at hmap hfs HR
  obtain ⟨PP, R⟩ := pr
  dsimp only at hmap hfs
  subst hmap
  obtain rfl := hents.sl.neq
  obtain rfl := hfs.neq
  have ds0 := hb.keep cs0; have ds1 := hb.keep cs1; have ds2 := hb.keep cs2; have ds3 := hb.keep cs3
  clear cs0 cs1 cs2 cs3
  have hx4 := hid hb
  have hz4 : w.heap.size < w4.heap.size := by have := hb.size; omega
  have HE := hid hents
  have HF := hid hfs
  have HR' := hid HR
  have hroom : eps.length = 0 ∨ (0 < eps.length ∧ s.p.n + eps.length ≤ 6) := by
    rcases HR.room with h | h
    · simp at h; subst h; exact .inl rfl
    · simp at h; rcases Nat.eq_zero_or_pos eps.length with h0 | h0
      · exact .inl h0
      · exact .inr ⟨h0, h⟩
  have hfull : R = [] ∨ 6 ≤ s.p.n + eps.length := by
    have := HR.full; rw [List.length_map] at this; exact this
  clear hb hents hfs HR
  have hm4 := HF.out.max
  have hm5 := HF.out.len
  have hm6 := HE.out.sl.max
  have hm7 := HE.out.sl.len
  unfold maxLen at hm4 hm6
  have h0 : (0 < eps.length ∧ s.p.n + eps.length ≤ 6) ∨ ¬ 0 < eps.length := by omega
  clear hroom
  go_upto_region 5 with (fail)
  go_cut [42] (fun c wx => c = .bool false ∧ w4 = wx)
  case first =>
    as_aux_lemma =>
      rcases h0 with ⟨h0, h6⟩ | h0
      all_goals
        go_wp2_with fail
        go_meet
        exact ⟨by first | rfl | (rw [decide_eq_false (by omega)]), rfl⟩
  case rest =>
    obtain ⟨rfl, rfl⟩ := hcut
    go_wp2_with fail
    go_loopg [8, 9, 10, 11, 12, 13] (ds.length) (fun g st _ _ _ _ _ wr => ∃ k : Nat, g + k = ds.length ∧ st = .int .i64 k ∧ Hid (Ext w4 wr))
    case atStart => exact ⟨0, by omega, rfl, Ext.refl _⟩
    case round =>
      obtain ⟨k, hg, rfl, hx⟩ := hrel
      obtain ⟨G, hG⟩ : ∃ G, G = gk := ⟨_, rfl⟩
      have q0 := hx.out.keep ds0
      have q1 := hx.out.keep ds1
      have q2 := hx.out.keep ds2
      have q3 := hx.out.keep ds3
      by_cases hk : k < ds.length
      · obtain ⟨b, o, rfl, hc⟩ := HL.out.sl.get k hk
        have hE : Ext w wr := Ext.trans (by (repeat (first | exact Ext.refl _ | refine Ext.alloc ?_ _ | refine Ext.drewN ?_ _ | refine Ext.drew ?_ | refine Ext.trans ?_ (Hid.out (by assumption))))) hx.out
        obtain ⟨c0, c1, c2, c3, c4, c5, c6, c7⟩ := cells8 (w := wr) (b := b) (o := o + k * 8) (x := ds[k].x) (fun j v hj => hE.keep (hc j v hj))
        have bx := (Ext.refl wr).alloc (Obj.cells #[.int .i64 ds[k].x.id.b, .int .u64 ds[k].x.id.l, .int .u64 ds[k].x.id.s] 30)
        have r0 := bx.keep q0
        have r1 := bx.keep q1
        have r2 := bx.keep q2
        have r3 := bx.keep q3
        have j0 : (wr.alloc (Obj.cells #[.int .i64 ds[k].x.id.b, .int .u64 ds[k].x.id.l, .int .u64 ds[k].x.id.s] 30)).cell? ⟨wr.heap.size, 0, none⟩ = some (.int .i64 ds[k].x.id.b) := cellH (heap_alloc_new _ _) rfl
        have j1 : (wr.alloc (Obj.cells #[.int .i64 ds[k].x.id.b, .int .u64 ds[k].x.id.l, .int .u64 ds[k].x.id.s] 30)).cell? ⟨wr.heap.size, 1, none⟩ = some (.int .u64 ds[k].x.id.l) := cellH (heap_alloc_new _ _) rfl
        have j2 : (wr.alloc (Obj.cells #[.int .i64 ds[k].x.id.b, .int .u64 ds[k].x.id.l, .int .u64 ds[k].x.id.s] 30)).cell? ⟨wr.heap.size, 2, none⟩ = some (.int .u64 ds[k].x.id.s) := cellH (heap_alloc_new _ _) rfl
        have hzr : w.heap.size < wr.heap.size := by have := hx.out.size; omega
        clear hc hE bx
        have b0 : (0 : Int) ≤ (k : Int) := by omega
        have b1 : (k : Int) < (ds.length : Int) := by omega
        go_upto_region 11 with (fail)
        go_cut [10] (fun c wx => ∃ kn : Bool, c = .bool kn ∧ Hid (knows3 (ls.map (·.x)) (ps.map (·.x)) bs ds[k].x.id = kn) ∧ Hid (Ext wr wx) ∧ wx.cell? ⟨w.heap.size, 0, none⟩ = some (.int .u64 s.life) ∧ wx.cell? ⟨w.heap.size, 1, none⟩ = some (.slice s.l.a s.l.n s.l.c) ∧ wx.cell? ⟨w.heap.size, 2, none⟩ = some (.slice s.p.a s.p.n s.p.c) ∧ wx.cell? ⟨w.heap.size, 3, none⟩ = some (.slice s.b.a s.b.n s.b.c) ∧ wx.cell? ⟨wr.heap.size, 0, none⟩ = some (.int .i64 ds[k].x.id.b) ∧ wx.cell? ⟨wr.heap.size, 1, none⟩ = some (.int .u64 ds[k].x.id.l) ∧ wx.cell? ⟨wr.heap.size, 2, none⟩ = some (.int .u64 ds[k].x.id.s))
        case first =>
          as_aux_lemma =>
            cases hA : (ls.map (·.x)).any (fun x : EV => idEq x.id ds[k].x.id) with
            | true =>
              have HA := hid hA
              clear hA
              go_wp2_with (go_at_call 27; refine (has_any s (ls.map (·.x)) ds[k].x.id _ (HS.out.l.evs.ext (by (repeat (first | exact Ext.refl _ | refine Ext.alloc ?_ _ | refine Ext.drewN ?_ _ | refine Ext.drew ?_ | refine Ext.trans ?_ (Hid.out (by assumption))))))).mono ?_; rintro e wq ⟨he, hb⟩; rw [HA.out] at he; subst he; have j0 := hb.keep j0; have j1 := hb.keep j1; have j2 := hb.keep j2; have r0 := hb.keep r0; have r1 := hb.keep r1; have r2 := hb.keep r2; have r3 := hb.keep r3; have hxq := hid hb; clear hb)
              go_meet
              exact ⟨_, rfl, (by unfold knows3; rw [HA.out]; rfl), (by (repeat (first | exact Ext.refl _ | refine Ext.alloc ?_ _ | refine Ext.drewN ?_ _ | refine Ext.drew ?_ | refine Ext.trans ?_ (Hid.out (by assumption))))), r0, r1, r2, r3, j0, j1, j2⟩
            | false =>
              have HA := hid hA
              clear hA
              cases hB : (ps.map (·.x)).any (fun x : EV => idEq x.id ds[k].x.id) with
              | true =>
                have HB := hid hB
                clear hB
                go_wp2_with (first | (go_at_call 27; refine (has_any s (ls.map (·.x)) ds[k].x.id _ (HS.out.l.evs.ext (by (repeat (first | exact Ext.refl _ | refine Ext.alloc ?_ _ | refine Ext.drewN ?_ _ | refine Ext.drew ?_ | refine Ext.trans ?_ (Hid.out (by assumption))))))).mono ?_; rintro e wq ⟨he, hb⟩; rw [HA.out] at he; subst he; have j0 := hb.keep j0; have j1 := hb.keep j1; have j2 := hb.keep j2; have r0 := hb.keep r0; have r1 := hb.keep r1; have r2 := hb.keep r2; have r3 := hb.keep r3; have hxq := hid hb; clear hb) | (go_at_call 28; refine (promised_any s (ps.map (·.x)) ds[k].x.id _ (HS.out.p.evs.ext (by (repeat (first | exact Ext.refl _ | refine Ext.alloc ?_ _ | refine Ext.drewN ?_ _ | refine Ext.drew ?_ | refine Ext.trans ?_ (Hid.out (by assumption))))))).mono ?_; rintro e wq ⟨he, hb⟩; rw [HB.out] at he; subst he; have j0 := hb.keep j0; have j1 := hb.keep j1; have j2 := hb.keep j2; have r0 := hb.keep r0; have r1 := hb.keep r1; have r2 := hb.keep r2; have r3 := hb.keep r3; have hxq := hid hb; clear hb))
                go_meet
                exact ⟨_, rfl, (by unfold knows3; rw [HA.out, HB.out]; rfl), (by (repeat (first | exact Ext.refl _ | refine Ext.alloc ?_ _ | refine Ext.drewN ?_ _ | refine Ext.drew ?_ | refine Ext.trans ?_ (Hid.out (by assumption))))), r0, r1, r2, r3, j0, j1, j2⟩
              | false =>
                have HB := hid hB
                clear hB
                cases hC : bs.any (fun x : Id => idEq x ds[k].x.id)
                all_goals
                  have HC := hid hC
                  clear hC
                  go_wp2_with (first | (go_at_call 27; refine (has_any s (ls.map (·.x)) ds[k].x.id _ (HS.out.l.evs.ext (by (repeat (first | exact Ext.refl _ | refine Ext.alloc ?_ _ | refine Ext.drewN ?_ _ | refine Ext.drew ?_ | refine Ext.trans ?_ (Hid.out (by assumption))))))).mono ?_; rintro e wq ⟨he, hb⟩; rw [HA.out] at he; subst he; have j0 := hb.keep j0; have j1 := hb.keep j1; have j2 := hb.keep j2; have r0 := hb.keep r0; have r1 := hb.keep r1; have r2 := hb.keep r2; have r3 := hb.keep r3; have hxq := hid hb; clear hb) | (go_at_call 28; refine (promised_any s (ps.map (·.x)) ds[k].x.id _ (HS.out.p.evs.ext (by (repeat (first | exact Ext.refl _ | refine Ext.alloc ?_ _ | refine Ext.drewN ?_ _ | refine Ext.drew ?_ | refine Ext.trans ?_ (Hid.out (by assumption))))))).mono ?_; rintro e wq ⟨he, hb⟩; rw [HB.out] at he; subst he; have j0 := hb.keep j0; have j1 := hb.keep j1; have j2 := hb.keep j2; have r0 := hb.keep r0; have r1 := hb.keep r1; have r2 := hb.keep r2; have r3 := hb.keep r3; have hxq := hid hb; clear hb) | (go_at_call 29; refine (aborted_any s bs ds[k].x.id _ (HS.out.b.ext (by (repeat (first | exact Ext.refl _ | refine Ext.alloc ?_ _ | refine Ext.drewN ?_ _ | refine Ext.drew ?_ | refine Ext.trans ?_ (Hid.out (by assumption))))))).mono ?_; rintro e wq ⟨he, hb⟩; rw [HC.out] at he; subst he; have j0 := hb.keep j0; have j1 := hb.keep j1; have j2 := hb.keep j2; have r0 := hb.keep r0; have r1 := hb.keep r1; have r2 := hb.keep r2; have r3 := hb.keep r3; have hxq := hid hb; clear hb))
                  go_meet
                  exact ⟨_, rfl, (by unfold knows3; rw [HA.out, HB.out, HC.out]; rfl), (by (repeat (first | exact Ext.refl _ | refine Ext.alloc ?_ _ | refine Ext.drewN ?_ _ | refine Ext.drew ?_ | refine Ext.trans ?_ (Hid.out (by assumption))))), r0, r1, r2, r3, j0, j1, j2⟩
        case rest =>
          obtain ⟨kn, rfl, hkn, hxq, r0, r1, r2, r3, j0, j1, j2⟩ := hcut
          have HN : Hid (cntE eps ds[k].x.id + cntI R ds[k].x.id = if kn = true then 0 else 1) := by
            have e1 := (HL.out.is ds[k] (List.getElem_mem hk)).id
            have e2 := cntE_eq ds[k].x.id eps (fun p hp => (HE.out.is p hp).id)
            rw [← e2]
            have KN := hkn.out
            cases kn
            · rw [e1]; exact HR'.out.there _ (List.mem_map.2 ⟨ds[k], List.getElem_mem hk, rfl⟩) (by rw [← e1]; exact KN)
            · exact HR'.out.known _ KN
          rename World => wq
          go_wp2_with fail
          go_loopg [11, 12] (eps.length) (fun g nv st wl => ∃ j : Nat, g + j = eps.length ∧ st = .int .i64 j ∧ nv = .int .i64 ((cntE (eps.take j) ds[k].x.id : Nat) : Int) ∧ Hid (Ext wq wl))
          case atStart => exact ⟨0, by omega, rfl, rfl, Ext.refl _⟩
          case round =>
            obtain ⟨j, hg2, rfl, rfl, hy⟩ := hrel
            have k0 := hy.out.keep j0
            have k1 := hy.out.keep j1
            have k2 := hy.out.keep j2
            rename World => wl
            by_cases hj : j < eps.length
            · obtain ⟨b', o', rfl, hc'⟩ := HE.out.sl.get j hj
              have hE4 : Ext w4 wl := (by (repeat (first | exact Ext.refl _ | refine Ext.alloc ?_ _ | refine Ext.drewN ?_ _ | refine Ext.drew ?_ | refine Ext.trans ?_ (Hid.out (by assumption)))))
              obtain ⟨e0, e1, e2, e3, e4, e5, e6, e7⟩ := cells8 (w := wl) (b := b') (o := o' + j * 8) (x := eps[j].x) (fun q v hq => hE4.keep (hc' q v hq))
              clear hc' hE4
              have d0 : (0 : Int) ≤ (j : Int) := by omega
              have d1 : (j : Int) < (eps.length : Int) := by omega
              have hcl := cntE_le eps ds[k].x.id j
              have heq := run_eqId eps[j].x.id.b eps[j].x.id.l eps[j].x.id.s ds[k].x.id.b ds[k].x.id.l ds[k].x.id.s
              cases he : idEq eps[j].x.id ds[k].x.id
              all_goals
                as_aux_lemma =>
                  have He := hid he
                  have he' : idEq ⟨eps[j].x.id.b, eps[j].x.id.l, eps[j].x.id.s⟩ ⟨ds[k].x.id.b, ds[k].x.id.l, ds[k].x.id.s⟩ = _ := he
                  clear he
                  go_wp2_with fail
                  go_quiet (fail)
                  go_wp2
                  go_roundg (gk - 1)
                  case measure => omega
                  case rel => exact ⟨j + 1, by omega, by go_num, by (rw [cntE_succ hj, He.out]; first | rfl | go_num), (by (repeat (first | exact Ext.refl _ | refine Ext.alloc ?_ _ | refine Ext.drewN ?_ _ | refine Ext.drew ?_ | refine Ext.trans ?_ (Hid.out (by assumption)))))⟩
            · have ej : eps.take j = eps := List.take_of_length_le (by omega)
              rw [ej]
              clear ej
              go_wp2_with fail
              go_loopg [11, 13] (R.length) (fun g nv st wm => ∃ m : Nat, g + m = R.length ∧ st = .int .i64 m ∧ nv = .int .i64 ((cntE eps ds[k].x.id + cntI (R.take m) ds[k].x.id : Nat) : Int) ∧ Hid (Ext wl wm))
              case atStart => exact ⟨0, by omega, rfl, rfl, Ext.refl _⟩
              case round =>
                obtain ⟨m, hg3, rfl, rfl, hz⟩ := hrel
                have k0 := hz.out.keep k0
                have k1 := hz.out.keep k1
                have k2 := hz.out.keep k2
                rename World => wm
                by_cases hm2 : m < R.length
                · obtain ⟨b', o', rfl, hc'⟩ := HF.out.get m hm2
                  have hE4 : Ext w4 wm := (by (repeat (first | exact Ext.refl _ | refine Ext.alloc ?_ _ | refine Ext.drewN ?_ _ | refine Ext.drew ?_ | refine Ext.trans ?_ (Hid.out (by assumption)))))
                  obtain ⟨e0, e1, e2⟩ := cells3 (w := wm) (b := b') (o := o' + m * 3) (x := R[m]) (fun q v hq => hE4.keep (hc' q v hq))
                  clear hc' hE4
                  have d0 : (0 : Int) ≤ (m : Int) := by omega
                  have d1 : (m : Int) < (R.length : Int) := by omega
                  have hcl := cntI_le R ds[k].x.id m
                  have hce := cntE_le eps ds[k].x.id eps.length
                  rw [List.take_length] at hce
                  have hlr : eps.length + R.length ≤ ds.length := by have := HR'.out.len; simpa using this
                  have heq := run_eqId R[m].b R[m].l R[m].s ds[k].x.id.b ds[k].x.id.l ds[k].x.id.s
                  cases he : idEq R[m] ds[k].x.id
                  all_goals
                    as_aux_lemma =>
                      have He := hid he
                      have he' : idEq ⟨R[m].b, R[m].l, R[m].s⟩ ⟨ds[k].x.id.b, ds[k].x.id.l, ds[k].x.id.s⟩ = _ := he
                      clear he
                      go_wp2_with fail
                      go_quiet (fail)
                      go_wp2
                      go_roundg (gk - 1)
                      case measure => omega
                      case rel => exact ⟨m + 1, by omega, by go_num, by (rw [cntI_succ hm2, He.out]; first | rfl | go_num), (by (repeat (first | exact Ext.refl _ | refine Ext.alloc ?_ _ | refine Ext.drewN ?_ _ | refine Ext.drew ?_ | refine Ext.trans ?_ (Hid.out (by assumption)))))⟩
                · have em : R.take m = R := List.take_of_length_le (by omega)
                  rw [em]
                  clear em
                  generalize hN : cntE eps ds[k].x.id + cntI R ds[k].x.id = N
                  have hn := HN.out
                  rw [hN] at hn
                  clear hN HN
                  cases kn
                  all_goals
                    simp at hn
                    subst hn
                    go_wp2_with fail
                    go_roundg (G - 1)
                    case measure => omega
                    case rel => exact ⟨k + 1, by omega, by go_num, (by (repeat (first | exact Ext.refl _ | refine Ext.alloc ?_ _ | refine Ext.drewN ?_ _ | refine Ext.drew ?_ | refine Ext.trans ?_ (Hid.out (by assumption)))))⟩
      · have hlr : eps.length + R.length ≤ ds.length := by have := HR'.out.len; simpa using this
        have hrl := room_last hfull
        have hR20 : R.length ≤ 20 := by have := HD.out.1; omega
        have hE20 : eps.length ≤ 20 := by have := HD.out.1; omega
        have hp20 : s.p.n ≤ 20 := by have := HQ.out.1; have := HP.out; omega
        clear hm4 hm5 hm6 hm7 hm hl h0 hfull
        by_cases hz : R.length = 0
        · go_wp2
          go_ret
          refine ⟨rfl, ?_⟩
          (repeat (first | exact Ext.refl _ | refine Ext.alloc ?_ _ | refine Ext.drewN ?_ _ | refine Ext.drew ?_ | refine Ext.trans ?_ (Hid.out (by assumption))))
        · have hz1 : 0 < R.length := by omega
          have h6 : 6 ≤ s.p.n + eps.length := by
            rw [Bool.or_eq_true] at hrl
            rcases hrl with h | h
            · exact absurd (by simpa using h) hz
            · exact of_decide_eq_true h
          go_wp2
          go_ret
          refine ⟨ret_bool (by rw [decide_eq_true (by omega : (6 : Int) ≤ (s.p.n : Int) + (eps.length : Int)), Bool.or_true]), ?_⟩
          (repeat (first | exact Ext.refl _ | refine Ext.alloc ?_ _ | refine Ext.drewN ?_ _ | refine Ext.drew ?_ | refine Ext.trans ?_ (Hid.out (by assumption))))
end Go.Proofs.Ytncadipipomebaa
