/- An entry in memory of its own. -/
import Derived.Test.YtncadipipomebaaDeep
namespace Go.Proofs.Ytncadipipomebaa
open Go.RowKit

theorem infoT : (Try.prog.info? 97).map (fun i => (i.zero, i.size, i.bytes)) = some (some (.agg #[.string ⟨#[]⟩, .int .i64 0, .int .i64 0, .int .i64 0, .string ⟨#[]⟩]), 5, 56) := by kernel_rfl
theorem infoAt : (Try.prog.info? 99).map (fun i => (i.zero, i.size, i.bytes)) = some (some (.agg #[.string ⟨#[]⟩, .int .i64 0, .int .i64 0, .string ⟨#[]⟩]), 4, 48) := by kernel_rfl
theorem infoEv : (Try.prog.info? 88).map (fun i => (i.zero, i.size, i.bytes)) = some (some (.slice none 0 0), 1, 24) := by kernel_rfl

/-- What comes back is an entry in memory that reads as it did. -/
def WholeR (d : ED) (w : World) (e : Ending) (w' : World) : Prop :=
  ∃ x : EV, e = .returned (.agg #[.int .i64 x.k, .int .i64 x.id.b, .int .u64 x.id.l, .int .u64 x.id.s, .int .i64 x.c, .int .u64 x.u, .slice x.f.a x.f.n x.f.c, .slice x.e.a x.e.n x.e.c]) ∧ EntryOwn w' w.heap.size x d ∧ Ext w w'

set_option maxRecDepth 100000 in
set_option maxHeartbeats 4000000 in
theorem vwhole_any (x : EV) (d : ED) (w : World) (hI : EntryIs w x d) (hs : Small d) : Calls Try.prog 40 #[.agg #[.int .i64 x.k, .int .i64 x.id.b, .int .u64 x.id.l, .int .u64 x.id.s, .int .i64 x.c, .int .u64 x.u, .slice x.f.a x.f.n x.f.c, .slice x.e.a x.e.n x.e.c]] w (WholeR d w) := by
  obtain ⟨i0, hi, hz0, hz1, hz2⟩ := info_parts infoT
  obtain ⟨j0, hj, hy0, hy1, hy2⟩ := info_parts infoEv
  obtain ⟨k0, hk, hx0, hx1, hx2⟩ := info_parts infoAt
  obtain ⟨evs, hes, hev⟩ := hI.e
  have hT := hI.f
  have ht := hs.ts
  have he := hs.es
  have ha := hs.ats
  obtain ⟨xk, xi, xc, xu, ⟨fa, fn, fc⟩, ⟨ea, en, ec⟩⟩ := x
  dsimp only at hT hev ⊢
  obtain rfl := hev.sl.neq
  have hm := hev.sl.max
  have hl := hev.sl.len
  unfold maxLen at hm
  have hnT : fn ≤ 100 := by rw [hT.neq]; exact ht
  have hnE : evs.length ≤ 100 := by rw [← hes, List.length_map] at he; exact he
  have HA := hid (show ∀ y, y ∈ evs → y.ats.length ≤ 100 from fun y hy => ha y.ats (by rw [← hes]; exact List.mem_map_of_mem hy))
  have HI := hid hI
  have HT := hid hT
  have HEV := hid hev
  have HES := hid hes
  have I1 := hid hi
  have I2 := hid hz0
  have I3 := hid hz1
  have I4 := hid hz2
  have J1 := hid hj
  have J2 := hid hy0
  have J3 := hid hy1
  have J4 := hid hy2
  have K1 := hid hk
  have K2 := hid hx0
  have K3 := hid hx1
  have K4 := hid hx2
  clear hI hT hev hes ht he ha hs hi hz0 hz1 hz2 hj hy0 hy1 hy2 hk hx0 hx1 hx2
  go_enter Try.func40, Try.ntmps40
  go_wp2_with (at_builtin; go_must (refine appAll (ys := d.ts) rfl _ _ 47 97 rfl i0 _ 56 Try.underlying47 I1.out I2.out I3.out I4.out rfl (by decide) rfl (w.heap.size + 1 + 1) rfl (HT.out.ext (((Ext.refl w).alloc _).alloc _)) T.one (by omega) (by decide) (by simp) ?_); intro aa cap' w1 hown1 hx1 hfr1; go_must (have c0 : w1.cell? ⟨w.heap.size, 0, none⟩ = some (.int .i64 xk) := hx1.keep (by simp); have c1 : w1.cell? ⟨w.heap.size, 1, none⟩ = some (.int .i64 xi.b) := hx1.keep (by simp); have c2 : w1.cell? ⟨w.heap.size, 2, none⟩ = some (.int .u64 xi.l) := hx1.keep (by simp); have c3 : w1.cell? ⟨w.heap.size, 3, none⟩ = some (.int .u64 xi.s) := hx1.keep (by simp); have c4 : w1.cell? ⟨w.heap.size, 4, none⟩ = some (.int .i64 xc) := hx1.keep (by simp); have c5 : w1.cell? ⟨w.heap.size, 5, none⟩ = some (.int .u64 xu) := hx1.keep (by simp); have c6 : w1.cell? ⟨w.heap.size, 6, none⟩ = some (.slice fa fn fc) := hx1.keep (by simp); have c7 : w1.cell? ⟨w.heap.size, 7, none⟩ = some (.slice ea evs.length ec) := hx1.keep (by simp); have r0 : w1.cell? ⟨w.heap.size + 1, 0, none⟩ = some (.int .i64 0) := hx1.keep (by simp); have r1 : w1.cell? ⟨w.heap.size + 1, 1, none⟩ = some (.int .i64 0) := hx1.keep (by simp); have r2 : w1.cell? ⟨w.heap.size + 1, 2, none⟩ = some (.int .u64 0) := hx1.keep (by simp); have r3 : w1.cell? ⟨w.heap.size + 1, 3, none⟩ = some (.int .u64 0) := hx1.keep (by simp); have r4 : w1.cell? ⟨w.heap.size + 1, 4, none⟩ = some (.int .i64 0) := hx1.keep (by simp); have r5 : w1.cell? ⟨w.heap.size + 1, 5, none⟩ = some (.int .u64 0) := hx1.keep (by simp); have r6 : w1.cell? ⟨w.heap.size + 1, 6, none⟩ = some (.slice none 0 0) := hx1.keep (by simp); have r7 : w1.cell? ⟨w.heap.size + 1, 7, none⟩ = some (.slice none 0 0) := hx1.keep (by simp); have fz : ∀ j, w1.frozen? ⟨w.heap.size, j, none⟩ = false := fun j => (hx1.frozen _ _ (by simp; omega)).trans (by simp); have fy : ∀ j, w1.frozen? ⟨w.heap.size + 1, j, none⟩ = false := fun j => (hx1.frozen _ _ (by simp)).trans (by simp); have HO1 := hid hown1; have HX1 := hid hx1; have hzz : w.heap.size + 1 < w1.heap.size := (by have := hx1.size; simp at this; omega); have hzy : w.heap.size < w1.heap.size := (by omega); clear hown1 hx1 hfr1))
  go_loopg [3, 13] (evs.length) (fun g ov st wr => ∃ (k : Nat) (ab : Option Addr) (m cp : Nat) (ys : List EvV), g + k = evs.length ∧ st = .int .i64 k ∧ ov = .slice ab m cp ∧
    Hid (Own wr w1.heap.size 88 1 EvV.cs ab m cp ys ∧ ys.map (·.ats) = (evs.take k).map (·.ats) ∧ ∀ y, y ∈ ys → Own wr w1.heap.size 99 4 AT.cs y.v.a y.v.n y.v.c y.ats) ∧ Hid (Ext (w1.setCell ⟨w.heap.size, 6, none⟩ (.slice aa fn cap')) wr))
  case atStart => exact ⟨0, none, 0, 0, [], by omega, rfl, rfl, ⟨Own.nil _ _ _ EvV.wid, rfl, fun y hy => by cases hy⟩, Ext.refl _⟩
  case round =>
    obtain ⟨k, ab, m, cp, ys, hg, rfl, rfl, hown, hx⟩ := hrel
    by_cases hk : k < evs.length
    · obtain ⟨b, o, rfl, hc⟩ := HEV.out.sl.get k hk
      have hE : Ext w wr := Ext.trans (((Ext.trans (((Ext.refl w).alloc _).alloc _) HX1.out)).setCell (Nat.le_refl _) _) hx.out
      have d0 := cells1 (w := wr) (b := b) (o := o + k * 1) (x := evs[k]) (fun j v hj => hE.keep (hc j v hj))
      rw [Nat.mul_one] at d0
      have HV := hid ((HEV.out.ats evs[k] (List.getElem_mem hk)).ext hE)
      have hvn : evs[k].v.n ≤ 100 := by rw [HV.out.neq]; exact HA.out _ (List.getElem_mem hk)
      have hmk : m ≤ 100 := by
        have h1 := congrArg List.length hown.out.2.1
        rw [List.length_map, List.length_map, List.length_take] at h1
        have h2 := hown.out.1.neq
        omega
      have hzw : w1.heap.size ≤ wr.heap.size := by have := hx.out.size; simpa [World.setCell] using this
      clear hc hE
      have b0 : (0 : Int) ≤ (k : Int) := by omega
      have b1 : (k : Int) < (evs.length : Int) := by omega
      clear c0 c1 c2 c3 c4 c5 c6 c7 r0 r1 r2 r3 r4 r5 r6 r7 fz fy
      go_wp2_with (first | (at_builtin; refine appAll (ys := evs[k].ats) rfl (.const (.slice none 0 0)) (.tmp 18) 88 99 rfl k0 _ 48 Try.underlying88 K1.out K2.out K3.out K4.out rfl (by decide) rfl w1.heap.size rfl HV.out AT.one (by omega) (by decide) hzw ?_; intro ac cp2 w2 hown2 hx2 hfr2; have HO2 := hid hown2; have HX2 := hid hx2; clear hown2 hx2 hfr2) | (at_builtin; refine app1 (ys := ys) rfl (.tmp 17) (.tmp 20) 48 rfl j0 _ 24 Try.underlying48 J1.out J2.out J3.out J4.out rfl (by decide) rfl (hown.out.1.ext (HX2.out.alloc _)) ⟨⟨ac, evs[k].v.n, cp2⟩, evs[k].ats⟩ _ rfl (news_alloc (cs := EvV.cs ⟨⟨ac, evs[k].v.n, cp2⟩, evs[k].ats⟩) rfl) (EvV.one _) (by omega) (by decide) (Nat.le_trans hzw (HX2.out.alloc _).size) ?_; intro g cp3 w3 hown3 hgrow; have HO3 := hid hown3; have HG := hid hgrow; clear hown3 hgrow))
      go_roundg (gk - 1)
      case measure => omega
      case rel =>
        have oe := hown.out.1.ext (HX2.out.alloc (.cells #[.slice ac evs[k].v.n cp2] 88))
        refine ⟨k + 1, _, _, _, ys ++ [⟨⟨ac, evs[k].v.n, cp2⟩, evs[k].ats⟩], by omega, by go_num, rfl, ⟨HO3.out, ?_, fun y hy => ?_⟩, HG.out.ext oe (by simp [World.setCell]) (Ext.trans hx.out (HX2.out.alloc _))⟩
        · rw [List.map_append, hown.out.2.1, List.take_succ_eq_append_getElem hk, List.map_append]; rfl
        · rcases List.mem_append.1 hy with hy | hy
          · have oy := (hown.out.2.2 y hy).ext (HX2.out.alloc (.cells #[.slice ac evs[k].v.n cp2] 88))
            exact HG.out.own oy (oe.ne oy (by decide))
          · obtain rfl := List.mem_singleton.1 hy
            have oy := HO2.out.ext ((Ext.refl w2).alloc (.cells #[.slice ac evs[k].v.n cp2] 88))
            exact HG.out.own oy (oe.ne oy (by decide))
    · have hk' : evs.take k = evs := List.take_of_length_le (by omega)
      rw [hk'] at hown
      have hzw : w1.heap.size ≤ wr.heap.size := by have := hx.out.size; simpa [World.setCell] using this
      have q0 : wr.cell? ⟨w.heap.size, 0, none⟩ = some (.int .i64 xk) := hx.out.keep ((World.cell?_setCell_other _ _ _ _ (by simp)).trans c0)
      have q1 : wr.cell? ⟨w.heap.size, 1, none⟩ = some (.int .i64 xi.b) := hx.out.keep ((World.cell?_setCell_other _ _ _ _ (by simp)).trans c1)
      have q2 : wr.cell? ⟨w.heap.size, 2, none⟩ = some (.int .u64 xi.l) := hx.out.keep ((World.cell?_setCell_other _ _ _ _ (by simp)).trans c2)
      have q3 : wr.cell? ⟨w.heap.size, 3, none⟩ = some (.int .u64 xi.s) := hx.out.keep ((World.cell?_setCell_other _ _ _ _ (by simp)).trans c3)
      have q4 : wr.cell? ⟨w.heap.size, 4, none⟩ = some (.int .i64 xc) := hx.out.keep ((World.cell?_setCell_other _ _ _ _ (by simp)).trans c4)
      have q5 : wr.cell? ⟨w.heap.size, 5, none⟩ = some (.int .u64 xu) := hx.out.keep ((World.cell?_setCell_other _ _ _ _ (by simp)).trans c5)
      have q6 : wr.cell? ⟨w.heap.size, 6, none⟩ = some (.slice aa fn cap') := hx.out.keep (World.cell?_setCell_same _ _ _ c6)
      have q7 : wr.cell? ⟨w.heap.size, 7, none⟩ = some (.slice ea evs.length ec) := hx.out.keep ((World.cell?_setCell_other _ _ _ _ (by simp)).trans c7)
      have s0 : wr.cell? ⟨w.heap.size + 1, 0, none⟩ = some (.int .i64 0) := hx.out.keep ((World.cell?_setCell_other _ _ _ _ (by simp)).trans r0)
      have s1 : wr.cell? ⟨w.heap.size + 1, 1, none⟩ = some (.int .i64 0) := hx.out.keep ((World.cell?_setCell_other _ _ _ _ (by simp)).trans r1)
      have s2 : wr.cell? ⟨w.heap.size + 1, 2, none⟩ = some (.int .u64 0) := hx.out.keep ((World.cell?_setCell_other _ _ _ _ (by simp)).trans r2)
      have s3 : wr.cell? ⟨w.heap.size + 1, 3, none⟩ = some (.int .u64 0) := hx.out.keep ((World.cell?_setCell_other _ _ _ _ (by simp)).trans r3)
      have s4 : wr.cell? ⟨w.heap.size + 1, 4, none⟩ = some (.int .i64 0) := hx.out.keep ((World.cell?_setCell_other _ _ _ _ (by simp)).trans r4)
      have s5 : wr.cell? ⟨w.heap.size + 1, 5, none⟩ = some (.int .u64 0) := hx.out.keep ((World.cell?_setCell_other _ _ _ _ (by simp)).trans r5)
      have s6 : wr.cell? ⟨w.heap.size + 1, 6, none⟩ = some (.slice none 0 0) := hx.out.keep ((World.cell?_setCell_other _ _ _ _ (by simp)).trans r6)
      have s7 : wr.cell? ⟨w.heap.size + 1, 7, none⟩ = some (.slice none 0 0) := hx.out.keep ((World.cell?_setCell_other _ _ _ _ (by simp)).trans r7)
      have gz : ∀ j, wr.frozen? ⟨w.heap.size, j, none⟩ = false := fun j => (hx.out.frozen _ _ (by simpa [World.setCell] using hzy)).trans (by simp [fz])
      have gy : ∀ j, wr.frozen? ⟨w.heap.size + 1, j, none⟩ = false := fun j => (hx.out.frozen _ _ (by simpa [World.setCell] using hzz)).trans (by simp [fy])
      clear c0 c1 c2 c3 c4 c5 c6 c7 r0 r1 r2 r3 r4 r5 r6 r7 fz fy
      have hE : Ext w wr := Ext.trans (((Ext.trans (((Ext.refl w).alloc _).alloc _) HX1.out)).setCell (Nat.le_refl _) _) hx.out
      have OF := (HO1.out.far (p := ⟨w.heap.size, 6, none⟩) (Nat.lt_succ_of_lt (Nat.lt_succ_self _)) (.slice aa fn cap')).ext hx.out
      have HOF := hid OF
      have HE := hid hE
      clear OF hE
      go_wp2_with fail
      refine bodyPost_ret (v := .agg #[.int .i64 xk, .int .i64 xi.b, .int .u64 xi.l, .int .u64 xi.s, .int .i64 xc, .int .u64 xu, .slice aa fn cap', .slice ab m cp]) (by simp [results, Try.results40, go_sem, s0, s1, s2, s3, s4, s5, s6, s7]) rfl ⟨⟨xk, xi, xc, xu, ⟨aa, fn, cap'⟩, ⟨ab, m, cp⟩⟩, rfl, ⟨HI.out.k, HI.out.id, HI.out.c, HI.out.u, Own.mono (base := w.heap.size + 1 + 1) ?_ (Nat.le_succ_of_le (Nat.le_succ _)), ys, by rw [hown.out.2.1, HES.out], Own.mono (base := w1.heap.size) ?_ (Nat.le_of_lt hzy), fun y hy => Own.mono (base := w1.heap.size) ?_ (Nat.le_of_lt hzy)⟩, ?_⟩
      · (repeat (first | with_reducible exact HOF.out | refine Own.far ?_ (by first | exact Nat.lt_succ_of_lt (Nat.lt_succ_self _) | exact Nat.lt_succ_self _) _))
      · (repeat (first | with_reducible exact hown.out.1 | refine Own.far ?_ (by first | exact hzy | exact hzz) _))
      · (repeat (first | with_reducible exact hown.out.2.2 y hy | refine Own.far ?_ (by first | exact hzy | exact hzz) _))
      · (repeat (first | with_reducible exact HE.out | refine Ext.setCell ?_ (by first | exact Nat.le_refl _ | exact Nat.le_succ _) _))

set_option maxRecDepth 100000 in
set_option maxHeartbeats 4000000 in
theorem owhole_any (x : EV) (d : ED) (w : World) (hI : EntryIs w x d) (hs : Small d) : Calls Try.prog 55 #[.agg #[.int .i64 x.k, .int .i64 x.id.b, .int .u64 x.id.l, .int .u64 x.id.s, .int .i64 x.c, .int .u64 x.u, .slice x.f.a x.f.n x.f.c, .slice x.e.a x.e.n x.e.c]] w (WholeR d w) := by
  obtain ⟨i0, hi, hz0, hz1, hz2⟩ := info_parts infoT
  obtain ⟨j0, hj, hy0, hy1, hy2⟩ := info_parts infoEv
  obtain ⟨k0, hk, hx0, hx1, hx2⟩ := info_parts infoAt
  obtain ⟨evs, hes, hev⟩ := hI.e
  have hT := hI.f
  have ht := hs.ts
  have he := hs.es
  have ha := hs.ats
  obtain ⟨xk, xi, xc, xu, ⟨fa, fn, fc⟩, ⟨ea, en, ec⟩⟩ := x
  dsimp only at hT hev ⊢
  obtain rfl := hev.sl.neq
  have hm := hev.sl.max
  have hl := hev.sl.len
  unfold maxLen at hm
  have hnT : fn ≤ 100 := by rw [hT.neq]; exact ht
  have hnE : evs.length ≤ 100 := by rw [← hes, List.length_map] at he; exact he
  have HA := hid (show ∀ y, y ∈ evs → y.ats.length ≤ 100 from fun y hy => ha y.ats (by rw [← hes]; exact List.mem_map_of_mem hy))
  have HI := hid hI
  have HT := hid hT
  have HEV := hid hev
  have HES := hid hes
  have I1 := hid hi
  have I2 := hid hz0
  have I3 := hid hz1
  have I4 := hid hz2
  have J1 := hid hj
  have J2 := hid hy0
  have J3 := hid hy1
  have J4 := hid hy2
  have K1 := hid hk
  have K2 := hid hx0
  have K3 := hid hx1
  have K4 := hid hx2
  clear hI hT hev hes ht he ha hs hi hz0 hz1 hz2 hj hy0 hy1 hy2 hk hx0 hx1 hx2
  go_enter Try.func55, Try.ntmps55
  go_wp2_with (at_builtin; go_must (refine appAll (ys := d.ts) rfl _ _ 47 97 rfl i0 _ 56 Try.underlying47 I1.out I2.out I3.out I4.out rfl (by decide) rfl (w.heap.size + 1 + 1) rfl (HT.out.ext (((Ext.refl w).alloc _).alloc _)) T.one (by omega) (by decide) (by simp) ?_); intro aa cap' w1 hown1 hx1 hfr1; go_must (have c0 : w1.cell? ⟨w.heap.size, 0, none⟩ = some (.int .i64 xk) := hx1.keep (by simp); have c1 : w1.cell? ⟨w.heap.size, 1, none⟩ = some (.int .i64 xi.b) := hx1.keep (by simp); have c2 : w1.cell? ⟨w.heap.size, 2, none⟩ = some (.int .u64 xi.l) := hx1.keep (by simp); have c3 : w1.cell? ⟨w.heap.size, 3, none⟩ = some (.int .u64 xi.s) := hx1.keep (by simp); have c4 : w1.cell? ⟨w.heap.size, 4, none⟩ = some (.int .i64 xc) := hx1.keep (by simp); have c5 : w1.cell? ⟨w.heap.size, 5, none⟩ = some (.int .u64 xu) := hx1.keep (by simp); have c6 : w1.cell? ⟨w.heap.size, 6, none⟩ = some (.slice fa fn fc) := hx1.keep (by simp); have c7 : w1.cell? ⟨w.heap.size, 7, none⟩ = some (.slice ea evs.length ec) := hx1.keep (by simp); have r0 : w1.cell? ⟨w.heap.size + 1, 0, none⟩ = some (.int .i64 0) := hx1.keep (by simp); have r1 : w1.cell? ⟨w.heap.size + 1, 1, none⟩ = some (.int .i64 0) := hx1.keep (by simp); have r2 : w1.cell? ⟨w.heap.size + 1, 2, none⟩ = some (.int .u64 0) := hx1.keep (by simp); have r3 : w1.cell? ⟨w.heap.size + 1, 3, none⟩ = some (.int .u64 0) := hx1.keep (by simp); have r4 : w1.cell? ⟨w.heap.size + 1, 4, none⟩ = some (.int .i64 0) := hx1.keep (by simp); have r5 : w1.cell? ⟨w.heap.size + 1, 5, none⟩ = some (.int .u64 0) := hx1.keep (by simp); have r6 : w1.cell? ⟨w.heap.size + 1, 6, none⟩ = some (.slice none 0 0) := hx1.keep (by simp); have r7 : w1.cell? ⟨w.heap.size + 1, 7, none⟩ = some (.slice none 0 0) := hx1.keep (by simp); have fz : ∀ j, w1.frozen? ⟨w.heap.size, j, none⟩ = false := fun j => (hx1.frozen _ _ (by simp; omega)).trans (by simp); have fy : ∀ j, w1.frozen? ⟨w.heap.size + 1, j, none⟩ = false := fun j => (hx1.frozen _ _ (by simp)).trans (by simp); have HO1 := hid hown1; have HX1 := hid hx1; have hzz : w.heap.size + 1 < w1.heap.size := (by have := hx1.size; simp at this; omega); have hzy : w.heap.size < w1.heap.size := (by omega); clear hown1 hx1 hfr1))
  go_loopg [3, 13] (evs.length) (fun g ov st wr => ∃ (k : Nat) (ab : Option Addr) (m cp : Nat) (ys : List EvV), g + k = evs.length ∧ st = .int .i64 k ∧ ov = .slice ab m cp ∧
    Hid (Own wr w1.heap.size 88 1 EvV.cs ab m cp ys ∧ ys.map (·.ats) = (evs.take k).map (·.ats) ∧ ∀ y, y ∈ ys → Own wr w1.heap.size 99 4 AT.cs y.v.a y.v.n y.v.c y.ats) ∧ Hid (Ext (w1.setCell ⟨w.heap.size, 6, none⟩ (.slice aa fn cap')) wr))
  case atStart => exact ⟨0, none, 0, 0, [], by omega, rfl, rfl, ⟨Own.nil _ _ _ EvV.wid, rfl, fun y hy => by cases hy⟩, Ext.refl _⟩
  case round =>
    obtain ⟨k, ab, m, cp, ys, hg, rfl, rfl, hown, hx⟩ := hrel
    by_cases hk : k < evs.length
    · obtain ⟨b, o, rfl, hc⟩ := HEV.out.sl.get k hk
      have hE : Ext w wr := Ext.trans (((Ext.trans (((Ext.refl w).alloc _).alloc _) HX1.out)).setCell (Nat.le_refl _) _) hx.out
      have d0 := cells1 (w := wr) (b := b) (o := o + k * 1) (x := evs[k]) (fun j v hj => hE.keep (hc j v hj))
      rw [Nat.mul_one] at d0
      have HV := hid ((HEV.out.ats evs[k] (List.getElem_mem hk)).ext hE)
      have hvn : evs[k].v.n ≤ 100 := by rw [HV.out.neq]; exact HA.out _ (List.getElem_mem hk)
      have hmk : m ≤ 100 := by
        have h1 := congrArg List.length hown.out.2.1
        rw [List.length_map, List.length_map, List.length_take] at h1
        have h2 := hown.out.1.neq
        omega
      have hzw : w1.heap.size ≤ wr.heap.size := by have := hx.out.size; simpa [World.setCell] using this
      clear hc hE
      have b0 : (0 : Int) ≤ (k : Int) := by omega
      have b1 : (k : Int) < (evs.length : Int) := by omega
      clear c0 c1 c2 c3 c4 c5 c6 c7 r0 r1 r2 r3 r4 r5 r6 r7 fz fy
      go_wp2_with (first | (at_builtin; refine appAll (ys := evs[k].ats) rfl (.const (.slice none 0 0)) (.tmp 18) 88 99 rfl k0 _ 48 Try.underlying88 K1.out K2.out K3.out K4.out rfl (by decide) rfl w1.heap.size rfl HV.out AT.one (by omega) (by decide) hzw ?_; intro ac cp2 w2 hown2 hx2 hfr2; have HO2 := hid hown2; have HX2 := hid hx2; clear hown2 hx2 hfr2) | (at_builtin; refine app1 (ys := ys) rfl (.tmp 17) (.tmp 20) 48 rfl j0 _ 24 Try.underlying48 J1.out J2.out J3.out J4.out rfl (by decide) rfl (hown.out.1.ext (HX2.out.alloc _)) ⟨⟨ac, evs[k].v.n, cp2⟩, evs[k].ats⟩ _ rfl (news_alloc (cs := EvV.cs ⟨⟨ac, evs[k].v.n, cp2⟩, evs[k].ats⟩) rfl) (EvV.one _) (by omega) (by decide) (Nat.le_trans hzw (HX2.out.alloc _).size) ?_; intro g cp3 w3 hown3 hgrow; have HO3 := hid hown3; have HG := hid hgrow; clear hown3 hgrow))
      go_roundg (gk - 1)
      case measure => omega
      case rel =>
        have oe := hown.out.1.ext (HX2.out.alloc (.cells #[.slice ac evs[k].v.n cp2] 88))
        refine ⟨k + 1, _, _, _, ys ++ [⟨⟨ac, evs[k].v.n, cp2⟩, evs[k].ats⟩], by omega, by go_num, rfl, ⟨HO3.out, ?_, fun y hy => ?_⟩, HG.out.ext oe (by simp [World.setCell]) (Ext.trans hx.out (HX2.out.alloc _))⟩
        · rw [List.map_append, hown.out.2.1, List.take_succ_eq_append_getElem hk, List.map_append]; rfl
        · rcases List.mem_append.1 hy with hy | hy
          · have oy := (hown.out.2.2 y hy).ext (HX2.out.alloc (.cells #[.slice ac evs[k].v.n cp2] 88))
            exact HG.out.own oy (oe.ne oy (by decide))
          · obtain rfl := List.mem_singleton.1 hy
            have oy := HO2.out.ext ((Ext.refl w2).alloc (.cells #[.slice ac evs[k].v.n cp2] 88))
            exact HG.out.own oy (oe.ne oy (by decide))
    · have hk' : evs.take k = evs := List.take_of_length_le (by omega)
      rw [hk'] at hown
      have hzw : w1.heap.size ≤ wr.heap.size := by have := hx.out.size; simpa [World.setCell] using this
      have q0 : wr.cell? ⟨w.heap.size, 0, none⟩ = some (.int .i64 xk) := hx.out.keep ((World.cell?_setCell_other _ _ _ _ (by simp)).trans c0)
      have q1 : wr.cell? ⟨w.heap.size, 1, none⟩ = some (.int .i64 xi.b) := hx.out.keep ((World.cell?_setCell_other _ _ _ _ (by simp)).trans c1)
      have q2 : wr.cell? ⟨w.heap.size, 2, none⟩ = some (.int .u64 xi.l) := hx.out.keep ((World.cell?_setCell_other _ _ _ _ (by simp)).trans c2)
      have q3 : wr.cell? ⟨w.heap.size, 3, none⟩ = some (.int .u64 xi.s) := hx.out.keep ((World.cell?_setCell_other _ _ _ _ (by simp)).trans c3)
      have q4 : wr.cell? ⟨w.heap.size, 4, none⟩ = some (.int .i64 xc) := hx.out.keep ((World.cell?_setCell_other _ _ _ _ (by simp)).trans c4)
      have q5 : wr.cell? ⟨w.heap.size, 5, none⟩ = some (.int .u64 xu) := hx.out.keep ((World.cell?_setCell_other _ _ _ _ (by simp)).trans c5)
      have q6 : wr.cell? ⟨w.heap.size, 6, none⟩ = some (.slice aa fn cap') := hx.out.keep (World.cell?_setCell_same _ _ _ c6)
      have q7 : wr.cell? ⟨w.heap.size, 7, none⟩ = some (.slice ea evs.length ec) := hx.out.keep ((World.cell?_setCell_other _ _ _ _ (by simp)).trans c7)
      have s0 : wr.cell? ⟨w.heap.size + 1, 0, none⟩ = some (.int .i64 0) := hx.out.keep ((World.cell?_setCell_other _ _ _ _ (by simp)).trans r0)
      have s1 : wr.cell? ⟨w.heap.size + 1, 1, none⟩ = some (.int .i64 0) := hx.out.keep ((World.cell?_setCell_other _ _ _ _ (by simp)).trans r1)
      have s2 : wr.cell? ⟨w.heap.size + 1, 2, none⟩ = some (.int .u64 0) := hx.out.keep ((World.cell?_setCell_other _ _ _ _ (by simp)).trans r2)
      have s3 : wr.cell? ⟨w.heap.size + 1, 3, none⟩ = some (.int .u64 0) := hx.out.keep ((World.cell?_setCell_other _ _ _ _ (by simp)).trans r3)
      have s4 : wr.cell? ⟨w.heap.size + 1, 4, none⟩ = some (.int .i64 0) := hx.out.keep ((World.cell?_setCell_other _ _ _ _ (by simp)).trans r4)
      have s5 : wr.cell? ⟨w.heap.size + 1, 5, none⟩ = some (.int .u64 0) := hx.out.keep ((World.cell?_setCell_other _ _ _ _ (by simp)).trans r5)
      have s6 : wr.cell? ⟨w.heap.size + 1, 6, none⟩ = some (.slice none 0 0) := hx.out.keep ((World.cell?_setCell_other _ _ _ _ (by simp)).trans r6)
      have s7 : wr.cell? ⟨w.heap.size + 1, 7, none⟩ = some (.slice none 0 0) := hx.out.keep ((World.cell?_setCell_other _ _ _ _ (by simp)).trans r7)
      have gz : ∀ j, wr.frozen? ⟨w.heap.size, j, none⟩ = false := fun j => (hx.out.frozen _ _ (by simpa [World.setCell] using hzy)).trans (by simp [fz])
      have gy : ∀ j, wr.frozen? ⟨w.heap.size + 1, j, none⟩ = false := fun j => (hx.out.frozen _ _ (by simpa [World.setCell] using hzz)).trans (by simp [fy])
      clear c0 c1 c2 c3 c4 c5 c6 c7 r0 r1 r2 r3 r4 r5 r6 r7 fz fy
      have hE : Ext w wr := Ext.trans (((Ext.trans (((Ext.refl w).alloc _).alloc _) HX1.out)).setCell (Nat.le_refl _) _) hx.out
      have OF := (HO1.out.far (p := ⟨w.heap.size, 6, none⟩) (Nat.lt_succ_of_lt (Nat.lt_succ_self _)) (.slice aa fn cap')).ext hx.out
      have HOF := hid OF
      have HE := hid hE
      clear OF hE
      go_wp2_with fail
      refine bodyPost_ret (v := .agg #[.int .i64 xk, .int .i64 xi.b, .int .u64 xi.l, .int .u64 xi.s, .int .i64 xc, .int .u64 xu, .slice aa fn cap', .slice ab m cp]) (by simp [results, Try.results55, go_sem, s0, s1, s2, s3, s4, s5, s6, s7]) rfl ⟨⟨xk, xi, xc, xu, ⟨aa, fn, cap'⟩, ⟨ab, m, cp⟩⟩, rfl, ⟨HI.out.k, HI.out.id, HI.out.c, HI.out.u, Own.mono (base := w.heap.size + 1 + 1) ?_ (Nat.le_succ_of_le (Nat.le_succ _)), ys, by rw [hown.out.2.1, HES.out], Own.mono (base := w1.heap.size) ?_ (Nat.le_of_lt hzy), fun y hy => Own.mono (base := w1.heap.size) ?_ (Nat.le_of_lt hzy)⟩, ?_⟩
      · (repeat (first | with_reducible exact HOF.out | refine Own.far ?_ (by first | exact Nat.lt_succ_of_lt (Nat.lt_succ_self _) | exact Nat.lt_succ_self _) _))
      · (repeat (first | with_reducible exact hown.out.1 | refine Own.far ?_ (by first | exact hzy | exact hzz) _))
      · (repeat (first | with_reducible exact hown.out.2.2 y hy | refine Own.far ?_ (by first | exact hzy | exact hzz) _))
      · (repeat (first | with_reducible exact HE.out | refine Ext.setCell ?_ (by first | exact Nat.le_refl _ | exact Nat.le_succ _) _))

end Go.Proofs.Ytncadipipomebaa
