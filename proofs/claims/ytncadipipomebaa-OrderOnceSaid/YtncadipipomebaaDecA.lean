/- The closures of order's Decide: each appends to the slice in its box. -/
import Derived.Test.YtncadipipomebaaProm
import Derived.Test.YtncadipipomebaaStep1
import Derived.Test.YtncadipipomebaaAwake
import Derived.OneCell
import Derived.Deep.RegionHeld3
import Derived.Deep.RegionLaw
namespace Go.Proofs.Ytncadipipomebaa
open Go.RowKit
attribute [local go_sem ↓] Go.wp_at_zero Go.wp_at_succ

theorem Ext.blk {W w : World} (h : Ext W w) {b : Nat} {o : Obj} (hb : W.heap[b]? = some o) : w.heap[b]? = some o := (h.block _ (lt_of_block hb)).trans hb
theorem Grow.blk {w w' : World} {aa : Option Addr} {g : Nat} (h : Grow w w' aa g) {b : Nat} {o : Obj} (hb : w.heap[b]? = some o) (hne : ∀ ad, aa = some ad → ad.block ≠ b) : w'.heap[b]? = some o := (h.block _ (lt_of_block hb) hne).trans hb
theorem But.blk {w w' : World} {aa : Option Addr} {B : Nat} (h : But w w' B aa) {b : Nat} {o : Obj} (hb : w.heap[b]? = some o) (hB : b ≠ B) (hne : ∀ ad, aa = some ad → ad.block ≠ b) : w'.heap[b]? = some o := (h.block _ (lt_of_block hb) hB hne).trans hb
/-- What a closure that appends to the slice in box 'cb' leaves. -/
def AppR {α : Type} (base cb : Nat) (t e : TypeId) (sz : Nat) (c : α → List Value) (aa : Option Addr) (n : Nat) (ys : List α) (Y : World → α → Prop) (w : World) (r : Ending) (w' : World) : Prop :=
  r = .returned (.tuple #[]) ∧ ∃ g cap' y, Own w' base e sz c (some ⟨g, 0, none⟩) (n + 1) cap' (ys ++ [y]) ∧ Y w' y ∧ w'.heap[cb]? = some (.cells #[.slice (some ⟨g, 0, none⟩) (n + 1) cap'] t (0, 0)) ∧ But w w' cb aa ∧ ((∃ ad, aa = some ad ∧ ad.block = g) ∨ w.heap.size ≤ g)
set_option maxRecDepth 100000 in
set_option maxHeartbeats 2000000 in
theorem dec2_any (x : EV) (d : ED) (base cb : Nat) (aa : Option Addr) (n cap : Nat) (ys : List EP) (w : World) (hI : EntryIs w x d) (hsm : Small d) (hO : Own w base 50 8 EP.cs aa n cap ys) (hcb : cb < base) (hbw : base ≤ w.heap.size)
    (hc : w.heap[cb]? = some (.cells #[.slice aa n cap] 24 (0, 0))) (hn : n ≤ 1000000) :
    Calls Try.prog 57 #[.agg #[.int .i64 x.k, .int .i64 x.id.b, .int .u64 x.id.l, .int .u64 x.id.s, .int .i64 x.c, .int .u64 x.u, .slice x.f.a x.f.n x.f.c, .slice x.e.a x.e.n x.e.c], .pointer (some ⟨cb, 0, none⟩)] w (AppR base cb 24 50 8 EP.cs aa n ys (fun w' y => y.d = d ∧ EntryOwn w' base y.x y.d) w) := by
  obtain ⟨i0, hi, hz0, hz1, hz2⟩ := info_parts infoE
  have I1 := hid hi
  have I2 := hid hz0
  have I3 := hid hz1
  have I4 := hid hz2
  have HI := hid hI
  have HSM := hid hsm
  have HO := hid hO
  have HBase := hid hbw
  have NE1 := hid (show ∀ ad, aa = some ad → ad.block ≠ cb from fun ad ha => by have := (hO.lt ad ha).1; omega)
  have NE2 := hid (show ∀ ad, aa = some ad → ad.block ≠ w.heap.size from fun ad ha => by have := (hO.lt ad ha).2; omega)
  have k0 : (w.alloc (Obj.cells #[.int .i64 x.k, .int .i64 x.id.b, .int .u64 x.id.l, .int .u64 x.id.s, .int .i64 x.c, .int .u64 x.u, .slice x.f.a x.f.n x.f.c, .slice x.e.a x.e.n x.e.c] 50)).heap[cb]? = some (.cells #[.slice aa n cap] 24 (0, 0)) := ((Ext.refl w).alloc _).blk hc
  have k1 := cell_of_one k0
  have k2 := free_of_one k0
  clear hI hsm hO hi hz0 hz1 hz2 hc
  go_enter Try.func57, Try.ntmps57
  go_wp2_with fail
  go_region_law (first | (refine step1 (ys := ys) rfl (.tmp 3) (.tmp 6) 24 rfl i0 _ 96 Try.underlying24 I1.out I2.out I3.out I4.out rfl (by decide) rfl (HO.out.ext (by (repeat (first | exact Ext.refl _ | refine Ext.alloc ?_ _ | refine Ext.drewN ?_ _ | refine Ext.drew ?_ | refine Ext.trans ?_ (Hid.out (by assumption)))))) ⟨x', d⟩ _ rfl (news_alloc (cs := EP.cs ⟨x', d⟩) rfl) (EP.one _) (by omega) (by decide) (Nat.le_trans HBase.out (Ext.size (by (repeat (first | exact Ext.refl _ | refine Ext.alloc ?_ _ | refine Ext.drewN ?_ _ | refine Ext.drew ?_ | refine Ext.trans ?_ (Hid.out (by assumption))))))) ?_; intro g cap' w3 hown3 hgrow; have HO3 := hid hown3; have kk0 := hgrow.blk (((Ext.refl _).alloc _).blk k0) NE1.out; have kk1 := cell_of_one kk0; have kk2 := free_of_one kk0; have HG := hid hgrow; clear hown3 hgrow) | (rw [if_pos (show _ = true by simp [Region.wanted])]; go_simp; go_at_call 55; refine (owhole_any x d _ (HI.out.ext (by (repeat (first | exact Ext.refl _ | refine Ext.alloc ?_ _ | refine Ext.drewN ?_ _ | refine Ext.drew ?_ | refine Ext.trans ?_ (Hid.out (by assumption)))))) HSM.out).mono ?_; rintro e wq ⟨x', rfl, hEO, hb⟩; have hb0 := hb.size; have HEO := hid hEO; have k0 := hb.blk (by assumption); have k1 := cell_of_one k0; have k2 := free_of_one k0; have hcw := lt_of_block k0; have hy := hid hb; clear hb hEO))
  all_goals
    go_end0
    refine ⟨rfl, g, cap', ⟨x', d⟩, HO3.out.far hcb _, ⟨rfl, ((((HEO.out.mono (Nat.le_trans HBase.out (Ext.size (by (repeat (first | exact Ext.refl _ | refine Ext.alloc ?_ _ | refine Ext.drewN ?_ _ | refine Ext.drew ?_ | refine Ext.trans ?_ (Hid.out (by assumption)))))))).ext (by (repeat (first | exact Ext.refl _ | refine Ext.alloc ?_ _ | refine Ext.drewN ?_ _ | refine Ext.drew ?_ | refine Ext.trans ?_ (Hid.out (by assumption)))))).grow HG.out (HO.out.ext (by (repeat (first | exact Ext.refl _ | refine Ext.alloc ?_ _ | refine Ext.drewN ?_ _ | refine Ext.drew ?_ | refine Ext.trans ?_ (Hid.out (by assumption)))))) (by decide) (by decide) (by decide)).far hcb _)⟩, one_setCell kk0, But.of (by (repeat (first | exact Ext.refl _ | refine Ext.alloc ?_ _ | refine Ext.drewN ?_ _ | refine Ext.drew ?_ | refine Ext.trans ?_ (Hid.out (by assumption))))) HG.out ⟨cb, 0, none⟩ _, ?_⟩
    rcases HG.out.at_ with h | h
    · exact .inl h
    · exact .inr (by rw [h]; exact Ext.size (by (repeat (first | exact Ext.refl _ | refine Ext.alloc ?_ _ | refine Ext.drewN ?_ _ | refine Ext.drew ?_ | refine Ext.trans ?_ (Hid.out (by assumption))))))

set_option maxRecDepth 100000 in
set_option maxHeartbeats 2000000 in
theorem dec1_any (x : EV) (d : ED) (base cb : Nat) (aa : Option Addr) (n cap : Nat) (ys : List EP) (w : World) (hI : EntryIs w x d) (hsm : Small d) (hO : Own w base 50 8 EP.cs aa n cap ys) (hcb : cb < base) (hbw : base ≤ w.heap.size)
    (hc : w.heap[cb]? = some (.cells #[.slice aa n cap] 24 (0, 0))) (hn : n ≤ 1000000) :
    Calls Try.prog 56 #[.agg #[.int .i64 x.k, .int .i64 x.id.b, .int .u64 x.id.l, .int .u64 x.id.s, .int .i64 x.c, .int .u64 x.u, .slice x.f.a x.f.n x.f.c, .slice x.e.a x.e.n x.e.c], .pointer (some ⟨cb, 0, none⟩)] w (AppR base cb 24 50 8 EP.cs aa n ys (fun w' y => y.d = d ∧ EntryOwn w' base y.x y.d) w) := by
  obtain ⟨i0, hi, hz0, hz1, hz2⟩ := info_parts infoE
  have I1 := hid hi
  have I2 := hid hz0
  have I3 := hid hz1
  have I4 := hid hz2
  have HI := hid hI
  have HSM := hid hsm
  have HO := hid hO
  have HBase := hid hbw
  have NE1 := hid (show ∀ ad, aa = some ad → ad.block ≠ cb from fun ad ha => by have := (hO.lt ad ha).1; omega)
  have NE2 := hid (show ∀ ad, aa = some ad → ad.block ≠ w.heap.size from fun ad ha => by have := (hO.lt ad ha).2; omega)
  have k0 : (w.alloc (Obj.cells #[.int .i64 x.k, .int .i64 x.id.b, .int .u64 x.id.l, .int .u64 x.id.s, .int .i64 x.c, .int .u64 x.u, .slice x.f.a x.f.n x.f.c, .slice x.e.a x.e.n x.e.c] 50)).heap[cb]? = some (.cells #[.slice aa n cap] 24 (0, 0)) := ((Ext.refl w).alloc _).blk hc
  have k1 := cell_of_one k0
  have k2 := free_of_one k0
  clear hI hsm hO hi hz0 hz1 hz2 hc
  go_enter Try.func56, Try.ntmps56
  go_wp2_with fail
  go_region_law (first | (refine step1 (ys := ys) rfl (.tmp 3) (.tmp 6) 24 rfl i0 _ 96 Try.underlying24 I1.out I2.out I3.out I4.out rfl (by decide) rfl (HO.out.ext (by (repeat (first | exact Ext.refl _ | refine Ext.alloc ?_ _ | refine Ext.drewN ?_ _ | refine Ext.drew ?_ | refine Ext.trans ?_ (Hid.out (by assumption)))))) ⟨x', d⟩ _ rfl (news_alloc (cs := EP.cs ⟨x', d⟩) rfl) (EP.one _) (by omega) (by decide) (Nat.le_trans HBase.out (Ext.size (by (repeat (first | exact Ext.refl _ | refine Ext.alloc ?_ _ | refine Ext.drewN ?_ _ | refine Ext.drew ?_ | refine Ext.trans ?_ (Hid.out (by assumption))))))) ?_; intro g cap' w3 hown3 hgrow; have HO3 := hid hown3; have kk0 := hgrow.blk (((Ext.refl _).alloc _).blk k0) NE1.out; have kk1 := cell_of_one kk0; have kk2 := free_of_one kk0; have HG := hid hgrow; clear hown3 hgrow) | (rw [if_pos (show _ = true by simp [Region.wanted])]; go_simp; go_at_call 55; refine (owhole_any x d _ (HI.out.ext (by (repeat (first | exact Ext.refl _ | refine Ext.alloc ?_ _ | refine Ext.drewN ?_ _ | refine Ext.drew ?_ | refine Ext.trans ?_ (Hid.out (by assumption)))))) HSM.out).mono ?_; rintro e wq ⟨x', rfl, hEO, hb⟩; have hb0 := hb.size; have HEO := hid hEO; have k0 := hb.blk (by assumption); have k1 := cell_of_one k0; have k2 := free_of_one k0; have hcw := lt_of_block k0; have hy := hid hb; clear hb hEO))
  all_goals
    go_end0
    refine ⟨rfl, g, cap', ⟨x', d⟩, HO3.out.far hcb _, ⟨rfl, ((((HEO.out.mono (Nat.le_trans HBase.out (Ext.size (by (repeat (first | exact Ext.refl _ | refine Ext.alloc ?_ _ | refine Ext.drewN ?_ _ | refine Ext.drew ?_ | refine Ext.trans ?_ (Hid.out (by assumption)))))))).ext (by (repeat (first | exact Ext.refl _ | refine Ext.alloc ?_ _ | refine Ext.drewN ?_ _ | refine Ext.drew ?_ | refine Ext.trans ?_ (Hid.out (by assumption)))))).grow HG.out (HO.out.ext (by (repeat (first | exact Ext.refl _ | refine Ext.alloc ?_ _ | refine Ext.drewN ?_ _ | refine Ext.drew ?_ | refine Ext.trans ?_ (Hid.out (by assumption)))))) (by decide) (by decide) (by decide)).far hcb _)⟩, one_setCell kk0, But.of (by (repeat (first | exact Ext.refl _ | refine Ext.alloc ?_ _ | refine Ext.drewN ?_ _ | refine Ext.drew ?_ | refine Ext.trans ?_ (Hid.out (by assumption))))) HG.out ⟨cb, 0, none⟩ _, ?_⟩
    rcases HG.out.at_ with h | h
    · exact .inl h
    · exact .inr (by rw [h]; exact Ext.size (by (repeat (first | exact Ext.refl _ | refine Ext.alloc ?_ _ | refine Ext.drewN ?_ _ | refine Ext.drew ?_ | refine Ext.trans ?_ (Hid.out (by assumption))))))

set_option maxRecDepth 100000 in
set_option maxHeartbeats 2000000 in
theorem dec3_any (x : EV) (d : ED) (base cb : Nat) (aa : Option Addr) (n cap : Nat) (ys : List Id) (w : World) (hI : EntryIs w x d) (hO : Own w base 30 3 Id.cs aa n cap ys) (hcb : cb < base) (hbw : base ≤ w.heap.size)
    (hc : w.heap[cb]? = some (.cells #[.slice aa n cap] 25 (0, 0))) (hn : n ≤ 1000000) :
    Calls Try.prog 58 #[.agg #[.int .i64 x.k, .int .i64 x.id.b, .int .u64 x.id.l, .int .u64 x.id.s, .int .i64 x.c, .int .u64 x.u, .slice x.f.a x.f.n x.f.c, .slice x.e.a x.e.n x.e.c], .pointer (some ⟨cb, 0, none⟩)] w (AppR base cb 25 30 3 Id.cs aa n ys (fun _ y => y = d.id) w) := by
  obtain ⟨i0, hi, hz0, hz1, hz2⟩ := info_parts infoId
  obtain ⟨xk, xi, xc, xu, xf, xe⟩ := x
  obtain rfl : xi = d.id := hI.id
  have I1 := hid hi
  have I2 := hid hz0
  have I3 := hid hz1
  have I4 := hid hz2
  have HO := hid hO
  have HBase := hid hbw
  have NE1 := hid (show ∀ ad, aa = some ad → ad.block ≠ cb from fun ad ha => by have := (hO.lt ad ha).1; omega)
  have k0 : (w.alloc (Obj.cells #[.int .i64 (EV.mk xk d.id xc xu xf xe).k, .int .i64 (EV.mk xk d.id xc xu xf xe).id.b, .int .u64 (EV.mk xk d.id xc xu xf xe).id.l, .int .u64 (EV.mk xk d.id xc xu xf xe).id.s, .int .i64 (EV.mk xk d.id xc xu xf xe).c, .int .u64 (EV.mk xk d.id xc xu xf xe).u, .slice (EV.mk xk d.id xc xu xf xe).f.a (EV.mk xk d.id xc xu xf xe).f.n (EV.mk xk d.id xc xu xf xe).f.c, .slice (EV.mk xk d.id xc xu xf xe).e.a (EV.mk xk d.id xc xu xf xe).e.n (EV.mk xk d.id xc xu xf xe).e.c] 50)).heap[cb]? = some (.cells #[.slice aa n cap] 25 (0, 0)) := ((Ext.refl w).alloc _).blk hc
  have k1 := cell_of_one k0
  have k2 := free_of_one k0
  have hcw := lt_of_block hc
  clear hI hO hi hz0 hz1 hz2 hc
  dsimp only at k0 k1 k2 ⊢
  go_enter Try.func58, Try.ntmps58
  go_wp2_with (at_builtin; refine app1 (ys := ys) rfl (.tmp 3) (.tmp 6) 25 rfl i0 _ 24 Try.underlying25 I1.out I2.out I3.out I4.out rfl (by decide) rfl (HO.out.ext (by (repeat (first | exact Ext.refl _ | refine Ext.alloc ?_ _ | refine Ext.drewN ?_ _ | refine Ext.drew ?_ | refine Ext.trans ?_ (Hid.out (by assumption)))))) d.id _ rfl (news_alloc (cs := Id.cs d.id) (by simp)) (Id.one _) (by omega) (by decide) (Nat.le_trans HBase.out (Ext.size (by (repeat (first | exact Ext.refl _ | refine Ext.alloc ?_ _ | refine Ext.drewN ?_ _ | refine Ext.drew ?_ | refine Ext.trans ?_ (Hid.out (by assumption))))))) ?_; intro g cap' w3 hown3 hgrow; have HO3 := hid hown3; have kk0 := hgrow.blk (((Ext.refl _).alloc _).blk k0) NE1.out; have kk1 := cell_of_one kk0; have kk2 := free_of_one kk0; have HG := hid hgrow; clear hown3 hgrow)
  go_end0
  refine ⟨rfl, g, cap', d.id, HO3.out.far hcb _, rfl, one_setCell kk0, But.of (by (repeat (first | exact Ext.refl _ | refine Ext.alloc ?_ _ | refine Ext.drewN ?_ _ | refine Ext.drew ?_ | refine Ext.trans ?_ (Hid.out (by assumption))))) HG.out ⟨cb, 0, none⟩ _, ?_⟩
  rcases HG.out.at_ with h | h
  · exact .inl h
  · exact .inr (by rw [h]; exact Ext.size (by (repeat (first | exact Ext.refl _ | refine Ext.alloc ?_ _ | refine Ext.drewN ?_ _ | refine Ext.drew ?_ | refine Ext.trans ?_ (Hid.out (by assumption))))))
end Go.Proofs.Ytncadipipomebaa
