/- Subscriptions behind an entry: the walk of the program's Apply. -/
import Derived.Test.YtiifflojpoobpaaGreatApp2
import Derived.Deep.DeepCutAuto
import Derived.Laws.EntriesVeiled
set_option linter.unusedVariables false
set_option linter.unusedSimpArgs false
namespace Go.Proofs.YtiifflojpoobpaaGreat
open Go.RowKit

theorem ahead_any (x : SB) (eb sb : Nat) (c u : Int) (w : World) (h4 : w.cell? ⟨eb, 4, none⟩ = some (.int .i64 c)) (h5 : w.cell? ⟨eb, 5, none⟩ = some (.int .u64 u)) (hs : w.cell? ⟨sb, 0, none⟩ = some (.func (.func 28) #[] #[.pointer (some ⟨eb, 0, none⟩)])) :
    Calls Tryz.prog 32 #[.agg #[.int .i64 x.c, .int .u64 x.u, .slice x.f.a x.f.n x.f.c], .pointer (some ⟨sb, 0, none⟩)] w fun e w' => e = .returned (.bool (decide (sideI x.d c u < 0))) ∧ Ext w w' := by
  have k4 := ((Ext.refl w).alloc (Obj.cells #[.int .i64 x.c, .int .u64 x.u, .slice x.f.a x.f.n x.f.c] 57)).keep h4
  have k5 := ((Ext.refl w).alloc (Obj.cells #[.int .i64 x.c, .int .u64 x.u, .slice x.f.a x.f.n x.f.c] 57)).keep h5
  have ks := ((Ext.refl w).alloc (Obj.cells #[.int .i64 x.c, .int .u64 x.u, .slice x.f.a x.f.n x.f.c] 57)).keep hs
  go_enter Tryz.func32, Tryz.ntmps32
  go_wp2_with fail
  refine (side_any x eb c u _ k4 k5).mono ?_
  rintro e w1 ⟨rfl, hb⟩
  have hy := hid hb
  clear hb
  go_wp2
  go_ret
  refine ⟨ret_bool (by simp), ?_⟩
  (repeat (first | exact Ext.refl _ | refine Ext.alloc ?_ _ | refine Ext.drewN ?_ _ | refine Ext.drew ?_ | refine Ext.trans ?_ (Hid.out (by assumption))))
theorem behind_any (x : SB) (eb sb : Nat) (c u : Int) (w : World) (h4 : w.cell? ⟨eb, 4, none⟩ = some (.int .i64 c)) (h5 : w.cell? ⟨eb, 5, none⟩ = some (.int .u64 u)) (hs : w.cell? ⟨sb, 0, none⟩ = some (.func (.func 28) #[] #[.pointer (some ⟨eb, 0, none⟩)])) :
    Calls Tryz.prog 33 #[.agg #[.int .i64 x.c, .int .u64 x.u, .slice x.f.a x.f.n x.f.c], .pointer (some ⟨sb, 0, none⟩)] w fun e w' => e = .returned (.bool (decide (0 < sideI x.d c u))) ∧ Ext w w' := by
  have k4 := ((Ext.refl w).alloc (Obj.cells #[.int .i64 x.c, .int .u64 x.u, .slice x.f.a x.f.n x.f.c] 57)).keep h4
  have k5 := ((Ext.refl w).alloc (Obj.cells #[.int .i64 x.c, .int .u64 x.u, .slice x.f.a x.f.n x.f.c] 57)).keep h5
  have ks := ((Ext.refl w).alloc (Obj.cells #[.int .i64 x.c, .int .u64 x.u, .slice x.f.a x.f.n x.f.c] 57)).keep hs
  go_enter Tryz.func33, Tryz.ntmps33
  go_wp2_with fail
  refine (side_any x eb c u _ k4 k5).mono ?_
  rintro e w1 ⟨rfl, hb⟩
  have hy := hid hb
  clear hb
  go_wp2
  go_ret
  refine ⟨ret_bool (by simp), ?_⟩
  (repeat (first | exact Ext.refl _ | refine Ext.alloc ?_ _ | refine Ext.drewN ?_ _ | refine Ext.drew ?_ | refine Ext.trans ?_ (Hid.out (by assumption))))
theorem filter_d {xs : List SB} (p : SD → Bool) : (xs.filter (fun s => p s.d)).map SB.d = (xs.map SB.d).filter p := by
  rw [List.filter_map]; rfl
/-- Subscriptions that a call gives back. -/
def RetSubs (l : List SD) (w : World) (e : Ending) (w' : World) : Prop := ∃ aa n cap ys, e = .returned (.slice aa n cap) ∧ Subs w' aa n cap ys ∧ ys.map SB.d = l ∧ Ext w w'
set_option maxRecDepth 100000 in
theorem apply0_any (a : Option Addr) (n cap : Nat) (xs : List SB) (x : EV) (d : ED) (w : World) (hS : Subs w a n cap xs) (hI : EntryIs w x d) (hL : ∀ s, s ∈ xs → s.ts.length ≤ 1000) (hn : n ≤ 1000) (hf : d.ts.length ≤ 1000) (h2 : d.k ≠ 2) (h3 : d.k ≠ 3) :
    Calls Tryz.prog 7 #[.slice a n cap, .agg #[.int .i64 x.k, .int .i64 x.id.b, .int .u64 x.id.l, .int .u64 x.id.s, .int .i64 x.c, .int .u64 x.u, .slice x.f.a x.f.n x.f.c, .slice x.e.a x.e.n x.e.c]] w (RetSubs (applyD (xs.map SB.d) d) w) := by
  obtain ⟨i0, hi, hz0, hz1, hz2⟩ := info_parts infoS
  have I1 := hid hi
  have I2 := hid hz0
  have I3 := hid hz1
  have I4 := hid hz2
  clear hi hz0 hz1 hz2
  obtain rfl := hS.sl.neq
  have HS := hid hS
  have HI := hid hI
  have HL := hid hL
  have hm := hS.sl.max
  have hl := hS.sl.len
  unfold maxLen at hm
  clear hS hI hL
  have hk2 : x.k ≠ 2 := by rw [HI.out.k]; exact h2
  have hk3 : x.k ≠ 3 := by rw [HI.out.k]; exact h3
  have ke := hid (show applyD (xs.map SB.d) d = xs.map SB.d from by unfold applyD; rw [if_neg (by omega)])
  have q2 : (x.k != 2) = true := by simp [hk2]
  have q3 : (x.k != 3) = true := by simp [hk3]
  clear h2 h3
  go_enter Tryz.func7, Tryz.ntmps7
  go_wp2_with fail
  refine (keepS0_any _ _ _ xs (fun _ => true) 27 () _ (HS.out.sl.ext (by (repeat (first | exact Ext.refl _ | refine Ext.alloc ?_ _ | refine Ext.drewN ?_ _ | refine Ext.drew ?_ | refine Ext.trans ?_ (Hid.out (by assumption)))))) (by omega) (fun _ _ => by kernel_rfl) (fun s _ w' _ => apply1_any s w')).mono ?_
  rintro e w1 ⟨aa, m, cp, rfl, hO, hb⟩
  rw [List.filter_eq_self.2 (fun _ _ => rfl)] at hO
  have hy := hid hb
  have HO := hid hO
  clear hb hO
  go_wp2_with fail
  refine (own_any _ _ _ xs _ w1 HO.out hy.out (fun y hm => (HS.out.ts y hm).ext (by (repeat (first | exact Ext.refl _ | refine Ext.alloc ?_ _ | refine Ext.drewN ?_ _ | refine Ext.drew ?_ | refine Ext.trans ?_ (Hid.out (by assumption)))))) (fun y hm => Nat.le_trans (HL.out y hm) (by decide)) (by rw [HO.out.neq]; omega)).mono ?_
  rintro e w2 ⟨zs, rfl, hz, hd, hx⟩
  have hy2 := hid hx
  have HZ := hid hz
  have HD := hid hd
  clear hx hz hd hy
  go_wp2
  go_ret
  refine ⟨_, _, _, zs, rfl, HZ.out, by rw [HD.out, ke.out], ?_⟩
  (repeat (first | exact Ext.refl _ | refine Ext.alloc ?_ _ | refine Ext.drewN ?_ _ | refine Ext.drew ?_ | refine Ext.trans ?_ (Hid.out (by assumption))))

theorem len_f {xs : List SB} {p : SB → Bool} {n m : Nat} (h : m = (xs.filter p).length) (hn : xs.length ≤ n) : m ≤ n := by rw [h]; exact Nat.le_trans (List.length_filter_le _ _) hn
set_option maxRecDepth 100000 in
set_option maxHeartbeats 1000000 in
theorem apply2_any (a : Option Addr) (n cap : Nat) (xs : List SB) (x : EV) (d : ED) (w : World) (hS : Subs w a n cap xs) (hI : EntryIs w x d) (hL : ∀ s, s ∈ xs → s.ts.length ≤ 1000) (hn : n ≤ 1000) (hf : d.ts.length ≤ 1000) (hd : d.k = 2) :
    Calls Tryz.prog 7 #[.slice a n cap, .agg #[.int .i64 x.k, .int .i64 x.id.b, .int .u64 x.id.l, .int .u64 x.id.s, .int .i64 x.c, .int .u64 x.u, .slice x.f.a x.f.n x.f.c, .slice x.e.a x.e.n x.e.c]] w (RetSubs (applyD (xs.map SB.d) d) w) := by
  obtain ⟨i0, hi, hz0, hz1, hz2⟩ := info_parts infoS
  have I1 := hid hi
  have I2 := hid hz0
  have I3 := hid hz1
  have I4 := hid hz2
  clear hi hz0 hz1 hz2
  obtain rfl := hS.sl.neq
  have HS := hid hS
  have HI := hid hI
  have HL := hid hL
  have hm := hS.sl.max
  have hl := hS.sl.len
  unfold maxLen at hm
  clear hS hI hL
  have hk : x.k = 2 := by rw [HI.out.k]; exact hd
  go_enter Tryz.func7, Tryz.ntmps7
  go_upto_region 3 with (fail)
  go_cut [5] (fun v wx => ∃ Wb, Wb = wx ∧ v = .pointer (some ⟨w.heap.size + 1, 0, none⟩) ∧ wx.cell? ⟨w.heap.size, 0, none⟩ = some (.int .i64 x.k) ∧ wx.cell? ⟨w.heap.size, 4, none⟩ = some (.int .i64 x.c) ∧ wx.cell? ⟨w.heap.size, 5, none⟩ = some (.int .u64 x.u) ∧ wx.cell? ⟨w.heap.size, 6, none⟩ = some (.slice x.f.a x.f.n x.f.c) ∧ wx.cell? ⟨w.heap.size + 1, 0, none⟩ = some (.func (.func 28) #[] #[.pointer (some ⟨w.heap.size, 0, none⟩)]) ∧ Hid (Ext w wx))
  case first =>
    go_wp2_with fail
    go_meet
    exact ⟨_, rfl, rfl, (by first | (simp [hk]; done) | exact World.cell?_setCell_same _ _ _ (by simp) | (refine (World.cell?_setCell_other _ _ _ _ ?_).trans ?_ <;> simp [hk])), (by first | (simp [hk]; done) | exact World.cell?_setCell_same _ _ _ (by simp) | (refine (World.cell?_setCell_other _ _ _ _ ?_).trans ?_ <;> simp [hk])), (by first | (simp [hk]; done) | exact World.cell?_setCell_same _ _ _ (by simp) | (refine (World.cell?_setCell_other _ _ _ _ ?_).trans ?_ <;> simp [hk])), (by first | (simp [hk]; done) | exact World.cell?_setCell_same _ _ _ (by simp) | (refine (World.cell?_setCell_other _ _ _ _ ?_).trans ?_ <;> simp [hk])), (by first | (simp [hk]; done) | exact World.cell?_setCell_same _ _ _ (by simp) | (refine (World.cell?_setCell_other _ _ _ _ ?_).trans ?_ <;> simp [hk])), (by (repeat (first | exact Ext.refl _ | refine Ext.alloc ?_ _ | refine Ext.drewN ?_ _ | refine Ext.drew ?_ | refine Ext.trans ?_ (Hid.out (by assumption)))))⟩
  case rest =>
    obtain ⟨Wb, rfl, rfl, b0, b4, b5, b6, bs, hxb⟩ := hcut
    go_wp2_with fail
    refine (keepS_any _ _ _ xs (fun s : SB => decide (sideI s.d x.c x.u < 0)) 32 ⟨w.heap.size + 1, 0, none⟩ Wb (HS.out.sl.ext hxb.out) (by omega) (fun _ _ => by kernel_rfl) (fun s _ w' hw => ahead_any s w.heap.size (w.heap.size + 1) x.c x.u w' (hw.keep b4) (hw.keep b5) (hw.keep bs))).mono ?_
    rintro e w1 ⟨aa, m, cp, rfl, hO, hb1⟩
    have hy1 := hid hb1
    have HO := hid hO
    have hm1 := len_f hO.neq hn
    clear hO hb1
    have c0 := hy1.out.keep b0
    have c4 := hy1.out.keep b4
    have c5 := hy1.out.keep b5
    have c6 := hy1.out.keep b6
    go_wp2_with (at_builtin; refine app1 (ys := xs.filter (fun s : SB => decide (sideI s.d x.c x.u < 0))) rfl (.tmp 25) (.tmp 33) 34 rfl i0 _ 40 Tryz.underlying34 I1.out I2.out I3.out I4.out rfl (by decide) rfl (HO.out.ext (by (repeat (first | exact Ext.refl _ | refine Ext.alloc ?_ _ | refine Ext.drewN ?_ _ | refine Ext.drew ?_ | refine Ext.trans ?_ (Hid.out (by assumption)))))) (⟨x.c, x.u, x.f, d.ts⟩ : SB) _ rfl (news_alloc (cs := SB.cs (⟨x.c, x.u, x.f, d.ts⟩ : SB)) rfl) (SB.one _) (by omega) (by decide) (Ext.size (by (repeat (first | exact Ext.refl _ | refine Ext.alloc ?_ _ | refine Ext.drewN ?_ _ | refine Ext.drew ?_ | refine Ext.trans ?_ (Hid.out (by assumption)))))) ?_; intro g cap' w3 hown3 hgrow; have HO3 := hid hown3; have hx3 := hid (hgrow.ext (HO.out.ext (by (repeat (first | exact Ext.refl _ | refine Ext.alloc ?_ _ | refine Ext.drewN ?_ _ | refine Ext.drew ?_ | refine Ext.trans ?_ (Hid.out (by assumption)))))) (Nat.le_refl _) (by (repeat (first | exact Ext.refl _ | refine Ext.alloc ?_ _ | refine Ext.drewN ?_ _ | refine Ext.drew ?_ | refine Ext.trans ?_ (Hid.out (by assumption)))))); clear hown3 hgrow)
    refine (keepS_any _ _ _ xs (fun s : SB => decide (0 < sideI s.d x.c x.u)) 33 ⟨w.heap.size + 1, 0, none⟩ w3 (HS.out.sl.ext (hxb.out.trans hx3.out)) (by omega) (fun _ _ => by kernel_rfl) (fun s _ w' hw => behind_any s w.heap.size (w.heap.size + 1) x.c x.u w' ((hx3.out.trans hw).keep b4) ((hx3.out.trans hw).keep b5) ((hx3.out.trans hw).keep bs))).mono ?_
    rintro e w4 ⟨ab, m2, cp2, rfl, hO4, hb4⟩
    have hy4 := hid hb4
    have HO4 := hid hO4
    have hm2 := len_f hO4.neq hn
    clear hO4 hb4
    go_wp2_with (at_builtin; refine wpList_plain rfl fun KK hKK => ?_; refine wpOn (c := SB.cs) (ys0 := xs.filter (fun s : SB => decide (sideI s.d x.c x.u < 0)) ++ [(⟨x.c, x.u, x.f, d.ts⟩ : SB)]) (ys := xs.filter (fun s : SB => decide (0 < sideI s.d x.c x.u))) (.tmp 35) (.tmp 38) 34 57 rfl i0 _ 40 Tryz.underlying34 I1.out I2.out I3.out I4.out rfl (by decide) rfl Wb (hx3.out.trans hy4.out) (HO3.out.ext hy4.out) rfl HO4.out.sl SB.one (by omega) (by decide) ?_; intro bb n1 cap1 w6 hn1 hown1 hx hg1; refine hKK _ _ ?_; have HO6 := hid hown1; have hx6 := hid hx; have HN6 := hid hn1; clear hown1 hx hg1 hn1)
    refine (own_any _ _ _ (xs.filter (fun s : SB => decide (sideI s.d x.c x.u < 0)) ++ [(⟨x.c, x.u, x.f, d.ts⟩ : SB)] ++ xs.filter (fun s : SB => decide (0 < sideI s.d x.c x.u))) Wb w6 HO6.out hx6.out ?hF ?hL (by rw [HN6.out]; omega)).mono ?_
    case hF =>
      intro y hy
      rcases List.mem_append.1 hy with hy | hy
      · rcases List.mem_append.1 hy with hy | hy
        · exact (HS.out.ts y (List.mem_filter.1 hy).1).ext hxb.out
        · obtain rfl := List.mem_singleton.1 hy
          exact HI.out.f.ext hxb.out
      · exact (HS.out.ts y (List.mem_filter.1 hy).1).ext hxb.out
    case hL =>
      intro y hy
      rcases List.mem_append.1 hy with hy | hy
      · rcases List.mem_append.1 hy with hy | hy
        · exact Nat.le_trans (HL.out y (List.mem_filter.1 hy).1) (by decide)
        · obtain rfl := List.mem_singleton.1 hy
          exact Nat.le_trans hf (by decide)
      · exact Nat.le_trans (HL.out y (List.mem_filter.1 hy).1) (by decide)
    rintro e w7 ⟨zs, rfl, hz, hd', hx7⟩
    have HZ := hid hz
    have HD := hid hd'
    have hX := hid (hxb.out.trans hx7)
    clear hx7 hz hd'
    go_wp2
    go_ret
    refine ⟨_, _, _, zs, rfl, HZ.out, ?_, hX.out⟩
    rw [HD.out, List.map_append, List.map_append, filter_d (fun s => decide (sideI s x.c x.u < 0)), filter_d (fun s => decide (0 < sideI s x.c x.u)), HI.out.c, HI.out.u]
    unfold applyD
    rw [if_pos (.inl hd), if_pos hd, List.append_assoc]
    rfl
set_option maxRecDepth 100000 in
set_option maxHeartbeats 1000000 in
theorem apply3_any (a : Option Addr) (n cap : Nat) (xs : List SB) (x : EV) (d : ED) (w : World) (hS : Subs w a n cap xs) (hI : EntryIs w x d) (hL : ∀ s, s ∈ xs → s.ts.length ≤ 1000) (hn : n ≤ 1000) (hf : d.ts.length ≤ 1000) (hd : d.k = 3) :
    Calls Tryz.prog 7 #[.slice a n cap, .agg #[.int .i64 x.k, .int .i64 x.id.b, .int .u64 x.id.l, .int .u64 x.id.s, .int .i64 x.c, .int .u64 x.u, .slice x.f.a x.f.n x.f.c, .slice x.e.a x.e.n x.e.c]] w (RetSubs (applyD (xs.map SB.d) d) w) := by
  obtain ⟨i0, hi, hz0, hz1, hz2⟩ := info_parts infoS
  have I1 := hid hi
  have I2 := hid hz0
  have I3 := hid hz1
  have I4 := hid hz2
  clear hi hz0 hz1 hz2
  obtain rfl := hS.sl.neq
  have HS := hid hS
  have HI := hid hI
  have HL := hid hL
  have hm := hS.sl.max
  have hl := hS.sl.len
  unfold maxLen at hm
  clear hS hI hL
  have hk : x.k = 3 := by rw [HI.out.k]; exact hd
  go_enter Tryz.func7, Tryz.ntmps7
  go_upto_region 3 with (fail)
  go_cut [5] (fun v wx => ∃ Wb, Wb = wx ∧ v = .pointer (some ⟨w.heap.size + 1, 0, none⟩) ∧ wx.cell? ⟨w.heap.size, 0, none⟩ = some (.int .i64 x.k) ∧ wx.cell? ⟨w.heap.size, 4, none⟩ = some (.int .i64 x.c) ∧ wx.cell? ⟨w.heap.size, 5, none⟩ = some (.int .u64 x.u) ∧ wx.cell? ⟨w.heap.size, 6, none⟩ = some (.slice x.f.a x.f.n x.f.c) ∧ wx.cell? ⟨w.heap.size + 1, 0, none⟩ = some (.func (.func 28) #[] #[.pointer (some ⟨w.heap.size, 0, none⟩)]) ∧ Hid (Ext w wx))
  case first =>
    go_wp2_with fail
    go_meet
    exact ⟨_, rfl, rfl, (by first | (simp [hk]; done) | exact World.cell?_setCell_same _ _ _ (by simp) | (refine (World.cell?_setCell_other _ _ _ _ ?_).trans ?_ <;> simp [hk])), (by first | (simp [hk]; done) | exact World.cell?_setCell_same _ _ _ (by simp) | (refine (World.cell?_setCell_other _ _ _ _ ?_).trans ?_ <;> simp [hk])), (by first | (simp [hk]; done) | exact World.cell?_setCell_same _ _ _ (by simp) | (refine (World.cell?_setCell_other _ _ _ _ ?_).trans ?_ <;> simp [hk])), (by first | (simp [hk]; done) | exact World.cell?_setCell_same _ _ _ (by simp) | (refine (World.cell?_setCell_other _ _ _ _ ?_).trans ?_ <;> simp [hk])), (by first | (simp [hk]; done) | exact World.cell?_setCell_same _ _ _ (by simp) | (refine (World.cell?_setCell_other _ _ _ _ ?_).trans ?_ <;> simp [hk])), (by (repeat (first | exact Ext.refl _ | refine Ext.alloc ?_ _ | refine Ext.drewN ?_ _ | refine Ext.drew ?_ | refine Ext.trans ?_ (Hid.out (by assumption)))))⟩
  case rest =>
    obtain ⟨Wb, rfl, rfl, b0, b4, b5, b6, bs, hxb⟩ := hcut
    go_wp2_with fail
    refine (keepS_any _ _ _ xs (fun s : SB => decide (sideI s.d x.c x.u < 0)) 32 ⟨w.heap.size + 1, 0, none⟩ Wb (HS.out.sl.ext hxb.out) (by omega) (fun _ _ => by kernel_rfl) (fun s _ w' hw => ahead_any s w.heap.size (w.heap.size + 1) x.c x.u w' (hw.keep b4) (hw.keep b5) (hw.keep bs))).mono ?_
    rintro e w1 ⟨aa, m, cp, rfl, hO, hb1⟩
    have hy1 := hid hb1
    have HO := hid hO
    have hm1 := len_f hO.neq hn
    clear hO hb1
    have c0 := hy1.out.keep b0
    have c4 := hy1.out.keep b4
    have c5 := hy1.out.keep b5
    have c6 := hy1.out.keep b6
    have hx3 := hy1
    have HO3 := HO
    go_wp2_with fail
    refine (keepS_any _ _ _ xs (fun s : SB => decide (0 < sideI s.d x.c x.u)) 33 ⟨w.heap.size + 1, 0, none⟩ w1 (HS.out.sl.ext (hxb.out.trans hx3.out)) (by omega) (fun _ _ => by kernel_rfl) (fun s _ w' hw => behind_any s w.heap.size (w.heap.size + 1) x.c x.u w' ((hx3.out.trans hw).keep b4) ((hx3.out.trans hw).keep b5) ((hx3.out.trans hw).keep bs))).mono ?_
    rintro e w4 ⟨ab, m2, cp2, rfl, hO4, hb4⟩
    have hy4 := hid hb4
    have HO4 := hid hO4
    have hm2 := len_f hO4.neq hn
    clear hO4 hb4
    go_wp2_with (at_builtin; refine wpList_plain rfl fun KK hKK => ?_; refine wpOn (c := SB.cs) (ys0 := xs.filter (fun s : SB => decide (sideI s.d x.c x.u < 0))) (ys := xs.filter (fun s : SB => decide (0 < sideI s.d x.c x.u))) (.tmp 35) (.tmp 38) 34 57 rfl i0 _ 40 Tryz.underlying34 I1.out I2.out I3.out I4.out rfl (by decide) rfl Wb (hx3.out.trans hy4.out) (HO3.out.ext hy4.out) rfl HO4.out.sl SB.one (by omega) (by decide) ?_; intro bb n1 cap1 w6 hn1 hown1 hx hg1; refine hKK _ _ ?_; have HO6 := hid hown1; have hx6 := hid hx; have HN6 := hid hn1; clear hown1 hx hg1 hn1)
    refine (own_any _ _ _ (xs.filter (fun s : SB => decide (sideI s.d x.c x.u < 0)) ++ xs.filter (fun s : SB => decide (0 < sideI s.d x.c x.u))) Wb w6 HO6.out hx6.out ?hF ?hL (by rw [HN6.out]; omega)).mono ?_
    case hF =>
      intro y hy
      rcases List.mem_append.1 hy with hy | hy
      · exact (HS.out.ts y (List.mem_filter.1 hy).1).ext hxb.out
      · exact (HS.out.ts y (List.mem_filter.1 hy).1).ext hxb.out
    case hL =>
      intro y hy
      rcases List.mem_append.1 hy with hy | hy
      · exact Nat.le_trans (HL.out y (List.mem_filter.1 hy).1) (by decide)
      · exact Nat.le_trans (HL.out y (List.mem_filter.1 hy).1) (by decide)
    rintro e w7 ⟨zs, rfl, hz, hd', hx7⟩
    have HZ := hid hz
    have HD := hid hd'
    have hX := hid (hxb.out.trans hx7)
    clear hx7 hz hd'
    go_wp2
    go_ret
    refine ⟨_, _, _, zs, rfl, HZ.out, ?_, hX.out⟩
    rw [HD.out, List.map_append, filter_d (fun s => decide (sideI s x.c x.u < 0)), filter_d (fun s => decide (0 < sideI s x.c x.u)), HI.out.c, HI.out.u]
    unfold applyD
    rw [if_pos (.inr hd), if_neg (by omega)]
    rfl
theorem apply_any (a : Option Addr) (n cap : Nat) (xs : List SB) (x : EV) (d : ED) (w : World) (hS : Subs w a n cap xs) (hI : EntryIs w x d) (hL : ∀ s, s ∈ xs → s.ts.length ≤ 1000) (hn : n ≤ 1000) (hf : d.ts.length ≤ 1000) :
    Calls Tryz.prog 7 #[.slice a n cap, .agg #[.int .i64 x.k, .int .i64 x.id.b, .int .u64 x.id.l, .int .u64 x.id.s, .int .i64 x.c, .int .u64 x.u, .slice x.f.a x.f.n x.f.c, .slice x.e.a x.e.n x.e.c]] w (RetSubs (applyD (xs.map SB.d) d) w) := by
  by_cases h2 : d.k = 2
  · exact apply2_any a n cap xs x d w hS hI hL hn hf h2
  · by_cases h3 : d.k = 3
    · exact apply3_any a n cap xs x d w hS hI hL hn hf h3
    · exact apply0_any a n cap xs x d w hS hI hL hn hf h2 h3
end Go.Proofs.YtiifflojpoobpaaGreat
