/- Chapter 15: the walk of the statements' head. -/
import Derived.Test.YtiifflojpoobpaaGreatAw15
set_option linter.unusedVariables false
set_option linter.unusedSimpArgs false
namespace Go.Proofs.YtiifflojpoobpaaGreat
open Go.RowKit

theorem e3_len : ∀ e, e ∈ e3.es → e.length ≤ 1000 := by intro e he; simp [e3] at he; rcases he with rfl | rfl <;> decide
theorem evs0 (w : World) : Evs w none 0 0 [] := ⟨[], rfl, Sl.nil _ EvV.wid, fun x hx => by cases hx⟩
theorem d_one {ys : List SB} (h : ys.map SB.d = one) : ∃ s, ys = [s] ∧ s.c = 1 ∧ s.u = 7 ∧ s.ts = [t0] := by
  obtain ⟨s, rfl, hs⟩ := List.map_eq_singleton_iff.1 h
  simp only [SB.d, SD.mk.injEq] at hs
  exact ⟨s, rfl, hs⟩
set_option maxRecDepth 100000 in
set_option maxHeartbeats 4000000 in
theorem awake15_any (w : World) : Calls Tryz.prog 4 #[] w fun e w' => e = .returned (.bool true) ∧ Ext w w' := by
  go_enter Tryz.func4, Tryz.ntmps4
  go_wp2_with fail
  refine (apply_any none 0 0 [] ⟨2, ⟨0, 0, 0⟩, 1, 7, ⟨some ⟨w.heap.size, 0, none⟩, 1, 1⟩, ⟨none, 0, 0⟩⟩ e1 _ (Subs.nil _) ⟨rfl, rfl, rfl, rfl, ?hf, evs0 _⟩ (fun s hs => by cases hs) (by decide) (by decide)).mono ?_
  case hf =>
    refine sl_of [t0] T.wid rfl (by decide) (t := 50) (fr := (0, 0)) (cs := #[.string ⟨#[112]⟩, .int .i64 8, .int .i64 0, .int .i64 0, .string ⟨#[]⟩]) ?_ rfl
    (repeat (first | (refine heap_new ?_; (simp; done)) | refine heap_old (by first | (simp; done) | (simp; omega)) ?_))
  rintro e w1 ⟨aa, n1, cp, ys, rfl, hs, hd, hb⟩
  obtain ⟨s, rfl, sc, su, st⟩ := d_one (hd.trans one_is)
  have hy1 := hid hb
  have HS := hid hs
  clear hb hs hd
  have hone : [s].map SB.d = one := by show [s.d] = one; unfold SB.d; rw [sc, su, st]; rfl
  have hsl : ∀ x, x ∈ [s] → x.ts.length ≤ 1000 := fun x hx => by rw [List.mem_singleton.1 hx, st]; decide
  obtain rfl : n1 = 1 := HS.out.sl.neq
  go_wp2_with fail
  refine (apply_any _ _ _ [s] ⟨3, ⟨0, 0, 0⟩, 1, 7, ⟨none, 0, 0⟩, ⟨none, 0, 0⟩⟩ e2 w1 HS.out ⟨rfl, rfl, rfl, rfl, Sl.nil _ T.wid, evs0 _⟩ hsl (by decide) (by decide)).mono ?_
  rintro e w2 ⟨ab, n2, cp2, zs, rfl, hs2, hd2, hb2⟩
  obtain rfl : zs = [] := by rw [hone, none_is] at hd2; exact List.map_eq_nil_iff.1 hd2
  obtain rfl : n2 = 0 := hs2.sl.neq
  have hy2 := hid (Ext.trans (Ext.trans (((Ext.refl w).alloc _).alloc _) hy1.out) hb2)
  have HS2 := hid (HS.out.ext hb2)
  clear hb2 hs2 hd2 HS hy1
  go_wp2_with fail
  refine (int_any _ _).mono ?_
  rintro e w3 ⟨rfl, hb⟩
  have hy3 := hid (hy2.out.trans hb)
  have HS3 := hid (HS2.out.ext hb)
  clear hb HS2 hy2
  go_wp2_with fail
  refine (int_any _ _).mono ?_
  rintro e w4 ⟨rfl, hb⟩
  have hB3 := hb.blk (heap_alloc_new _ _)
  have hy4 := hid (hy3.out.trans (Ext.trans ((Ext.refl w3).alloc _) hb))
  have HS4 := hid (HS3.out.ext (Ext.trans ((Ext.refl w3).alloc _) hb))
  have h34 : w3.heap.size < w4.heap.size := by have := hb.size; simp at this; omega
  clear hb HS3 hy3
  have HX := hid (show EntryIs (((w4.alloc (Obj.cells #[.string ⟨#[113]⟩, .int .i64 1, .int .i64 5, .string ⟨#[]⟩] 53)).alloc (Obj.cells #[.slice (some ⟨w3.heap.size, 0, none⟩) 1 1, .slice (some ⟨w4.heap.size, 0, none⟩) 1 1] 55)).alloc (Obj.cells #[.int .i64 1, .int .i64 0, .int .u64 0, .int .u64 0, .int .i64 0, .int .u64 0, .slice none 0 0, .slice (some ⟨w4.heap.size + 1, 0, none⟩) 2 2] 31)) (⟨1, ⟨0, 0, 0⟩, 0, 0, ⟨none, 0, 0⟩, ⟨some ⟨w4.heap.size + 1, 0, none⟩, 2, 2⟩⟩ : EV) e3 from by
    refine ⟨rfl, rfl, rfl, rfl, Sl.nil _ T.wid, [⟨⟨some ⟨w3.heap.size, 0, none⟩, 1, 1⟩, [a0 112]⟩, ⟨⟨some ⟨w4.heap.size, 0, none⟩, 1, 1⟩, [a0 113]⟩], rfl, ?_, fun x hx => ?_⟩
    · refine sl_of _ EvV.wid rfl (by simp) (t := 55) (fr := (0, 0)) (cs := #[.slice (some ⟨w3.heap.size, 0, none⟩) 1 1, .slice (some ⟨w4.heap.size, 0, none⟩) 1 1]) ?_ rfl
      (repeat (first | (refine heap_new ?_; (simp; done)) | refine heap_old (by first | (simp; done) | (simp; omega)) ?_))
    · rcases List.mem_cons.1 hx with rfl | hx
      · refine sl_of _ AT.wid rfl (by simp) (t := 53) (fr := (0, 0)) (cs := #[.string ⟨#[112]⟩, .int .i64 1, .int .i64 5, .string ⟨#[]⟩]) ?_ rfl
        (repeat (first | (refine heap_new ?_; (simp; done)) | refine heap_old (by first | (simp; done) | (simp; omega)) ?_))
        exact heap_old h34 hB3
      · obtain rfl := List.mem_singleton.1 hx
        refine sl_of _ AT.wid rfl (by simp) (t := 53) (fr := (0, 0)) (cs := #[.string ⟨#[113]⟩, .int .i64 1, .int .i64 5, .string ⟨#[]⟩]) ?_ rfl
        (repeat (first | (refine heap_new ?_; (simp; done)) | refine heap_old (by first | (simp; done) | (simp; omega)) ?_)))
  have HBX := hid (show Box (((w4.alloc (Obj.cells #[.string ⟨#[113]⟩, .int .i64 1, .int .i64 5, .string ⟨#[]⟩] 53)).alloc (Obj.cells #[.slice (some ⟨w3.heap.size, 0, none⟩) 1 1, .slice (some ⟨w4.heap.size, 0, none⟩) 1 1] 55)).alloc (Obj.cells #[.int .i64 1, .int .i64 0, .int .u64 0, .int .u64 0, .int .i64 0, .int .u64 0, .slice none 0 0, .slice (some ⟨w4.heap.size + 1, 0, none⟩) 2 2] 31)) (w4.heap.size + 1 + 1) (⟨1, ⟨0, 0, 0⟩, 0, 0, ⟨none, 0, 0⟩, ⟨some ⟨w4.heap.size + 1, 0, none⟩, 2, 2⟩⟩ : EV) from by
    have h := Box.new (w := (w4.alloc (Obj.cells #[.string ⟨#[113]⟩, .int .i64 1, .int .i64 5, .string ⟨#[]⟩] 53)).alloc (Obj.cells #[.slice (some ⟨w3.heap.size, 0, none⟩) 1 1, .slice (some ⟨w4.heap.size, 0, none⟩) 1 1] 55)) (x := (⟨1, ⟨0, 0, 0⟩, 0, 0, ⟨none, 0, 0⟩, ⟨some ⟨w4.heap.size + 1, 0, none⟩, 2, 2⟩⟩ : EV)) (t := 31)
    rw [show ((w4.alloc (Obj.cells #[.string ⟨#[113]⟩, .int .i64 1, .int .i64 5, .string ⟨#[]⟩] 53)).alloc (Obj.cells #[.slice (some ⟨w3.heap.size, 0, none⟩) 1 1, .slice (some ⟨w4.heap.size, 0, none⟩) 1 1] 55)).heap.size = w4.heap.size + 1 + 1 from by simp] at h
    exact h)
  have HS5 := hid (HS4.out.ext (show Ext w4 (((w4.alloc (Obj.cells #[.string ⟨#[113]⟩, .int .i64 1, .int .i64 5, .string ⟨#[]⟩] 53)).alloc (Obj.cells #[.slice (some ⟨w3.heap.size, 0, none⟩) 1 1, .slice (some ⟨w4.heap.size, 0, none⟩) 1 1] 55)).alloc (Obj.cells #[.int .i64 1, .int .i64 0, .int .u64 0, .int .u64 0, .int .i64 0, .int .u64 0, .slice none 0 0, .slice (some ⟨w4.heap.size + 1, 0, none⟩) 2 2] 31)) from (by (repeat (first | exact Ext.refl _ | refine Ext.alloc ?_ _ | refine Ext.drewN ?_ _ | refine Ext.drew ?_ | refine Ext.trans ?_ (Hid.out (by assumption)))))))
  have hy5 := hid (show Ext w (((w4.alloc (Obj.cells #[.string ⟨#[113]⟩, .int .i64 1, .int .i64 5, .string ⟨#[]⟩] 53)).alloc (Obj.cells #[.slice (some ⟨w3.heap.size, 0, none⟩) 1 1, .slice (some ⟨w4.heap.size, 0, none⟩) 1 1] 55)).alloc (Obj.cells #[.int .i64 1, .int .i64 0, .int .u64 0, .int .u64 0, .int .i64 0, .int .u64 0, .slice none 0 0, .slice (some ⟨w4.heap.size + 1, 0, none⟩) 2 2] 31)) from (by (repeat (first | exact Ext.refl _ | refine Ext.alloc ?_ _ | refine Ext.drewN ?_ _ | refine Ext.drew ?_ | refine Ext.trans ?_ (Hid.out (by assumption))))))
  clear hB3 HS4 hy4
  go_wp2_with fail
  refine (batch_any _ _ _ [s] 1 (⟨1, ⟨0, 0, 0⟩, 0, 0, ⟨none, 0, 0⟩, ⟨some ⟨w4.heap.size + 1, 0, none⟩, 2, 2⟩⟩ : EV) e3 _ HS5.out HX.out (by decide) (by decide) e3_len).mono ?_
  rintro e w6 ⟨a6, n6, c6, bs, rfl, hbs, hmb, hb⟩
  rw [hone, batch_is] at hmb
  obtain ⟨be, rfl, hbe⟩ := List.map_eq_singleton_iff.1 hmb
  obtain rfl : n6 = 1 := hbs.sl.neq
  have HBS := hid hbs
  have HX6 := hid (HX.out.ext hb)
  have HS6 := hid (HS5.out.ext hb)
  have hy6 := hid (hy5.out.trans hb)
  have HB6 := hid (HBX.out.ext hb)
  clear hb hbs hmb HX HS5 hy5 HBX
  obtain ⟨y0, y1, y2, y3, y4, y5, y6, y7⟩ := (HB6.out.ext ((Ext.refl w6).alloc (Obj.cells #[.int .i64 1] 3))).cells
  dsimp only at y0 y1 y2 y3 y4 y5 y6 y7
  go_wp2_with fail
  refine (cut_any _ _ _ [s] _ _ _ [1] (⟨1, ⟨0, 0, 0⟩, 0, 0, ⟨none, 0, 0⟩, ⟨some ⟨w4.heap.size + 1, 0, none⟩, 2, 2⟩⟩ : EV) e3 _ ⟨HS6.out.sl.ext (by (repeat (first | exact Ext.refl _ | refine Ext.alloc ?_ _ | refine Ext.drewN ?_ _ | refine Ext.drew ?_ | refine Ext.trans ?_ (Hid.out (by assumption))))), fun x hx => (HS6.out.ts x hx).ext (by (repeat (first | exact Ext.refl _ | refine Ext.alloc ?_ _ | refine Ext.drewN ?_ _ | refine Ext.drew ?_ | refine Ext.trans ?_ (Hid.out (by assumption)))))⟩ (sl_of [1] (fun _ => rfl) rfl (by decide) (t := 3) (fr := (0, 0)) (cs := #[.int .i64 1]) (heap_alloc_new _ _) rfl) (HX6.out.ext (by (repeat (first | exact Ext.refl _ | refine Ext.alloc ?_ _ | refine Ext.drewN ?_ _ | refine Ext.drew ?_ | refine Ext.trans ?_ (Hid.out (by assumption)))))) hsl (by decide) (by decide) (by decide) e3_len).mono ?_
  rintro e w7 ⟨x7, rfl, hi7, hb⟩
  obtain ⟨es7, hm7, hv7⟩ := hi7.e
  rw [hone, cut_is] at hm7
  obtain ⟨ce, rfl, hce⟩ := List.map_eq_singleton_iff.1 hm7
  have h7n : x7.e.n = 1 := hv7.sl.neq
  have hx67 : Ext w6 w7 := Ext.trans ((Ext.refl w6).alloc _) hb
  have HBS7 := hid (HBS.out.ext hx67)
  have HS7 := hid (HS6.out.ext hx67)
  have hy7 := hid (hy6.out.trans hx67)
  clear hb hx67 hi7 hm7 hv7 HBS HX6 HS6 hy6 HB6 y0 y1 y2 y3 y4 y5 y6 y7
  obtain ⟨b6, o6, rfl, hcb⟩ := HBS7.out.sl.get 0 Nat.zero_lt_one
  have q0 := cells1 (x := be) hcb
  obtain ⟨b1, o1, rfl, hcs⟩ := HS7.out.sl.get 0 Nat.zero_lt_one
  obtain ⟨r0, r1, r2⟩ := cellsSB (x := s) hcs
  have hbe' := HBS7.out.ats be List.mem_cons_self
  rw [hbe] at hbe'
  have hvn : be.v.n = 1 := hbe'.neq
  obtain ⟨b8, o8, hba, hcA⟩ := hbe'.get 0 (by decide)
  have n0 : w7.cell? ⟨b8, o8, none⟩ = some (.string ⟨#[112]⟩) := by have := hcA 0 (.string ⟨#[112]⟩) rfl; simpa using this
  rw [hvn, hba] at q0
  rw [su] at r1
  simp only [Nat.zero_mul, Nat.add_zero] at q0 r1
  have E8 : Ext w7 (w7.alloc (Obj.cells #[.int .i64 x7.k, .int .i64 x7.id.b, .int .u64 x7.id.l, .int .u64 x7.id.s, .int .i64 x7.c, .int .u64 x7.u, .slice x7.f.a x7.f.n x7.f.c, .slice x7.e.a 1 x7.e.c] 31)) := (Ext.refl w7).alloc _
  have p0 := E8.keep q0
  have p1 := E8.keep r1
  have p2 := E8.keep n0
  have hcp := HBS7.out.sl.len
  have hvc := hbe'.len
  rw [hvn] at hvc
  clear q0 r0 r1 r2 n0 E8 hcb hcs hbe' hcA
  go_wp2_with fail
  refine (filters_any _ _ _ [s] _ _ _ [1] _ ⟨HS7.out.sl.ext (by (repeat (first | exact Ext.refl _ | refine Ext.alloc ?_ _ | refine Ext.drewN ?_ _ | refine Ext.drew ?_ | refine Ext.trans ?_ (Hid.out (by assumption))))), fun x hx => (HS7.out.ts x hx).ext (by (repeat (first | exact Ext.refl _ | refine Ext.alloc ?_ _ | refine Ext.drewN ?_ _ | refine Ext.drew ?_ | refine Ext.trans ?_ (Hid.out (by assumption)))))⟩ (sl_of [1] (fun _ => rfl) rfl (by decide) (t := 3) (fr := (0, 0)) (B := w7.heap.size + 1) (cs := #[.int .i64 1]) (heap_new (by simp)) rfl) hsl (by decide)).mono ?_
  rintro e w9 ⟨a9, n9, c9, fs, rfl, hf, hmf, hb⟩
  rw [hone, filters_is] at hmf
  obtain rfl : n9 = 1 := by rw [hf.sl.neq, ← List.length_map (f := (·.ts)), hmf]; rfl
  have hy9 := hid (Ext.trans (((Ext.refl w7).alloc _).alloc _) hb)
  clear hb hf hmf
  go_wp2_with fail
  refine (filters_any _ _ _ [s] _ _ _ [2] _ ⟨HS7.out.sl.ext (by (repeat (first | exact Ext.refl _ | refine Ext.alloc ?_ _ | refine Ext.drewN ?_ _ | refine Ext.drew ?_ | refine Ext.trans ?_ (Hid.out (by assumption))))), fun x hx => (HS7.out.ts x hx).ext (by (repeat (first | exact Ext.refl _ | refine Ext.alloc ?_ _ | refine Ext.drewN ?_ _ | refine Ext.drew ?_ | refine Ext.trans ?_ (Hid.out (by assumption)))))⟩ (sl_of [2] (fun _ => rfl) rfl (by decide) (t := 3) (fr := (0, 0)) (cs := #[.int .i64 2]) (heap_alloc_new _ _) rfl) hsl (by decide)).mono ?_
  rintro e w10 ⟨a10, n10, c10, gs, rfl, hf, hmf, hb⟩
  rw [hone, filters_no] at hmf
  obtain rfl : n10 = 0 := by rw [hf.sl.neq, ← List.length_map (f := (·.ts)), hmf]; rfl
  have hy10 := hid hb
  clear hb hf hmf
  go_wp2
  go_ret
  refine ⟨rfl, ?_⟩
  (repeat (first | exact Ext.refl _ | refine Ext.alloc ?_ _ | refine Ext.drewN ?_ _ | refine Ext.drew ?_ | refine Ext.trans ?_ (Hid.out (by assumption))))
end Go.Proofs.YtiifflojpoobpaaGreat
