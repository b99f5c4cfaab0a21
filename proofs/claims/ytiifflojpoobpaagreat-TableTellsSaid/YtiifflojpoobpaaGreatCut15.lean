/- An entry without those events that none of some clients asks for: the walk of the program's Cut. -/
import Derived.Test.YtiifflojpoobpaaGreatFilt15
import Derived.Test.YtiifflojpoobpaaGreatBox15
import Derived.Test.YtiifflojpoobpaaGreatBat15
import Derived.Test.YtiifflojpoobpaaGreatAny
import Derived.Deep.DeepCutAuto
set_option linter.unusedVariables false
set_option linter.unusedSimpArgs false
namespace Go.Proofs.YtiifflojpoobpaaGreat
open Go.RowKit

/-- An entry that a call gives back. -/
def RetE (d : ED) (w : World) (e : Ending) (w' : World) : Prop := ∃ x : EV, e = .returned (.agg #[.int .i64 x.k, .int .i64 x.id.b, .int .u64 x.id.l, .int .u64 x.id.s, .int .i64 x.c, .int .u64 x.u, .slice x.f.a x.f.n x.f.c, .slice x.e.a x.e.n x.e.c]) ∧ EntryIs w' x d ∧ Ext w w'
theorem cut1_any (y : EvV) (pb : Nat) (a : Option Addr) (n cap : Nat) (fs : List FV) (w : World) (hE : Sl w 4 AT.cs y.v.a y.v.n y.v.c y.ats) (hS : Flts w a n cap fs) (hc : w.cell? ⟨pb, 0, none⟩ = some (.slice a n cap)) :
    Calls Tryz.prog 42 #[.slice y.v.a y.v.n y.v.c, .pointer (some ⟨pb, 0, none⟩)] w fun e w' => e = .returned (.bool (fs.any fun f => matchesT f.ts y.ats)) ∧ Ext w w' := by
  have HS := hid hS
  have HE := hid hE
  clear hS hE
  go_enter Tryz.func42, Tryz.ntmps42
  go_wp2_with fail
  refine (any_any _ _ _ fs _ _ _ y.ats _ (HS.out.ext (by (repeat (first | exact Ext.refl _ | refine Ext.alloc ?_ _ | refine Ext.drewN ?_ _ | refine Ext.drew ?_ | refine Ext.trans ?_ (Hid.out (by assumption)))))) (HE.out.ext (by (repeat (first | exact Ext.refl _ | refine Ext.alloc ?_ _ | refine Ext.drewN ?_ _ | refine Ext.drew ?_ | refine Ext.trans ?_ (Hid.out (by assumption))))))).mono ?_
  rintro e w1 ⟨rfl, hb⟩
  have hy := hid hb
  clear hb
  go_wp2
  go_ret
  refine ⟨rfl, ?_⟩
  (repeat (first | exact Ext.refl _ | refine Ext.alloc ?_ _ | refine Ext.drewN ?_ _ | refine Ext.drew ?_ | refine Ext.trans ?_ (Hid.out (by assumption))))
theorem cut_of (fs : List FV) (evs : List EvV) : (evs.filter (fun e => fs.any fun f => matchesT f.ts e.ats)).map (·.ats) = matchedD (fs.map (·.ts)) (evs.map (·.ats)) := by
  unfold matchedD
  rw [List.filter_map]
  congr 1
  refine List.filter_congr fun e _ => ?_
  show (fs.any fun f => matchesT f.ts e.ats) = ((fs.map (·.ts)).any fun f => matchesT f e.ats)
  rw [List.any_map]; rfl
set_option maxRecDepth 100000 in
set_option maxHeartbeats 4000000 in
theorem cut_any (a : Option Addr) (n cap : Nat) (xs : List SB) (ia : Option Addr) (im ic : Nat) (cl : List Int) (x : EV) (d : ED) (w : World) (hS : Subs w a n cap xs) (hC : Sl w 1 iC ia im ic cl) (hI : EntryIs w x d) (hL : ∀ s, s ∈ xs → s.ts.length ≤ 1000) (hn : n ≤ 1000) (hf : d.ts.length ≤ 1000) (he : d.es.length ≤ 1000) (ha : ∀ e, e ∈ d.es → e.length ≤ 1000) :
    Calls Tryz.prog 14 #[.slice a n cap, .slice ia im ic, .agg #[.int .i64 x.k, .int .i64 x.id.b, .int .u64 x.id.l, .int .u64 x.id.s, .int .i64 x.c, .int .u64 x.u, .slice x.f.a x.f.n x.f.c, .slice x.e.a x.e.n x.e.c]] w (RetE (cutD (xs.map SB.d) cl d) w) := by
  obtain ⟨evs, hes, hev⟩ := hI.e
  obtain ⟨l1, l2⟩ := evs_len hes he ha
  have hen := hev.sl.neq
  have hkk := hI.k
  have HS := hid hS
  have HC := hid hC
  have HI := hid hI
  have HL := hid hL
  have HV := hid hev
  have HES := hid hes
  have HA := hid l2
  have HN := hid hen
  have HF := hid hf
  have HK := hid hkk
  clear hS hC hI hL hev hes l2 he ha hen hf hkk
  go_enter Tryz.func14, Tryz.ntmps14
  go_upto_if 10 with (fail)
  go_cut [7] (fun _ wx => ∃ (Wb : World) (e2 : SV) (ys : List EvV), Wb = wx ∧ Hid (Box wx w.heap.size { x with e := e2 }) ∧ Hid (Box wx (w.heap.size + 1) zeroE) ∧ Hid (EvsV wx e2.a e2.n e2.c ys ∧ ys.map (·.ats) = (cutD (xs.map SB.d) cl d).es ∧ ys.length ≤ 1000 ∧ ∀ y, y ∈ ys → y.ats.length ≤ 1000) ∧ Hid (Ext w wx))
  case first =>
    have HB := hid (Box.new (w := w) (x := x) (t := 31))
    have hz := Box.new (w := w.alloc (.cells #[.int .i64 x.k, .int .i64 x.id.b, .int .u64 x.id.l, .int .u64 x.id.s, .int .i64 x.c, .int .u64 x.u, .slice x.f.a x.f.n x.f.c, .slice x.e.a x.e.n x.e.c] 31)) (x := zeroE) (t := 31)
    rw [show (w.alloc (.cells #[.int .i64 x.k, .int .i64 x.id.b, .int .u64 x.id.l, .int .u64 x.id.s, .int .i64 x.c, .int .u64 x.u, .slice x.f.a x.f.n x.f.c, .slice x.e.a x.e.n x.e.c] 31)).heap.size = w.heap.size + 1 from by simp] at hz
    have HZ := hid hz
    clear hz
    by_cases h1 : d.k = 1
    · have q1 : (x.k == 1) = true := by rw [HK.out, h1]; rfl
      have HD := hid (show (cutD (xs.map SB.d) cl d).es = matchedD (filtersD (xs.map SB.d) cl) d.es from by unfold cutD; rw [if_pos h1])
      clear h1
      go_wp2_with fail
      refine (filters_any _ _ _ xs _ _ _ cl _ ⟨HS.out.sl.ext (by (repeat (first | exact Ext.refl _ | refine Ext.alloc ?_ _ | refine Ext.drewN ?_ _ | refine Ext.drew ?_ | refine Ext.trans ?_ (Hid.out (by assumption))))), fun s hs => (HS.out.ts s hs).ext (by (repeat (first | exact Ext.refl _ | refine Ext.alloc ?_ _ | refine Ext.drewN ?_ _ | refine Ext.drew ?_ | refine Ext.trans ?_ (Hid.out (by assumption)))))⟩ (HC.out.ext (by (repeat (first | exact Ext.refl _ | refine Ext.alloc ?_ _ | refine Ext.drewN ?_ _ | refine Ext.drew ?_ | refine Ext.trans ?_ (Hid.out (by assumption)))))) HL.out hn).mono ?_
      rintro e w1 ⟨a1, n1, c1, fs, rfl, hf, hmf, hb⟩
      have hB1 := hid (((HB.out.ext ((Ext.refl _).alloc _)).ext hb))
      have hZ1 := hid (HZ.out.ext hb)
      have hy := hid (show Ext w w1 from Ext.trans (((Ext.refl w).alloc _).alloc _) hb)
      have HFS := hid hf
      have HMF := hid hmf
      clear hf hmf hb
      have d7 := ((Ext.refl w1).alloc (Obj.cells #[.slice a1 n1 c1] 40)).keep hB1.out.cells.2.2.2.2.2.2.2
      go_wp2_with fail
      refine (keepE_any _ _ _ evs (fun e : EvV => fs.any fun f => matchesT f.ts e.ats) 42 ⟨w1.heap.size, 0, none⟩ _ (HV.out.sl.ext (by (repeat (first | exact Ext.refl _ | refine Ext.alloc ?_ _ | refine Ext.drewN ?_ _ | refine Ext.drew ?_ | refine Ext.trans ?_ (Hid.out (by assumption)))))) (by rw [HN.out]; omega) _ rfl (fun _ _ => by kernel_rfl) ?hp).mono ?_
      case hp =>
        intro y hy' w' hw
        exact cut1_any y w1.heap.size _ _ _ fs w' (((HV.out.ats y hy').ext (by (repeat (first | exact Ext.refl _ | refine Ext.alloc ?_ _ | refine Ext.drewN ?_ _ | refine Ext.drew ?_ | refine Ext.trans ?_ (Hid.out (by assumption)))))).ext hw) ((HFS.out.ext (by (repeat (first | exact Ext.refl _ | refine Ext.alloc ?_ _ | refine Ext.drewN ?_ _ | refine Ext.drew ?_ | refine Ext.trans ?_ (Hid.out (by assumption)))))).ext hw) (hw.keep (by simp))
      rintro e w2 ⟨a2, n2, c2, rfl, hO2, hb2⟩
      have hb3 : Ext w1 w2 := Ext.trans ((Ext.refl w1).alloc _) hb2
      have hB2 := hid (hB1.out.ext hb3)
      have hZ2 := hid (hZ1.out.ext hb3)
      have hy2 := hid (hy.out.trans hb3)
      have hlt := hB1.out.lt
      have HO2 := hid hO2
      clear hO2 hb2 hb3 d7
      have d7 := hB2.out.cells.2.2.2.2.2.2.2
      have df := hB2.out.free 7
      go_wp2_with fail
      go_meet
      have hE : Ext w (w2.setCell ⟨w.heap.size, 7, none⟩ (.slice a2 n2 c2)) := Ext.setCell (p := ⟨w.heap.size, 7, none⟩) hy2.out (Nat.le_refl _) _
      refine ⟨_, ⟨a2, n2, c2⟩, evs.filter (fun e : EvV => fs.any fun f => matchesT f.ts e.ats), rfl, hB2.out.set7 ⟨a2, n2, c2⟩, hZ2.out.far (p := ⟨w.heap.size, 7, none⟩) (Nat.succ_ne_self _) _, ⟨⟨HO2.out.sl.set (p := ⟨w.heap.size, 7, none⟩) (fun ad ha _ => ?_) _, fun y hy' => (HV.out.ats y (List.mem_filter.1 hy').1).ext hE⟩, ?_, Nat.le_trans (List.length_filter_le _ _) l1, fun y hy' => HA.out y (List.mem_filter.1 hy').1⟩, hE⟩
      · have h1 := (HO2.out.lt ad ha).1
        simp at h1
        show ad.block ≠ w.heap.size
        omega
      · rw [cut_of, HMF.out, HES.out, HD.out]
    · have q1 : (x.k == 1) = false := by rw [HK.out]; simpa using h1
      have HD := hid (show (cutD (xs.map SB.d) cl d).es = d.es from by unfold cutD; rw [if_neg h1])
      clear h1
      go_wp2_with fail
      go_meet
      exact ⟨_, x.e, evs, rfl, HB.out.ext ((Ext.refl _).alloc _), HZ.out, ⟨HV.out.ext (by (repeat (first | exact Ext.refl _ | refine Ext.alloc ?_ _ | refine Ext.drewN ?_ _ | refine Ext.drew ?_ | refine Ext.trans ?_ (Hid.out (by assumption))))), by rw [HES.out, HD.out], l1, HA.out⟩, (by (repeat (first | exact Ext.refl _ | refine Ext.alloc ?_ _ | refine Ext.drewN ?_ _ | refine Ext.drew ?_ | refine Ext.trans ?_ (Hid.out (by assumption)))))⟩
  case rest =>
    obtain ⟨Wb, e2, ys, rfl, HB, HZ, HV2, hxb⟩ := hcut
    have d7 := HB.out.cells.2.2.2.2.2.2.2
    dsimp only at d7
    go_wp2_with fail
    refine (events_own _ _ _ ys _ HV2.out.1 (by rw [HV2.out.1.sl.neq]; exact HV2.out.2.2.1) HV2.out.2.2.2).mono ?_
    rintro e w3 ⟨a3, n3, c3, zs, rfl, hz1, hz2, hmz, hb3⟩
    have HB3 := hid (HB.out.ext hb3)
    have HB4 := hid ((HB.out.ext hb3).set7 ⟨a3, n3, c3⟩)
    have HZ4 := hid ((HZ.out.ext hb3).far (p := ⟨w.heap.size, 7, none⟩) (Nat.succ_ne_self _) (.slice a3 n3 c3))
    have hE4 := hid (Ext.setCell (p := ⟨w.heap.size, 7, none⟩) (hxb.out.trans hb3) (Nat.le_refl _) (.slice a3 n3 c3))
    have hlt := HZ.out.lt
    have HO3 := hid (hz1.far (p := ⟨w.heap.size, 7, none⟩) (Nat.lt_of_succ_lt hlt) (.slice a3 n3 c3))
    have HO4 := hid (fun y hy => (hz2 y hy).far (p := ⟨w.heap.size, 7, none⟩) (Nat.lt_of_succ_lt hlt) (.slice a3 n3 c3))
    have HMZ := hid hmz
    clear hz1 hz2 hmz hb3 d7
    have d7 := HB3.out.cells.2.2.2.2.2.2.2
    have df := HB3.out.free 7
    have d6 := HB4.out.cells.2.2.2.2.2.2.1
    dsimp only at d7 d6
    go_wp2_with fail
    refine (tests_any _ _ _ d.ts _ (HI.out.f.ext hE4.out) (by rw [HI.out.f.neq]; exact Nat.le_trans HF.out (by decide))).mono ?_
    rintro e w5 ⟨a5, n5, c5, rfl, hO5, hb5⟩
    have hE5 := hid (hE4.out.trans hb5)
    have hsz : w.heap.size + 1 < (w3.setCell ⟨w.heap.size, 7, none⟩ (.slice a3 n3 c3)).heap.size := HZ4.out.lt
    have HO3' := hid (HO3.out.ext hb5)
    have HO4' := hid (fun y hy => (HO4.out y hy).ext hb5)
    have HO5 := hid hO5
    obtain ⟨c0, c1, c2, c3', c4, c5', c6, c7⟩ := (HB4.out.ext hb5).cells
    have fb := (HB4.out.ext hb5).free
    obtain ⟨r0, r1, r2, r3, r4, r5, r6, r7⟩ := (HZ4.out.ext hb5).cells
    have fr := (HZ4.out.ext hb5).free
    dsimp only [zeroE] at c0 c1 c2 c3' c4 c5' c6 c7 r0 r1 r2 r3 r4 r5 r6 r7
    clear hO5 hb5 HB HZ HB3 HB4 HZ4 d7 df d6 hE4 HO3 HO4
    go_wp2_with fail
    refine bodyPost_ret (v := .agg #[.int .i64 x.k, .int .i64 x.id.b, .int .u64 x.id.l, .int .u64 x.id.s, .int .i64 x.c, .int .u64 x.u, .slice a5 n5 c5, .slice a3 n3 c3]) (by simp [results, Tryz.results14, go_sem, c0, c1, c2, c3', c4, c5', c6, c7, r0, r1, r2, r3, r4, r5, r6, r7]) rfl ⟨⟨x.k, x.id, x.c, x.u, ⟨a5, n5, c5⟩, ⟨a3, n3, c3⟩⟩, rfl, ⟨HI.out.k.trans ?_, HI.out.id.trans ?_, HI.out.c.trans ?_, HI.out.u.trans ?_, ?_, zs, ?_, ?_, ?_⟩, ?_⟩
    · unfold cutD; split <;> rfl
    · unfold cutD; split <;> rfl
    · unfold cutD; split <;> rfl
    · unfold cutD; split <;> rfl
    · rw [show (cutD (xs.map SB.d) cl d).ts = d.ts from by unfold cutD; split <;> rfl]
      refine Own.sl (base := (w3.setCell ⟨w.heap.size, 7, none⟩ (.slice a3 n3 c3)).heap.size) (e := 50) ?_
      repeat (first | with_reducible exact HO5.out | refine Own.far ?_ (by first | exact hsz | exact Nat.lt_of_succ_lt hsz) _)
    · exact HMZ.out.trans HV2.out.2.1
    · refine Own.sl (base := Wb.heap.size) (e := 55) ?_
      repeat (first | with_reducible exact HO3'.out | refine Own.far ?_ (by first | exact hlt | exact Nat.lt_of_succ_lt hlt) _)
    · intro y hy
      refine Own.sl (base := Wb.heap.size) (e := 53) ?_
      repeat (first | with_reducible exact HO4'.out y hy | refine Own.far ?_ (by first | exact hlt | exact Nat.lt_of_succ_lt hlt) _)
    · repeat (first | with_reducible exact hE5.out | refine Ext.setCell ?_ (by first | exact Nat.le_refl _ | exact Nat.le_succ _) _)
end Go.Proofs.YtiifflojpoobpaaGreat
