/- For no clients nothing is left of what is published: the statement's walk. -/
import Derived.Test.YtiifflojpoobpaaAwake15
import Derived.Test.YtiifflojpoobpaaNot11
set_option linter.unusedVariables false
set_option linter.unusedSimpArgs false
namespace Go.Proofs.Ytiifflojpoobpaa
open Go.RowKit

theorem ev_len {w : World} {x : EV} {d : ED} (h : EntryIs w x d) : x.e.n = d.es.length := by
  obtain ⟨evs, hes, hev⟩ := h.e
  rw [hev.sl.neq, ← hes, List.length_map]
set_option maxRecDepth 100000 in
set_option maxHeartbeats 4000000 in
theorem none15_any (a : Option Addr) (n cap : Nat) (ps : List EP) (ia : Option Addr) (im ic : Nat) (cl : List Int) (x : EV) (d : ED) (w : World) (hE : Ents w a n cap ps) (hC : Sl w 1 iC ia im ic cl) (hI : EntryIs w x d) :
    Calls Try.prog 5 #[.slice a n cap, .slice ia im ic, .agg #[.int .i64 x.k, .int .i64 x.id.b, .int .u64 x.id.l, .int .u64 x.id.s, .int .i64 x.c, .int .u64 x.u, .slice x.f.a x.f.n x.f.c, .slice x.e.a x.e.n x.e.c]] w fun e w' => e = .returned (.bool true) ∧ Ext w w' := by
  have hkk := hI.k
  have HE := hid hE
  have HI := hid hI
  have HC := hid hC
  have hm := hC.max
  have hl := hC.len
  unfold maxLen at hm
  have HK := hid hkk
  clear hE hI hC hkk
  by_cases hcl : im ≤ 20
  case neg =>
    have hcl' : 20 < im := by omega
    go_enter Try.func5, Try.ntmps5
    go_wp2_with fail
    refine (awake15_any _).mono ?_
    rintro e w1 ⟨rfl, hb⟩
    have hx1 := hid (show Ext w w1 from Ext.trans ((Ext.refl _).alloc _) hb)
    clear hb
    go_wp2
    go_ret
    refine ⟨rfl, ?_⟩
    (repeat (first | exact Ext.refl _ | refine Ext.alloc ?_ _ | refine Ext.drewN ?_ _ | refine Ext.drew ?_ | refine Ext.trans ?_ (Hid.out (by assumption))))
  case pos =>
  go_enter Try.func5, Try.ntmps5
  go_wp2_with fail
  refine (awake15_any _).mono ?_
  rintro e w1 ⟨rfl, hb⟩
  have HB1 := hid ((Box.new (w := w) (x := x) (t := 31)).ext hb)
  have hx1 := hid (show Ext w w1 from Ext.trans ((Ext.refl _).alloc _) hb)
  clear hb
  obtain ⟨c0, c1, c2, c3, c4, c5, c6, c7⟩ := HB1.out.cells
  go_wp2_with fail
  refine (few11_any x d _ (HI.out.ext (by (repeat (first | exact Ext.refl _ | refine Ext.alloc ?_ _ | refine Ext.drewN ?_ _ | refine Ext.drew ?_ | refine Ext.trans ?_ (Hid.out (by assumption))))))).mono ?_
  rintro e w2 ⟨f, rfl, hf, hb⟩
  have HFW := hid hf
  have HB2 := hid (HB1.out.ext hb)
  have hx2 := hid (hx1.out.trans hb)
  clear hb hf HB1 hx1 c0 c1 c2 c3 c4 c5 c6 c7
  cases f with
  | false =>
    go_wp2
    go_ret
    refine ⟨rfl, ?_⟩
    (repeat (first | exact Ext.refl _ | refine Ext.alloc ?_ _ | refine Ext.drewN ?_ _ | refine Ext.drew ?_ | refine Ext.trans ?_ (Hid.out (by assumption))))
  | true =>
    have HSM := hid (HFW.out rfl)
    clear HFW
    go_wp2_with fail
    refine (grown_any _ _ _ ps _ (HE.out.ext (by (repeat (first | exact Ext.refl _ | refine Ext.alloc ?_ _ | refine Ext.drewN ?_ _ | refine Ext.drew ?_ | refine Ext.trans ?_ (Hid.out (by assumption))))))).mono ?_
    rintro e w3 ⟨a3, n3, cp3, xs, rfl, hS, hG, hb⟩
    have HB3 := hid (HB2.out.ext hb)
    have hx3 := hid (hx2.out.trans hb)
    obtain rfl := hS.sl.neq
    have hlen : xs.length ≤ 30 := by have := hG.len; rwa [List.length_map] at this
    have HL := hid (show ∀ s, s ∈ xs → s.ts.length ≤ 1000 from fun s hs => Nat.le_trans (hG.few s.d (List.mem_map_of_mem hs)) (by decide))
    have HS := hid hS
    clear hb hS hG HB2 hx2
    obtain ⟨c0, c1, c2, c3, c4, c5, c6, c7⟩ := HB3.out.cells
    go_wp2_with fail
    refine (cut_any _ _ _ xs none 0 0 [] x d _ HS.out (Sl.nil _ (fun _ => rfl)) (HI.out.ext (by (repeat (first | exact Ext.refl _ | refine Ext.alloc ?_ _ | refine Ext.drewN ?_ _ | refine Ext.drew ?_ | refine Ext.trans ?_ (Hid.out (by assumption)))))) HL.out (by omega) (Nat.le_trans HSM.out.ts (by decide)) (Nat.le_trans HSM.out.es (by decide)) (fun e he => Nat.le_trans (HSM.out.ats e he) (by decide))).mono ?_
    rintro e w4 ⟨y, rfl, hiy, hb⟩
    have HY := hid (ev_len hiy)
    have hx4 := hid (hx3.out.trans hb)
    have HS4 := hid (HS.out.ext hb)
    have HB4 := hid (HB3.out.ext (hb.alloc (Obj.cells #[.int .i64 y.k, .int .i64 y.id.b, .int .u64 y.id.l, .int .u64 y.id.s, .int .i64 y.c, .int .u64 y.u, .slice y.f.a y.f.n y.f.c, .slice y.e.a y.e.n y.e.c] 31)))
    have HBY := hid (Box.new (w := w4) (x := y) (t := 31))
    clear hb hiy HS HB3 hx3 c0 c1 c2 c3 c4 c5 c6 c7
    obtain ⟨c0, c1, c2, c3, c4, c5, c6, c7⟩ := HB4.out.cells
    go_wp2_with fail
    refine (cut_any _ _ _ xs _ _ _ cl x d _ ⟨HS4.out.sl.ext (by (repeat (first | exact Ext.refl _ | refine Ext.alloc ?_ _ | refine Ext.drewN ?_ _ | refine Ext.drew ?_ | refine Ext.trans ?_ (Hid.out (by assumption))))), fun s hs => (HS4.out.ts s hs).ext (by (repeat (first | exact Ext.refl _ | refine Ext.alloc ?_ _ | refine Ext.drewN ?_ _ | refine Ext.drew ?_ | refine Ext.trans ?_ (Hid.out (by assumption)))))⟩ (HC.out.ext (by (repeat (first | exact Ext.refl _ | refine Ext.alloc ?_ _ | refine Ext.drewN ?_ _ | refine Ext.drew ?_ | refine Ext.trans ?_ (Hid.out (by assumption)))))) (HI.out.ext (by (repeat (first | exact Ext.refl _ | refine Ext.alloc ?_ _ | refine Ext.drewN ?_ _ | refine Ext.drew ?_ | refine Ext.trans ?_ (Hid.out (by assumption)))))) HL.out (by omega) (Nat.le_trans HSM.out.ts (by decide)) (Nat.le_trans HSM.out.es (by decide)) (fun e he => Nat.le_trans (HSM.out.ats e he) (by decide))).mono ?_
    rintro e w5 ⟨z, rfl, hiz, hb⟩
    have HZ := hid (ev_len hiz)
    have HIZ := hid hiz
    have hb5 := hb.alloc (Obj.cells #[.int .i64 z.k, .int .i64 z.id.b, .int .u64 z.id.l, .int .u64 z.id.s, .int .i64 z.c, .int .u64 z.u, .slice z.f.a z.f.n z.f.c, .slice z.e.a z.e.n z.e.c] 31)
    have hx5 := hid (show Ext w w5 from Ext.trans (hx4.out.alloc _) hb)
    have HB5 := hid (HB4.out.ext hb5)
    have HBY5 := hid (HBY.out.ext hb5)
    have HBZ := hid (Box.new (w := w5) (x := z) (t := 31))
    have HS5 := hid (HS4.out.ext (Ext.trans ((Ext.refl _).alloc _) hb))
    clear hb hb5 hiz HS4 HB4 HBY hx4 c0 c1 c2 c3 c4 c5 c6 c7
    obtain ⟨c0, c1, c2, c3, c4, c5, c6, c7⟩ := HB5.out.cells
    obtain ⟨d0, d1, d2, d3, d4, d5, d6, d7⟩ := HBZ.out.cells
    go_wp2_with fail
    refine (sameC_any z x (xs.map SB.d) cl d _ (HIZ.out.ext (by (repeat (first | exact Ext.refl _ | refine Ext.alloc ?_ _ | refine Ext.drewN ?_ _ | refine Ext.drew ?_ | refine Ext.trans ?_ (Hid.out (by assumption)))))) (HI.out.ext (by (repeat (first | exact Ext.refl _ | refine Ext.alloc ?_ _ | refine Ext.drewN ?_ _ | refine Ext.drew ?_ | refine Ext.trans ?_ (Hid.out (by assumption))))))).mono ?_
    rintro e w6 ⟨b, rfl, hsb, hb⟩
    have hx6 := hid (show Ext w w6 from Ext.trans (hx5.out.alloc _) hb)
    have HB6 := hid (HB5.out.ext hb)
    have HBY6 := hid (HBY5.out.ext hb)
    have HBZ6 := hid (HBZ.out.ext hb)
    have HS := hid (HS5.out.ext (Ext.trans ((Ext.refl _).alloc _) hb))
    have HSB := hid hsb
    clear hb hsb HS5 HB5 HBY5 HBZ hx5 c0 c1 c2 c3 c4 c5 c6 c7 d0 d1 d2 d3 d4 d5 d6 d7
    have c0 := HB6.out.cells.1
    have c7 := HB6.out.cells.2.2.2.2.2.2.2
    have y7 := HBY6.out.cells.2.2.2.2.2.2.2
    have z7 := HBZ6.out.cells.2.2.2.2.2.2.2
    have hle : z.e.n ≤ x.e.n := by rw [HZ.out, ev_len HI.out]; exact cut_less _ _ _
    by_cases hk : d.k = 1
    · have q1 : x.k = 1 := by rw [HK.out, hk]
      have hyn : y.e.n = 0 := by rw [HY.out, cut_none hk]; rfl
      rw [q1] at c0
      rw [hyn] at y7
      clear hk q1 hyn
      go_wp2_with fail
      refine (filters_any _ _ _ xs none 0 0 [] _ ⟨HS.out.sl.ext (by (repeat (first | exact Ext.refl _ | refine Ext.alloc ?_ _ | refine Ext.drewN ?_ _ | refine Ext.drew ?_ | refine Ext.trans ?_ (Hid.out (by assumption))))), fun s hs => (HS.out.ts s hs).ext (by (repeat (first | exact Ext.refl _ | refine Ext.alloc ?_ _ | refine Ext.drewN ?_ _ | refine Ext.drew ?_ | refine Ext.trans ?_ (Hid.out (by assumption)))))⟩ (Sl.nil _ (fun _ => rfl)) HL.out (by omega)).mono ?_
      rintro e wf ⟨af, nf, cf, fs, rfl, hf, hmf, hb⟩
      obtain rfl : nf = 0 := by rw [hf.sl.neq, ← List.length_map (f := (·.ts)), hmf, filters_nil]; rfl
      replace c0 := hb.keep c0
      replace c7 := hb.keep c7
      replace y7 := hb.keep y7
      replace z7 := hb.keep z7
      have hy := hid hb
      clear hb hf hmf
      go_wp2
      go_ret
      refine ⟨rfl, ?_⟩
      (repeat (first | exact Ext.refl _ | refine Ext.alloc ?_ _ | refine Ext.drewN ?_ _ | refine Ext.drew ?_ | refine Ext.trans ?_ (Hid.out (by assumption))))
    · have q1 : (x.k == 1) = false := by rw [HK.out]; simpa using hk
      have q2 : (x.k != 1) = true := by rw [bne, q1]; rfl
      obtain rfl := HSB.out hk
      clear hk
      go_wp2_with fail
      refine (filters_any _ _ _ xs none 0 0 [] _ ⟨HS.out.sl.ext (by (repeat (first | exact Ext.refl _ | refine Ext.alloc ?_ _ | refine Ext.drewN ?_ _ | refine Ext.drew ?_ | refine Ext.trans ?_ (Hid.out (by assumption))))), fun s hs => (HS.out.ts s hs).ext (by (repeat (first | exact Ext.refl _ | refine Ext.alloc ?_ _ | refine Ext.drewN ?_ _ | refine Ext.drew ?_ | refine Ext.trans ?_ (Hid.out (by assumption)))))⟩ (Sl.nil _ (fun _ => rfl)) HL.out (by omega)).mono ?_
      rintro e wf ⟨af, nf, cf, fs, rfl, hf, hmf, hb⟩
      obtain rfl : nf = 0 := by rw [hf.sl.neq, ← List.length_map (f := (·.ts)), hmf, filters_nil]; rfl
      replace c0 := hb.keep c0
      replace c7 := hb.keep c7
      replace y7 := hb.keep y7
      replace z7 := hb.keep z7
      have hy := hid hb
      clear hb hf hmf
      go_wp2
      go_ret
      refine ⟨rfl, ?_⟩
      (repeat (first | exact Ext.refl _ | refine Ext.alloc ?_ _ | refine Ext.drewN ?_ _ | refine Ext.drew ?_ | refine Ext.trans ?_ (Hid.out (by assumption))))
end Go.Proofs.Ytiifflojpoobpaa
