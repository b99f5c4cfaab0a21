/- What subscriptions are, and what is cut for some clients, are what the document says: the statement's walk. -/
import Derived.Test.YtiifflojpoobpaaGreatAwake15
import Derived.Test.YtiifflojpoobpaaGreatRAll15
import Derived.Test.YtiifflojpoobpaaGreatSame11
set_option linter.unusedVariables false
set_option linter.unusedSimpArgs false
namespace Go.Proofs.YtiifflojpoobpaaGreat
open Go.RowKit

set_option maxRecDepth 100000 in
set_option maxHeartbeats 8000000 in
theorem tells15_any (a : Option Addr) (n cap : Nat) (ps : List EP) (ia : Option Addr) (im ic : Nat) (cl : List Int) (c : Int) (x : EV) (d : ED) (w : World) (hE : Ents w a n cap ps) (hC : Sl w 1 iC ia im ic cl) (hI : EntryIs w x d) :
    Calls Tryz.prog 3 #[.slice a n cap, .slice ia im ic, .int .i64 c, .agg #[.int .i64 x.k, .int .i64 x.id.b, .int .u64 x.id.l, .int .u64 x.id.s, .int .i64 x.c, .int .u64 x.u, .slice x.f.a x.f.n x.f.c, .slice x.e.a x.e.n x.e.c]] w fun e w' => e = .returned (.bool true) ∧ Ext w w' := by
  obtain rfl := hE.sl.neq
  have hm := hE.sl.max
  have hl := hE.sl.len
  have hm2 := hC.max
  have hl2 := hC.len
  unfold maxLen at hm hm2
  have HE := hid hE
  have HI := hid hI
  have HC := hid hC
  clear hE hI hC
  by_cases hcl : im ≤ 40
  case neg =>
    have hcl' : 40 < im := by omega
    go_enter Tryz.func3, Tryz.ntmps3
    go_wp2_with fail
    refine (awake15_any _).mono ?_
    rintro e w1 ⟨rfl, hb⟩
    have hx1 := hid (show Ext w w1 from Ext.trans ((Ext.refl _).alloc _) hb)
    clear hb
    (go_wp2; go_ret; refine ⟨rfl, ?_⟩; (repeat (first | exact Ext.refl _ | refine Ext.alloc ?_ _ | refine Ext.drewN ?_ _ | refine Ext.drew ?_ | refine Ext.trans ?_ (Hid.out (by assumption)))))
  case pos =>
  go_enter Tryz.func3, Tryz.ntmps3
  go_wp2_with fail
  refine (awake15_any _).mono ?_
  rintro e w1 ⟨rfl, hb⟩
  have HB1 := hid ((Box.new (w := w) (x := x) (t := 31)).ext hb)
  have hx1 := hid (show Ext w w1 from Ext.trans ((Ext.refl _).alloc _) hb)
  clear hb
  obtain ⟨c0, c1, c2, c3, c4, c5, c6, c7⟩ := HB1.out.cells
  go_wp2_with fail
  refine (few11_any x d _ (HI.out.ext (by (repeat (first | exact Ext.refl _ | refine Ext.alloc ?_ _ | refine Ext.drewN ?_ _ | refine Ext.drew ?_ | refine Ext.trans ?_ (Hid.out (by assumption))))))).mono ?_
  rintro e w2 ⟨f, rfl, hf, hb⟩
  have HFW := hid hf
  have HB2 := hid (HB1.out.ext hb)
  have hx2 := hid (hx1.out.trans hb)
  clear hb hf HB1 hx1
  clear c0 c1 c2 c3 c4 c5 c6 c7
  cases f with
  | false => (go_wp2; go_ret; refine ⟨rfl, ?_⟩; (repeat (first | exact Ext.refl _ | refine Ext.alloc ?_ _ | refine Ext.drewN ?_ _ | refine Ext.drew ?_ | refine Ext.trans ?_ (Hid.out (by assumption)))))
  | true =>
    have HSM := hid (HFW.out rfl)
    clear HFW
    go_wp2_with fail
    go_loopg [10, 11, 12, 13, 14] (ps.length) (fun g av bv st fv sv wr => ∃ (k : Nat) (aa : Option Addr) (m cp : Nat) (ys : List SB) (ab : Option Addr) (m2 cp2 : Nat) (zs : List SB), g + k = ps.length ∧ k ≤ 30 ∧ st = .int .i64 k ∧ av = .slice aa m cp ∧ bv = .slice ab m2 cp2 ∧ Hid (Subs wr aa m cp ys ∧ GR k (ys.map SB.d)) ∧ Hid (Subs wr ab m2 cp2 zs) ∧ Hid (zs.map SB.d = ys.map SB.d) ∧ Hid (Ext w2 wr))
    case atStart => exact ⟨0, none, 0, 0, [], none, 0, 0, [], by omega, by omega, rfl, rfl, rfl, ⟨Subs.nil _, GR.nil⟩, Subs.nil _, rfl, Ext.refl _⟩
    case round =>
      obtain ⟨k, aa, m, cp, ys, ab, m2, cp2, zs, hg, hk30, rfl, rfl, rfl, hT, hZ, hzy, hx⟩ := hrel
      by_cases hkk : k < ps.length ∧ k < 30
      · obtain ⟨hk, hk3⟩ := hkk
        obtain ⟨b, o, rfl, hc⟩ := HE.out.sl.get k hk
        have hcells := fun (wx : World) (hw : Ext wr wx) => cellsE (w := wx) (b := b) (o := o + k * 8) (x := ps[k].x) (fun j v hj => hw.keep (hx.out.keep (hx2.out.keep (hc j v hj))))
        have HCE := hid hcells
        obtain ⟨d0, d1, d2, d3, d4, d5, d6, d7⟩ := hcells wr (Ext.refl _)
        have HP := hid (HE.out.is ps[k] (List.getElem_mem hk))
        clear hc hcells
        have b0 : (0 : Int) ≤ (k : Int) := by omega
        have b1 : (k : Int) < (ps.length : Int) := by omega
        have b2 : (k : Int) < 30 := by omega
        go_wp2_with fail
        refine (few11_any ps[k].x ps[k].d _ (HP.out.ext (by (repeat (first | exact Ext.refl _ | refine Ext.alloc ?_ _ | refine Ext.drewN ?_ _ | refine Ext.drew ?_ | refine Ext.trans ?_ (Hid.out (by assumption))))))).mono ?_
        rintro e w3 ⟨f, rfl, hf, hb⟩
        have hy1 := hid hb
        have HFW := hid hf
        clear hb hf
        clear d0 d1 d2 d3 d4 d5 d6 d7
        obtain ⟨d0, d1, d2, d3, d4, d5, d6, d7⟩ := HCE.out w3 hy1.out
        cases f with
        | false =>
          go_wp2
          go_roundg (gk - 1)
          case measure => omega
          case rel => exact ⟨k + 1, aa, m, cp, ys, ab, m2, cp2, zs, by omega, by omega, by go_num, rfl, rfl, ⟨⟨hT.out.1.sl.ext (by (repeat (first | exact Ext.refl _ | refine Ext.alloc ?_ _ | refine Ext.drewN ?_ _ | refine Ext.drew ?_ | refine Ext.trans ?_ (Hid.out (by assumption))))), fun s hs => (hT.out.1.ts s hs).ext (by (repeat (first | exact Ext.refl _ | refine Ext.alloc ?_ _ | refine Ext.drewN ?_ _ | refine Ext.drew ?_ | refine Ext.trans ?_ (Hid.out (by assumption)))))⟩, hT.out.2.mono (Nat.le_succ _)⟩, ⟨hZ.out.sl.ext (by (repeat (first | exact Ext.refl _ | refine Ext.alloc ?_ _ | refine Ext.drewN ?_ _ | refine Ext.drew ?_ | refine Ext.trans ?_ (Hid.out (by assumption))))), fun s hs => (hZ.out.ts s hs).ext (by (repeat (first | exact Ext.refl _ | refine Ext.alloc ?_ _ | refine Ext.drewN ?_ _ | refine Ext.drew ?_ | refine Ext.trans ?_ (Hid.out (by assumption)))))⟩, hzy.out, (by (repeat (first | exact Ext.refl _ | refine Ext.alloc ?_ _ | refine Ext.drewN ?_ _ | refine Ext.drew ?_ | refine Ext.trans ?_ (Hid.out (by assumption)))))⟩
        | true =>
          go_wp2_with fail
          refine (chkN_any ps[k].x ps[k].d _ (HP.out.ext (by (repeat (first | exact Ext.refl _ | refine Ext.alloc ?_ _ | refine Ext.drewN ?_ _ | refine Ext.drew ?_ | refine Ext.trans ?_ (Hid.out (by assumption))))))).mono ?_
          rintro e w4 ⟨z, rfl, hz, hz2, hb⟩
          have hy2 := hid (hy1.out.trans hb)
          have HZZ := hid hz
          clear hb hz hy1
          clear d0 d1 d2 d3 d4 d5 d6 d7
          obtain ⟨d0, d1, d2, d3, d4, d5, d6, d7⟩ := HCE.out w4 hy2.out
          rcases hz2 with rfl | rfl
          · have hmy : m ≤ 1000 := by have h1 := hT.out.2.len; rw [List.length_map] at h1; rw [hT.out.1.sl.neq]; omega
            have hmz : m2 ≤ 1000 := by have h1 := hT.out.2.len; rw [← hzy.out, List.length_map] at h1; rw [hZ.out.sl.neq]; omega
            go_wp2_with fail
            refine (apply_any _ _ _ ys ps[k].x ps[k].d _ ⟨hT.out.1.sl.ext (by (repeat (first | exact Ext.refl _ | refine Ext.alloc ?_ _ | refine Ext.drewN ?_ _ | refine Ext.drew ?_ | refine Ext.trans ?_ (Hid.out (by assumption))))), fun s hs => (hT.out.1.ts s hs).ext (by (repeat (first | exact Ext.refl _ | refine Ext.alloc ?_ _ | refine Ext.drewN ?_ _ | refine Ext.drew ?_ | refine Ext.trans ?_ (Hid.out (by assumption)))))⟩ (HP.out.ext (by (repeat (first | exact Ext.refl _ | refine Ext.alloc ?_ _ | refine Ext.drewN ?_ _ | refine Ext.drew ?_ | refine Ext.trans ?_ (Hid.out (by assumption)))))) (fun s hs => Nat.le_trans (hT.out.2.few s.d (List.mem_map_of_mem hs)) (by decide)) hmy (Nat.le_trans (HFW.out (by trivial)).ts (by decide))).mono ?_
            rintro e w5 ⟨a5, n5, cp5, ys', rfl, hs5, hd5, hb⟩
            have hy3 := hid (hy2.out.trans hb)
            have HS5 := hid hs5
            have HD5 := hid hd5
            clear hb hs5 hd5 hy2
            clear d0 d1 d2 d3 d4 d5 d6 d7
            obtain ⟨d0, d1, d2, d3, d4, d5, d6, d7⟩ := HCE.out w5 hy3.out
            go_wp2_with fail
            refine (rapply_any _ _ _ zs ps[k].x ps[k].d _ ⟨hZ.out.sl.ext (by (repeat (first | exact Ext.refl _ | refine Ext.alloc ?_ _ | refine Ext.drewN ?_ _ | refine Ext.drew ?_ | refine Ext.trans ?_ (Hid.out (by assumption))))), fun s hs => (hZ.out.ts s hs).ext (by (repeat (first | exact Ext.refl _ | refine Ext.alloc ?_ _ | refine Ext.drewN ?_ _ | refine Ext.drew ?_ | refine Ext.trans ?_ (Hid.out (by assumption)))))⟩ (HP.out.ext (by (repeat (first | exact Ext.refl _ | refine Ext.alloc ?_ _ | refine Ext.drewN ?_ _ | refine Ext.drew ?_ | refine Ext.trans ?_ (Hid.out (by assumption)))))) hmz (by rw [hzy.out]; exact hT.out.2.ris)).mono ?_
            rintro e w6 ⟨a6, n6, cp6, zs', rfl, hs6, hd6, hb⟩
            have hy4 := hid (hy3.out.trans hb)
            have HS56 := hid (HS5.out.ext hb)
            have HS6 := hid hs6
            have HZ6 := hid (show zs'.map SB.d = ys'.map SB.d from by rw [hd6, HD5.out, hzy.out])
            clear hb hs6 hd6 hy3 HS5
            clear d0 d1 d2 d3 d4 d5 d6 d7
            go_wp2_with fail
            refine (sameS_any _ _ _ _ _ _ ys' zs' _ HS56.out HS6.out HZ6.out.symm).mono ?_
            rintro e w7 ⟨rfl, hb⟩
            have hy5 := hid (hy4.out.trans hb)
            have HS7 := hid (HS56.out.ext hb)
            have HS8 := hid (HS6.out.ext hb)
            clear hb hy4 HS56 HS6
            go_wp2
            go_roundg (gk - 1)
            case measure => omega
            case rel => exact ⟨k + 1, a5, n5, cp5, ys', a6, n6, cp6, zs', by omega, by omega, by go_num, rfl, rfl, ⟨HS7.out, by rw [HD5.out]; exact hT.out.2.next (HZZ.out (by trivial)) (HFW.out (by trivial))⟩, HS8.out, HZ6.out, (by (repeat (first | exact Ext.refl _ | refine Ext.alloc ?_ _ | refine Ext.drewN ?_ _ | refine Ext.drew ?_ | refine Ext.trans ?_ (Hid.out (by assumption)))))⟩
          · go_wp2
            go_roundg (gk - 1)
            case measure => omega
            case rel => exact ⟨k + 1, aa, m, cp, ys, ab, m2, cp2, zs, by omega, by omega, by go_num, rfl, rfl, ⟨⟨hT.out.1.sl.ext (by (repeat (first | exact Ext.refl _ | refine Ext.alloc ?_ _ | refine Ext.drewN ?_ _ | refine Ext.drew ?_ | refine Ext.trans ?_ (Hid.out (by assumption))))), fun s hs => (hT.out.1.ts s hs).ext (by (repeat (first | exact Ext.refl _ | refine Ext.alloc ?_ _ | refine Ext.drewN ?_ _ | refine Ext.drew ?_ | refine Ext.trans ?_ (Hid.out (by assumption)))))⟩, hT.out.2.mono (Nat.le_succ _)⟩, ⟨hZ.out.sl.ext (by (repeat (first | exact Ext.refl _ | refine Ext.alloc ?_ _ | refine Ext.drewN ?_ _ | refine Ext.drew ?_ | refine Ext.trans ?_ (Hid.out (by assumption))))), fun s hs => (hZ.out.ts s hs).ext (by (repeat (first | exact Ext.refl _ | refine Ext.alloc ?_ _ | refine Ext.drewN ?_ _ | refine Ext.drew ?_ | refine Ext.trans ?_ (Hid.out (by assumption)))))⟩, hzy.out, (by (repeat (first | exact Ext.refl _ | refine Ext.alloc ?_ _ | refine Ext.drewN ?_ _ | refine Ext.drew ?_ | refine Ext.trans ?_ (Hid.out (by assumption)))))⟩
      · have hmy : m ≤ 1000 := by have h1 := hT.out.2.len; rw [List.length_map] at h1; rw [hT.out.1.sl.neq]; omega
        have hmz : m2 ≤ 1000 := by have h1 := hT.out.2.len; rw [← hzy.out, List.length_map] at h1; rw [hZ.out.sl.neq]; omega
        have HL := hid (show ∀ s, s ∈ ys → s.ts.length ≤ 1000 from fun s hs => Nat.le_trans (hT.out.2.few s.d (List.mem_map_of_mem hs)) (by decide))
        have HY := hid hT.out.1
        have HZ := hZ
        have HZY := hzy
        have HBr := hid (HB2.out.ext hx.out)
        clear hT hZ hzy HB2
        have hkk' : ps.length ≤ k ∨ 30 ≤ k := by omega
        clear hkk
        by_cases hk : k < ps.length
        · have hk3 : ¬ k < 30 := by omega
          have b1 : (k : Int) < (ps.length : Int) := by omega
          have b2 : (30 : Int) ≤ (k : Int) := by omega
          clear hkk'
          go_wp2_with fail
          refine (filters_any _ _ _ ys _ _ _ cl _ ⟨HY.out.sl.ext (by (repeat (first | exact Ext.refl _ | refine Ext.alloc ?_ _ | refine Ext.drewN ?_ _ | refine Ext.drew ?_ | refine Ext.trans ?_ (Hid.out (by assumption))))), fun s hs => (HY.out.ts s hs).ext (by (repeat (first | exact Ext.refl _ | refine Ext.alloc ?_ _ | refine Ext.drewN ?_ _ | refine Ext.drew ?_ | refine Ext.trans ?_ (Hid.out (by assumption)))))⟩ (HC.out.ext (by (repeat (first | exact Ext.refl _ | refine Ext.alloc ?_ _ | refine Ext.drewN ?_ _ | refine Ext.drew ?_ | refine Ext.trans ?_ (Hid.out (by assumption)))))) HL.out hmy).mono ?_
          rintro e w3 ⟨a3, n3, c3, fs, rfl, hf, hmf, hb⟩
          have HFS := hid hf
          have HMF := hid hmf
          have hy3 := hid hb
          clear hf hmf hb
          go_wp2_with fail
          refine (rfilters_any _ _ _ zs _ _ _ cl _ ⟨HZ.out.sl.ext (by (repeat (first | exact Ext.refl _ | refine Ext.alloc ?_ _ | refine Ext.drewN ?_ _ | refine Ext.drew ?_ | refine Ext.trans ?_ (Hid.out (by assumption))))), fun s hs => (HZ.out.ts s hs).ext (by (repeat (first | exact Ext.refl _ | refine Ext.alloc ?_ _ | refine Ext.drewN ?_ _ | refine Ext.drew ?_ | refine Ext.trans ?_ (Hid.out (by assumption)))))⟩ (HC.out.ext (by (repeat (first | exact Ext.refl _ | refine Ext.alloc ?_ _ | refine Ext.drewN ?_ _ | refine Ext.drew ?_ | refine Ext.trans ?_ (Hid.out (by assumption)))))) hmz).mono ?_
          rintro e w4 ⟨a4, n4, c4, gs, rfl, hf, hmf, hb⟩
          have HGS := hid hf
          have HMG := hid (show fs.map (·.ts) = gs.map (·.ts) from by rw [HMF.out, hmf, HZY.out])
          have hy4 := hid hb
          clear hf hmf hb
          go_wp2_with fail
          refine (same07_any _ _ _ _ _ _ fs gs _ (HFS.out.ext hy4.out) HGS.out HMG.out).mono ?_
          rintro e w5 ⟨rfl, hb⟩
          have hy5 := hid hb
          have HB5 := hid (HBr.out.ext (show Ext wr w5 from (by (repeat (first | exact Ext.refl _ | refine Ext.alloc ?_ _ | refine Ext.drewN ?_ _ | refine Ext.drew ?_ | refine Ext.trans ?_ (Hid.out (by assumption)))))))
          clear hb HFS HGS HMF HMG
          obtain ⟨c0, c1, c2, c3, c4, c5, c6, c7⟩ := HB5.out.cells
          go_wp2_with fail
          go_region_held3 (fun w' => w'.cell? ⟨w.heap.size, 0, none⟩ = some (.int .i64 x.k) ∧ w'.cell? ⟨w.heap.size, 1, none⟩ = some (.int .i64 x.id.b) ∧ w'.cell? ⟨w.heap.size, 2, none⟩ = some (.int .u64 x.id.l) ∧ w'.cell? ⟨w.heap.size, 3, none⟩ = some (.int .u64 x.id.s) ∧ w'.cell? ⟨w.heap.size, 4, none⟩ = some (.int .i64 x.c) ∧ w'.cell? ⟨w.heap.size, 5, none⟩ = some (.int .u64 x.u) ∧ w'.cell? ⟨w.heap.size, 6, none⟩ = some (.slice x.f.a x.f.n x.f.c) ∧ w'.cell? ⟨w.heap.size, 7, none⟩ = some (.slice x.e.a x.e.n x.e.c)) (first | (go_split_ands; refine ⟨?_, ?_, ?_, ?_, ?_, ?_, ?_, ?_⟩ <;> exact (Hid.out hy).keep (by assumption)) | go_keep) (first | (go_at_call 14; refine (cut_any _ _ _ ys _ _ _ cl x d _ ⟨HY.out.sl.ext (by (repeat (first | exact Ext.refl _ | refine Ext.alloc ?_ _ | refine Ext.drewN ?_ _ | refine Ext.drew ?_ | refine Ext.trans ?_ (Hid.out (by assumption))))), fun s hs => (HY.out.ts s hs).ext (by (repeat (first | exact Ext.refl _ | refine Ext.alloc ?_ _ | refine Ext.drewN ?_ _ | refine Ext.drew ?_ | refine Ext.trans ?_ (Hid.out (by assumption)))))⟩ (HC.out.ext (by (repeat (first | exact Ext.refl _ | refine Ext.alloc ?_ _ | refine Ext.drewN ?_ _ | refine Ext.drew ?_ | refine Ext.trans ?_ (Hid.out (by assumption)))))) (HI.out.ext (by (repeat (first | exact Ext.refl _ | refine Ext.alloc ?_ _ | refine Ext.drewN ?_ _ | refine Ext.drew ?_ | refine Ext.trans ?_ (Hid.out (by assumption)))))) HL.out hmy (Nat.le_trans HSM.out.ts (by decide)) (Nat.le_trans HSM.out.es (by decide)) (fun e he => Nat.le_trans (HSM.out.ats e he) (by decide))).mono ?_; rintro e wq ⟨u, rfl, hiu, hb⟩; have HIU := hid hiu; have hy := hid hb; clear hb hiu) | (go_at_call 15; refine (rcut_any _ _ _ zs _ _ _ cl x d _ ⟨HZ.out.sl.ext (by (repeat (first | exact Ext.refl _ | refine Ext.alloc ?_ _ | refine Ext.drewN ?_ _ | refine Ext.drew ?_ | refine Ext.trans ?_ (Hid.out (by assumption))))), fun s hs => (HZ.out.ts s hs).ext (by (repeat (first | exact Ext.refl _ | refine Ext.alloc ?_ _ | refine Ext.drewN ?_ _ | refine Ext.drew ?_ | refine Ext.trans ?_ (Hid.out (by assumption)))))⟩ (HC.out.ext (by (repeat (first | exact Ext.refl _ | refine Ext.alloc ?_ _ | refine Ext.drewN ?_ _ | refine Ext.drew ?_ | refine Ext.trans ?_ (Hid.out (by assumption)))))) (HI.out.ext (by (repeat (first | exact Ext.refl _ | refine Ext.alloc ?_ _ | refine Ext.drewN ?_ _ | refine Ext.drew ?_ | refine Ext.trans ?_ (Hid.out (by assumption)))))) hmz (Nat.le_trans HSM.out.es (by decide))).mono ?_; rintro e wr ⟨v, rfl, hiv, hb⟩; rw [HZY.out] at hiv; have HIV := hid hiv; have hy := hid hb; clear hb hiv) | (go_at_call 13; refine (sameE11_any u v (cutD (ys.map SB.d) cl d) _ (HIU.out.ext (by (repeat (first | exact Ext.refl _ | refine Ext.alloc ?_ _ | refine Ext.drewN ?_ _ | refine Ext.drew ?_ | refine Ext.trans ?_ (Hid.out (by assumption)))))) (HIV.out.ext (by (repeat (first | exact Ext.refl _ | refine Ext.alloc ?_ _ | refine Ext.drewN ?_ _ | refine Ext.drew ?_ | refine Ext.trans ?_ (Hid.out (by assumption))))))).mono ?_; rintro e ws ⟨rfl, hb⟩; have hy := hid hb; clear hb))
          have hq := hid (show Ext w5 ws from (by (repeat (first | exact Ext.refl _ | refine Ext.alloc ?_ _ | refine Ext.drewN ?_ _ | refine Ext.drew ?_ | refine Ext.trans ?_ (Hid.out (by assumption))))))
          have HB6 := hid (HB5.out.ext hq.out)
          clear c0 c1 c2 c3 c4 c5 c6 c7
          clear HB5 HIU HIV
          obtain ⟨c0, c1, c2, c3, c4, c5, c6, c7⟩ := HB6.out.cells
          go_wp2_with fail
          go_region_held3 (fun w' => w'.cell? ⟨w.heap.size, 0, none⟩ = some (.int .i64 x.k) ∧ w'.cell? ⟨w.heap.size, 1, none⟩ = some (.int .i64 x.id.b) ∧ w'.cell? ⟨w.heap.size, 2, none⟩ = some (.int .u64 x.id.l) ∧ w'.cell? ⟨w.heap.size, 3, none⟩ = some (.int .u64 x.id.s) ∧ w'.cell? ⟨w.heap.size, 4, none⟩ = some (.int .i64 x.c) ∧ w'.cell? ⟨w.heap.size, 5, none⟩ = some (.int .u64 x.u) ∧ w'.cell? ⟨w.heap.size, 6, none⟩ = some (.slice x.f.a x.f.n x.f.c) ∧ w'.cell? ⟨w.heap.size, 7, none⟩ = some (.slice x.e.a x.e.n x.e.c)) (first | (go_split_ands; refine ⟨?_, ?_, ?_, ?_, ?_, ?_, ?_, ?_⟩ <;> exact (Hid.out hy).keep (by assumption)) | go_keep) (first | (go_at_call 17; refine (batch_any _ _ _ ys c x d _ ⟨HY.out.sl.ext (by (repeat (first | exact Ext.refl _ | refine Ext.alloc ?_ _ | refine Ext.drewN ?_ _ | refine Ext.drew ?_ | refine Ext.trans ?_ (Hid.out (by assumption))))), fun s hs => (HY.out.ts s hs).ext (by (repeat (first | exact Ext.refl _ | refine Ext.alloc ?_ _ | refine Ext.drewN ?_ _ | refine Ext.drew ?_ | refine Ext.trans ?_ (Hid.out (by assumption)))))⟩ (HI.out.ext (by (repeat (first | exact Ext.refl _ | refine Ext.alloc ?_ _ | refine Ext.drewN ?_ _ | refine Ext.drew ?_ | refine Ext.trans ?_ (Hid.out (by assumption)))))) hmy (Nat.le_trans HSM.out.es (by decide)) (fun e he => Nat.le_trans (HSM.out.ats e he) (by decide))).mono ?_; rintro e wq ⟨a6, n6, kp6, bs, rfl, hbs, hmb, hb⟩; have HB6 := hid hbs; have HM6 := hid hmb; have hy := hid hb; clear hbs hmb hb) | (go_at_call 18; refine (rbatch_any _ _ _ zs c x d _ ⟨HZ.out.sl.ext (by (repeat (first | exact Ext.refl _ | refine Ext.alloc ?_ _ | refine Ext.drewN ?_ _ | refine Ext.drew ?_ | refine Ext.trans ?_ (Hid.out (by assumption))))), fun s hs => (HZ.out.ts s hs).ext (by (repeat (first | exact Ext.refl _ | refine Ext.alloc ?_ _ | refine Ext.drewN ?_ _ | refine Ext.drew ?_ | refine Ext.trans ?_ (Hid.out (by assumption)))))⟩ (HI.out.ext (by (repeat (first | exact Ext.refl _ | refine Ext.alloc ?_ _ | refine Ext.drewN ?_ _ | refine Ext.drew ?_ | refine Ext.trans ?_ (Hid.out (by assumption)))))) hmz (Nat.le_trans HSM.out.es (by decide))).mono ?_; rintro e wr ⟨a7, n7, kp7, cs, rfl, hbs, hmb, hb⟩; rw [HZY.out] at hmb; have HB7 := hid hbs; have HM7 := hid hmb; have hy := hid hb; clear hbs hmb hb) | (go_at_call 16; refine (same_evs _ _ _ _ _ _ bs cs _ (by have h := HB6.out; exact ⟨h.sl.ext (by (repeat (first | exact Ext.refl _ | refine Ext.alloc ?_ _ | refine Ext.drewN ?_ _ | refine Ext.drew ?_ | refine Ext.trans ?_ (Hid.out (by assumption))))), fun x hx => (h.ats x hx).ext (by (repeat (first | exact Ext.refl _ | refine Ext.alloc ?_ _ | refine Ext.drewN ?_ _ | refine Ext.drew ?_ | refine Ext.trans ?_ (Hid.out (by assumption)))))⟩) (by have h := HB7.out; exact ⟨h.sl.ext (by (repeat (first | exact Ext.refl _ | refine Ext.alloc ?_ _ | refine Ext.drewN ?_ _ | refine Ext.drew ?_ | refine Ext.trans ?_ (Hid.out (by assumption))))), fun x hx => (h.ats x hx).ext (by (repeat (first | exact Ext.refl _ | refine Ext.alloc ?_ _ | refine Ext.drewN ?_ _ | refine Ext.drew ?_ | refine Ext.trans ?_ (Hid.out (by assumption)))))⟩) (HM6.out.trans HM7.out.symm)).mono ?_; rintro e wt ⟨rfl, hb⟩; have hy := hid hb; clear hb))
          go_wp2
          go_ret
          refine ⟨rfl, ?_⟩
          (repeat (first | exact Ext.refl _ | refine Ext.alloc ?_ _ | refine Ext.drewN ?_ _ | refine Ext.drew ?_ | refine Ext.trans ?_ (Hid.out (by assumption))))
        · clear hkk'
          go_wp2_with fail
          refine (filters_any _ _ _ ys _ _ _ cl _ ⟨HY.out.sl.ext (by (repeat (first | exact Ext.refl _ | refine Ext.alloc ?_ _ | refine Ext.drewN ?_ _ | refine Ext.drew ?_ | refine Ext.trans ?_ (Hid.out (by assumption))))), fun s hs => (HY.out.ts s hs).ext (by (repeat (first | exact Ext.refl _ | refine Ext.alloc ?_ _ | refine Ext.drewN ?_ _ | refine Ext.drew ?_ | refine Ext.trans ?_ (Hid.out (by assumption)))))⟩ (HC.out.ext (by (repeat (first | exact Ext.refl _ | refine Ext.alloc ?_ _ | refine Ext.drewN ?_ _ | refine Ext.drew ?_ | refine Ext.trans ?_ (Hid.out (by assumption)))))) HL.out hmy).mono ?_
          rintro e w3 ⟨a3, n3, c3, fs, rfl, hf, hmf, hb⟩
          have HFS := hid hf
          have HMF := hid hmf
          have hy3 := hid hb
          clear hf hmf hb
          go_wp2_with fail
          refine (rfilters_any _ _ _ zs _ _ _ cl _ ⟨HZ.out.sl.ext (by (repeat (first | exact Ext.refl _ | refine Ext.alloc ?_ _ | refine Ext.drewN ?_ _ | refine Ext.drew ?_ | refine Ext.trans ?_ (Hid.out (by assumption))))), fun s hs => (HZ.out.ts s hs).ext (by (repeat (first | exact Ext.refl _ | refine Ext.alloc ?_ _ | refine Ext.drewN ?_ _ | refine Ext.drew ?_ | refine Ext.trans ?_ (Hid.out (by assumption)))))⟩ (HC.out.ext (by (repeat (first | exact Ext.refl _ | refine Ext.alloc ?_ _ | refine Ext.drewN ?_ _ | refine Ext.drew ?_ | refine Ext.trans ?_ (Hid.out (by assumption)))))) hmz).mono ?_
          rintro e w4 ⟨a4, n4, c4, gs, rfl, hf, hmf, hb⟩
          have HGS := hid hf
          have HMG := hid (show fs.map (·.ts) = gs.map (·.ts) from by rw [HMF.out, hmf, HZY.out])
          have hy4 := hid hb
          clear hf hmf hb
          go_wp2_with fail
          refine (same07_any _ _ _ _ _ _ fs gs _ (HFS.out.ext hy4.out) HGS.out HMG.out).mono ?_
          rintro e w5 ⟨rfl, hb⟩
          have hy5 := hid hb
          have HB5 := hid (HBr.out.ext (show Ext wr w5 from (by (repeat (first | exact Ext.refl _ | refine Ext.alloc ?_ _ | refine Ext.drewN ?_ _ | refine Ext.drew ?_ | refine Ext.trans ?_ (Hid.out (by assumption)))))))
          clear hb HFS HGS HMF HMG
          obtain ⟨c0, c1, c2, c3, c4, c5, c6, c7⟩ := HB5.out.cells
          go_wp2_with fail
          go_region_held3 (fun w' => w'.cell? ⟨w.heap.size, 0, none⟩ = some (.int .i64 x.k) ∧ w'.cell? ⟨w.heap.size, 1, none⟩ = some (.int .i64 x.id.b) ∧ w'.cell? ⟨w.heap.size, 2, none⟩ = some (.int .u64 x.id.l) ∧ w'.cell? ⟨w.heap.size, 3, none⟩ = some (.int .u64 x.id.s) ∧ w'.cell? ⟨w.heap.size, 4, none⟩ = some (.int .i64 x.c) ∧ w'.cell? ⟨w.heap.size, 5, none⟩ = some (.int .u64 x.u) ∧ w'.cell? ⟨w.heap.size, 6, none⟩ = some (.slice x.f.a x.f.n x.f.c) ∧ w'.cell? ⟨w.heap.size, 7, none⟩ = some (.slice x.e.a x.e.n x.e.c)) (first | (go_split_ands; refine ⟨?_, ?_, ?_, ?_, ?_, ?_, ?_, ?_⟩ <;> exact (Hid.out hy).keep (by assumption)) | go_keep) (first | (go_at_call 14; refine (cut_any _ _ _ ys _ _ _ cl x d _ ⟨HY.out.sl.ext (by (repeat (first | exact Ext.refl _ | refine Ext.alloc ?_ _ | refine Ext.drewN ?_ _ | refine Ext.drew ?_ | refine Ext.trans ?_ (Hid.out (by assumption))))), fun s hs => (HY.out.ts s hs).ext (by (repeat (first | exact Ext.refl _ | refine Ext.alloc ?_ _ | refine Ext.drewN ?_ _ | refine Ext.drew ?_ | refine Ext.trans ?_ (Hid.out (by assumption)))))⟩ (HC.out.ext (by (repeat (first | exact Ext.refl _ | refine Ext.alloc ?_ _ | refine Ext.drewN ?_ _ | refine Ext.drew ?_ | refine Ext.trans ?_ (Hid.out (by assumption)))))) (HI.out.ext (by (repeat (first | exact Ext.refl _ | refine Ext.alloc ?_ _ | refine Ext.drewN ?_ _ | refine Ext.drew ?_ | refine Ext.trans ?_ (Hid.out (by assumption)))))) HL.out hmy (Nat.le_trans HSM.out.ts (by decide)) (Nat.le_trans HSM.out.es (by decide)) (fun e he => Nat.le_trans (HSM.out.ats e he) (by decide))).mono ?_; rintro e wq ⟨u, rfl, hiu, hb⟩; have HIU := hid hiu; have hy := hid hb; clear hb hiu) | (go_at_call 15; refine (rcut_any _ _ _ zs _ _ _ cl x d _ ⟨HZ.out.sl.ext (by (repeat (first | exact Ext.refl _ | refine Ext.alloc ?_ _ | refine Ext.drewN ?_ _ | refine Ext.drew ?_ | refine Ext.trans ?_ (Hid.out (by assumption))))), fun s hs => (HZ.out.ts s hs).ext (by (repeat (first | exact Ext.refl _ | refine Ext.alloc ?_ _ | refine Ext.drewN ?_ _ | refine Ext.drew ?_ | refine Ext.trans ?_ (Hid.out (by assumption)))))⟩ (HC.out.ext (by (repeat (first | exact Ext.refl _ | refine Ext.alloc ?_ _ | refine Ext.drewN ?_ _ | refine Ext.drew ?_ | refine Ext.trans ?_ (Hid.out (by assumption)))))) (HI.out.ext (by (repeat (first | exact Ext.refl _ | refine Ext.alloc ?_ _ | refine Ext.drewN ?_ _ | refine Ext.drew ?_ | refine Ext.trans ?_ (Hid.out (by assumption)))))) hmz (Nat.le_trans HSM.out.es (by decide))).mono ?_; rintro e wr ⟨v, rfl, hiv, hb⟩; rw [HZY.out] at hiv; have HIV := hid hiv; have hy := hid hb; clear hb hiv) | (go_at_call 13; refine (sameE11_any u v (cutD (ys.map SB.d) cl d) _ (HIU.out.ext (by (repeat (first | exact Ext.refl _ | refine Ext.alloc ?_ _ | refine Ext.drewN ?_ _ | refine Ext.drew ?_ | refine Ext.trans ?_ (Hid.out (by assumption)))))) (HIV.out.ext (by (repeat (first | exact Ext.refl _ | refine Ext.alloc ?_ _ | refine Ext.drewN ?_ _ | refine Ext.drew ?_ | refine Ext.trans ?_ (Hid.out (by assumption))))))).mono ?_; rintro e ws ⟨rfl, hb⟩; have hy := hid hb; clear hb))
          have hq := hid (show Ext w5 ws from (by (repeat (first | exact Ext.refl _ | refine Ext.alloc ?_ _ | refine Ext.drewN ?_ _ | refine Ext.drew ?_ | refine Ext.trans ?_ (Hid.out (by assumption))))))
          have HB6 := hid (HB5.out.ext hq.out)
          clear c0 c1 c2 c3 c4 c5 c6 c7
          clear HB5 HIU HIV
          obtain ⟨c0, c1, c2, c3, c4, c5, c6, c7⟩ := HB6.out.cells
          go_wp2_with fail
          go_region_held3 (fun w' => w'.cell? ⟨w.heap.size, 0, none⟩ = some (.int .i64 x.k) ∧ w'.cell? ⟨w.heap.size, 1, none⟩ = some (.int .i64 x.id.b) ∧ w'.cell? ⟨w.heap.size, 2, none⟩ = some (.int .u64 x.id.l) ∧ w'.cell? ⟨w.heap.size, 3, none⟩ = some (.int .u64 x.id.s) ∧ w'.cell? ⟨w.heap.size, 4, none⟩ = some (.int .i64 x.c) ∧ w'.cell? ⟨w.heap.size, 5, none⟩ = some (.int .u64 x.u) ∧ w'.cell? ⟨w.heap.size, 6, none⟩ = some (.slice x.f.a x.f.n x.f.c) ∧ w'.cell? ⟨w.heap.size, 7, none⟩ = some (.slice x.e.a x.e.n x.e.c)) (first | (go_split_ands; refine ⟨?_, ?_, ?_, ?_, ?_, ?_, ?_, ?_⟩ <;> exact (Hid.out hy).keep (by assumption)) | go_keep) (first | (go_at_call 17; refine (batch_any _ _ _ ys c x d _ ⟨HY.out.sl.ext (by (repeat (first | exact Ext.refl _ | refine Ext.alloc ?_ _ | refine Ext.drewN ?_ _ | refine Ext.drew ?_ | refine Ext.trans ?_ (Hid.out (by assumption))))), fun s hs => (HY.out.ts s hs).ext (by (repeat (first | exact Ext.refl _ | refine Ext.alloc ?_ _ | refine Ext.drewN ?_ _ | refine Ext.drew ?_ | refine Ext.trans ?_ (Hid.out (by assumption)))))⟩ (HI.out.ext (by (repeat (first | exact Ext.refl _ | refine Ext.alloc ?_ _ | refine Ext.drewN ?_ _ | refine Ext.drew ?_ | refine Ext.trans ?_ (Hid.out (by assumption)))))) hmy (Nat.le_trans HSM.out.es (by decide)) (fun e he => Nat.le_trans (HSM.out.ats e he) (by decide))).mono ?_; rintro e wq ⟨a6, n6, kp6, bs, rfl, hbs, hmb, hb⟩; have HB6 := hid hbs; have HM6 := hid hmb; have hy := hid hb; clear hbs hmb hb) | (go_at_call 18; refine (rbatch_any _ _ _ zs c x d _ ⟨HZ.out.sl.ext (by (repeat (first | exact Ext.refl _ | refine Ext.alloc ?_ _ | refine Ext.drewN ?_ _ | refine Ext.drew ?_ | refine Ext.trans ?_ (Hid.out (by assumption))))), fun s hs => (HZ.out.ts s hs).ext (by (repeat (first | exact Ext.refl _ | refine Ext.alloc ?_ _ | refine Ext.drewN ?_ _ | refine Ext.drew ?_ | refine Ext.trans ?_ (Hid.out (by assumption)))))⟩ (HI.out.ext (by (repeat (first | exact Ext.refl _ | refine Ext.alloc ?_ _ | refine Ext.drewN ?_ _ | refine Ext.drew ?_ | refine Ext.trans ?_ (Hid.out (by assumption)))))) hmz (Nat.le_trans HSM.out.es (by decide))).mono ?_; rintro e wr ⟨a7, n7, kp7, cs, rfl, hbs, hmb, hb⟩; rw [HZY.out] at hmb; have HB7 := hid hbs; have HM7 := hid hmb; have hy := hid hb; clear hbs hmb hb) | (go_at_call 16; refine (same_evs _ _ _ _ _ _ bs cs _ (by have h := HB6.out; exact ⟨h.sl.ext (by (repeat (first | exact Ext.refl _ | refine Ext.alloc ?_ _ | refine Ext.drewN ?_ _ | refine Ext.drew ?_ | refine Ext.trans ?_ (Hid.out (by assumption))))), fun x hx => (h.ats x hx).ext (by (repeat (first | exact Ext.refl _ | refine Ext.alloc ?_ _ | refine Ext.drewN ?_ _ | refine Ext.drew ?_ | refine Ext.trans ?_ (Hid.out (by assumption)))))⟩) (by have h := HB7.out; exact ⟨h.sl.ext (by (repeat (first | exact Ext.refl _ | refine Ext.alloc ?_ _ | refine Ext.drewN ?_ _ | refine Ext.drew ?_ | refine Ext.trans ?_ (Hid.out (by assumption))))), fun x hx => (h.ats x hx).ext (by (repeat (first | exact Ext.refl _ | refine Ext.alloc ?_ _ | refine Ext.drewN ?_ _ | refine Ext.drew ?_ | refine Ext.trans ?_ (Hid.out (by assumption)))))⟩) (HM6.out.trans HM7.out.symm)).mono ?_; rintro e wt ⟨rfl, hb⟩; have hy := hid hb; clear hb))
          go_wp2
          go_ret
          refine ⟨rfl, ?_⟩
          (repeat (first | exact Ext.refl _ | refine Ext.alloc ?_ _ | refine Ext.drewN ?_ _ | refine Ext.drew ?_ | refine Ext.trans ?_ (Hid.out (by assumption))))
end Go.Proofs.YtiifflojpoobpaaGreat
