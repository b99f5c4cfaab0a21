/- Those filters of some clients that are not covered: the walk of the program's Filters. -/
import Derived.Test.YtiifflojpoobpaaGreatCmp15
import Derived.Test.YtiifflojpoobpaaGreatReduce
set_option linter.unusedVariables false
set_option linter.unusedSimpArgs false
namespace Go.Proofs.YtiifflojpoobpaaGreat
open Go.RowKit

/-- Filters that a call gives back. -/
def RetFl (fs : List (List T)) (w : World) (e : Ending) (w' : World) : Prop := ∃ aa n cap ys, e = .returned (.slice aa n cap) ∧ Flts w' aa n cap ys ∧ ys.map (·.ts) = fs ∧ Ext w w'
def SB.fv (s : SB) : FV := ⟨s.f, s.ts⟩
theorem asked_of (xs : List SB) (cl : List Int) : ((xs.filter (fun s : SB => decide (s.c ∈ cl))).map SB.fv).map (·.ts) = askedD (xs.map SB.d) cl := by
  unfold askedD
  rw [List.filter_map, List.map_map, List.map_map]
  congr 1
  refine List.filter_congr fun s _ => ?_
  rw [Bool.eq_iff_iff]; simp [SB.d]; exact decide_eq_true_iff.symm
set_option maxRecDepth 100000 in
set_option maxHeartbeats 1000000 in
theorem filters_any (a : Option Addr) (n cap : Nat) (xs : List SB) (ia : Option Addr) (im ic : Nat) (cl : List Int) (w : World) (hS : Subs w a n cap xs) (hC : Sl w 1 iC ia im ic cl) (hL : ∀ s, s ∈ xs → s.ts.length ≤ 1000) (hn : n ≤ 1000) :
    Calls Tryz.prog 11 #[.slice a n cap, .slice ia im ic] w (RetFl (filtersD (xs.map SB.d) cl) w) := by
  obtain ⟨i0, hi, hz0, hz1, hz2⟩ := info_parts infoF
  have I1 := hid hi
  have I2 := hid hz0
  have I3 := hid hz1
  have I4 := hid hz2
  clear hi hz0 hz1 hz2
  obtain rfl := hS.sl.neq
  have hm := hS.sl.max
  have hl := hS.sl.len
  unfold maxLen at hm
  have HS := hid hS
  have HC := hid hC
  have HL := hid hL
  clear hS hC hL
  go_enter Tryz.func11, Tryz.ntmps11
  go_wp2_with fail
  refine (keepS_any _ _ _ xs (fun s : SB => decide (s.c ∈ cl)) 35 ⟨w.heap.size, 0, none⟩ _ (HS.out.sl.ext (by (repeat (first | exact Ext.refl _ | refine Ext.alloc ?_ _ | refine Ext.drewN ?_ _ | refine Ext.drew ?_ | refine Ext.trans ?_ (Hid.out (by assumption)))))) (by omega) (fun _ _ => by kernel_rfl) (fun s _ w' hw => filters1_any s w.heap.size _ _ _ cl w' (hw.keep (by simp)) ((HC.out.ext (by (repeat (first | exact Ext.refl _ | refine Ext.alloc ?_ _ | refine Ext.drewN ?_ _ | refine Ext.drew ?_ | refine Ext.trans ?_ (Hid.out (by assumption)))))).ext hw))).mono ?_
  rintro e w1 ⟨a1, n1, c1, rfl, hO, hb⟩
  have hsub : ∀ s, s ∈ xs.filter (fun s : SB => decide (s.c ∈ cl)) → s ∈ xs := fun s hs => (List.mem_filter.1 hs).1
  have hlen : (xs.filter (fun s : SB => decide (s.c ∈ cl))).length ≤ xs.length := List.length_filter_le _ _
  have HR := hid (asked_of xs cl)
  generalize xs.filter (fun s : SB => decide (s.c ∈ cl)) = L at hO hsub hlen HR
  obtain rfl := hO.neq
  have hm1 := hO.sl.max
  have hl1 := hO.sl.len
  unfold maxLen at hm1
  have HO := hid hO.sl
  have hy := hid (show Ext w w1 from Ext.trans ((Ext.refl w).alloc _) hb)
  clear hO hb
  go_wp2_with fail
  go_loopg [6, 14] (L.length) (fun g ov st wr => ∃ (k : Nat) (aa : Option Addr) (m cp : Nat), g + k = L.length ∧ st = .int .i64 k ∧ ov = .slice aa m cp ∧ m ≤ k ∧ Hid (Own wr w1.heap.size 28 1 FV.cs aa m cp ((L.take k).map SB.fv)) ∧ Hid (Ext w1 wr))
  case atStart => exact ⟨0, none, 0, 0, by omega, rfl, rfl, by omega, Own.nil _ _ _ FV.wid, Ext.refl _⟩
  case round =>
    obtain ⟨k, aa, m, cp, hg, rfl, rfl, hmk, hown, hx⟩ := hrel
    by_cases hk : k < L.length
    · obtain ⟨b, o, rfl, hc⟩ := HO.out.get k hk
      obtain ⟨d0, d1, d2⟩ := cellsSB (w := wr) (b := b) (o := o + k * 3) (x := L[k]) (fun j v hj => hx.out.keep (hc j v hj))
      clear hc
      have b0 : (0 : Int) ≤ (k : Int) := by omega
      have b1 : (k : Int) < (L.length : Int) := by omega
      go_wp2_with (at_builtin; go_must (refine app1 (ys := (L.take k).map SB.fv) rfl (.tmp 18) (.tmp 21) 40 rfl i0 _ 24 Tryz.underlying40 I1.out I2.out I3.out I4.out rfl (by decide) rfl (hown.out.ext (by (repeat (first | exact Ext.refl _ | refine Ext.alloc ?_ _ | refine Ext.drewN ?_ _ | refine Ext.drew ?_ | refine Ext.trans ?_ (Hid.out (by assumption)))))) L[k].fv _ rfl (news_alloc (cs := FV.cs L[k].fv) (by simp)) (FV.one _) (by omega) (by decide) (Ext.size (by (repeat (first | exact Ext.refl _ | refine Ext.alloc ?_ _ | refine Ext.drewN ?_ _ | refine Ext.drew ?_ | refine Ext.trans ?_ (Hid.out (by assumption)))))) ?_); intro g cap' w3 hown3 hgrow; have HO3 := hid hown3; have HG := hid hgrow; clear hown3 hgrow)
      go_roundg (gk - 1)
      case measure => omega
      case rel => exact ⟨k + 1, _, _, _, by omega, by go_num, rfl, by omega, by (rw [List.take_succ_eq_append_getElem hk, List.map_append]; exact HO3.out), HG.out.ext (hown.out.ext (by (repeat (first | exact Ext.refl _ | refine Ext.alloc ?_ _ | refine Ext.drewN ?_ _ | refine Ext.drew ?_ | refine Ext.trans ?_ (Hid.out (by assumption)))))) (Nat.le_refl _) (by (repeat (first | exact Ext.refl _ | refine Ext.alloc ?_ _ | refine Ext.drewN ?_ _ | refine Ext.drew ?_ | refine Ext.trans ?_ (Hid.out (by assumption)))))⟩
    · have hk' : L.take k = L := List.take_of_length_le (by omega)
      rw [hk'] at hown
      clear hk'
      go_wp2_with fail
      refine (reduce_any _ _ _ (L.map SB.fv) _ ⟨hown.out.sl, fun y hy' => ?hts⟩ (by omega) (fun y hy' => ?hnn)).mono ?_
      case hts =>
        obtain ⟨s, hs, rfl⟩ := List.mem_map.1 hy'
        exact ((HS.out.ts s (hsub s hs)).ext hy.out).ext hx.out
      case hnn =>
        obtain ⟨s, hs, rfl⟩ := List.mem_map.1 hy'
        show s.f.n ≤ 1000
        rw [(HS.out.ts s (hsub s hs)).neq]
        exact HL.out s (hsub s hs)
      rintro e w4 ⟨a4, n4, c4, zs, rfl, hf, hmz, hb⟩
      have HF := hid hf
      have HM := hid hmz
      have hx4 := hid hb
      clear hf hmz hb
      go_wp2
      go_ret
      refine ⟨a4, n4, c4, zs, rfl, HF.out.flts, by rw [HM.out, HR.out]; rfl, ?_⟩
      (repeat (first | exact Ext.refl _ | refine Ext.alloc ?_ _ | refine Ext.drewN ?_ _ | refine Ext.drew ?_ | refine Ext.trans ?_ (Hid.out (by assumption))))
end Go.Proofs.YtiifflojpoobpaaGreat
