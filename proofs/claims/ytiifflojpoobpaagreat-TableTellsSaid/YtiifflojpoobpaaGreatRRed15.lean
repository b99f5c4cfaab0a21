/- The document's answer for filters that others do not cover: the walk of its Reduce. -/
import Derived.Test.YtiifflojpoobpaaGreatRef7
import Derived.Test.YtiifflojpoobpaaGreatCutSl
import Derived.Deep.DeepCutAuto
import Derived.IntWalk
set_option linter.unusedVariables false
set_option linter.unusedSimpArgs false
namespace Go.Proofs.YtiifflojpoobpaaGreat
open Go.RowKit

/-- A result that is filters in memory. -/
def RetFr (fs : List (List T)) (w : World) (e : Ending) (w' : World) : Prop :=
  ∃ aa n c ys, e = .returned (.slice aa n c) ∧ Flts w' aa n c ys ∧ ys.map (·.ts) = fs ∧ Ext w w'
theorem red_at {xs : List FV} {out : List FV} {k : Nat} {R : List (List T)} {v1 v2 : Bool} (hk : k < xs.length) (h : red (out.map (·.ts)) ((xs.map (·.ts)).drop k) = R) (h1 : v1 = out.any (fun y => cov y.ts xs[k].ts)) (h2 : v2 = (xs.drop (k + 1)).any (fun y => cov y.ts xs[k].ts)) :
    if (v1 || v2) = true then red (out.map (·.ts)) ((xs.map (·.ts)).drop (k + 1)) = R else red ((out ++ [xs[k]]).map (·.ts)) ((xs.map (·.ts)).drop (k + 1)) = R := by
  have hkm : k < (xs.map (·.ts)).length := by rw [List.length_map]; exact hk
  rw [red_drop hkm, any_ts, ← List.map_drop, any_ts] at h
  rw [List.map_append, h1, h2]
  simp only [List.getElem_map] at h
  split <;> rename_i hc
  · rw [if_pos hc, List.map_drop] at h; exact h
  · rw [if_neg hc, List.map_drop] at h; exact h
set_option maxRecDepth 100000 in
set_option maxHeartbeats 4000000 in
theorem rreduce_any (la : Option Addr) (ln lc : Nat) (xs : List FV) (w : World) (hX : Flts w la ln lc xs) (hn : ln ≤ 1000) :
    Calls Tryz.prog 38 #[.slice la ln lc] w (RetFr (red [] (xs.map (·.ts))) w) := by
  obtain ⟨i0, hi, hz0, hz1, hz2⟩ := info_parts infoF
  obtain rfl := hX.sl.neq
  have hmx := hX.sl.max
  have hm := hX.sl.max
  have hl := hX.sl.len
  unfold maxLen at hm
  have HMX := hid hmx
  have HX := hid hX
  have I1 := hid hi
  have I2 := hid hz0
  have I3 := hid hz1
  have I4 := hid hz2
  clear hX hi hz0 hz1 hz2 hmx
  generalize hR : red [] (xs.map (·.ts)) = R
  have HR := hid hR
  clear hR
  go_enter Tryz.func38, Tryz.ntmps38
  go_wp2_with fail
  go_loopg [3, 4, 5, 6] (xs.length) (fun g ov st _ _ wr => ∃ (k : Nat) (aa : Option Addr) (m cp : Nat) (ys : List FV), g + k = xs.length ∧ st = .int .i64 k ∧ ov = .slice aa m cp ∧ m ≤ k ∧
    Hid (Own wr w.heap.size 28 1 FV.cs aa m cp ys) ∧ Hid (∀ y, y ∈ ys → y ∈ xs) ∧ Hid (red (ys.map (·.ts)) ((xs.map (·.ts)).drop k) = R) ∧ Hid (Ext w wr))
  case atStart => exact ⟨0, none, 0, 0, [], by omega, rfl, rfl, by omega, Own.nil _ _ _ FV.wid, (fun y hy => by cases hy), HR.out, Ext.refl _⟩
  case round =>
    obtain ⟨k, aa, m, cp, ys, hg, rfl, rfl, hmk, hown, hin, hred, hx⟩ := hrel
    by_cases hk : k < xs.length
    · obtain ⟨b, o, rfl, hc⟩ := HX.out.sl.get k hk
      have c0 := cellsF (w := wr) (b := b) (o := o + k * 1) (x := xs[k]) (fun j v hj => hx.out.keep (hc j v hj))
      rw [Nat.mul_one] at c0
      have HF := hid (HX.out.ts xs[k] (List.getElem_mem hk))
      clear hc
      have b0 : (0 : Int) ≤ (k : Int) := by omega
      have b1 : (k : Int) < (xs.length : Int) := by omega
      obtain ⟨v1, hv1⟩ : ∃ v1, v1 = ys.any (fun y => cov y.ts xs[k].ts) := ⟨_, rfl⟩
      obtain ⟨v2, hv2⟩ : ∃ v2, v2 = (xs.drop (k + 1)).any (fun y => cov y.ts xs[k].ts) := ⟨_, rfl⟩
      have HRA := hid (red_at hk hred.out hv1 hv2)
      have HV1 := hid hv1
      have HV2 := hid hv2
      clear hv1 hv2
      go_upto_region 6 with (go_at_call 60; refine (rcovered_any _ _ _ ys _ _ _ xs[k].ts _ ⟨hown.out.sl.ext (by (repeat (first | exact Ext.refl _ | refine Ext.alloc ?_ _ | refine Ext.drewN ?_ _ | refine Ext.drew ?_ | refine Ext.trans ?_ (Hid.out (by assumption))))), fun y hy => (HX.out.ts y (hin.out y hy)).ext (by (repeat (first | exact Ext.refl _ | refine Ext.alloc ?_ _ | refine Ext.drewN ?_ _ | refine Ext.drew ?_ | refine Ext.trans ?_ (Hid.out (by assumption)))))⟩ (HF.out.ext (by (repeat (first | exact Ext.refl _ | refine Ext.alloc ?_ _ | refine Ext.drewN ?_ _ | refine Ext.drew ?_ | refine Ext.trans ?_ (Hid.out (by assumption))))))).mono ?_; rintro e w1 ⟨he, hb⟩; rw [← HV1.out] at he; subst he; have hy1 := hid hb; clear hb)
      have d0 : w1.cell? ⟨b, o + k, none⟩ = some (.slice xs[k].v.a xs[k].v.n xs[k].v.c) := hy1.out.keep c0
      clear c0
      go_cut [6] (fun r wx => r = .bool v2 ∧ Hid (Ext w1 wx))
      case first =>
        have hwr : IntKind.i64.wrap (↑k + 1) = ↑k + 1 := IntWalk.i64_in _ (by omega)
        have hnn : (0 : Int) ≤ ↑k + 1 := by omega
        have htn : ((k : Int) + 1).toNat = k + 1 := by omega
        have hkn : (k : Int) + 1 ≤ (xs.length : Int) := by omega
        by_cases hlast : k + 1 = lc
        · obtain rfl : k + 1 = lc := hlast
          have H2 : Hid (([] : List FV).any (fun y => cov y.ts xs[k].ts) = v2) := by rw [HV2.out, List.drop_eq_nil_of_le (by omega)]; rfl
          have hx0 : xs.length - (k + 1) = 0 := by omega
          go_region_held3 (fun w' => w'.cell? ⟨b, o + k, none⟩ = some (.slice xs[k].v.a xs[k].v.n xs[k].v.c)) (first | (exact (Hid.out hy).keep (by assumption)) | go_keep) ((go_at_call 60; refine (rcovered_any _ _ _ _ _ _ _ xs[k].ts _ (Flts.none_of (by simp only [maxLen]; omega)) (HF.out.ext (by (repeat (first | exact Ext.refl _ | refine Ext.alloc ?_ _ | refine Ext.drewN ?_ _ | refine Ext.drew ?_ | refine Ext.trans ?_ (Hid.out (by assumption))))))).mono ?_; rintro e wq ⟨he, hb⟩; rw [H2.out] at he; subst he; have hy := hid hb; clear hb))
          all_goals
            go_wp2_with fail
            go_meet
            exact ⟨rfl, (by (repeat (first | exact Ext.refl _ | refine Ext.alloc ?_ _ | refine Ext.drewN ?_ _ | refine Ext.drew ?_ | refine Ext.trans ?_ (Hid.out (by assumption)))))⟩
        · have hlt : k + 1 < lc := by omega
          have hne : ¬ lc = k + 1 := by omega
          have H2 : Hid ((xs.drop (k + 1)).any (fun y => cov y.ts xs[k].ts) = v2) := HV2.out.symm
          go_region_held3 (fun w' => w'.cell? ⟨b, o + k, none⟩ = some (.slice xs[k].v.a xs[k].v.n xs[k].v.c)) (first | (exact (Hid.out hy).keep (by assumption)) | go_keep) ((go_at_call 60; refine (rcovered_any _ _ _ _ _ _ _ xs[k].ts _ ((HX.out.drop (k + 1) (by omega)).ext (by (repeat (first | exact Ext.refl _ | refine Ext.alloc ?_ _ | refine Ext.drewN ?_ _ | refine Ext.drew ?_ | refine Ext.trans ?_ (Hid.out (by assumption)))))) (HF.out.ext (by (repeat (first | exact Ext.refl _ | refine Ext.alloc ?_ _ | refine Ext.drewN ?_ _ | refine Ext.drew ?_ | refine Ext.trans ?_ (Hid.out (by assumption))))))).mono ?_; rintro e wq ⟨he, hb⟩; rw [H2.out] at he; subst he; have hy := hid hb; clear hb))
          all_goals
            go_wp2_with fail
            go_meet
            exact ⟨rfl, (by (repeat (first | exact Ext.refl _ | refine Ext.alloc ?_ _ | refine Ext.drewN ?_ _ | refine Ext.drew ?_ | refine Ext.trans ?_ (Hid.out (by assumption)))))⟩
      case rest =>
        obtain ⟨rfl, hx6⟩ := hcut
        have d1 := hx6.out.keep d0
        clear d0
        have hor : (v1 || v2) = true ∨ (v1 = false ∧ v2 = false) := by cases v1 <;> cases v2 <;> simp
        rcases hor with hor | ⟨rfl, rfl⟩
        · have hnot : (!v1 && !v2) = false := by cases v1 <;> cases v2 <;> simp_all
          have HN := HRA.out
          rw [if_pos hor] at HN
          replace HN := hid HN
          clear HRA hor
          cases v1 with
          | true =>
            go_wp2_with fail
            go_roundg (gk - 1)
            case measure => omega
            case rel => exact ⟨k + 1, aa, m, cp, ys, by omega, by go_num, rfl, by omega, hown.out.ext (by (repeat (first | exact Ext.refl _ | refine Ext.alloc ?_ _ | refine Ext.drewN ?_ _ | refine Ext.drew ?_ | refine Ext.trans ?_ (Hid.out (by assumption))))), hin.out, HN.out, (by (repeat (first | exact Ext.refl _ | refine Ext.alloc ?_ _ | refine Ext.drewN ?_ _ | refine Ext.drew ?_ | refine Ext.trans ?_ (Hid.out (by assumption)))))⟩
          | false =>
            obtain rfl : v2 = true := by cases v2 <;> simp_all
            go_wp2_with fail
            go_roundg (gk - 1)
            case measure => omega
            case rel => exact ⟨k + 1, aa, m, cp, ys, by omega, by go_num, rfl, by omega, hown.out.ext (by (repeat (first | exact Ext.refl _ | refine Ext.alloc ?_ _ | refine Ext.drewN ?_ _ | refine Ext.drew ?_ | refine Ext.trans ?_ (Hid.out (by assumption))))), hin.out, HN.out, (by (repeat (first | exact Ext.refl _ | refine Ext.alloc ?_ _ | refine Ext.drewN ?_ _ | refine Ext.drew ?_ | refine Ext.trans ?_ (Hid.out (by assumption)))))⟩
        · have HN := HRA.out
          rw [if_neg (by simp)] at HN
          replace HN := hid HN
          clear HRA
          go_wp2_with (at_builtin; refine app1 (ys := ys) rfl (.tmp 34) (.tmp 39) 40 rfl i0 _ 24 Tryz.underlying40 I1.out I2.out I3.out I4.out rfl (by decide) rfl (hown.out.ext (by (repeat (first | exact Ext.refl _ | refine Ext.alloc ?_ _ | refine Ext.drewN ?_ _ | refine Ext.drew ?_ | refine Ext.trans ?_ (Hid.out (by assumption)))))) xs[k] _ rfl (news_alloc (cs := FV.cs xs[k]) rfl) (FV.one _) (by omega) (by decide) (Ext.size (by (repeat (first | exact Ext.refl _ | refine Ext.alloc ?_ _ | refine Ext.drewN ?_ _ | refine Ext.drew ?_ | refine Ext.trans ?_ (Hid.out (by assumption)))))) ?_; intro g cap' w3 hown3 hgrow; have HO3 := hid hown3; have HG := hid hgrow; clear hown3 hgrow)
          go_roundg (gk - 1)
          case measure => omega
          case rel =>
            refine ⟨k + 1, _, _, _, ys ++ [xs[k]], by omega, by go_num, rfl, by omega, HO3.out, fun y hy => ?_, HN.out, HG.out.ext (hown.out.ext (by (repeat (first | exact Ext.refl _ | refine Ext.alloc ?_ _ | refine Ext.drewN ?_ _ | refine Ext.drew ?_ | refine Ext.trans ?_ (Hid.out (by assumption)))))) (Nat.le_refl _) (by (repeat (first | exact Ext.refl _ | refine Ext.alloc ?_ _ | refine Ext.drewN ?_ _ | refine Ext.drew ?_ | refine Ext.trans ?_ (Hid.out (by assumption)))))⟩
            rcases List.mem_append.1 hy with hy | hy
            · exact hin.out y hy
            · obtain rfl := List.mem_singleton.1 hy
              exact List.getElem_mem hk
    · have hk' : (xs.map (·.ts)).drop k = [] := List.drop_eq_nil_of_le (by rw [List.length_map]; omega)
      rw [hk'] at hred
      clear hk'
      go_wp2
      go_ret
      exact ⟨aa, m, cp, ys, rfl, ⟨hown.out.sl, fun y hy => (HX.out.ts y (hin.out y hy)).ext (by (repeat (first | exact Ext.refl _ | refine Ext.alloc ?_ _ | refine Ext.drewN ?_ _ | refine Ext.drew ?_ | refine Ext.trans ?_ (Hid.out (by assumption)))))⟩, hred.out, (by (repeat (first | exact Ext.refl _ | refine Ext.alloc ?_ _ | refine Ext.drewN ?_ _ | refine Ext.drew ?_ | refine Ext.trans ?_ (Hid.out (by assumption)))))⟩
end Go.Proofs.YtiifflojpoobpaaGreat
