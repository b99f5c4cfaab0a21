/- A broker's votes: the walk of vote.Tally. -/
import Derived.Test.YtncadipipomebaaEnds
namespace Go.Proofs.Ytncadipipomebaa
open Go.RowKit

theorem infoV : (Try.prog.info? 45).map (fun i => (i.zero, i.size, i.bytes)) = some (some (.agg #[.int .i64 0, .int .u64 0, .int .u64 0, .bool false]), 4, 32) := by kernel_rfl
theorem V.wid (v : V) : v.cs.length = 4 := rfl
theorem V.one (v : V) : ∀ u ∈ v.cs, u.oneCell' = true := by
  intro u hu; simp only [V.cs, List.mem_cons, List.not_mem_nil, or_false] at hu; rcases hu with rfl | rfl | rfl | rfl <;> rfl

theorem says_cases (kids : List Kid) (i : Id) : saysOf kids i = 0 ∨ saysOf kids i = 1 ∨ saysOf kids i = 2 := by
  unfold saysOf; split
  · exact .inr (.inr rfl)
  · split
    · exact .inr (.inl rfl)
    · exact .inl rfl
def tStep1 (kids : List Kid) (out : List V) (i : Id) : List V := if saysOf kids i ≠ 0 ∧ out.length < 16 then out ++ [⟨i, decide (saysOf kids i = 1)⟩] else out
def tStep2 (out : List V) (i : Id) : List V := if 16 ≤ out.length then out else if out.any (fun x => idEq x.id i) = true then out else out ++ [⟨i, false⟩]
def tally1 (kids : List Kid) (ps : List EV) : List V := ps.foldl (fun o x => tStep1 kids o x.id) []
def tallyOf (kids : List Kid) (ps : List EV) (rs : List Id) : List V := rs.foldl tStep2 (tally1 kids ps)
theorem tally1_succ {kids : List Kid} {ps : List EV} {k : Nat} (hk : k < ps.length) : tally1 kids (ps.take (k + 1)) = tStep1 kids (tally1 kids (ps.take k)) ps[k].id := by
  unfold tally1; rw [List.take_succ_eq_append_getElem hk, List.foldl_append]; rfl
theorem tally2_succ {kids : List Kid} {ps : List EV} {rs : List Id} {k : Nat} (hk : k < rs.length) : tallyOf kids ps (rs.take (k + 1)) = tStep2 (tallyOf kids ps (rs.take k)) rs[k] := by
  unfold tallyOf; rw [List.take_succ_eq_append_getElem hk, List.foldl_append]; rfl
theorem t2_full : ∀ (l : List Id) (out : List V), 16 ≤ out.length → l.foldl tStep2 out = out
  | [], _, _ => rfl
  | v :: l, out, h => by rw [List.foldl_cons, show tStep2 out v = out from by unfold tStep2; rw [if_pos h]]; exact t2_full l out h
theorem tally_stop {kids : List Kid} {ps : List EV} {rs : List Id} {k : Nat} (h : 16 ≤ (tallyOf kids ps (rs.take k)).length) : tallyOf kids ps (rs.take k) = tallyOf kids ps rs := by
  have : tallyOf kids ps rs = (rs.drop k).foldl tStep2 (tallyOf kids ps (rs.take k)) := by
    unfold tallyOf; rw [← List.foldl_append, List.take_append_drop]
  rw [this, t2_full _ _ h]
theorem t1_zero {kids : List Kid} {out : List V} {i : Id} (h : saysOf kids i = 0) : tStep1 kids out i = out := by unfold tStep1; rw [if_neg (fun c => c.1 h)]
theorem t1_full {kids : List Kid} {out : List V} {i : Id} (h : ¬ out.length < 16) : tStep1 kids out i = out := by unfold tStep1; rw [if_neg (fun c => h c.2)]
theorem t1_more {kids : List Kid} {out : List V} {i : Id} (h : saysOf kids i ≠ 0) (hl : out.length < 16) : tStep1 kids out i = out ++ [⟨i, decide (saysOf kids i = 1)⟩] := by unfold tStep1; rw [if_pos ⟨h, hl⟩]
theorem t2_known {out : List V} {i : Id} (h : out.any (fun x => idEq x.id i) = true) : tStep2 out i = out := by
  unfold tStep2
  by_cases hl : 16 ≤ out.length
  · rw [if_pos hl]
  · rw [if_neg hl, if_pos h]
theorem t2_more {out : List V} {i : Id} (hl : ¬ 16 ≤ out.length) (h : out.any (fun x => idEq x.id i) = false) : tStep2 out i = out ++ [⟨i, false⟩] := by
  unfold tStep2; rw [if_neg hl, if_neg (by rw [h]; simp)]

set_option maxRecDepth 100000 in
set_option maxHeartbeats 4000000 in
theorem tally_any (pa : Option Addr) (pn pc : Nat) (ps : List EV) (ra : Option Addr) (rn rc : Nat) (rs : List Id) (ka : Option Addr) (kn kc : Nat) (kids : List Kid) (w : World)
    (hP : Sl w 8 EV.cs pa pn pc ps) (hR : Sl w 3 Id.cs ra rn rc rs) (hK : Kids w ka kn kc kids) :
    Calls Try.prog 21 #[.slice pa pn pc, .slice ra rn rc, .slice ka kn kc] w (RetSl 4 V.cs (tallyOf kids ps rs) w) := by
  obtain ⟨i0, hi, hz0, hz1, hz2⟩ := info_parts infoV
  obtain rfl := hP.neq
  obtain rfl := hR.neq
  have hm := hP.max
  have hl := hP.len
  have hm' := hR.max
  have hl' := hR.len
  unfold maxLen at hm hm'
  have HP := hid hP
  have HR := hid hR
  have HK := hid hK
  have I1 := hid hi
  have I2 := hid hz0
  have I3 := hid hz1
  have I4 := hid hz2
  clear hP hR hK hi hz0 hz1 hz2
  go_enter Try.func21, Try.ntmps21
  go_wp2_with fail
  go_step3
  go_wp2_with fail
  go_loopg [7, 15] (ps.length) (fun g ov st wr => ∃ (k : Nat) (aa : Option Addr) (m cp : Nat), g + k = ps.length ∧ st = .int .i64 k ∧ ov = .slice aa m cp ∧ Hid (Own wr w.heap.size 45 4 V.cs aa m cp (tally1 kids (ps.take k))) ∧ Hid (Ext w wr))
  case atStart => exact ⟨0, none, 0, 0, by omega, rfl, rfl, Own.nil _ _ _ V.wid, Ext.refl _⟩
  case round =>
    obtain ⟨k, aa, m, cp, hg, rfl, rfl, hown, hx⟩ := hrel
    by_cases hk : k < ps.length
    · obtain ⟨b, o, rfl, hc⟩ := HP.out.get k hk
      obtain ⟨c0, c1, c2, c3, c4, c5, c6, c7⟩ := cells8 (w := wr) (b := b) (o := o + k * 8) (x := ps[k]) (fun j v hj => hx.out.keep (hc j v hj))
      have Hs := hid (tally1_succ (kids := kids) hk)
      have Hmn := hid hown.out.neq
      clear hc
      have b0 : (0 : Int) ≤ (k : Int) := by omega
      have b1 : (k : Int) < (ps.length : Int) := by omega
      rcases says_cases kids ps[k].id with hs | hs | hs
      · have HS := hid hs
        clear hs
        go_wp2_with (go_at_call 25; refine (says_any _ _ _ kids ps[k].id _ (HK.out.ext (Ext.trans hx.out (by (repeat (first | exact Ext.refl _ | refine Ext.alloc ?_ _ | refine Ext.drewN ?_ _ | refine Ext.drew ?_ | refine Ext.trans ?_ (Hid.out (by assumption)))))))).mono ?_; rintro e w' ⟨rfl, hb⟩; have hc := hb.cell; have hx' := hid hb; clear hb; rw [HS.out])
        go_roundg (gk - 1)
        case measure => omega
        case rel => exact ⟨k + 1, aa, m, cp, by omega, by go_num, rfl, (by rw [Hs.out, t1_zero HS.out]; exact hown.out.ext (by (repeat (first | exact Ext.refl _ | refine Ext.alloc ?_ _ | refine Ext.drewN ?_ _ | refine Ext.drew ?_ | refine Ext.trans ?_ (Hid.out (by assumption)))))), (by (repeat (first | exact Ext.refl _ | refine Ext.alloc ?_ _ | refine Ext.drewN ?_ _ | refine Ext.drew ?_ | refine Ext.trans ?_ (Hid.out (by assumption)))))⟩
      · have HS := hid hs
        clear hs
        by_cases hful : m < 16
        · have hfi : (m : Int) < 16 := by omega
          go_wp2_with (first | (at_builtin; refine app1 (ys := tally1 kids (ps.take k)) rfl _ _ 37 rfl i0 _ 32 Try.underlying37 I1.out I2.out I3.out I4.out rfl (by decide) rfl (hown.out.ext (by (repeat (first | exact Ext.refl _ | refine Ext.alloc ?_ _ | refine Ext.drewN ?_ _ | refine Ext.drew ?_ | refine Ext.trans ?_ (Hid.out (by assumption)))))) ⟨ps[k].id, true⟩ _ rfl (news_alloc (cs := V.cs ⟨ps[k].id, true⟩) rfl) (V.one _) (by omega) (by decide) (Ext.size (by (repeat (first | exact Ext.refl _ | refine Ext.alloc ?_ _ | refine Ext.drewN ?_ _ | refine Ext.drew ?_ | refine Ext.trans ?_ (Hid.out (by assumption)))))) ?_; intro g cap' w1 hown1 hgrow) | (go_at_call 25; refine (says_any _ _ _ kids ps[k].id _ (HK.out.ext (Ext.trans hx.out (by (repeat (first | exact Ext.refl _ | refine Ext.alloc ?_ _ | refine Ext.drewN ?_ _ | refine Ext.drew ?_ | refine Ext.trans ?_ (Hid.out (by assumption)))))))).mono ?_; rintro e w' ⟨rfl, hb⟩; have hc := hb.cell; have hx' := hid hb; clear hb; rw [HS.out]))
          go_roundg (gk - 1)
          case measure => omega
          case rel => exact ⟨k + 1, _, _, _, by omega, by go_num, rfl, (by rw [Hs.out, t1_more (by rw [HS.out]; decide) (by have := Hmn.out; omega), HS.out]; exact hown1), hgrow.ext (hown.out.ext (by (repeat (first | exact Ext.refl _ | refine Ext.alloc ?_ _ | refine Ext.drewN ?_ _ | refine Ext.drew ?_ | refine Ext.trans ?_ (Hid.out (by assumption)))))) (Nat.le_refl _) (by (repeat (first | exact Ext.refl _ | refine Ext.alloc ?_ _ | refine Ext.drewN ?_ _ | refine Ext.drew ?_ | refine Ext.trans ?_ (Hid.out (by assumption)))))⟩
        · have hfi : (16 : Int) ≤ (m : Int) := by omega
          go_wp2_with (go_at_call 25; refine (says_any _ _ _ kids ps[k].id _ (HK.out.ext (Ext.trans hx.out (by (repeat (first | exact Ext.refl _ | refine Ext.alloc ?_ _ | refine Ext.drewN ?_ _ | refine Ext.drew ?_ | refine Ext.trans ?_ (Hid.out (by assumption)))))))).mono ?_; rintro e w' ⟨rfl, hb⟩; have hc := hb.cell; have hx' := hid hb; clear hb; rw [HS.out])
          go_roundg (gk - 1)
          case measure => omega
          case rel => exact ⟨k + 1, aa, m, cp, by omega, by go_num, rfl, (by rw [Hs.out, t1_full (by have := Hmn.out; omega)]; exact hown.out.ext (by (repeat (first | exact Ext.refl _ | refine Ext.alloc ?_ _ | refine Ext.drewN ?_ _ | refine Ext.drew ?_ | refine Ext.trans ?_ (Hid.out (by assumption)))))), (by (repeat (first | exact Ext.refl _ | refine Ext.alloc ?_ _ | refine Ext.drewN ?_ _ | refine Ext.drew ?_ | refine Ext.trans ?_ (Hid.out (by assumption)))))⟩
      · have HS := hid hs
        clear hs
        by_cases hful : m < 16
        · have hfi : (m : Int) < 16 := by omega
          go_wp2_with (first | (at_builtin; refine app1 (ys := tally1 kids (ps.take k)) rfl _ _ 37 rfl i0 _ 32 Try.underlying37 I1.out I2.out I3.out I4.out rfl (by decide) rfl (hown.out.ext (by (repeat (first | exact Ext.refl _ | refine Ext.alloc ?_ _ | refine Ext.drewN ?_ _ | refine Ext.drew ?_ | refine Ext.trans ?_ (Hid.out (by assumption)))))) ⟨ps[k].id, false⟩ _ rfl (news_alloc (cs := V.cs ⟨ps[k].id, false⟩) rfl) (V.one _) (by omega) (by decide) (Ext.size (by (repeat (first | exact Ext.refl _ | refine Ext.alloc ?_ _ | refine Ext.drewN ?_ _ | refine Ext.drew ?_ | refine Ext.trans ?_ (Hid.out (by assumption)))))) ?_; intro g cap' w1 hown1 hgrow) | (go_at_call 25; refine (says_any _ _ _ kids ps[k].id _ (HK.out.ext (Ext.trans hx.out (by (repeat (first | exact Ext.refl _ | refine Ext.alloc ?_ _ | refine Ext.drewN ?_ _ | refine Ext.drew ?_ | refine Ext.trans ?_ (Hid.out (by assumption)))))))).mono ?_; rintro e w' ⟨rfl, hb⟩; have hc := hb.cell; have hx' := hid hb; clear hb; rw [HS.out]))
          go_roundg (gk - 1)
          case measure => omega
          case rel => exact ⟨k + 1, _, _, _, by omega, by go_num, rfl, (by rw [Hs.out, t1_more (by rw [HS.out]; decide) (by have := Hmn.out; omega), HS.out]; exact hown1), hgrow.ext (hown.out.ext (by (repeat (first | exact Ext.refl _ | refine Ext.alloc ?_ _ | refine Ext.drewN ?_ _ | refine Ext.drew ?_ | refine Ext.trans ?_ (Hid.out (by assumption)))))) (Nat.le_refl _) (by (repeat (first | exact Ext.refl _ | refine Ext.alloc ?_ _ | refine Ext.drewN ?_ _ | refine Ext.drew ?_ | refine Ext.trans ?_ (Hid.out (by assumption)))))⟩
        · have hfi : (16 : Int) ≤ (m : Int) := by omega
          go_wp2_with (go_at_call 25; refine (says_any _ _ _ kids ps[k].id _ (HK.out.ext (Ext.trans hx.out (by (repeat (first | exact Ext.refl _ | refine Ext.alloc ?_ _ | refine Ext.drewN ?_ _ | refine Ext.drew ?_ | refine Ext.trans ?_ (Hid.out (by assumption)))))))).mono ?_; rintro e w' ⟨rfl, hb⟩; have hc := hb.cell; have hx' := hid hb; clear hb; rw [HS.out])
          go_roundg (gk - 1)
          case measure => omega
          case rel => exact ⟨k + 1, aa, m, cp, by omega, by go_num, rfl, (by rw [Hs.out, t1_full (by have := Hmn.out; omega)]; exact hown.out.ext (by (repeat (first | exact Ext.refl _ | refine Ext.alloc ?_ _ | refine Ext.drewN ?_ _ | refine Ext.drew ?_ | refine Ext.trans ?_ (Hid.out (by assumption)))))), (by (repeat (first | exact Ext.refl _ | refine Ext.alloc ?_ _ | refine Ext.drewN ?_ _ | refine Ext.drew ?_ | refine Ext.trans ?_ (Hid.out (by assumption)))))⟩
    · have hk' : ps.take k = ps := List.take_of_length_le (by omega)
      rw [hk'] at hown
      clear hk'
      go_wp2
      go_step3
      go_wp2_with fail
      go_loopg [7, 41] (rs.length) (fun g ov st wr => ∃ (k : Nat) (aa : Option Addr) (m cp : Nat), g + k = rs.length ∧ st = .int .i64 k ∧ ov = .slice aa m cp ∧ Hid (Own wr w.heap.size 45 4 V.cs aa m cp (tallyOf kids ps (rs.take k))) ∧ Hid (Ext w wr))
      case atStart => exact ⟨0, aa, m, cp, by omega, rfl, rfl, hown, hx⟩
      case round =>
        clear hown hx hg hk
        obtain ⟨k, aa, m, cp, hg, rfl, rfl, hown, hx⟩ := hrel
        by_cases hk : k < rs.length
        · obtain ⟨b, o, rfl, hc⟩ := HR.out.get k hk
          obtain ⟨c0, c1, c2⟩ := cells3 (w := wr) (b := b) (o := o + k * 3) (x := rs[k]) (fun j v hj => hx.out.keep (hc j v hj))
          have Hs := hid (tally2_succ (kids := kids) (ps := ps) hk)
          have Hst := hid (tally_stop (kids := kids) (ps := ps) (rs := rs) (k := k))
          have Hmn := hid hown.out.neq
          clear hc
          have b0 : (0 : Int) ≤ (k : Int) := by omega
          have b1 : (k : Int) < (rs.length : Int) := by omega
          by_cases hful : 16 ≤ m
          · have hfi : (16 : Int) ≤ (m : Int) := by omega
            go_wp2_with fail
            rw [Exit.noGoto_ret]
            go_ret
            exact RetSl.mk (hown.out.ext (by (repeat (first | exact Ext.refl _ | refine Ext.alloc ?_ _ | refine Ext.drewN ?_ _ | refine Ext.drew ?_ | refine Ext.trans ?_ (Hid.out (by assumption)))))) (by (repeat (first | exact Ext.refl _ | refine Ext.alloc ?_ _ | refine Ext.drewN ?_ _ | refine Ext.drew ?_ | refine Ext.trans ?_ (Hid.out (by assumption))))) (Hst.out (by have := Hmn.out; omega))
          · have hfi : (m : Int) < 16 := by omega
            cases h1 : (tallyOf kids ps (rs.take k)).any (fun x => idEq x.id rs[k]) with
            | true =>
              have H1 := hid h1
              clear h1
              go_wp2_with (go_at_call 47; refine (containsFuncV_any _ _ _ (tallyOf kids ps (rs.take k)) (fun x => idEq x.id rs[k]) _ ⟨wr.heap.size, 0, none⟩ _ (hown.out.sl.ext (by (repeat (first | exact Ext.refl _ | refine Ext.alloc ?_ _ | refine Ext.drewN ?_ _ | refine Ext.drew ?_ | refine Ext.trans ?_ (Hid.out (by assumption)))))) (fun _ _ => by kernel_rfl) (fun x _ w' hw => tally1_any x rs[k] wr.heap.size w' (hw.keep (by simp)) (hw.keep (by simp)) (hw.keep (by simp)))).mono ?_; rintro e w' ⟨rfl, hb⟩; have hc := hb.cell; have hx' := hid hb; clear hb; rw [H1.out])
              go_roundg (gk - 1)
              case measure => omega
              case rel => exact ⟨k + 1, aa, m, cp, by omega, by go_num, rfl, (by rw [Hs.out, t2_known H1.out]; exact hown.out.ext (by (repeat (first | exact Ext.refl _ | refine Ext.alloc ?_ _ | refine Ext.drewN ?_ _ | refine Ext.drew ?_ | refine Ext.trans ?_ (Hid.out (by assumption)))))), (by (repeat (first | exact Ext.refl _ | refine Ext.alloc ?_ _ | refine Ext.drewN ?_ _ | refine Ext.drew ?_ | refine Ext.trans ?_ (Hid.out (by assumption)))))⟩
            | false =>
              have H1 := hid h1
              clear h1
              go_wp2_with (first | (at_builtin; refine app1 (ys := tallyOf kids ps (rs.take k)) rfl _ _ 37 rfl i0 _ 32 Try.underlying37 I1.out I2.out I3.out I4.out rfl (by decide) rfl (hown.out.ext (by (repeat (first | exact Ext.refl _ | refine Ext.alloc ?_ _ | refine Ext.drewN ?_ _ | refine Ext.drew ?_ | refine Ext.trans ?_ (Hid.out (by assumption)))))) ⟨rs[k], false⟩ _ rfl (news_alloc (cs := V.cs ⟨rs[k], false⟩) rfl) (V.one _) (by omega) (by decide) (Ext.size (by (repeat (first | exact Ext.refl _ | refine Ext.alloc ?_ _ | refine Ext.drewN ?_ _ | refine Ext.drew ?_ | refine Ext.trans ?_ (Hid.out (by assumption)))))) ?_; intro g cap' w1 hown1 hgrow) | (go_at_call 47; refine (containsFuncV_any _ _ _ (tallyOf kids ps (rs.take k)) (fun x => idEq x.id rs[k]) _ ⟨wr.heap.size, 0, none⟩ _ (hown.out.sl.ext (by (repeat (first | exact Ext.refl _ | refine Ext.alloc ?_ _ | refine Ext.drewN ?_ _ | refine Ext.drew ?_ | refine Ext.trans ?_ (Hid.out (by assumption)))))) (fun _ _ => by kernel_rfl) (fun x _ w' hw => tally1_any x rs[k] wr.heap.size w' (hw.keep (by simp)) (hw.keep (by simp)) (hw.keep (by simp)))).mono ?_; rintro e w' ⟨rfl, hb⟩; have hc := hb.cell; have hx' := hid hb; clear hb; rw [H1.out]))
              go_roundg (gk - 1)
              case measure => omega
              case rel => exact ⟨k + 1, _, _, _, by omega, by go_num, rfl, (by rw [Hs.out, t2_more (by have := Hmn.out; omega) H1.out]; exact hown1), hgrow.ext (hown.out.ext (by (repeat (first | exact Ext.refl _ | refine Ext.alloc ?_ _ | refine Ext.drewN ?_ _ | refine Ext.drew ?_ | refine Ext.trans ?_ (Hid.out (by assumption)))))) (Nat.le_refl _) (by (repeat (first | exact Ext.refl _ | refine Ext.alloc ?_ _ | refine Ext.drewN ?_ _ | refine Ext.drew ?_ | refine Ext.trans ?_ (Hid.out (by assumption)))))⟩
        · have hk' : rs.take k = rs := List.take_of_length_le (by omega)
          rw [hk'] at hown
          clear hk'
          go_wp2
          rw [Exit.noGoto_ret]
          go_ret
          exact RetSl.mk hown.out (by (repeat (first | exact Ext.refl _ | refine Ext.alloc ?_ _ | refine Ext.drewN ?_ _ | refine Ext.drew ?_ | refine Ext.trans ?_ (Hid.out (by assumption))))) rfl
end Go.Proofs.Ytncadipipomebaa
