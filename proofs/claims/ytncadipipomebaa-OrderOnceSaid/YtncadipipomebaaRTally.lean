/- A broker's votes, and what it ends, by the document: the walks of the document's Tally and Ends; and that they are the program's. -/
import Derived.Test.YtncadipipomebaaTally
import Derived.Test.YtncadipipomebaaEnds
import Derived.Test.YtncadipipomebaaAwake
import Derived.Deep.DeepCutAuto
namespace Go.Proofs.Ytncadipipomebaa
open Go.RowKit
attribute [local go_sem ↓] Go.wp_at_zero Go.wp_at_succ

def rStep1 (kids : List Kid) (out : List V) (i : Id) : List V := if saysOf kids i ≠ 0 then out ++ [⟨i, decide (saysOf kids i = 1)⟩] else out
def rStep2 (out : List V) (i : Id) : List V := if out.any (fun x => idEq x.id i) = true then out else out ++ [⟨i, false⟩]
def rT1 (kids : List Kid) (ps : List EV) : List V := ps.foldl (fun o x => rStep1 kids o x.id) []
def rT2 (kids : List Kid) (ps : List EV) (rs : List Id) : List V := rs.foldl rStep2 (rT1 kids ps)
theorem rT1_succ {kids : List Kid} {ps : List EV} {k : Nat} (hk : k < ps.length) : rT1 kids (ps.take (k + 1)) = rStep1 kids (rT1 kids (ps.take k)) ps[k].id := by
  unfold rT1; rw [List.take_succ_eq_append_getElem hk, List.foldl_append]; rfl
theorem rT2_succ {kids : List Kid} {ps : List EV} {rs : List Id} {k : Nat} (hk : k < rs.length) : rT2 kids ps (rs.take (k + 1)) = rStep2 (rT2 kids ps (rs.take k)) rs[k] := by
  unfold rT2; rw [List.take_succ_eq_append_getElem hk, List.foldl_append]; rfl
theorem take_app {α : Type} (l : List α) (x : α) : (l ++ [x]).take 16 = if l.length < 16 then l ++ [x] else l.take 16 := by
  split
  · exact List.take_of_length_le (by simp; omega)
  · rw [List.take_append_of_le_length (by omega)]
theorem r1_take (kids : List Kid) (out : List V) (i : Id) : (rStep1 kids out i).take 16 = tStep1 kids (out.take 16) i := by
  unfold rStep1 tStep1
  have hl : (out.take 16).length = min 16 out.length := List.length_take
  by_cases h : saysOf kids i ≠ 0
  · rw [if_pos h, take_app]
    by_cases h2 : out.length < 16
    · rw [if_pos h2, if_pos ⟨h, by omega⟩, List.take_of_length_le (by omega)]
    · rw [if_neg h2, if_neg (fun c => by have := c.2; omega)]
  · rw [if_neg h, if_neg (fun c => h c.1)]
theorem r2_take (out : List V) (i : Id) : (rStep2 out i).take 16 = tStep2 (out.take 16) i := by
  have hl : (out.take 16).length = min 16 out.length := List.length_take
  by_cases h2 : out.length < 16
  · have e : out.take 16 = out := List.take_of_length_le (by omega)
    rw [e]
    unfold rStep2
    cases hc : out.any (fun x => idEq x.id i) with
    | true => rw [if_pos rfl, t2_known hc, e]
    | false => rw [if_neg (by decide), t2_more (by omega) hc, take_app, if_pos h2]
  · have e : tStep2 (out.take 16) i = out.take 16 := by unfold tStep2; rw [if_pos (by omega)]
    rw [e]
    unfold rStep2
    split
    · rfl
    · rw [take_app, if_neg h2]
theorem r1_fold (kids : List Kid) : ∀ (l : List EV) (out : List V), (l.foldl (fun o x => rStep1 kids o x.id) out).take 16 = l.foldl (fun o x => tStep1 kids o x.id) (out.take 16)
  | [], _ => rfl
  | x :: l, out => by rw [List.foldl_cons, List.foldl_cons, r1_fold kids l, r1_take]
theorem r2_fold : ∀ (l : List Id) (out : List V), (l.foldl rStep2 out).take 16 = l.foldl tStep2 (out.take 16)
  | [], _ => rfl
  | x :: l, out => by rw [List.foldl_cons, List.foldl_cons, r2_fold l, r2_take]
theorem r_tally (kids : List Kid) (ps : List EV) (rs : List Id) : (rT2 kids ps rs).take 16 = tallyOf kids ps rs := by
  unfold rT2 tallyOf; rw [r2_fold]; congr 1; exact r1_fold kids ps []
theorem rT1_len (kids : List Kid) : ∀ (l : List EV) (out : List V), (l.foldl (fun o x => rStep1 kids o x.id) out).length ≤ out.length + l.length
  | [], _ => Nat.le_refl _
  | x :: l, out => by
    rw [List.foldl_cons]; refine Nat.le_trans (rT1_len kids l _) ?_
    unfold rStep1; split
    · rw [List.length_append, List.length_cons]; simp; omega
    · rw [List.length_cons]; omega
theorem rT2_len : ∀ (l : List Id) (out : List V), (l.foldl rStep2 out).length ≤ out.length + l.length
  | [], _ => Nat.le_refl _
  | x :: l, out => by
    rw [List.foldl_cons]; refine Nat.le_trans (rT2_len l _) ?_
    unfold rStep2; split
    · rw [List.length_cons]; omega
    · rw [List.length_append, List.length_cons]; simp; omega
theorem Sl.take {α : Type} {w : World} {sz : Nat} {c : α → List Value} {a : Option Addr} {n cap : Nat} {xs : List α} (h : Sl w sz c a n cap xs) (k : Nat) (hk : k ≤ n) : Sl w sz c a k cap (xs.take k) :=
  ⟨by rw [List.length_take]; have := h.neq; omega, Nat.le_trans hk h.len, h.max, h.none, h.wid, fun j x hj => by
    rw [List.getElem?_take] at hj
    split at hj
    · exact h.at_ j x hj
    · cases hj⟩

set_option maxRecDepth 100000 in
set_option maxHeartbeats 4000000 in
theorem rtally_any (pa : Option Addr) (pn pc : Nat) (ps : List EV) (ra : Option Addr) (rn rc : Nat) (rs : List Id) (ka : Option Addr) (kn kc : Nat) (kids : List Kid) (w : World)
    (hP : Sl w 8 EV.cs pa pn pc ps) (hR : Sl w 3 Id.cs ra rn rc rs) (hK : Kids w ka kn kc kids) (hpn : pn ≤ 1000) (hrn : rn ≤ 1000) :
    Calls Try.prog 22 #[.slice pa pn pc, .slice ra rn rc, .slice ka kn kc] w (RetSl 4 V.cs (tallyOf kids ps rs) w) := by
  obtain ⟨i0, hi, hz0, hz1, hz2⟩ := info_parts infoV
  obtain ⟨j0, hj, hy0, hy1, hy2⟩ := info_parts infoId
  obtain rfl := hP.neq
  obtain rfl := hR.neq
  have hm := hP.max
  have hl := hP.len
  have hm' := hR.max
  have hl' := hR.len
  unfold maxLen at hm hm'
  have HP := hid hP
  have HR := hid hR
  have HK := hid hK
  have I1 := hid hi
  have I2 := hid hz0
  have I3 := hid hz1
  have I4 := hid hz2
  have J1 := hid hj
  have J2 := hid hy0
  have J3 := hid hy1
  have J4 := hid hy2
  clear hP hR hK hi hz0 hz1 hz2 hj hy0 hy1 hy2
  go_enter Try.func22, Try.ntmps22
  go_wp2_with fail
  go_loopg [7, 8, 9, 10] (ps.length) (fun g ov sv st _ wr => ∃ (k : Nat) (aa : Option Addr) (m cp : Nat) (bb : Option Addr) (r cr : Nat), g + k = ps.length ∧ st = .int .i64 k ∧ ov = .slice aa m cp ∧ sv = .slice bb r cr ∧
    Hid (Own wr w.heap.size 45 4 V.cs aa m cp (rT1 kids (ps.take k)) ∧ Own wr w.heap.size 30 3 Id.cs bb r cr ((rT1 kids (ps.take k)).map (·.id))) ∧ Hid (Ext w wr))
  case atStart => exact ⟨0, none, 0, 0, none, 0, 0, by omega, rfl, rfl, rfl, ⟨Own.nil _ _ _ V.wid, Own.nil _ _ _ Id.wid⟩, Ext.refl _⟩
  case round =>
    obtain ⟨k, aa, m, cp, bb, r, cr, hg, rfl, rfl, rfl, hown, hx⟩ := hrel
    have hml : m ≤ k ∧ r ≤ k := by
      have h1 := hown.out.1.neq
      have h2 := hown.out.2.neq
      have h3 := rT1_len kids (ps.take k) []
      have h5 : (ps.take k).length ≤ k := List.length_take_le _ _
      rw [List.length_map] at h2
      unfold rT1 at h1 h2
      simp at h3
      omega
    have hml1 := hml.1
    have hml2 := hml.2
    clear hml
    by_cases hk : k < ps.length
    · obtain ⟨b, o, rfl, hc⟩ := HP.out.get k hk
      have HC := hid hc
      obtain ⟨c0, c1, c2, c3, c4, c5, c6, c7⟩ := cells8 (w := wr) (b := b) (o := o + k * 8) (x := ps[k]) (fun j v hj => hx.out.keep (hc j v hj))
      have Hs := hid (rT1_succ (kids := kids) hk)
      clear hc
      have b0 : (0 : Int) ≤ (k : Int) := by omega
      have b1 : (k : Int) < (ps.length : Int) := by omega
      rcases says_cases kids ps[k].id with h | h | h
      · have H := hid h
        clear h
        go_wp2_with (go_at_call 26; refine (rsays_any _ _ _ kids ps[k].id _ (HK.out.ext (by (repeat (first | exact Ext.refl _ | refine Ext.alloc ?_ _ | refine Ext.drewN ?_ _ | refine Ext.drew ?_ | refine Ext.trans ?_ (Hid.out (by assumption))))))).mono ?_; rintro e wq ⟨he, hb⟩; rw [H.out] at he; subst he; have hxq := hid hb; clear hb; have hEq : Ext w wq := (by (repeat (first | exact Ext.refl _ | refine Ext.alloc ?_ _ | refine Ext.drewN ?_ _ | refine Ext.drew ?_ | refine Ext.trans ?_ (Hid.out (by assumption))))); obtain ⟨c0, c1, c2, c3, c4, c5, c6, c7⟩ := cells8 (w := wq) (b := b) (o := o + k * 8) (x := ps[k]) (fun j v hj => hEq.keep (HC.out j v hj)); clear hEq)
        go_roundg (gk - 1)
        case measure => omega
        case rel => exact ⟨k + 1, aa, m, cp, bb, r, cr, by omega, by go_num, rfl, rfl, (by rw [Hs.out]; unfold rStep1; rw [if_neg (fun c => c H.out)]; exact ⟨hown.out.1.ext (by (repeat (first | exact Ext.refl _ | refine Ext.alloc ?_ _ | refine Ext.drewN ?_ _ | refine Ext.drew ?_ | refine Ext.trans ?_ (Hid.out (by assumption))))), hown.out.2.ext (by (repeat (first | exact Ext.refl _ | refine Ext.alloc ?_ _ | refine Ext.drewN ?_ _ | refine Ext.drew ?_ | refine Ext.trans ?_ (Hid.out (by assumption)))))⟩), (by (repeat (first | exact Ext.refl _ | refine Ext.alloc ?_ _ | refine Ext.drewN ?_ _ | refine Ext.drew ?_ | refine Ext.trans ?_ (Hid.out (by assumption)))))⟩
      · have H := hid h
        clear h
        generalize hTT : rT1 kids (ps.take k) = rTT at hown
        have HTT := hid hTT
        clear hTT
        go_wp2_with (first | (go_at_call 26; refine (rsays_any _ _ _ kids ps[k].id _ (HK.out.ext (by (repeat (first | exact Ext.refl _ | refine Ext.alloc ?_ _ | refine Ext.drewN ?_ _ | refine Ext.drew ?_ | refine Ext.trans ?_ (Hid.out (by assumption))))))).mono ?_; rintro e wq ⟨he, hb⟩; rw [H.out] at he; subst he; have hxq := hid hb; clear hb; have hEq : Ext w wq := (by (repeat (first | exact Ext.refl _ | refine Ext.alloc ?_ _ | refine Ext.drewN ?_ _ | refine Ext.drew ?_ | refine Ext.trans ?_ (Hid.out (by assumption))))); obtain ⟨c0, c1, c2, c3, c4, c5, c6, c7⟩ := cells8 (w := wq) (b := b) (o := o + k * 8) (x := ps[k]) (fun j v hj => hEq.keep (HC.out j v hj)); clear hEq) | (at_builtin; refine app1 (ys := rTT) rfl (.tmp 28) (.tmp 37) 37 rfl i0 _ 32 Try.underlying37 I1.out I2.out I3.out I4.out rfl (by decide) rfl (hown.out.1.ext (by (repeat (first | exact Ext.refl _ | refine Ext.alloc ?_ _ | refine Ext.drewN ?_ _ | refine Ext.drew ?_ | refine Ext.trans ?_ (Hid.out (by assumption)))))) ⟨ps[k].id, true⟩ _ rfl (news_alloc (cs := V.cs ⟨ps[k].id, true⟩) rfl) (V.one _) (by omega) (by decide) (Ext.size (by (repeat (first | exact Ext.refl _ | refine Ext.alloc ?_ _ | refine Ext.drewN ?_ _ | refine Ext.drew ?_ | refine Ext.trans ?_ (Hid.out (by assumption)))))) ?_; intro g cap' w3 hown3 hgrow; have HO3 := hid hown3; have HG := hid hgrow; have HI3 := hid (hgrow.own2 (hown.out.1.ext (by (repeat (first | exact Ext.refl _ | refine Ext.alloc ?_ _ | refine Ext.drewN ?_ _ | refine Ext.drew ?_ | refine Ext.trans ?_ (Hid.out (by assumption)))))) (hown.out.2.ext (by (repeat (first | exact Ext.refl _ | refine Ext.alloc ?_ _ | refine Ext.drewN ?_ _ | refine Ext.drew ?_ | refine Ext.trans ?_ (Hid.out (by assumption)))))) (by decide)); have hx3 : Hid (Ext w w3) := hid (hgrow.ext (hown.out.1.ext (by (repeat (first | exact Ext.refl _ | refine Ext.alloc ?_ _ | refine Ext.drewN ?_ _ | refine Ext.drew ?_ | refine Ext.trans ?_ (Hid.out (by assumption)))))) (Nat.le_refl _) (by (repeat (first | exact Ext.refl _ | refine Ext.alloc ?_ _ | refine Ext.drewN ?_ _ | refine Ext.drew ?_ | refine Ext.trans ?_ (Hid.out (by assumption)))))); clear hown3 hgrow; obtain ⟨c0, c1, c2, c3, c4, c5, c6, c7⟩ := cells8 (w := w3) (b := b) (o := o + k * 8) (x := ps[k]) (fun j v hj => hx3.out.keep (HC.out j v hj))) | (at_builtin; refine app1 (ys := (rTT).map (·.id)) rfl (.tmp 39) (.tmp 45) 25 rfl j0 _ 24 Try.underlying25 J1.out J2.out J3.out J4.out rfl (by decide) rfl (HI3.out.ext (by (repeat (first | exact Ext.refl _ | refine Ext.alloc ?_ _ | refine Ext.drewN ?_ _ | refine Ext.drew ?_ | refine Ext.trans ?_ (Hid.out (by assumption)))))) ps[k].id _ rfl (news_alloc (cs := Id.cs ps[k].id) rfl) (Id.one _) (by omega) (by decide) (Ext.size (by (repeat (first | exact Ext.refl _ | refine Ext.alloc ?_ _ | refine Ext.drewN ?_ _ | refine Ext.drew ?_ | refine Ext.trans ?_ (Hid.out (by assumption)))))) ?_; intro g5 cap5 w5 hown5 hgrow; have HO5 := hid hown5; have HG5 := hid hgrow; clear hown5 hgrow))
        go_roundg (gk - 1)
        case measure => omega
        case rel =>
          refine ⟨k + 1, _, _, _, _, _, _, by omega, by go_num, rfl, rfl, ?_, HG5.out.ext (HI3.out.ext (by (repeat (first | exact Ext.refl _ | refine Ext.alloc ?_ _ | refine Ext.drewN ?_ _ | refine Ext.drew ?_ | refine Ext.trans ?_ (Hid.out (by assumption)))))) (Nat.le_refl _) (by (repeat (first | exact Ext.refl _ | refine Ext.alloc ?_ _ | refine Ext.drewN ?_ _ | refine Ext.drew ?_ | refine Ext.trans ?_ (Hid.out (by assumption)))))⟩
          rw [Hs.out, HTT.out]; unfold rStep1; rw [if_pos (by rw [H.out]; decide), decide_eq_true H.out, List.map_append]
          exact ⟨HG5.out.own2 (HI3.out.ext (by (repeat (first | exact Ext.refl _ | refine Ext.alloc ?_ _ | refine Ext.drewN ?_ _ | refine Ext.drew ?_ | refine Ext.trans ?_ (Hid.out (by assumption)))))) (HO3.out.ext (by (repeat (first | exact Ext.refl _ | refine Ext.alloc ?_ _ | refine Ext.drewN ?_ _ | refine Ext.drew ?_ | refine Ext.trans ?_ (Hid.out (by assumption)))))) (by decide), HO5.out⟩
      · have H := hid h
        clear h
        generalize hTT : rT1 kids (ps.take k) = rTT at hown
        have HTT := hid hTT
        clear hTT
        go_wp2_with (first | (go_at_call 26; refine (rsays_any _ _ _ kids ps[k].id _ (HK.out.ext (by (repeat (first | exact Ext.refl _ | refine Ext.alloc ?_ _ | refine Ext.drewN ?_ _ | refine Ext.drew ?_ | refine Ext.trans ?_ (Hid.out (by assumption))))))).mono ?_; rintro e wq ⟨he, hb⟩; rw [H.out] at he; subst he; have hxq := hid hb; clear hb; have hEq : Ext w wq := (by (repeat (first | exact Ext.refl _ | refine Ext.alloc ?_ _ | refine Ext.drewN ?_ _ | refine Ext.drew ?_ | refine Ext.trans ?_ (Hid.out (by assumption))))); obtain ⟨c0, c1, c2, c3, c4, c5, c6, c7⟩ := cells8 (w := wq) (b := b) (o := o + k * 8) (x := ps[k]) (fun j v hj => hEq.keep (HC.out j v hj)); clear hEq) | (at_builtin; refine app1 (ys := rTT) rfl (.tmp 28) (.tmp 37) 37 rfl i0 _ 32 Try.underlying37 I1.out I2.out I3.out I4.out rfl (by decide) rfl (hown.out.1.ext (by (repeat (first | exact Ext.refl _ | refine Ext.alloc ?_ _ | refine Ext.drewN ?_ _ | refine Ext.drew ?_ | refine Ext.trans ?_ (Hid.out (by assumption)))))) ⟨ps[k].id, false⟩ _ rfl (news_alloc (cs := V.cs ⟨ps[k].id, false⟩) rfl) (V.one _) (by omega) (by decide) (Ext.size (by (repeat (first | exact Ext.refl _ | refine Ext.alloc ?_ _ | refine Ext.drewN ?_ _ | refine Ext.drew ?_ | refine Ext.trans ?_ (Hid.out (by assumption)))))) ?_; intro g cap' w3 hown3 hgrow; have HO3 := hid hown3; have HG := hid hgrow; have HI3 := hid (hgrow.own2 (hown.out.1.ext (by (repeat (first | exact Ext.refl _ | refine Ext.alloc ?_ _ | refine Ext.drewN ?_ _ | refine Ext.drew ?_ | refine Ext.trans ?_ (Hid.out (by assumption)))))) (hown.out.2.ext (by (repeat (first | exact Ext.refl _ | refine Ext.alloc ?_ _ | refine Ext.drewN ?_ _ | refine Ext.drew ?_ | refine Ext.trans ?_ (Hid.out (by assumption)))))) (by decide)); have hx3 : Hid (Ext w w3) := hid (hgrow.ext (hown.out.1.ext (by (repeat (first | exact Ext.refl _ | refine Ext.alloc ?_ _ | refine Ext.drewN ?_ _ | refine Ext.drew ?_ | refine Ext.trans ?_ (Hid.out (by assumption)))))) (Nat.le_refl _) (by (repeat (first | exact Ext.refl _ | refine Ext.alloc ?_ _ | refine Ext.drewN ?_ _ | refine Ext.drew ?_ | refine Ext.trans ?_ (Hid.out (by assumption)))))); clear hown3 hgrow; obtain ⟨c0, c1, c2, c3, c4, c5, c6, c7⟩ := cells8 (w := w3) (b := b) (o := o + k * 8) (x := ps[k]) (fun j v hj => hx3.out.keep (HC.out j v hj))) | (at_builtin; refine app1 (ys := (rTT).map (·.id)) rfl (.tmp 39) (.tmp 45) 25 rfl j0 _ 24 Try.underlying25 J1.out J2.out J3.out J4.out rfl (by decide) rfl (HI3.out.ext (by (repeat (first | exact Ext.refl _ | refine Ext.alloc ?_ _ | refine Ext.drewN ?_ _ | refine Ext.drew ?_ | refine Ext.trans ?_ (Hid.out (by assumption)))))) ps[k].id _ rfl (news_alloc (cs := Id.cs ps[k].id) rfl) (Id.one _) (by omega) (by decide) (Ext.size (by (repeat (first | exact Ext.refl _ | refine Ext.alloc ?_ _ | refine Ext.drewN ?_ _ | refine Ext.drew ?_ | refine Ext.trans ?_ (Hid.out (by assumption)))))) ?_; intro g5 cap5 w5 hown5 hgrow; have HO5 := hid hown5; have HG5 := hid hgrow; clear hown5 hgrow))
        go_roundg (gk - 1)
        case measure => omega
        case rel =>
          refine ⟨k + 1, _, _, _, _, _, _, by omega, by go_num, rfl, rfl, ?_, HG5.out.ext (HI3.out.ext (by (repeat (first | exact Ext.refl _ | refine Ext.alloc ?_ _ | refine Ext.drewN ?_ _ | refine Ext.drew ?_ | refine Ext.trans ?_ (Hid.out (by assumption)))))) (Nat.le_refl _) (by (repeat (first | exact Ext.refl _ | refine Ext.alloc ?_ _ | refine Ext.drewN ?_ _ | refine Ext.drew ?_ | refine Ext.trans ?_ (Hid.out (by assumption)))))⟩
          rw [Hs.out, HTT.out]; unfold rStep1; rw [if_pos (by rw [H.out]; decide), decide_eq_false (by rw [H.out]; decide), List.map_append]
          exact ⟨HG5.out.own2 (HI3.out.ext (by (repeat (first | exact Ext.refl _ | refine Ext.alloc ?_ _ | refine Ext.drewN ?_ _ | refine Ext.drew ?_ | refine Ext.trans ?_ (Hid.out (by assumption)))))) (HO3.out.ext (by (repeat (first | exact Ext.refl _ | refine Ext.alloc ?_ _ | refine Ext.drewN ?_ _ | refine Ext.drew ?_ | refine Ext.trans ?_ (Hid.out (by assumption)))))) (by decide), HO5.out⟩
    · have hk' : ps.take k = ps := List.take_of_length_le (by omega)
      rw [hk'] at hown
      clear hk'
      go_wp2_with fail
      go_loopg [7, 8, 11, 12] (rs.length) (fun g ov sv st _ wv => ∃ (k : Nat) (aa : Option Addr) (m cp : Nat) (bb : Option Addr) (r cr : Nat), g + k = rs.length ∧ st = .int .i64 k ∧ ov = .slice aa m cp ∧ sv = .slice bb r cr ∧
        Hid (Own wv w.heap.size 45 4 V.cs aa m cp (rT2 kids ps (rs.take k)) ∧ Own wv w.heap.size 30 3 Id.cs bb r cr ((rT2 kids ps (rs.take k)).map (·.id))) ∧ Hid (Ext w wv))
      case atStart => exact ⟨0, aa, m, cp, bb, r, cr, by omega, rfl, rfl, rfl, hown.out, hx.out⟩
      case round =>
        clear hown hx
        obtain ⟨k, aa, m, cp, bb, r, cr, hg, rfl, rfl, rfl, hown, hx⟩ := hrel
        rename World => wv
        have hml : m ≤ 2000 ∧ r ≤ 2000 := by
          have h1 := hown.out.1.neq
          have h2 := hown.out.2.neq
          have h3 := rT2_len (rs.take k) (rT1 kids ps)
          have h4 := rT1_len kids ps []
          have h5 : (rs.take k).length ≤ rs.length := by rw [List.length_take]; omega
          rw [List.length_map] at h2
          unfold rT2 at h1 h2
          unfold rT1 at h1 h2 h3
          simp at h4
          omega
        have hml1 := hml.1
        have hml2 := hml.2
        clear hml
        by_cases hk : k < rs.length
        · obtain ⟨b, o, rfl, hc⟩ := HR.out.get k hk
          have HC := hid hc
          obtain ⟨c0, c1, c2⟩ := cells3 (w := wv) (b := b) (o := o + k * 3) (x := rs[k]) (fun j v hj => hx.out.keep (hc j v hj))
          have Hs := hid (rT2_succ (kids := kids) (ps := ps) hk)
          clear hc
          have b0 : (0 : Int) ≤ (k : Int) := by omega
          have b1 : (k : Int) < (rs.length : Int) := by omega
          generalize hTT : rT2 kids ps (rs.take k) = rTT at hown
          have HTT := hid hTT
          clear hTT
          cases hk2 : (rTT.map (·.id)).any (fun x : Id => idEq x rs[k]) with
          | true =>
            have HK2 := hid hk2
            clear hk2
            go_wp2_with (go_at_call 45; refine (rin_any _ _ _ ((rTT).map (·.id)) rs[k] _ (hown.out.2.sl.ext (by (repeat (first | exact Ext.refl _ | refine Ext.alloc ?_ _ | refine Ext.drewN ?_ _ | refine Ext.drew ?_ | refine Ext.trans ?_ (Hid.out (by assumption))))))).mono ?_; rintro e wq ⟨he, hb⟩; rw [HK2.out] at he; subst he; have hxq := hid hb; clear hb; have hEq : Ext w wq := (by (repeat (first | exact Ext.refl _ | refine Ext.alloc ?_ _ | refine Ext.drewN ?_ _ | refine Ext.drew ?_ | refine Ext.trans ?_ (Hid.out (by assumption))))); obtain ⟨c0, c1, c2⟩ := cells3 (w := wq) (b := b) (o := o + k * 3) (x := rs[k]) (fun j v hj => hEq.keep (HC.out j v hj)); clear hEq)
            go_roundg (gk - 1)
            case measure => omega
            case rel => exact ⟨k + 1, aa, m, cp, bb, r, cr, by omega, by go_num, rfl, rfl, (by rw [Hs.out, HTT.out]; unfold rStep2; rw [if_pos (by have := HK2.out; rw [List.any_map] at this; exact this)]; exact ⟨hown.out.1.ext (by (repeat (first | exact Ext.refl _ | refine Ext.alloc ?_ _ | refine Ext.drewN ?_ _ | refine Ext.drew ?_ | refine Ext.trans ?_ (Hid.out (by assumption))))), hown.out.2.ext (by (repeat (first | exact Ext.refl _ | refine Ext.alloc ?_ _ | refine Ext.drewN ?_ _ | refine Ext.drew ?_ | refine Ext.trans ?_ (Hid.out (by assumption)))))⟩), (by (repeat (first | exact Ext.refl _ | refine Ext.alloc ?_ _ | refine Ext.drewN ?_ _ | refine Ext.drew ?_ | refine Ext.trans ?_ (Hid.out (by assumption)))))⟩
          | false =>
            have HK2 := hid hk2
            clear hk2
            go_wp2_with (first | (go_at_call 45; refine (rin_any _ _ _ ((rTT).map (·.id)) rs[k] _ (hown.out.2.sl.ext (by (repeat (first | exact Ext.refl _ | refine Ext.alloc ?_ _ | refine Ext.drewN ?_ _ | refine Ext.drew ?_ | refine Ext.trans ?_ (Hid.out (by assumption))))))).mono ?_; rintro e wq ⟨he, hb⟩; rw [HK2.out] at he; subst he; have hxq := hid hb; clear hb; have hEq : Ext w wq := (by (repeat (first | exact Ext.refl _ | refine Ext.alloc ?_ _ | refine Ext.drewN ?_ _ | refine Ext.drew ?_ | refine Ext.trans ?_ (Hid.out (by assumption))))); obtain ⟨c0, c1, c2⟩ := cells3 (w := wq) (b := b) (o := o + k * 3) (x := rs[k]) (fun j v hj => hEq.keep (HC.out j v hj)); clear hEq) | (at_builtin; refine app1 (ys := rTT) rfl (.tmp 61) (.tmp 67) 37 rfl i0 _ 32 Try.underlying37 I1.out I2.out I3.out I4.out rfl (by decide) rfl (hown.out.1.ext (by (repeat (first | exact Ext.refl _ | refine Ext.alloc ?_ _ | refine Ext.drewN ?_ _ | refine Ext.drew ?_ | refine Ext.trans ?_ (Hid.out (by assumption)))))) ⟨rs[k], false⟩ _ rfl (news_alloc (cs := V.cs ⟨rs[k], false⟩) rfl) (V.one _) (by omega) (by decide) (Ext.size (by (repeat (first | exact Ext.refl _ | refine Ext.alloc ?_ _ | refine Ext.drewN ?_ _ | refine Ext.drew ?_ | refine Ext.trans ?_ (Hid.out (by assumption)))))) ?_; intro g cap' w3 hown3 hgrow; have HO3 := hid hown3; have HG := hid hgrow; have HI3 := hid (hgrow.own2 (hown.out.1.ext (by (repeat (first | exact Ext.refl _ | refine Ext.alloc ?_ _ | refine Ext.drewN ?_ _ | refine Ext.drew ?_ | refine Ext.trans ?_ (Hid.out (by assumption)))))) (hown.out.2.ext (by (repeat (first | exact Ext.refl _ | refine Ext.alloc ?_ _ | refine Ext.drewN ?_ _ | refine Ext.drew ?_ | refine Ext.trans ?_ (Hid.out (by assumption)))))) (by decide)); have hx3 : Hid (Ext w w3) := hid (hgrow.ext (hown.out.1.ext (by (repeat (first | exact Ext.refl _ | refine Ext.alloc ?_ _ | refine Ext.drewN ?_ _ | refine Ext.drew ?_ | refine Ext.trans ?_ (Hid.out (by assumption)))))) (Nat.le_refl _) (by (repeat (first | exact Ext.refl _ | refine Ext.alloc ?_ _ | refine Ext.drewN ?_ _ | refine Ext.drew ?_ | refine Ext.trans ?_ (Hid.out (by assumption)))))); clear hown3 hgrow; obtain ⟨c0, c1, c2⟩ := cells3 (w := w3) (b := b) (o := o + k * 3) (x := rs[k]) (fun j v hj => hx3.out.keep (HC.out j v hj))) | (at_builtin; refine app1 (ys := (rTT).map (·.id)) rfl (.tmp 69) (.tmp 74) 25 rfl j0 _ 24 Try.underlying25 J1.out J2.out J3.out J4.out rfl (by decide) rfl (HI3.out.ext (by (repeat (first | exact Ext.refl _ | refine Ext.alloc ?_ _ | refine Ext.drewN ?_ _ | refine Ext.drew ?_ | refine Ext.trans ?_ (Hid.out (by assumption)))))) rs[k] _ rfl (news_alloc (cs := Id.cs rs[k]) rfl) (Id.one _) (by omega) (by decide) (Ext.size (by (repeat (first | exact Ext.refl _ | refine Ext.alloc ?_ _ | refine Ext.drewN ?_ _ | refine Ext.drew ?_ | refine Ext.trans ?_ (Hid.out (by assumption)))))) ?_; intro g5 cap5 w5 hown5 hgrow; have HO5 := hid hown5; have HG5 := hid hgrow; clear hown5 hgrow))
            go_roundg (gk - 1)
            case measure => omega
            case rel =>
              refine ⟨k + 1, _, _, _, _, _, _, by omega, by go_num, rfl, rfl, ?_, HG5.out.ext (HI3.out.ext (by (repeat (first | exact Ext.refl _ | refine Ext.alloc ?_ _ | refine Ext.drewN ?_ _ | refine Ext.drew ?_ | refine Ext.trans ?_ (Hid.out (by assumption)))))) (Nat.le_refl _) (by (repeat (first | exact Ext.refl _ | refine Ext.alloc ?_ _ | refine Ext.drewN ?_ _ | refine Ext.drew ?_ | refine Ext.trans ?_ (Hid.out (by assumption)))))⟩
              rw [Hs.out, HTT.out]; unfold rStep2; rw [if_neg (by have := HK2.out; rw [List.any_map] at this; rw [show (rTT.any fun x => idEq x.id rs[k]) = false from this]; decide), List.map_append]
              exact ⟨HG5.out.own2 (HI3.out.ext (by (repeat (first | exact Ext.refl _ | refine Ext.alloc ?_ _ | refine Ext.drewN ?_ _ | refine Ext.drew ?_ | refine Ext.trans ?_ (Hid.out (by assumption)))))) (HO3.out.ext (by (repeat (first | exact Ext.refl _ | refine Ext.alloc ?_ _ | refine Ext.drewN ?_ _ | refine Ext.drew ?_ | refine Ext.trans ?_ (Hid.out (by assumption)))))) (by decide), HO5.out⟩
        · have hk' : rs.take k = rs := List.take_of_length_le (by omega)
          rw [hk'] at hown
          clear hk'
          have hrt := r_tally kids ps rs
          have HRT := hid hrt
          clear hrt
          have hol := hown.out.1.sl.len
          have hom := hown.out.1.sl.max
          unfold maxLen at hom
          by_cases h16 : 16 < m
          · have h16i : (16 : Int) < (m : Int) := by omega
            go_wp2
            go_ret
            exact ⟨aa, 16, cp, rfl, by rw [← HRT.out]; exact hown.out.1.sl.take 16 (by omega), (by (repeat (first | exact Ext.refl _ | refine Ext.alloc ?_ _ | refine Ext.drewN ?_ _ | refine Ext.drew ?_ | refine Ext.trans ?_ (Hid.out (by assumption)))))⟩
          · have h16i : ¬ (16 : Int) < (m : Int) := by omega
            go_wp2
            go_ret
            exact ⟨aa, m, cp, rfl, by rw [← HRT.out, List.take_of_length_le (by have := hown.out.1.neq; omega)]; exact hown.out.1.sl, (by (repeat (first | exact Ext.refl _ | refine Ext.alloc ?_ _ | refine Ext.drewN ?_ _ | refine Ext.drew ?_ | refine Ext.trans ?_ (Hid.out (by assumption)))))⟩
end Go.Proofs.Ytncadipipomebaa
