/- Subscriptions behind some entries, the last of which subscribes or ends a subscription: the walk of the statements' grown. -/
import Derived.Test.YtiifflojpoobpaaGrown
import Derived.Test.YtiifflojpoobpaaFn15
set_option linter.unusedVariables false
set_option linter.unusedSimpArgs false
namespace Go.Proofs.Ytiifflojpoobpaa
open Go.RowKit

/-- is a subscription an entry's? -/
def isS (d : ED) (s : SD) : Bool := decide (s.c = d.c) && decide (s.u = d.u)
def cntD (l : List SD) (d : ED) : Nat := (l.filter (isS d)).length
theorem isS_side {d : ED} {s : SD} (h : isS d s = true) : sideI s d.c d.u = 0 := by
  unfold isS at h
  rw [Bool.and_eq_true, decide_eq_true_eq, decide_eq_true_eq] at h
  rcases sideI_cases s d.c d.u with ⟨e, k⟩ | ⟨e, k⟩ | ⟨e, k⟩
  · omega
  · omega
  · exact e
theorem cnt_ahead (l : List SD) (d : ED) : cntD (l.filter (fun s => decide (sideI s d.c d.u < 0))) d = 0 := by
  unfold cntD
  rw [filter_none (fun s _ h => ?_)]
  · rfl
  · cases e : isS d s with
    | false => rfl
    | true => have := isS_side e; simp only [decide_eq_true_eq] at h; omega
theorem cnt_behind (l : List SD) (d : ED) : cntD (l.filter (fun s => decide (0 < sideI s d.c d.u))) d = 0 := by
  unfold cntD
  rw [filter_none (fun s _ h => ?_)]
  · rfl
  · cases e : isS d s with
    | false => rfl
    | true => have := isS_side e; simp only [decide_eq_true_eq] at h; omega
theorem cnt_app (l m : List SD) (d : ED) : cntD (l ++ m) d = cntD l d + cntD m d := by unfold cntD; rw [List.filter_append, List.length_append]
theorem cnt_two (l : List SD) {d : ED} (h : d.k = 2) : cntD (applyD l d) d = 1 := by
  unfold applyD
  rw [if_pos (Or.inl h), if_pos h, cnt_app, cnt_app, cnt_ahead, cnt_behind]
  simp [cntD, isS]
theorem cnt_three (l : List SD) {d : ED} (h : d.k = 3) : cntD (applyD l d) d = 0 := by
  unfold applyD
  rw [if_pos (Or.inr h), if_neg (show ¬ d.k = 2 by omega), cnt_app, cnt_app, cnt_ahead, cnt_behind]
  simp [cntD]
theorem apply_not {l : List SD} {d : ED} (h : ¬ (d.k = 2 ∨ d.k = 3)) : applyD l d = l := by unfold applyD; rw [if_neg h]
/-- What stands behind entries, the last of which is d. -/
structure GT (d : ED) (l : List SD) : Prop where
  gr : GR 30 l
  again : applyD l d = l
  two : d.k = 2 → cntD l d = 1
  three : d.k = 3 → cntD l d = 0
def RetGT (d : ED) (w : World) (e : Ending) (w' : World) : Prop := ∃ aa n cap ys, e = .returned (.slice aa n cap) ∧ Subs w' aa n cap ys ∧ GT d (ys.map SB.d) ∧ Ext w w'
/-- what the limits and Check, passed, tell of an entry -/
def Pass (d : ED) : Prop := d.k = 2 ∨ d.k = 3 → d.es = [] ∧ fewB d.ts = true ∧ mayB d = true
theorem few_len {xs : List T} (h : fewB xs = true) : xs.length ≤ 10 := by unfold fewB at h; simp at h; exact h.1
theorem may_chk {d : ED} (h : mayB d = true) : chkB d.ts = true := by unfold mayB at h; simp at h; exact h.2.2.2.2.2
theorem chk23_any (x : EV) (d : ED) (w : World) (hI : EntryIs w x d) (hk : d.k = 2 ∨ d.k = 3) : Calls Try.prog 9 #[.agg #[.int .i64 x.k, .int .i64 x.id.b, .int .u64 x.id.l, .int .u64 x.id.s, .int .i64 x.c, .int .u64 x.u, .slice x.f.a x.f.n x.f.c, .slice x.e.a x.e.n x.e.c]] w fun e w' => e = .returned (.int .i64 (chkZ d)) ∧ Ext w w' := by
  rcases hk with hk | hk
  · exact chk2f_any x d w hI hk
  · exact chk3f_any x d w hI hk
theorem few11g_any (x : EV) (d : ED) (w : World) (hI : EntryIs w x d) : Calls Try.prog 8 #[.agg #[.int .i64 x.k, .int .i64 x.id.b, .int .u64 x.id.l, .int .u64 x.id.s, .int .i64 x.c, .int .u64 x.u, .slice x.f.a x.f.n x.f.c, .slice x.e.a x.e.n x.e.c]] w (FewR (Small d ∧ (d.es = [] → fewB d.ts = true)) w) := by
  by_cases he : d.es = []
  · exact (few11f_any x d w hI he).mono fun e w' ⟨h1, hx⟩ => ⟨_, h1, fun hf => ⟨⟨Nat.le_trans (few_len hf) (by decide), by rw [he]; exact Nat.zero_le _, fun e hm => by rw [he] at hm; cases hm⟩, fun _ => hf⟩, hx⟩
  · exact (few11_any x d w hI).mono fun e w' ⟨b, h1, h2, hx⟩ => ⟨b, h1, fun hb => ⟨h2 hb, fun h => absurd h he⟩, hx⟩
def ChkG (d : ED) (w : World) (e : Ending) (w' : World) : Prop := ∃ z : Int, e = .returned (.int .i64 z) ∧ (z = 0 → okD d ∧ (d.k = 2 ∨ d.k = 3 → d.es = [] ∧ mayB d = true)) ∧ (z = 0 ∨ z = 110) ∧ Ext w w'
theorem chkg_any (x : EV) (d : ED) (w : World) (hI : EntryIs w x d) : Calls Try.prog 9 #[.agg #[.int .i64 x.k, .int .i64 x.id.b, .int .u64 x.id.l, .int .u64 x.id.s, .int .i64 x.c, .int .u64 x.u, .slice x.f.a x.f.n x.f.c, .slice x.e.a x.e.n x.e.c]] w (ChkG d w) := by
  by_cases hk : d.k = 2 ∨ d.k = 3
  · refine (chk23_any x d w hI hk).mono fun e w' ⟨h1, hx⟩ => ⟨_, h1, fun hz => ?_, ?_, hx⟩
    · have hm : mayB d = true := by
        unfold chkZ at hz
        cases h : mayB d with
        | true => rfl
        | false => rw [h] at hz; exact absurd hz (by decide)
      have he : d.es = [] := by unfold mayB at hm; simp at hm; exact hm.2.2.2.1
      exact ⟨⟨(chk_ok (may_chk hm)).2, fun e hm => by rw [he] at hm; cases hm⟩, fun _ => ⟨he, hm⟩⟩
    · unfold chkZ; split
      · exact .inl rfl
      · exact .inr rfl
  · exact (chkN_any x d w hI).mono fun e w' ⟨z, h1, h2, h3, hx⟩ => ⟨z, h1, fun hz => ⟨h2 hz, fun h => absurd h hk⟩, h3, hx⟩
set_option maxRecDepth 100000 in
set_option maxHeartbeats 4000000 in
theorem grownX_any (a : Option Addr) (n cap : Nat) (ps : List EP) (q : Nat) (d : ED) (w : World) (hE : Ents w a n cap ps) (hq : ps.length = q + 1) (hq30 : q < 30) (hd : ∀ h : q < ps.length, ps[q].d = d)
    (hk : d.k = 2 ∨ d.k = 3) (he : d.es = []) (hf : fewB d.ts = true) (hmay : mayB d = true) :
    Calls Try.prog 10 #[.slice a n cap] w (RetGT d w) := by
  obtain rfl := hE.sl.neq
  have hm := hE.sl.max
  have hl := hE.sl.len
  unfold maxLen at hm
  have HE := hid hE
  have HDQ := hid hd
  have HKD := hid hk
  have HES := hid he
  have HFB := hid hf
  have HMB := hid hmay
  have HQ := hid hq
  clear hE hd hk he hf hmay hq
  go_enter Try.func10, Try.ntmps10
  go_wp2_with fail
  go_loopg [3, 4] (ps.length) (fun g ov st wr => ∃ (k : Nat) (aa : Option Addr) (m cp : Nat) (ys : List SB), g + k = ps.length ∧ k ≤ 30 ∧ st = .int .i64 k ∧ ov = .slice aa m cp ∧ Hid (Subs wr aa m cp ys ∧ GR k (ys.map SB.d)) ∧ Hid (k = ps.length → ∃ l0, ys.map SB.d = applyD l0 d) ∧ Hid (Ext w wr))
  case atStart => exact ⟨0, none, 0, 0, [], by omega, by omega, rfl, rfl, ⟨Subs.nil _, GR.nil⟩, (fun h => absurd h (by rw [HQ.out]; omega)), Ext.refl _⟩
  case round =>
    obtain ⟨k, aa, m, cp, ys, hg, hk30, rfl, rfl, hT, hZ, hx⟩ := hrel
    by_cases hk : k < ps.length
    · have hk3 : k < 30 := by have := HQ.out; omega
      obtain ⟨b, o, rfl, hc⟩ := HE.out.sl.get k hk
      have hcells := fun (wx : World) (hw : Ext wr wx) => cellsE (w := wx) (b := b) (o := o + k * 8) (x := ps[k].x) (fun j v hj => hw.keep (hx.out.keep (hc j v hj)))
      have HCE := hid hcells
      obtain ⟨d0, d1, d2, d3, d4, d5, d6, d7⟩ := hcells wr (Ext.refl _)
      have HP := hid (HE.out.is ps[k] (List.getElem_mem hk))
      clear hc hcells hZ
      have b0 : (0 : Int) ≤ (k : Int) := by omega
      have b1 : (k : Int) < (ps.length : Int) := by omega
      have b2 : (k : Int) < 30 := by omega
      by_cases hkq : k = q
      · have HPD := hid (show EntryIs w ps[k].x d from by have h1 := HP.out; have h2 := HDQ.out (by have := HQ.out; omega); subst hkq; rw [h2] at h1; exact h1)
        have HKQ := hid hkq
        clear hkq
        go_wp2_with fail
        refine (few11f_any ps[k].x d _ (HPD.out.ext (by (repeat (first | exact Ext.refl _ | refine Ext.alloc ?_ _ | refine Ext.drewN ?_ _ | refine Ext.drew ?_ | refine Ext.trans ?_ (Hid.out (by assumption)))))) HES.out).mono ?_
        rintro e w1 ⟨he, hb⟩
        rw [HFB.out] at he
        subst he
        have hy1 := hid hb
        clear hb d0 d1 d2 d3 d4 d5 d6 d7
        obtain ⟨d0, d1, d2, d3, d4, d5, d6, d7⟩ := HCE.out w1 hy1.out
        go_wp2_with fail
        refine (chk23_any ps[k].x d _ (HPD.out.ext (by (repeat (first | exact Ext.refl _ | refine Ext.alloc ?_ _ | refine Ext.drewN ?_ _ | refine Ext.drew ?_ | refine Ext.trans ?_ (Hid.out (by assumption)))))) HKD.out).mono ?_
        rintro e w2 ⟨he, hb⟩
        rw [← chkZ_yes HMB.out] at he
        subst he
        have hy2 := hid (hy1.out.trans hb)
        clear hb hy1 d0 d1 d2 d3 d4 d5 d6 d7
        obtain ⟨d0, d1, d2, d3, d4, d5, d6, d7⟩ := HCE.out w2 hy2.out
        go_wp2_with fail
        refine (apply_any _ _ _ ys ps[k].x d _ ⟨hT.out.1.sl.ext (by (repeat (first | exact Ext.refl _ | refine Ext.alloc ?_ _ | refine Ext.drewN ?_ _ | refine Ext.drew ?_ | refine Ext.trans ?_ (Hid.out (by assumption))))), fun s hs => (hT.out.1.ts s hs).ext (by (repeat (first | exact Ext.refl _ | refine Ext.alloc ?_ _ | refine Ext.drewN ?_ _ | refine Ext.drew ?_ | refine Ext.trans ?_ (Hid.out (by assumption)))))⟩ (HPD.out.ext (by (repeat (first | exact Ext.refl _ | refine Ext.alloc ?_ _ | refine Ext.drewN ?_ _ | refine Ext.drew ?_ | refine Ext.trans ?_ (Hid.out (by assumption)))))) (fun s hs => Nat.le_trans (hT.out.2.few s.d (List.mem_map_of_mem hs)) (by decide)) (by have h1 := hT.out.2.len; rw [List.length_map] at h1; rw [hT.out.1.sl.neq]; omega) (Nat.le_trans (few_len HFB.out) (by decide))).mono ?_
        rintro e w3 ⟨a3, n3, c3, zs, rfl, hs3, hd3, hb⟩
        have hy3 := hid hb
        have HS3 := hid hs3
        have HD3 := hid hd3
        clear hb hs3 hd3
        go_wp2
        go_roundg (gk - 1)
        case measure => omega
        case rel =>
          refine ⟨k + 1, a3, n3, c3, zs, by omega, by omega, by go_num, rfl, ⟨HS3.out, ?_⟩, (fun _ => ⟨_, HD3.out⟩), (by (repeat (first | exact Ext.refl _ | refine Ext.alloc ?_ _ | refine Ext.drewN ?_ _ | refine Ext.drew ?_ | refine Ext.trans ?_ (Hid.out (by assumption)))))⟩
          rw [HD3.out]
          exact hT.out.2.next ⟨(chk_ok (may_chk HMB.out)).2, fun e hm => by rw [HES.out] at hm; cases hm⟩ ⟨Nat.le_trans (few_len HFB.out) (by decide), by rw [HES.out]; exact Nat.zero_le _, fun e hm => by rw [HES.out] at hm; cases hm⟩
      · have HNE := hid (show ¬ k + 1 = ps.length from by have := HQ.out; omega)
        clear hkq
        go_wp2_with fail
        refine (few11_any ps[k].x ps[k].d _ (HP.out.ext (by (repeat (first | exact Ext.refl _ | refine Ext.alloc ?_ _ | refine Ext.drewN ?_ _ | refine Ext.drew ?_ | refine Ext.trans ?_ (Hid.out (by assumption))))))).mono ?_
        rintro e w1 ⟨f, rfl, hf, hb⟩
        have hy1 := hid hb
        have HFW := hid hf
        clear hb hf d0 d1 d2 d3 d4 d5 d6 d7
        obtain ⟨d0, d1, d2, d3, d4, d5, d6, d7⟩ := HCE.out w1 hy1.out
        cases f with
        | false =>
          go_wp2
          go_roundg (gk - 1)
          case measure => omega
          case rel => exact ⟨k + 1, aa, m, cp, ys, by omega, by omega, by go_num, rfl, ⟨⟨hT.out.1.sl.ext (by (repeat (first | exact Ext.refl _ | refine Ext.alloc ?_ _ | refine Ext.drewN ?_ _ | refine Ext.drew ?_ | refine Ext.trans ?_ (Hid.out (by assumption))))), fun s hs => (hT.out.1.ts s hs).ext (by (repeat (first | exact Ext.refl _ | refine Ext.alloc ?_ _ | refine Ext.drewN ?_ _ | refine Ext.drew ?_ | refine Ext.trans ?_ (Hid.out (by assumption)))))⟩, hT.out.2.mono (Nat.le_succ _)⟩, (fun h => absurd h HNE.out), (by (repeat (first | exact Ext.refl _ | refine Ext.alloc ?_ _ | refine Ext.drewN ?_ _ | refine Ext.drew ?_ | refine Ext.trans ?_ (Hid.out (by assumption)))))⟩
        | true =>
          go_wp2_with fail
          refine (chkN_any ps[k].x ps[k].d _ (HP.out.ext (by (repeat (first | exact Ext.refl _ | refine Ext.alloc ?_ _ | refine Ext.drewN ?_ _ | refine Ext.drew ?_ | refine Ext.trans ?_ (Hid.out (by assumption))))))).mono ?_
          rintro e w2 ⟨z, rfl, hz, hz2, hb⟩
          have hy2 := hid (hy1.out.trans hb)
          have HZ := hid hz
          clear hb hz hy1 d0 d1 d2 d3 d4 d5 d6 d7
          obtain ⟨d0, d1, d2, d3, d4, d5, d6, d7⟩ := HCE.out w2 hy2.out
          rcases hz2 with rfl | rfl
          · go_wp2_with fail
            refine (apply_any _ _ _ ys ps[k].x ps[k].d _ ⟨hT.out.1.sl.ext (by (repeat (first | exact Ext.refl _ | refine Ext.alloc ?_ _ | refine Ext.drewN ?_ _ | refine Ext.drew ?_ | refine Ext.trans ?_ (Hid.out (by assumption))))), fun s hs => (hT.out.1.ts s hs).ext (by (repeat (first | exact Ext.refl _ | refine Ext.alloc ?_ _ | refine Ext.drewN ?_ _ | refine Ext.drew ?_ | refine Ext.trans ?_ (Hid.out (by assumption)))))⟩ (HP.out.ext (by (repeat (first | exact Ext.refl _ | refine Ext.alloc ?_ _ | refine Ext.drewN ?_ _ | refine Ext.drew ?_ | refine Ext.trans ?_ (Hid.out (by assumption)))))) (fun s hs => Nat.le_trans (hT.out.2.few s.d (List.mem_map_of_mem hs)) (by decide)) (by have h1 := hT.out.2.len; rw [List.length_map] at h1; rw [hT.out.1.sl.neq]; omega) (Nat.le_trans (HFW.out trivial).ts (by decide))).mono ?_
            rintro e w3 ⟨a3, n3, c3, zs, rfl, hs3, hd3, hb⟩
            have hy3 := hid hb
            have HS3 := hid hs3
            have HD3 := hid hd3
            clear hb hs3 hd3
            go_wp2
            go_roundg (gk - 1)
            case measure => omega
            case rel => exact ⟨k + 1, a3, n3, c3, zs, by omega, by omega, by go_num, rfl, ⟨HS3.out, by rw [HD3.out]; exact hT.out.2.next (HZ.out trivial) (HFW.out trivial)⟩, (fun h => absurd h HNE.out), (by (repeat (first | exact Ext.refl _ | refine Ext.alloc ?_ _ | refine Ext.drewN ?_ _ | refine Ext.drew ?_ | refine Ext.trans ?_ (Hid.out (by assumption)))))⟩
          · go_wp2
            go_roundg (gk - 1)
            case measure => omega
            case rel => exact ⟨k + 1, aa, m, cp, ys, by omega, by omega, by go_num, rfl, ⟨⟨hT.out.1.sl.ext (by (repeat (first | exact Ext.refl _ | refine Ext.alloc ?_ _ | refine Ext.drewN ?_ _ | refine Ext.drew ?_ | refine Ext.trans ?_ (Hid.out (by assumption))))), fun s hs => (hT.out.1.ts s hs).ext (by (repeat (first | exact Ext.refl _ | refine Ext.alloc ?_ _ | refine Ext.drewN ?_ _ | refine Ext.drew ?_ | refine Ext.trans ?_ (Hid.out (by assumption)))))⟩, hT.out.2.mono (Nat.le_succ _)⟩, (fun h => absurd h HNE.out), (by (repeat (first | exact Ext.refl _ | refine Ext.alloc ?_ _ | refine Ext.drewN ?_ _ | refine Ext.drew ?_ | refine Ext.trans ?_ (Hid.out (by assumption)))))⟩
    · go_wp2
      go_ret
      obtain ⟨l0, hl0⟩ := hZ.out (by omega)
      refine ⟨aa, m, cp, ys, rfl, hT.out.1, ⟨hT.out.2.mono hk30, ?_, fun h => ?_, fun h => ?_⟩, hx.out⟩
      · rw [hl0]; exact apply_twice _ _
      · rw [hl0]; exact cnt_two _ h
      · rw [hl0]; exact cnt_three _ h
theorem grownT_any (a : Option Addr) (n cap : Nat) (ps : List EP) (q : Nat) (d : ED) (w : World) (hE : Ents w a n cap ps) (hq : ps.length = q + 1) (hq30 : q < 30) (hd : ∀ h : q < ps.length, ps[q].d = d) (hp : Pass d) :
    Calls Try.prog 10 #[.slice a n cap] w (RetGT d w) := by
  by_cases hk : d.k = 2 ∨ d.k = 3
  · obtain ⟨he, hf, hm⟩ := hp hk
    exact grownX_any a n cap ps q d w hE hq hq30 hd hk he hf hm
  · exact (grown_any a n cap ps w hE).mono fun e w' ⟨aa, n, cap, ys, h1, h2, h3, hx⟩ => ⟨aa, n, cap, ys, h1, h2, ⟨h3, apply_not hk, fun h => absurd (.inl h) hk, fun h => absurd (.inr h) hk⟩, hx⟩
end Go.Proofs.Ytiifflojpoobpaa
