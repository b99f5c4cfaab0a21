/- What the limits and Check of an entry that subscribes, or ends a subscription, answer: as functions of the data. -/
import Derived.Test.YtiifflojpoobpaaChk15
import Derived.Test.YtiifflojpoobpaaFewE
set_option linter.unusedVariables false
set_option linter.unusedSimpArgs false
namespace Go.Proofs.Ytiifflojpoobpaa
open Go.RowKit

def fewT (t : T) : Bool := decide (t.nm.size ≤ 100) && decide (t.s.size ≤ 100)
def fewB (xs : List T) : Bool := decide (xs.length ≤ 10) && xs.all fewT
theorem few_no {xs : List T} {k : Nat} (hk : k < xs.length) (h : fewT xs[k] = false) : false = fewB xs := by
  unfold fewB
  rw [show xs.all fewT = false from List.all_eq_false.2 ⟨_, List.getElem_mem hk, by simp [h]⟩, Bool.and_false]
set_option maxHeartbeats 1000000 in
theorem few05f_any (a : Option Addr) (n cap : Nat) (xs : List T) (w : World) (hS : Sl w 5 T.cs a n cap xs) :
    Calls Try.prog 20 #[.slice a n cap] w fun e w' => e = .returned (.bool (fewB xs)) ∧ Ext w w' := by
  obtain rfl := hS.neq
  have hm := hS.max
  have hl := hS.len
  unfold maxLen at hm
  have HS := hid hS
  clear hS
  by_cases hb : xs.length ≤ 10
  · have hbi : (xs.length : Int) ≤ 10 := by omega
    go_enter Try.func20, Try.ntmps20
    go_wp2_with fail
    go_loopg [3] (xs.length) (fun g st wr => ∃ k : Nat, g + k = xs.length ∧ st = .int .i64 k ∧ Hid ((xs.take k).all fewT = true) ∧ Hid (Ext w wr))
    case atStart => exact ⟨0, by omega, rfl, rfl, Ext.refl _⟩
    case round =>
      obtain ⟨k, hg, rfl, ho, hx⟩ := hrel
      by_cases hk : k < xs.length
      · obtain ⟨b, o, rfl, hc⟩ := HS.out.get k hk
        obtain ⟨c0, c1, c2, c3, c4⟩ := cellsT (w := wr) (b := b) (o := o + k * 5) (x := xs[k]) (fun j v hj => hx.out.keep (hc j v hj))
        clear hc
        have b0 : (0 : Int) ≤ (k : Int) := by omega
        have b1 : (k : Int) < (xs.length : Int) := by omega
        by_cases h1 : xs[k].nm.size ≤ 100
        · have h1i : (xs[k].nm.size : Int) ≤ 100 := by omega
          by_cases h2 : xs[k].s.size ≤ 100
          · have h2i : (xs[k].s.size : Int) ≤ 100 := by omega
            have He := hid (show fewT xs[k] = true by unfold fewT; rw [decide_eq_true h1, decide_eq_true h2]; rfl)
            clear h1 h2
            go_wp2
            go_roundg (gk - 1)
            case measure => omega
            case rel => exact ⟨k + 1, by omega, by go_num, all_take hk ho.out He.out, (by (repeat (first | exact Ext.refl _ | refine Ext.alloc ?_ _ | refine Ext.drewN ?_ _ | refine Ext.drew ?_ | refine Ext.trans ?_ (Hid.out (by assumption)))))⟩
          · have h2i : 100 < (xs[k].s.size : Int) := by omega
            have He := hid (show fewT xs[k] = false by unfold fewT; rw [decide_eq_false h2, Bool.and_false])
            clear h1 h2
            go_wp2
            (go_ret; exact ⟨ret_bool (few_no hk He.out), (by (repeat (first | exact Ext.refl _ | refine Ext.alloc ?_ _ | refine Ext.drewN ?_ _ | refine Ext.drew ?_ | refine Ext.trans ?_ (Hid.out (by assumption)))))⟩)
        · have h1i : 100 < (xs[k].nm.size : Int) := by omega
          have He := hid (show fewT xs[k] = false by unfold fewT; rw [decide_eq_false h1, Bool.false_and])
          clear h1
          go_wp2
          (go_ret; exact ⟨ret_bool (few_no hk He.out), (by (repeat (first | exact Ext.refl _ | refine Ext.alloc ?_ _ | refine Ext.drewN ?_ _ | refine Ext.drew ?_ | refine Ext.trans ?_ (Hid.out (by assumption)))))⟩)
      · have hk' : xs.take k = xs := List.take_of_length_le (by omega)
        rw [hk'] at ho
        clear hk'
        go_wp2
        go_ret
        exact ⟨ret_bool (by unfold fewB; rw [ho.out, decide_eq_true hb]; rfl), (by (repeat (first | exact Ext.refl _ | refine Ext.alloc ?_ _ | refine Ext.drewN ?_ _ | refine Ext.drew ?_ | refine Ext.trans ?_ (Hid.out (by assumption)))))⟩
  · have hbi : 10 < (xs.length : Int) := by omega
    go_enter Try.func20, Try.ntmps20
    go_wp2_with fail
    go_ret
    exact ⟨ret_bool (by unfold fewB; rw [decide_eq_false hb, Bool.false_and]), (by (repeat (first | exact Ext.refl _ | refine Ext.alloc ?_ _ | refine Ext.drewN ?_ _ | refine Ext.drew ?_ | refine Ext.trans ?_ (Hid.out (by assumption)))))⟩
theorem ev_zero {w : World} {x : EV} {d : ED} (h : EntryIs w x d) (he : d.es = []) : x.e.n = 0 := by
  obtain ⟨evs, hes, hev⟩ := h.e
  rw [hev.sl.neq, ← List.length_map (f := (·.ats)), hes, he]; rfl
theorem ev_some {w : World} {x : EV} {d : ED} (h : EntryIs w x d) (he : d.es ≠ []) : 0 < x.e.n := by
  obtain ⟨evs, hes, hev⟩ := h.e
  rw [hev.sl.neq, ← List.length_map (f := (·.ats)), hes]
  exact List.length_pos_iff.2 he
theorem few11f_any (x : EV) (d : ED) (w : World) (hI : EntryIs w x d) (he : d.es = []) : Calls Try.prog 8 #[.agg #[.int .i64 x.k, .int .i64 x.id.b, .int .u64 x.id.l, .int .u64 x.id.s, .int .i64 x.c, .int .u64 x.u, .slice x.f.a x.f.n x.f.c, .slice x.e.a x.e.n x.e.c]] w fun e w' => e = .returned (.bool (fewB d.ts)) ∧ Ext w w' := by
  have h0 := ev_zero hI he
  have HT := hid hI.f
  clear hI he
  obtain ⟨xk, xi, xc, xu, ⟨fa, fn, fc⟩, ⟨ea, en, ec⟩⟩ := x
  dsimp only at h0 HT ⊢
  subst h0
  go_enter Try.func8, Try.ntmps8
  go_wp2_with fail
  go_loopg [3] 0 (fun g st wr => st = .int .i64 0 ∧ Hid (Ext (w.alloc (Obj.cells #[.int .i64 xk, .int .i64 xi.b, .int .u64 xi.l, .int .u64 xi.s, .int .i64 xc, .int .u64 xu, .slice fa fn fc, .slice ea 0 ec] 31)) wr))
  case atStart => exact ⟨rfl, Ext.refl _⟩
  case round =>
    obtain ⟨rfl, hx⟩ := hrel
    have x6 : wr.cell? ⟨w.heap.size, 6, none⟩ = some (.slice fa fn fc) := hx.out.keep (by simp)
    have x7 : wr.cell? ⟨w.heap.size, 7, none⟩ = some (.slice ea 0 ec) := hx.out.keep (by simp)
    go_wp2_with fail
    refine (few05f_any _ _ _ d.ts _ (HT.out.ext (Ext.trans ((Ext.refl w).alloc _) hx.out))).mono ?_
    rintro e w' ⟨rfl, hb⟩
    have hx' := hid hb
    clear hb
    go_wp2
    go_ret
    refine ⟨rfl, ?_⟩
    (repeat (first | exact Ext.refl _ | refine Ext.alloc ?_ _ | refine Ext.drewN ?_ _ | refine Ext.drew ?_ | refine Ext.trans ?_ (Hid.out (by assumption))))
theorem homef_any (b l s : Int) (w : World) : Calls Try.prog 21 #[.agg #[.int .i64 b, .int .u64 l, .int .u64 s]] w fun e w' => e = .returned (.bool (decide (0 ≤ b) && decide (b < 16))) ∧ Ext w w' := by
  go_enter Try.func21, Try.ntmps21
  go_wp2
  all_goals
    go_ret
    refine ⟨ret_bool (by rw [Bool.eq_iff_iff]; simp <;> omega), ?_⟩
    (repeat (first | exact Ext.refl _ | refine Ext.alloc ?_ _ | refine Ext.drewN ?_ _ | refine Ext.drew ?_ | refine Ext.trans ?_ (Hid.out (by assumption))))
/-- what Check answers of an entry that subscribes (2), or ends a subscription (3) -/
def mayB (d : ED) : Bool := (decide (0 ≤ d.id.b) && decide (d.id.b < 16)) && (decide (0 ≤ d.c) && (decide (d.c < 32) && (decide (d.es = []) && ((decide (d.k = 2) || decide (d.ts = [])) && chkB d.ts))))
def chkZ (d : ED) : Int := if mayB d = true then 0 else 110
theorem chkZ_no {d : ED} (h : mayB d = false) : (110 : Int) = chkZ d := by unfold chkZ; rw [h]; rfl
theorem chkZ_yes {d : ED} (h : mayB d = true) : (0 : Int) = chkZ d := by unfold chkZ; rw [h]; rfl
set_option maxRecDepth 100000 in
set_option maxHeartbeats 4000000 in
theorem chk2f_any (x : EV) (d : ED) (w : World) (hI : EntryIs w x d) (hk : d.k = 2) : Calls Try.prog 9 #[.agg #[.int .i64 x.k, .int .i64 x.id.b, .int .u64 x.id.l, .int .u64 x.id.s, .int .i64 x.c, .int .u64 x.u, .slice x.f.a x.f.n x.f.c, .slice x.e.a x.e.n x.e.c]] w fun e w' => e = .returned (.int .i64 (chkZ d)) ∧ Ext w w' := by
  obtain ⟨xk, xi, xc, xu, xf, xe⟩ := x
  obtain rfl : xi = d.id := hI.id
  obtain rfl : xc = d.c := hI.c
  have hkk : xk = 2 := hI.k.trans hk
  subst hkk
  have HI := hid hI
  have HK := hid hk
  have HF := hid hI.f
  clear hI hk
  dsimp only at HF ⊢
  go_enter Try.func9, Try.ntmps9
  go_wp2_with fail
  refine (homef_any _ _ _ _).mono ?_
  rintro e w1 ⟨rfl, hb⟩
  have c0 : w1.cell? ⟨w.heap.size, 0, none⟩ = some (.int .i64 2) := hb.keep (by simp)
  have c4 : w1.cell? ⟨w.heap.size, 4, none⟩ = some (.int .i64 d.c) := hb.keep (by simp)
  have c5 : w1.cell? ⟨w.heap.size, 5, none⟩ = some (.int .u64 xu) := hb.keep (by simp)
  have c6 : w1.cell? ⟨w.heap.size, 6, none⟩ = some (.slice xf.a xf.n xf.c) := hb.keep (by simp)
  have c7 : w1.cell? ⟨w.heap.size, 7, none⟩ = some (.slice xe.a xe.n xe.c) := hb.keep (by simp)
  have hy := hid (show Ext w w1 from Ext.trans ((Ext.refl w).alloc _) hb)
  clear hb
  cases hq : (decide (0 ≤ d.id.b) && decide (d.id.b < 16)) with
  | false =>
    have HQ := hid hq
    clear hq
    go_wp2
    go_ret
    exact ⟨ret_int (chkZ_no (by unfold mayB; rw [HQ.out, Bool.false_and])), (by (repeat (first | exact Ext.refl _ | refine Ext.alloc ?_ _ | refine Ext.drewN ?_ _ | refine Ext.drew ?_ | refine Ext.trans ?_ (Hid.out (by assumption)))))⟩
  | true =>
    have HQ := hid hq
    clear hq
    by_cases h1 : d.c < 0
    · skip
      go_wp2
      go_ret
      exact ⟨ret_int (chkZ_no (by unfold mayB; rw [decide_eq_false (show ¬ 0 ≤ d.c by omega)]; simp)), (by (repeat (first | exact Ext.refl _ | refine Ext.alloc ?_ _ | refine Ext.drewN ?_ _ | refine Ext.drew ?_ | refine Ext.trans ?_ (Hid.out (by assumption)))))⟩
    · have h1' : 0 ≤ d.c := by omega
      by_cases h2 : d.c ≥ 32
      · skip
        go_wp2
        go_ret
        exact ⟨ret_int (chkZ_no (by unfold mayB; rw [decide_eq_false (show ¬ d.c < 32 by omega)]; simp)), (by (repeat (first | exact Ext.refl _ | refine Ext.alloc ?_ _ | refine Ext.drewN ?_ _ | refine Ext.drew ?_ | refine Ext.trans ?_ (Hid.out (by assumption)))))⟩
      · have h2' : d.c < 32 := by omega
        by_cases h3 : d.es = []
        · have h30 := ev_zero HI.out h3
          dsimp only at h30
          rw [h30] at c7
          have H3 := hid h3
          clear h3
          go_wp2_with fail
          refine (chkF_any _ _ _ d.ts _ (HF.out.ext (by (repeat (first | exact Ext.refl _ | refine Ext.alloc ?_ _ | refine Ext.drewN ?_ _ | refine Ext.drew ?_ | refine Ext.trans ?_ (Hid.out (by assumption))))))).mono ?_
          rintro e w2 ⟨rfl, hb⟩
          have hy2 := hid hb
          clear hb
          cases hB : chkB d.ts with
          | true =>
            go_wp2
            go_ret
            exact ⟨ret_int (chkZ_yes (by unfold mayB; rw [HQ.out, decide_eq_true h1', decide_eq_true h2', decide_eq_true H3.out, decide_eq_true HK.out, hB]; rfl)), (by (repeat (first | exact Ext.refl _ | refine Ext.alloc ?_ _ | refine Ext.drewN ?_ _ | refine Ext.drew ?_ | refine Ext.trans ?_ (Hid.out (by assumption)))))⟩
          | false =>
            go_wp2
            go_ret
            exact ⟨ret_int (chkZ_no (by unfold mayB; rw [hB]; simp)), (by (repeat (first | exact Ext.refl _ | refine Ext.alloc ?_ _ | refine Ext.drewN ?_ _ | refine Ext.drew ?_ | refine Ext.trans ?_ (Hid.out (by assumption)))))⟩
        · have h30 := ev_some HI.out h3
          dsimp only at h30
          have H3 := hid h3
          clear h3
          go_wp2
          go_ret
          exact ⟨ret_int (chkZ_no (by unfold mayB; rw [decide_eq_false H3.out]; simp)), (by (repeat (first | exact Ext.refl _ | refine Ext.alloc ?_ _ | refine Ext.drewN ?_ _ | refine Ext.drew ?_ | refine Ext.trans ?_ (Hid.out (by assumption)))))⟩
set_option maxRecDepth 100000 in
set_option maxHeartbeats 4000000 in
theorem chk3f_any (x : EV) (d : ED) (w : World) (hI : EntryIs w x d) (hk : d.k = 3) : Calls Try.prog 9 #[.agg #[.int .i64 x.k, .int .i64 x.id.b, .int .u64 x.id.l, .int .u64 x.id.s, .int .i64 x.c, .int .u64 x.u, .slice x.f.a x.f.n x.f.c, .slice x.e.a x.e.n x.e.c]] w fun e w' => e = .returned (.int .i64 (chkZ d)) ∧ Ext w w' := by
  obtain ⟨xk, xi, xc, xu, xf, xe⟩ := x
  obtain rfl : xi = d.id := hI.id
  obtain rfl : xc = d.c := hI.c
  have hkk : xk = 3 := hI.k.trans hk
  subst hkk
  have HI := hid hI
  have HK := hid hk
  have HF := hid hI.f
  clear hI hk
  dsimp only at HF ⊢
  go_enter Try.func9, Try.ntmps9
  go_wp2_with fail
  refine (homef_any _ _ _ _).mono ?_
  rintro e w1 ⟨rfl, hb⟩
  have c0 : w1.cell? ⟨w.heap.size, 0, none⟩ = some (.int .i64 3) := hb.keep (by simp)
  have c4 : w1.cell? ⟨w.heap.size, 4, none⟩ = some (.int .i64 d.c) := hb.keep (by simp)
  have c5 : w1.cell? ⟨w.heap.size, 5, none⟩ = some (.int .u64 xu) := hb.keep (by simp)
  have c6 : w1.cell? ⟨w.heap.size, 6, none⟩ = some (.slice xf.a xf.n xf.c) := hb.keep (by simp)
  have c7 : w1.cell? ⟨w.heap.size, 7, none⟩ = some (.slice xe.a xe.n xe.c) := hb.keep (by simp)
  have hy := hid (show Ext w w1 from Ext.trans ((Ext.refl w).alloc _) hb)
  clear hb
  cases hq : (decide (0 ≤ d.id.b) && decide (d.id.b < 16)) with
  | false =>
    have HQ := hid hq
    clear hq
    go_wp2
    go_ret
    exact ⟨ret_int (chkZ_no (by unfold mayB; rw [HQ.out, Bool.false_and])), (by (repeat (first | exact Ext.refl _ | refine Ext.alloc ?_ _ | refine Ext.drewN ?_ _ | refine Ext.drew ?_ | refine Ext.trans ?_ (Hid.out (by assumption)))))⟩
  | true =>
    have HQ := hid hq
    clear hq
    by_cases h1 : d.c < 0
    · skip
      go_wp2
      go_ret
      exact ⟨ret_int (chkZ_no (by unfold mayB; rw [decide_eq_false (show ¬ 0 ≤ d.c by omega)]; simp)), (by (repeat (first | exact Ext.refl _ | refine Ext.alloc ?_ _ | refine Ext.drewN ?_ _ | refine Ext.drew ?_ | refine Ext.trans ?_ (Hid.out (by assumption)))))⟩
    · have h1' : 0 ≤ d.c := by omega
      by_cases h2 : d.c ≥ 32
      · skip
        go_wp2
        go_ret
        exact ⟨ret_int (chkZ_no (by unfold mayB; rw [decide_eq_false (show ¬ d.c < 32 by omega)]; simp)), (by (repeat (first | exact Ext.refl _ | refine Ext.alloc ?_ _ | refine Ext.drewN ?_ _ | refine Ext.drew ?_ | refine Ext.trans ?_ (Hid.out (by assumption)))))⟩
      · have h2' : d.c < 32 := by omega
        by_cases h4 : d.ts = []
        case neg =>
          have h40 : 0 < xf.n := by rw [HF.out.neq]; exact List.length_pos_iff.2 h4
          have HK2 := hid (show ¬ d.k = 2 by rw [HK.out]; decide)
          have H4 := hid h4
          clear h4
          go_wp2
          go_ret
          exact ⟨ret_int (chkZ_no (by unfold mayB; rw [decide_eq_false H4.out, decide_eq_false HK2.out]; simp)), (by (repeat (first | exact Ext.refl _ | refine Ext.alloc ?_ _ | refine Ext.drewN ?_ _ | refine Ext.drew ?_ | refine Ext.trans ?_ (Hid.out (by assumption)))))⟩
        case pos =>
        have h40 : xf.n = 0 := by rw [HF.out.neq, h4]; rfl
        have HF0 := HF.out
        rw [h40] at c6 HF0
        have HG := hid HF0
        have H4 := hid h4
        clear h4 h40 HF0
        by_cases h3 : d.es = []
        · have h30 := ev_zero HI.out h3
          dsimp only at h30
          rw [h30] at c7
          have H3 := hid h3
          clear h3
          go_wp2_with fail
          refine (chkF_any _ _ _ d.ts _ (HG.out.ext (by (repeat (first | exact Ext.refl _ | refine Ext.alloc ?_ _ | refine Ext.drewN ?_ _ | refine Ext.drew ?_ | refine Ext.trans ?_ (Hid.out (by assumption))))))).mono ?_
          rintro e w2 ⟨rfl, hb⟩
          have hy2 := hid hb
          clear hb
          cases hB : chkB d.ts with
          | true =>
            go_wp2
            go_ret
            exact ⟨ret_int (chkZ_yes (by unfold mayB; rw [HQ.out, decide_eq_true h1', decide_eq_true h2', decide_eq_true H3.out, decide_eq_true H4.out, hB, Bool.or_true]; rfl)), (by (repeat (first | exact Ext.refl _ | refine Ext.alloc ?_ _ | refine Ext.drewN ?_ _ | refine Ext.drew ?_ | refine Ext.trans ?_ (Hid.out (by assumption)))))⟩
          | false =>
            go_wp2
            go_ret
            exact ⟨ret_int (chkZ_no (by unfold mayB; rw [hB]; simp)), (by (repeat (first | exact Ext.refl _ | refine Ext.alloc ?_ _ | refine Ext.drewN ?_ _ | refine Ext.drew ?_ | refine Ext.trans ?_ (Hid.out (by assumption)))))⟩
        · have h30 := ev_some HI.out h3
          dsimp only at h30
          have H3 := hid h3
          clear h3
          go_wp2
          go_ret
          exact ⟨ret_int (chkZ_no (by unfold mayB; rw [decide_eq_false H3.out]; simp)), (by (repeat (first | exact Ext.refl _ | refine Ext.alloc ?_ _ | refine Ext.drewN ?_ _ | refine Ext.drew ?_ | refine Ext.trans ?_ (Hid.out (by assumption)))))⟩
end Go.Proofs.Ytiifflojpoobpaa
