/- Chapter 07: the statements' head. -/
import Derived.Test.YtclmbonippjhoaaChk
import Derived.Test.YtclmbonippjhoaaSameD
set_option linter.unusedVariables false
set_option linter.unusedSimpArgs false
namespace Go.Proofs.Ytclmbonippjhoaa
open Go.RowKit

/-- A slice that was laid just now, whole. -/
theorem sl_ofBlock {α : Type} {w : World} {sz : Nat} {c : α → List Value} {B n : Nat} {t : TypeId} {fr : Nat × Nat} (xs : List α) (hw : ∀ x, (c x).length = sz) (hn : n = xs.length) (hm : xs.length ≤ 1000)
    {cs : Array Value} (h : w.heap[B]? = some (.cells cs t fr)) (hcs : cs.toList = xs.flatMap c) : Sl w sz c (some ⟨B, 0, none⟩) n n xs :=
  ⟨hn, Nat.le_refl _, by rw [hn]; simp only [maxLen]; omega, (fun h => by cases h), hw, fun k x hk => ⟨B, 0, rfl, fun j v hj => by
    have := flatMap_at hw xs k x hk j v hj
    rw [← hcs] at this
    rw [Nat.zero_add]
    simp only [World.cell?, h]
    simpa using this⟩⟩
def tP (n : Int) : T := ⟨⟨#[112]⟩, 5, 1, n, ⟨#[]⟩⟩
def tQ : T := ⟨⟨#[113]⟩, 8, 0, 0, ⟨#[]⟩⟩
def aQ : AT := ⟨⟨#[113]⟩, 1, 1, ⟨#[]⟩⟩
theorem tP_ts (n : Int) : (tP n).ts = ⟨[112], 5, ⟨1, n, []⟩⟩ := by simp [tP, T.ts, T.v, Lib.toList_data]
theorem tQ_ts : tQ.ts = ⟨[113], 8, ⟨0, 0, []⟩⟩ := by simp [tQ, T.ts, T.v, Lib.toList_data]
theorem cov_a : cov [tP 3] [tP 5, tQ] = true := by simp only [cov, List.all_cons, List.any_cons, List.all_nil, List.any_nil, tP_ts, tQ_ts]; decide
theorem cov_b : cov [tP 5, tQ] [tP 3] = false := by simp only [cov, List.all_cons, List.any_cons, List.all_nil, List.any_nil, tP_ts, tQ_ts]; decide
theorem red_a : red [] [[tP 5], [tQ], [tP 3]] = [[tQ], [tP 3]] := by
  have h1 : cov [tP 3] [tP 5] = true := by simp only [cov, List.all_cons, List.any_cons, List.all_nil, List.any_nil, tP_ts]; decide
  have h2 : cov [tP 3] [tQ] = false := by simp only [cov, List.all_cons, List.any_cons, List.all_nil, List.any_nil, tP_ts, tQ_ts]; decide
  have h3 : cov [tQ] [tP 3] = false := by simp only [cov, List.all_cons, List.any_cons, List.all_nil, List.any_nil, tP_ts, tQ_ts]; decide
  simp [red, h1, h2, h3]
theorem match_q : matchesT [tQ] [aQ] = true := by
  simp [matchesT, holdsT, findA, tQ, aQ, isV]
theorem one_t {w : World} {aa : Option Addr} {n c : Nat} {t : T} (h : Sl w 5 T.cs aa n c [t]) : ∃ b o, n = 1 ∧ aa = some ⟨b, o, none⟩ ∧ CellsAt w b o t.cs := by
  obtain ⟨b, o, ha, hc⟩ := h.get 0 (by simp)
  rw [Nat.zero_mul, Nat.add_zero] at hc
  exact ⟨b, o, h.neq, ha, hc⟩
theorem two_f {w : World} {aa : Option Addr} {n c : Nat} {ys : List FV} {f : List T} {t : T} (h : Flts w aa n c ys) (hm : ys.map (·.ts) = [f, [t]]) :
    ∃ b o b2 o2 c2, n = 2 ∧ aa = some ⟨b, o, none⟩ ∧ w.cell? ⟨b, o + 1, none⟩ = some (.slice (some ⟨b2, o2, none⟩) 1 c2) ∧ CellsAt w b2 o2 t.cs ∧ 1 ≤ c2 ∧ 2 ≤ c := by
  have hl : ys.length = 2 := by have := congrArg List.length hm; simpa using this
  match ys, hl with
  | [x, y], _ =>
    simp at hm
    obtain ⟨b, o, ha, hc⟩ := h.sl.get 1 (by simp)
    have hy := h.ts y (by simp)
    rw [hm.2] at hy
    obtain ⟨b2, o2, h1, h2, h3⟩ := one_t hy
    have h0 := cellsF hc
    simp only [List.getElem_cons_succ, List.getElem_cons_zero, Nat.mul_one] at h0
    rw [h1, h2] at h0
    have hyl := hy.len
    have hsl := h.sl.len
    have hsn := h.sl.neq
    simp at hsn
    exact ⟨b, o, b2, o2, _, hsn, ha, h0, h3, by omega, by omega⟩
theorem any_map {ys : List FV} {fs : List (List T)} {es : List AT} (h : ys.map (·.ts) = fs) : ys.any (fun x => matchesT x.ts es) = fs.any (fun f => matchesT f es) := by
  rw [← h, List.any_map]; rfl
set_option maxRecDepth 100000 in
set_option maxHeartbeats 4000000 in
theorem awake07_any (w : World) : Calls Try.prog 29 #[] w fun e w' => e = .returned (.bool true) ∧ Ext w w' := by
  obtain ⟨i0, hi, hz0, hz1, hz2⟩ := info_parts infoT
  have I1 := hid hi
  have I2 := hid hz0
  have I3 := hid hz1
  have I4 := hid hz2
  clear hi hz0 hz1 hz2
  go_enter Try.func29, Try.ntmps29
  go_wp2_with fail
  refine (int_any _ _).mono ?_
  rintro e w1 ⟨rfl, hb⟩
  have hx1 := hid hb
  clear hb
  go_wp2_with fail
  refine (int_any _ _).mono ?_
  rintro e w2 ⟨rfl, hb⟩
  have B3 := hb.blk (heap_alloc_new _ _)
  have hx2 := hid (Ext.trans ((Ext.refl w1).alloc _) hb)
  have H3 := hid (sl_ofBlock (c := T.cs) (sz := 5) (n := 1) [tP 3] T.wid rfl (by decide) B3 rfl)
  have H5 := hid (sl_ofBlock (w := ((w2.alloc (Obj.cells #[.string ⟨#[112]⟩, .int .i64 5, .int .i64 1, .int .i64 5, .string ⟨#[]⟩] 25)).alloc (Obj.cells #[.string ⟨#[113]⟩, .int .i64 8, .int .i64 0, .int .i64 0, .string ⟨#[]⟩] 25))) (c := T.cs) (sz := 5) (n := 1) (B := w2.heap.size) [tP 5] T.wid rfl (by decide) (t := 25) (fr := (0, 0)) (by (repeat (first | (refine heap_new ?_; (simp; done)) | refine heap_old (by first | (simp; done) | (simp; omega)) ?_))) rfl)
  have HQ := hid (sl_ofBlock (w := ((w2.alloc (Obj.cells #[.string ⟨#[112]⟩, .int .i64 5, .int .i64 1, .int .i64 5, .string ⟨#[]⟩] 25)).alloc (Obj.cells #[.string ⟨#[113]⟩, .int .i64 8, .int .i64 0, .int .i64 0, .string ⟨#[]⟩] 25))) (c := T.cs) (sz := 5) (n := 1) (B := w2.heap.size + 1) [tQ] T.wid rfl (by decide) (t := 25) (fr := (0, 0)) (by (repeat (first | (refine heap_new ?_; (simp; done)) | refine heap_old (by first | (simp; done) | (simp; omega)) ?_))) rfl)
  have hz1 := lt_of_block B3
  have hxW : Hid (Ext w2 ((w2.alloc (Obj.cells #[.string ⟨#[112]⟩, .int .i64 5, .int .i64 1, .int .i64 5, .string ⟨#[]⟩] 25)).alloc (Obj.cells #[.string ⟨#[113]⟩, .int .i64 8, .int .i64 0, .int .i64 0, .string ⟨#[]⟩] 25))) := ((Ext.refl w2).alloc _).alloc _
  clear hb B3
  go_wp2_with (first | (at_builtin; refine wpList_plain rfl fun KK hKK => ?_; refine wpOn (c := T.cs) (ys0 := []) (ys := [tP 5]) (.tmp 14) (.tmp 15) 29 25 rfl i0 _ 56 Try.underlying29 I1.out I2.out I3.out I4.out rfl (by decide) rfl ((w2.alloc (Obj.cells #[.string ⟨#[112]⟩, .int .i64 5, .int .i64 1, .int .i64 5, .string ⟨#[]⟩] 25)).alloc (Obj.cells #[.string ⟨#[113]⟩, .int .i64 8, .int .i64 0, .int .i64 0, .string ⟨#[]⟩] 25)) (by (repeat (first | exact Ext.refl _ | refine Ext.alloc ?_ _ | refine Ext.drewN ?_ _ | refine Ext.drew ?_ | refine Ext.trans ?_ (Hid.out (by assumption))))) (Own.empty (by (repeat (first | (refine heap_new ?_; (simp; done)) | refine heap_old (by first | (simp; done) | (simp; omega)) ?_))) (by simp) T.wid) rfl (H5.out.ext (by (repeat (first | exact Ext.refl _ | refine Ext.alloc ?_ _ | refine Ext.drewN ?_ _ | refine Ext.drew ?_ | refine Ext.trans ?_ (Hid.out (by assumption)))))) T.one (by simp) (by decide) ?_; intro b1 n1 cap1 w11 hn1 hown1 hy1 hg1; refine hKK _ _ ?_; have HN1 := hid hn1; have HO1 := hid hown1; have HY1 := hid hy1; clear hn1 hown1 hy1 hg1) | (at_builtin; refine wpList_plain rfl fun KK hKK => ?_; refine wpOn (c := T.cs) (ys0 := [tP 5]) (ys := [tQ]) (.tmp 16) (.tmp 17) 29 25 rfl i0 _ 56 Try.underlying29 I1.out I2.out I3.out I4.out rfl (by decide) rfl ((w2.alloc (Obj.cells #[.string ⟨#[112]⟩, .int .i64 5, .int .i64 1, .int .i64 5, .string ⟨#[]⟩] 25)).alloc (Obj.cells #[.string ⟨#[113]⟩, .int .i64 8, .int .i64 0, .int .i64 0, .string ⟨#[]⟩] 25)) (by (repeat (first | exact Ext.refl _ | refine Ext.alloc ?_ _ | refine Ext.drewN ?_ _ | refine Ext.drew ?_ | refine Ext.trans ?_ (Hid.out (by assumption))))) HO1.out rfl (HQ.out.ext (by (repeat (first | exact Ext.refl _ | refine Ext.alloc ?_ _ | refine Ext.drewN ?_ _ | refine Ext.drew ?_ | refine Ext.trans ?_ (Hid.out (by assumption)))))) T.one (by (have := HN1.out; omega)) (by decide) ?_; intro b2 n2 cap2 w22 hn2 hown2 hy2 hg2; refine hKK _ _ ?_; have HN2 := hid hn2; have HO2 := hid hown2; have HY2 := hid hy2; clear hn2 hown2 hy2 hg2))
  have hn : n2 = 2 := by have h1 := HN1.out; have h2 := HN2.out; omega
  subst hn
  clear HN1 HN2
  refine (reduce_any _ _ _ [⟨⟨some ⟨w2.heap.size, 0, none⟩, 1, 1⟩, [tP 5]⟩, ⟨⟨some ⟨w2.heap.size + 1, 0, none⟩, 1, 1⟩, [tQ]⟩, ⟨⟨some ⟨w1.heap.size, 0, none⟩, 1, 1⟩, [tP 3]⟩] _
    ⟨sl_ofBlock _ FV.wid rfl (by simp) (t := 29) (fr := (0, 0)) (by (repeat (first | (refine heap_new ?_; (simp; done)) | refine heap_old (by first | (simp; done) | (simp; omega)) ?_))) rfl, fun x hx => ?_⟩ (by simp) (fun x hx => ?_)).mono ?_
  · simp only [List.mem_cons, List.not_mem_nil, or_false] at hx
    rcases hx with rfl | rfl | rfl
    · exact H5.out.ext (by (repeat (first | exact Ext.refl _ | refine Ext.alloc ?_ _ | refine Ext.drewN ?_ _ | refine Ext.drew ?_ | refine Ext.trans ?_ (Hid.out (by assumption)))))
    · exact HQ.out.ext (by (repeat (first | exact Ext.refl _ | refine Ext.alloc ?_ _ | refine Ext.drewN ?_ _ | refine Ext.drew ?_ | refine Ext.trans ?_ (Hid.out (by assumption)))))
    · exact H3.out.ext (by (repeat (first | exact Ext.refl _ | refine Ext.alloc ?_ _ | refine Ext.drewN ?_ _ | refine Ext.drew ?_ | refine Ext.trans ?_ (Hid.out (by assumption)))))
  · simp only [List.mem_cons, List.not_mem_nil, or_false] at hx
    rcases hx with rfl | rfl | rfl <;> simp
  rintro e w5 ⟨aa, n, c, ys, rfl, hown, hmap, hb⟩
  have hmap' : ys.map (·.ts) = [[tQ], [tP 3]] := hmap.trans red_a
  obtain ⟨lb, lo, b2, o2, c2, rfl, rfl, hlc, htc, hc2, hlc2⟩ := two_f hown.flts hmap'
  obtain ⟨d0, d1, d2, d3, d4⟩ := cellsT htc
  have hb := Ext.trans (((Ext.refl w22).alloc _)) hb
  obtain ⟨qb, qo, _, hq2, hq3⟩ := one_t (H3.out.ext (w' := w5) (Ext.trans hxW.out (Ext.trans HY2.out hb)))
  simp only [Option.some.injEq, Addr.mk.injEq, and_true] at hq2
  obtain ⟨rfl, rfl⟩ := hq2
  obtain ⟨e0, e1, e2, e3, e4⟩ := cellsT hq3
  have HL := hid hown.flts
  have HM := hid hmap'
  have hx5 := hid hb
  have hq1 : 1 < 2 := by decide
  simp only [tP] at d0 d1 d2 d3 d4 e0 e1 e2 e3 e4
  clear hb htc hq3 hown hmap hmap' HO1 HY1
  have CA := hid cov_a
  have CB := hid cov_b
  go_wp2_with fail
  go_region_held3 (fun w' => w'.cell? ⟨lb, lo + 1, none⟩ = some (.slice (some ⟨b2, o2, none⟩) 1 c2) ∧ w'.cell? ⟨b2, o2, none⟩ = some (.string ⟨#[112]⟩) ∧ w'.cell? ⟨b2, o2 + 1, none⟩ = some (.int .i64 5) ∧ w'.cell? ⟨b2, o2 + 2, none⟩ = some (.int .i64 1) ∧ w'.cell? ⟨b2, o2 + 3, none⟩ = some (.int .i64 3) ∧ w'.cell? ⟨b2, o2 + 4, none⟩ = some (.string ⟨#[]⟩) ∧ w'.cell? ⟨w1.heap.size, 0, none⟩ = some (.string ⟨#[112]⟩) ∧ w'.cell? ⟨w1.heap.size, 0 + 1, none⟩ = some (.int .i64 5) ∧ w'.cell? ⟨w1.heap.size, 0 + 2, none⟩ = some (.int .i64 1) ∧ w'.cell? ⟨w1.heap.size, 0 + 3, none⟩ = some (.int .i64 3) ∧ w'.cell? ⟨w1.heap.size, 0 + 4, none⟩ = some (.string ⟨#[]⟩))
    (first | (go_split_ands; refine ⟨?_, ?_, ?_, ?_, ?_, ?_, ?_, ?_, ?_, ?_, ?_⟩ <;> exact (Hid.out hy).keep (by assumption)) | go_keep)
    (first | (go_at_call 34; with_reducible refine (covers_any _ _ _ _ _ _ [tP 3] [tP 5, tQ] _ (H3.out.ext (by (repeat (first | exact Ext.refl _ | refine Ext.alloc ?_ _ | refine Ext.drewN ?_ _ | refine Ext.drew ?_ | refine Ext.trans ?_ (Hid.out (by assumption)))))) (HO2.out.sl.ext (by (repeat (first | exact Ext.refl _ | refine Ext.alloc ?_ _ | refine Ext.drewN ?_ _ | refine Ext.drew ?_ | refine Ext.trans ?_ (Hid.out (by assumption))))))).mono ?_; rintro e wq ⟨he, hb⟩; rw [CA.out] at he; subst he; have hy := hid hb; clear hb) | (go_at_call 34; with_reducible refine (covers_any _ _ _ _ _ _ [tP 5, tQ] [tP 3] _ (HO2.out.sl.ext (by (repeat (first | exact Ext.refl _ | refine Ext.alloc ?_ _ | refine Ext.drewN ?_ _ | refine Ext.drew ?_ | refine Ext.trans ?_ (Hid.out (by assumption)))))) (H3.out.ext (by (repeat (first | exact Ext.refl _ | refine Ext.alloc ?_ _ | refine Ext.drewN ?_ _ | refine Ext.drew ?_ | refine Ext.trans ?_ (Hid.out (by assumption))))))).mono ?_; rintro e wq ⟨he, hb⟩; rw [CB.out] at he; subst he; have hy := hid hb; clear hb) | (go_at_call 57; refine (int_any _ _).mono ?_; rintro e wq ⟨rfl, hb⟩; have hy := hid hb; clear hb) | (go_at_call 36; refine (any_any none 0 0 [] none 0 0 [] _ ⟨Sl.nil _ FV.wid, fun x hx => by cases hx⟩ (Sl.nil _ AT.wid)).mono ?_; rintro e wq ⟨he, hb⟩; simp only [List.any_nil] at he; subst he; have hy := hid hb; clear hb) | (go_at_call 36; refine (any_any _ _ _ ys _ _ _ [aQ] _ (HL.out.ext ?hxx) (sl_ofBlock (t := 73) (fr := (0, 0)) _ AT.wid rfl (by decide) ?hyy rfl)).mono ?_; (case hxx => (repeat (first | exact Ext.refl _ | refine Ext.alloc ?_ _ | refine Ext.drewN ?_ _ | refine Ext.drew ?_ | refine Ext.trans ?_ (Hid.out (by assumption))))); (case hyy => (repeat (first | (refine heap_new ?_; (simp; done)) | refine heap_old (by first | (simp; done) | (simp; omega)) ?_))); rintro e wq ⟨he, hb⟩; rw [any_map HM.out] at he; simp only [List.any_cons, match_q, Bool.true_or] at he; subst he; have hy := hid hb; clear hb))
  all_goals
    go_wp2
    go_ret
    refine ⟨rfl, ?_⟩
    (repeat (first | exact Ext.refl _ | refine Ext.alloc ?_ _ | refine Ext.drewN ?_ _ | refine Ext.drew ?_ | refine Ext.trans ?_ (Hid.out (by assumption))))
end Go.Proofs.Ytclmbonippjhoaa
