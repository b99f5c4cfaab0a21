/- What is cut for some clients leaves each of them its batch: the statement's walk. -/
import Derived.Test.YtiifflojpoobpaaAwake15
import Derived.Test.YtiifflojpoobpaaEve15
import Derived.Test.YtiifflojpoobpaaNot11
import Derived.Test.YtiifflojpoobpaaHeld
set_option linter.unusedVariables false
set_option linter.unusedSimpArgs false
namespace Go.Proofs.Ytiifflojpoobpaa
open Go.RowKit

theorem infoI : (Try.prog.info? 3).map (fun i => (i.zero, i.size, i.bytes)) = some (some (.int .i64 0), 1, 8) := by kernel_rfl
theorem iC.one (i : Int) : ∀ u ∈ iC i, u.oneCell' = true := by intro u hu; simp only [iC, List.mem_singleton] at hu; subst hu; rfl
theorem cut_small {l : List SD} {cl : List Int} {d : ED} (h : Small d) : Small (cutD l cl d) := by
  refine ⟨by rw [cut_ts]; exact h.ts, Nat.le_trans (cut_less _ _ _) h.es, fun e he => h.ats e ?_⟩
  unfold cutD at he
  split at he
  · exact (List.mem_filter.1 he).1
  · exact he
theorem ev_len' {w : World} {x : EV} {d : ED} (h : EntryIs w x d) : x.e.n = d.es.length := by
  obtain ⟨evs, hes, hev⟩ := h.e
  rw [hev.sl.neq, ← hes, List.length_map]
set_option maxRecDepth 100000 in
set_option maxHeartbeats 8000000 in
theorem cuts15_any (a : Option Addr) (n cap : Nat) (ps : List EP) (ia : Option Addr) (im ic : Nat) (cl1 : List Int) (ja : Option Addr) (jm jc : Nat) (cl2 : List Int) (c : Int) (x : EV) (d : ED) (w : World) (hE : Ents w a n cap ps) (hC1 : Sl w 1 iC ia im ic cl1) (hC2 : Sl w 1 iC ja jm jc cl2) (hI : EntryIs w x d) :
    Calls Try.prog 3 #[.slice a n cap, .slice ia im ic, .slice ja jm jc, .int .i64 c, .agg #[.int .i64 x.k, .int .i64 x.id.b, .int .u64 x.id.l, .int .u64 x.id.s, .int .i64 x.c, .int .u64 x.u, .slice x.f.a x.f.n x.f.c, .slice x.e.a x.e.n x.e.c]] w fun e w' => e = .returned (.bool true) ∧ Ext w w' := by
  obtain ⟨i0, hi, hz0, hz1, hz2⟩ := info_parts infoI
  have I1 := hid hi
  have I2 := hid hz0
  have I3 := hid hz1
  have I4 := hid hz2
  have hm := hC1.max
  have hl := hC1.len
  have hm2 := hC2.max
  have hl2 := hC2.len
  unfold maxLen at hm hm2
  have HE := hid hE
  have HI := hid hI
  have HC1 := hid hC1
  have HC2 := hid hC2
  clear hE hI hC1 hC2 hi hz0 hz1 hz2
  by_cases hc1 : im ≤ 20
  case neg =>
    have hc1' : 20 < im := by omega
    go_enter Try.func3, Try.ntmps3
    go_wp2_with fail
    refine (awake15_any _).mono ?_
    rintro e w1 ⟨rfl, hb⟩
    have hx1 := hid (show Ext w w1 from Ext.trans ((Ext.refl _).alloc _) hb)
    clear hb
    (go_wp2; go_ret; refine ⟨rfl, ?_⟩; (repeat (first | exact Ext.refl _ | refine Ext.alloc ?_ _ | refine Ext.drewN ?_ _ | refine Ext.drew ?_ | refine Ext.trans ?_ (Hid.out (by assumption)))))
  case pos =>
  by_cases hc2 : jm ≤ 20
  case neg =>
    have hc2' : 20 < jm := by omega
    go_enter Try.func3, Try.ntmps3
    go_wp2_with fail
    refine (awake15_any _).mono ?_
    rintro e w1 ⟨rfl, hb⟩
    have hx1 := hid (show Ext w w1 from Ext.trans ((Ext.refl _).alloc _) hb)
    clear hb
    (go_wp2; go_ret; refine ⟨rfl, ?_⟩; (repeat (first | exact Ext.refl _ | refine Ext.alloc ?_ _ | refine Ext.drewN ?_ _ | refine Ext.drew ?_ | refine Ext.trans ?_ (Hid.out (by assumption)))))
  case pos =>
  go_enter Try.func3, Try.ntmps3
  go_wp2_with fail
  refine (awake15_any _).mono ?_
  rintro e w1 ⟨rfl, hb⟩
  have HB1 := hid ((Box.new (w := w) (x := x) (t := 31)).ext hb)
  have hx1 := hid (show Ext w w1 from Ext.trans ((Ext.refl _).alloc _) hb)
  clear hb
  obtain ⟨c0, c1, c2, c3, c4, c5, c6, c7⟩ := HB1.out.cells
  go_wp2_with fail
  refine (few11_any x d _ (HI.out.ext (by (repeat (first | exact Ext.refl _ | refine Ext.alloc ?_ _ | refine Ext.drewN ?_ _ | refine Ext.drew ?_ | refine Ext.trans ?_ (Hid.out (by assumption))))))).mono ?_
  rintro e w2 ⟨f, rfl, hf, hb⟩
  have HFW := hid hf
  have HB2 := hid (HB1.out.ext hb)
  have hx2 := hid (hx1.out.trans hb)
  clear hb hf HB1 hx1
  clear c0 c1 c2 c3 c4 c5 c6 c7
  cases f with
  | false => (go_wp2; go_ret; refine ⟨rfl, ?_⟩; (repeat (first | exact Ext.refl _ | refine Ext.alloc ?_ _ | refine Ext.drewN ?_ _ | refine Ext.drew ?_ | refine Ext.trans ?_ (Hid.out (by assumption)))))
  | true =>
    have HSM := hid (HFW.out rfl)
    clear HFW
    obtain ⟨c0, c1, c2, c3, c4, c5, c6, c7⟩ := HB2.out.cells
    go_wp2_with fail
    refine (chkN_any x d _ (HI.out.ext (by (repeat (first | exact Ext.refl _ | refine Ext.alloc ?_ _ | refine Ext.drewN ?_ _ | refine Ext.drew ?_ | refine Ext.trans ?_ (Hid.out (by assumption))))))).mono ?_
    rintro e w3 ⟨zz, rfl, hz, hz2, hb⟩
    have HZZ := hid hz
    have HB3 := hid (HB2.out.ext hb)
    have hx3 := hid (hx2.out.trans hb)
    clear hb hz HB2 hx2
    clear c0 c1 c2 c3 c4 c5 c6 c7
    rcases hz2 with rfl | rfl
    case inr => (go_wp2; go_ret; refine ⟨rfl, ?_⟩; (repeat (first | exact Ext.refl _ | refine Ext.alloc ?_ _ | refine Ext.drewN ?_ _ | refine Ext.drew ?_ | refine Ext.trans ?_ (Hid.out (by assumption)))))
    case inl =>
    have HOK := hid (HZZ.out rfl)
    clear HZZ
    go_wp2_with fail
    refine (grown_any _ _ _ ps _ (HE.out.ext (by (repeat (first | exact Ext.refl _ | refine Ext.alloc ?_ _ | refine Ext.drewN ?_ _ | refine Ext.drew ?_ | refine Ext.trans ?_ (Hid.out (by assumption))))))).mono ?_
    rintro e w4 ⟨a3, n3, cp3, xs, rfl, hS, hG, hb⟩
    have HB4 := hid (HB3.out.ext hb)
    have hx4 := hid (hx3.out.trans hb)
    obtain rfl := hS.sl.neq
    have hlen : xs.length ≤ 30 := by have := hG.len; rwa [List.length_map] at this
    have HL := hid (show ∀ s, s ∈ xs → s.ts.length ≤ 1000 from fun s hs => Nat.le_trans (hG.few s.d (List.mem_map_of_mem hs)) (by decide))
    have HS := hid hS
    have CA := hid (cut_again (some := cl1) (more := cl2) hG.ok HOK.out.2)
    have CB := hid (batch_cut (cl := cl1 ++ [c]) (c := c) hG.ok HOK.out.2 (List.mem_append_right _ List.mem_cons_self))
    have CL := hid (cut_len (c1 := cl1) (c2 := cl1 ++ cl2) hG.ok HOK.out.2 (fun _ h => List.mem_append_left _ h))
    clear hb hS hG HB3 hx3
    go_wp2_with (first | (at_builtin; refine wpList_plain rfl fun KK hKK => ?_; refine wpOn (c := iC) (ys0 := []) (ys := cl1) (.tmp 43) (.tmp 44) 23 3 rfl i0 _ 8 Try.underlying23 I1.out I2.out I3.out I4.out rfl (by decide) rfl w4 (by (repeat (first | exact Ext.refl _ | refine Ext.alloc ?_ _ | refine Ext.drewN ?_ _ | refine Ext.drew ?_ | refine Ext.trans ?_ (Hid.out (by assumption))))) (Own.empty (by (repeat (first | (refine heap_new ?_; (simp; done)) | refine heap_old (by first | (simp; done) | (simp; omega)) ?_))) (by simp) (fun _ => rfl)) rfl (HC1.out.ext (by (repeat (first | exact Ext.refl _ | refine Ext.alloc ?_ _ | refine Ext.drewN ?_ _ | refine Ext.drew ?_ | refine Ext.trans ?_ (Hid.out (by assumption)))))) iC.one (by omega) (by decide) ?_; intro b5 n5 cap5 w5 hn5 hown5 hy5 hg5; refine hKK _ _ ?_; have HN5 := hid hn5; have HO5 := hid hown5; have HY5 := hid hy5; have HD5 := hid (HB4.out.ext (Hid.out HY5)); obtain ⟨c0, c1, c2, c3, c4, c5, c6, c7⟩ := HD5.out.cells; clear hn5 hown5 hy5 hg5) | (at_builtin; refine wpList_plain rfl fun KK hKK => ?_; refine wpOn (c := iC) (ys0 := [] ++ cl1) (ys := cl2) (.tmp 45) (.tmp 46) 23 3 rfl i0 _ 8 Try.underlying23 I1.out I2.out I3.out I4.out rfl (by decide) rfl w4 (by (repeat (first | exact Ext.refl _ | refine Ext.alloc ?_ _ | refine Ext.drewN ?_ _ | refine Ext.drew ?_ | refine Ext.trans ?_ (Hid.out (by assumption))))) HO5.out rfl (HC2.out.ext (by (repeat (first | exact Ext.refl _ | refine Ext.alloc ?_ _ | refine Ext.drewN ?_ _ | refine Ext.drew ?_ | refine Ext.trans ?_ (Hid.out (by assumption)))))) iC.one (by ((have := HN5.out); omega)) (by decide) ?_; intro b6 n6 cap6 w6 hn6 hown6 hy6 hg6; refine hKK _ _ ?_; have HN6 := hid hn6; have HO6 := hid hown6; have HY6 := hid hy6; have HD6 := hid (HB4.out.ext (Hid.out HY6)); obtain ⟨c0, c1, c2, c3, c4, c5, c6, c7⟩ := HD6.out.cells; clear hn6 hown6 hy6 hg6))
    have HS6 := hid (HS.out.ext HY6.out)
    have hx6 := hid (hx4.out.trans HY6.out)
    refine (cut_any _ _ _ xs _ _ _ (cl1 ++ cl2) x d _ HS6.out HO6.out.sl (HI.out.ext (by (repeat (first | exact Ext.refl _ | refine Ext.alloc ?_ _ | refine Ext.drewN ?_ _ | refine Ext.drew ?_ | refine Ext.trans ?_ (Hid.out (by assumption)))))) HL.out (by omega) (Nat.le_trans HSM.out.ts (by decide)) (Nat.le_trans HSM.out.es (by decide)) (fun e he => Nat.le_trans (HSM.out.ats e he) (by decide))).mono ?_
    rintro e w7 ⟨y, rfl, hiy, hb⟩
    have HYL := hid (ev_len' hiy)
    have hb7 := hb.alloc (Obj.cells #[.int .i64 y.k, .int .i64 y.id.b, .int .u64 y.id.l, .int .u64 y.id.s, .int .i64 y.c, .int .u64 y.u, .slice y.f.a y.f.n y.f.c, .slice y.e.a y.e.n y.e.c] 31)
    have HB7 := hid (HD6.out.ext hb7)
    have HIY := hid (hiy.ext ((Ext.refl w7).alloc (Obj.cells #[.int .i64 y.k, .int .i64 y.id.b, .int .u64 y.id.l, .int .u64 y.id.s, .int .i64 y.c, .int .u64 y.u, .slice y.f.a y.f.n y.f.c, .slice y.e.a y.e.n y.e.c] 31)))
    have HS7 := hid (HS6.out.ext hb7)
    have hx7 := hid (hx6.out.trans hb)
    have HBY := hid (Box.new (w := w7) (x := y) (t := 31))
    clear c0 c1 c2 c3 c4 c5 c6 c7
    clear hb hb7 hiy HD5 HD6 HB4 HS HS6 hx4 hx6 HO5 HO6 HY5 HY6 HN5 HN6
    obtain ⟨c0, c1, c2, c3, c4, c5, c6, c7⟩ := HB7.out.cells
    go_wp2_with fail
    refine (cut_any _ _ _ xs _ _ _ cl1 x d _ HS7.out (HC1.out.ext (by (repeat (first | exact Ext.refl _ | refine Ext.alloc ?_ _ | refine Ext.drewN ?_ _ | refine Ext.drew ?_ | refine Ext.trans ?_ (Hid.out (by assumption)))))) (HI.out.ext (by (repeat (first | exact Ext.refl _ | refine Ext.alloc ?_ _ | refine Ext.drewN ?_ _ | refine Ext.drew ?_ | refine Ext.trans ?_ (Hid.out (by assumption)))))) HL.out (by omega) (Nat.le_trans HSM.out.ts (by decide)) (Nat.le_trans HSM.out.es (by decide)) (fun e he => Nat.le_trans (HSM.out.ats e he) (by decide))).mono ?_
    rintro e w8 ⟨z, rfl, hiz, hb⟩
    have HZL := hid (ev_len' hiz)
    have hzid := hiz.id
    rw [cut_id] at hzid
    have hb8 := hb.alloc (Obj.cells #[.int .i64 z.k, .int .i64 z.id.b, .int .u64 z.id.l, .int .u64 z.id.s, .int .i64 z.c, .int .u64 z.u, .slice z.f.a z.f.n z.f.c, .slice z.e.a z.e.n z.e.c] 31)
    have HB8 := hid (HB7.out.ext hb8)
    have HBY8 := hid (HBY.out.ext hb8)
    have HIY8 := hid (HIY.out.ext hb8)
    have HIZ := hid (hiz.ext ((Ext.refl w8).alloc (Obj.cells #[.int .i64 z.k, .int .i64 z.id.b, .int .u64 z.id.l, .int .u64 z.id.s, .int .i64 z.c, .int .u64 z.u, .slice z.f.a z.f.n z.f.c, .slice z.e.a z.e.n z.e.c] 31)))
    have HS8 := hid (HS7.out.ext hb8)
    have hx8 := hid ((hx7.out.alloc _).trans hb)
    have HBZ := hid (Box.new (w := w8) (x := z) (t := 31))
    have HZID := hid hzid
    clear c0 c1 c2 c3 c4 c5 c6 c7
    clear hb hb8 hiz hzid HB7 HBY HIY HS7 hx7
    have HS := HS8
    have HIY := HIY8
    clear HS8 HIY8
    obtain ⟨d0, d1, d2, d3, d4, d5, d6, d7⟩ := HBZ.out.cells
    obtain ⟨e0, e1, e2, e3, e4, e5, e6, e7⟩ := HBY8.out.cells
    go_wp2_with fail
    go_region_held3 (fun w' => w'.cell? ⟨w7.heap.size, 0, none⟩ = some (.int .i64 y.k) ∧ w'.cell? ⟨w7.heap.size, 1, none⟩ = some (.int .i64 y.id.b) ∧ w'.cell? ⟨w7.heap.size, 2, none⟩ = some (.int .u64 y.id.l) ∧ w'.cell? ⟨w7.heap.size, 3, none⟩ = some (.int .u64 y.id.s) ∧ w'.cell? ⟨w7.heap.size, 4, none⟩ = some (.int .i64 y.c) ∧ w'.cell? ⟨w7.heap.size, 5, none⟩ = some (.int .u64 y.u) ∧ w'.cell? ⟨w7.heap.size, 6, none⟩ = some (.slice y.f.a y.f.n y.f.c) ∧ w'.cell? ⟨w7.heap.size, 7, none⟩ = some (.slice y.e.a y.e.n y.e.c) ∧ w'.cell? ⟨w8.heap.size, 0, none⟩ = some (.int .i64 z.k) ∧ w'.cell? ⟨w8.heap.size, 1, none⟩ = some (.int .i64 z.id.b) ∧ w'.cell? ⟨w8.heap.size, 2, none⟩ = some (.int .u64 z.id.l) ∧ w'.cell? ⟨w8.heap.size, 3, none⟩ = some (.int .u64 z.id.s) ∧ w'.cell? ⟨w8.heap.size, 4, none⟩ = some (.int .i64 z.c) ∧ w'.cell? ⟨w8.heap.size, 5, none⟩ = some (.int .u64 z.u) ∧ w'.cell? ⟨w8.heap.size, 6, none⟩ = some (.slice z.f.a z.f.n z.f.c) ∧ w'.cell? ⟨w8.heap.size, 7, none⟩ = some (.slice z.e.a z.e.n z.e.c)) (first | (go_split_ands; refine ⟨?_, ?_, ?_, ?_, ?_, ?_, ?_, ?_, ?_, ?_, ?_, ?_, ?_, ?_, ?_, ?_⟩ <;> exact (Hid.out hy).keep (by assumption)) | go_keep) (first | (go_at_call 11; refine (cut_any _ _ _ xs _ _ _ cl1 y (cutD (xs.map SB.d) (cl1 ++ cl2) d) _ ⟨HS.out.sl.ext (by (repeat (first | exact Ext.refl _ | refine Ext.alloc ?_ _ | refine Ext.drewN ?_ _ | refine Ext.drew ?_ | refine Ext.trans ?_ (Hid.out (by assumption))))), fun s hs => (HS.out.ts s hs).ext (by (repeat (first | exact Ext.refl _ | refine Ext.alloc ?_ _ | refine Ext.drewN ?_ _ | refine Ext.drew ?_ | refine Ext.trans ?_ (Hid.out (by assumption)))))⟩ (HC1.out.ext (by (repeat (first | exact Ext.refl _ | refine Ext.alloc ?_ _ | refine Ext.drewN ?_ _ | refine Ext.drew ?_ | refine Ext.trans ?_ (Hid.out (by assumption)))))) (HIY.out.ext (by (repeat (first | exact Ext.refl _ | refine Ext.alloc ?_ _ | refine Ext.drewN ?_ _ | refine Ext.drew ?_ | refine Ext.trans ?_ (Hid.out (by assumption)))))) HL.out (by omega) (Nat.le_trans (cut_small HSM.out).ts (by decide)) (Nat.le_trans (cut_small HSM.out).es (by decide)) (fun e he => Nat.le_trans ((cut_small HSM.out).ats e he) (by decide))).mono ?_; rintro e wq ⟨v, rfl, hiv, hb⟩; have HIV := hid hiv; have hy := hid hb; clear hb hiv) | (go_at_call 12; refine (sameE11_any v z (cutD (xs.map SB.d) cl1 d) _ (by have h := HIV.out; rw [CA.out] at h; exact h.ext (by (repeat (first | exact Ext.refl _ | refine Ext.alloc ?_ _ | refine Ext.drewN ?_ _ | refine Ext.drew ?_ | refine Ext.trans ?_ (Hid.out (by assumption)))))) (HIZ.out.ext (by (repeat (first | exact Ext.refl _ | refine Ext.alloc ?_ _ | refine Ext.drewN ?_ _ | refine Ext.drew ?_ | refine Ext.trans ?_ (Hid.out (by assumption))))))).mono ?_; rintro e wq' ⟨rfl, hb⟩; have hy := hid hb; clear hb))
    have hq := hid (show Ext (w8.alloc (Obj.cells #[.int .i64 z.k, .int .i64 z.id.b, .int .u64 z.id.l, .int .u64 z.id.s, .int .i64 z.c, .int .u64 z.u, .slice z.f.a z.f.n z.f.c, .slice z.e.a z.e.n z.e.c] 31)) wq' from (by (repeat (first | exact Ext.refl _ | refine Ext.alloc ?_ _ | refine Ext.drewN ?_ _ | refine Ext.drew ?_ | refine Ext.trans ?_ (Hid.out (by assumption))))))
    have hx9 := hid (show Ext w wq' from Ext.trans (hx8.out.alloc _) hq.out)
    have HB9 := hid (HB8.out.ext hq.out)
    have HBY9 := hid (HBY8.out.ext hq.out)
    have HBZ9 := hid (HBZ.out.ext hq.out)
    have HS9 := hid (HS.out.ext hq.out)
    clear c0 c1 c2 c3 c4 c5 c6 c7
    clear d0 d1 d2 d3 d4 d5 d6 d7
    clear e0 e1 e2 e3 e4 e5 e6 e7
    clear HB8 HBY8 HBZ HS hx8 hq HIV HIY HIZ
    go_wp2_with (first | (at_builtin; refine wpList_plain rfl fun KK hKK => ?_; refine wpOn (c := iC) (ys0 := []) (ys := cl1) (.tmp 62) (.tmp 63) 23 3 rfl i0 _ 8 Try.underlying23 I1.out I2.out I3.out I4.out rfl (by decide) rfl wq' (by (repeat (first | exact Ext.refl _ | refine Ext.alloc ?_ _ | refine Ext.drewN ?_ _ | refine Ext.drew ?_ | refine Ext.trans ?_ (Hid.out (by assumption))))) (Own.empty (by (repeat (first | (refine heap_new ?_; (simp; done)) | refine heap_old (by first | (simp; done) | (simp; omega)) ?_))) (by simp) (fun _ => rfl)) rfl (HC1.out.ext (by (repeat (first | exact Ext.refl _ | refine Ext.alloc ?_ _ | refine Ext.drewN ?_ _ | refine Ext.drew ?_ | refine Ext.trans ?_ (Hid.out (by assumption)))))) iC.one (by omega) (by decide) ?_; intro b9 n9 cap9 w9 hn9 hown9 hy9 hg9; refine hKK _ _ ?_; have HN9 := hid hn9; have HO9 := hid hown9; have HY9 := hid hy9; have HD9 := hid (HB9.out.ext (Hid.out HY9)); obtain ⟨c0, c1, c2, c3, c4, c5, c6, c7⟩ := HD9.out.cells; clear hn9 hown9 hy9 hg9) | (at_builtin; refine app1 (ys := [] ++ cl1) rfl (.tmp 64) (.tmp 66) 23 rfl i0 _ 8 Try.underlying23 I1.out I2.out I3.out I4.out rfl (by decide) rfl (HO9.out.ext (by (repeat (first | exact Ext.refl _ | refine Ext.alloc ?_ _ | refine Ext.drewN ?_ _ | refine Ext.drew ?_ | refine Ext.trans ?_ (Hid.out (by assumption)))))) c _ rfl (news_alloc (cs := iC c) rfl) (iC.one _) (by (have := HN9.out); omega) (by decide) (Ext.size (by (repeat (first | exact Ext.refl _ | refine Ext.alloc ?_ _ | refine Ext.drewN ?_ _ | refine Ext.drew ?_ | refine Ext.trans ?_ (Hid.out (by assumption)))))) ?_; intro gx capx wx hownx hgrowx; have HOX := hid hownx; have HX := hid (hgrowx.ext (HO9.out.ext (by (repeat (first | exact Ext.refl _ | refine Ext.alloc ?_ _ | refine Ext.drewN ?_ _ | refine Ext.drew ?_ | refine Ext.trans ?_ (Hid.out (by assumption)))))) (Nat.le_refl _) (by (repeat (first | exact Ext.refl _ | refine Ext.alloc ?_ _ | refine Ext.drewN ?_ _ | refine Ext.drew ?_ | refine Ext.trans ?_ (Hid.out (by assumption)))))); have HBX := hid (HB9.out.ext HX.out); obtain ⟨c0, c1, c2, c3, c4, c5, c6, c7⟩ := HBX.out.cells; clear hownx hgrowx))
    have HSx := hid (HS9.out.ext HX.out)
    have hxx := hid (hx9.out.trans HX.out)
    refine (cut_any _ _ _ xs _ _ _ (cl1 ++ [c]) x d _ HSx.out HOX.out.sl (HI.out.ext (by (repeat (first | exact Ext.refl _ | refine Ext.alloc ?_ _ | refine Ext.drewN ?_ _ | refine Ext.drew ?_ | refine Ext.trans ?_ (Hid.out (by assumption)))))) HL.out (by omega) (Nat.le_trans HSM.out.ts (by decide)) (Nat.le_trans HSM.out.es (by decide)) (fun e he => Nat.le_trans (HSM.out.ats e he) (by decide))).mono ?_
    rintro e wz ⟨u, rfl, hiu, hb⟩
    have hbu := hb.alloc (Obj.cells #[.int .i64 u.k, .int .i64 u.id.b, .int .u64 u.id.l, .int .u64 u.id.s, .int .i64 u.c, .int .u64 u.u, .slice u.f.a u.f.n u.f.c, .slice u.e.a u.e.n u.e.c] 31)
    have HBF := hid (HBX.out.ext hbu)
    have HBYF := hid (HBY9.out.ext (HX.out.trans hbu))
    have HBZF := hid (HBZ9.out.ext (HX.out.trans hbu))
    have HIU := hid (hiu.ext ((Ext.refl wz).alloc (Obj.cells #[.int .i64 u.k, .int .i64 u.id.b, .int .u64 u.id.l, .int .u64 u.id.s, .int .i64 u.c, .int .u64 u.u, .slice u.f.a u.f.n u.f.c, .slice u.e.a u.e.n u.e.c] 31)))
    have HS := hid (HSx.out.ext hbu)
    have hxz := hid (hxx.out.trans hb)
    have HBU := hid (Box.new (w := wz) (x := u) (t := 31))
    clear c0 c1 c2 c3 c4 c5 c6 c7
    clear hb hbu hiu HBX HBY9 HBZ9 HSx HS9 hxx hx9 HOX HO9 HX HY9 HN9 HB9 HD9
    obtain ⟨c0, c1, c2, c3, c4, c5, c6, c7⟩ := HBF.out.cells
    obtain ⟨d0, d1, d2, d3, d4, d5, d6, d7⟩ := HBU.out.cells
    go_wp2_with fail
    go_region_held3 (fun w' => w'.cell? ⟨w.heap.size, 0, none⟩ = some (.int .i64 x.k) ∧ w'.cell? ⟨w.heap.size, 1, none⟩ = some (.int .i64 x.id.b) ∧ w'.cell? ⟨w.heap.size, 2, none⟩ = some (.int .u64 x.id.l) ∧ w'.cell? ⟨w.heap.size, 3, none⟩ = some (.int .u64 x.id.s) ∧ w'.cell? ⟨w.heap.size, 4, none⟩ = some (.int .i64 x.c) ∧ w'.cell? ⟨w.heap.size, 5, none⟩ = some (.int .u64 x.u) ∧ w'.cell? ⟨w.heap.size, 6, none⟩ = some (.slice x.f.a x.f.n x.f.c) ∧ w'.cell? ⟨w.heap.size, 7, none⟩ = some (.slice x.e.a x.e.n x.e.c) ∧ w'.cell? ⟨wz.heap.size, 0, none⟩ = some (.int .i64 u.k) ∧ w'.cell? ⟨wz.heap.size, 1, none⟩ = some (.int .i64 u.id.b) ∧ w'.cell? ⟨wz.heap.size, 2, none⟩ = some (.int .u64 u.id.l) ∧ w'.cell? ⟨wz.heap.size, 3, none⟩ = some (.int .u64 u.id.s) ∧ w'.cell? ⟨wz.heap.size, 4, none⟩ = some (.int .i64 u.c) ∧ w'.cell? ⟨wz.heap.size, 5, none⟩ = some (.int .u64 u.u) ∧ w'.cell? ⟨wz.heap.size, 6, none⟩ = some (.slice u.f.a u.f.n u.f.c) ∧ w'.cell? ⟨wz.heap.size, 7, none⟩ = some (.slice u.e.a u.e.n u.e.c)) (first | (go_split_ands; refine ⟨?_, ?_, ?_, ?_, ?_, ?_, ?_, ?_, ?_, ?_, ?_, ?_, ?_, ?_, ?_, ?_⟩ <;> exact (Hid.out hy).keep (by assumption)) | go_keep) (first | (go_at_call_of 14 (Value.slice u.e.a u.e.n u.e.c); refine (batch_any _ _ _ xs c u (cutD (xs.map SB.d) (cl1 ++ [c]) d) _ ⟨HS.out.sl.ext (by (repeat (first | exact Ext.refl _ | refine Ext.alloc ?_ _ | refine Ext.drewN ?_ _ | refine Ext.drew ?_ | refine Ext.trans ?_ (Hid.out (by assumption))))), fun s hs => (HS.out.ts s hs).ext (by (repeat (first | exact Ext.refl _ | refine Ext.alloc ?_ _ | refine Ext.drewN ?_ _ | refine Ext.drew ?_ | refine Ext.trans ?_ (Hid.out (by assumption)))))⟩ (HIU.out.ext (by (repeat (first | exact Ext.refl _ | refine Ext.alloc ?_ _ | refine Ext.drewN ?_ _ | refine Ext.drew ?_ | refine Ext.trans ?_ (Hid.out (by assumption)))))) (by omega) (Nat.le_trans (cut_small HSM.out).es (by decide)) (fun e he => Nat.le_trans ((cut_small HSM.out).ats e he) (by decide))).mono ?_; rintro e wq ⟨a6, n6, kp6, bs, rfl, hbs, hmb, hb⟩; have HB6 := hid hbs; have HM6 := hid hmb; have hy := hid hb; clear hbs hmb hb) | (go_at_call_of 14 (Value.slice x.e.a x.e.n x.e.c); refine (batch_any _ _ _ xs c x d _ ⟨HS.out.sl.ext (by (repeat (first | exact Ext.refl _ | refine Ext.alloc ?_ _ | refine Ext.drewN ?_ _ | refine Ext.drew ?_ | refine Ext.trans ?_ (Hid.out (by assumption))))), fun s hs => (HS.out.ts s hs).ext (by (repeat (first | exact Ext.refl _ | refine Ext.alloc ?_ _ | refine Ext.drewN ?_ _ | refine Ext.drew ?_ | refine Ext.trans ?_ (Hid.out (by assumption)))))⟩ (HI.out.ext (by (repeat (first | exact Ext.refl _ | refine Ext.alloc ?_ _ | refine Ext.drewN ?_ _ | refine Ext.drew ?_ | refine Ext.trans ?_ (Hid.out (by assumption)))))) (by omega) (Nat.le_trans HSM.out.es (by decide)) (fun e he => Nat.le_trans (HSM.out.ats e he) (by decide))).mono ?_; rintro e wr ⟨a7, n7, kp7, cs, rfl, hbs, hmb, hb⟩; have HB7 := hid hbs; have HM7 := hid hmb; have hy := hid hb; clear hbs hmb hb) | (go_at_call 13; refine (same_evs _ _ _ _ _ _ bs cs _ (by have h := HB6.out; exact ⟨h.sl.ext (by (repeat (first | exact Ext.refl _ | refine Ext.alloc ?_ _ | refine Ext.drewN ?_ _ | refine Ext.drew ?_ | refine Ext.trans ?_ (Hid.out (by assumption))))), fun x hx => (h.ats x hx).ext (by (repeat (first | exact Ext.refl _ | refine Ext.alloc ?_ _ | refine Ext.drewN ?_ _ | refine Ext.drew ?_ | refine Ext.trans ?_ (Hid.out (by assumption)))))⟩) (by have h := HB7.out; exact ⟨h.sl.ext (by (repeat (first | exact Ext.refl _ | refine Ext.alloc ?_ _ | refine Ext.drewN ?_ _ | refine Ext.drew ?_ | refine Ext.trans ?_ (Hid.out (by assumption))))), fun x hx => (h.ats x hx).ext (by (repeat (first | exact Ext.refl _ | refine Ext.alloc ?_ _ | refine Ext.drewN ?_ _ | refine Ext.drew ?_ | refine Ext.trans ?_ (Hid.out (by assumption)))))⟩) (HM6.out.trans (CB.out.trans HM7.out.symm))).mono ?_; rintro e wev ⟨rfl, hb⟩; have hy := hid hb; clear hb))
    have hq := hid (show Ext (wz.alloc (Obj.cells #[.int .i64 u.k, .int .i64 u.id.b, .int .u64 u.id.l, .int .u64 u.id.s, .int .i64 u.c, .int .u64 u.u, .slice u.f.a u.f.n u.f.c, .slice u.e.a u.e.n u.e.c] 31)) wev from (by (repeat (first | exact Ext.refl _ | refine Ext.alloc ?_ _ | refine Ext.drewN ?_ _ | refine Ext.drew ?_ | refine Ext.trans ?_ (Hid.out (by assumption))))))
    have hx9 := hid (show Ext w wev from Ext.trans (hxz.out.alloc _) hq.out)
    have HB9 := hid (HBF.out.ext hq.out)
    have HBY9 := hid (HBYF.out.ext hq.out)
    have HBZ9 := hid (HBZF.out.ext hq.out)
    clear c0 c1 c2 c3 c4 c5 c6 c7
    clear d0 d1 d2 d3 d4 d5 d6 d7
    obtain ⟨c0, c1, c2, c3, c4, c5, c6, c7⟩ := HB9.out.cells
    obtain ⟨d0, d1, d2, d3, d4, d5, d6, d7⟩ := HBZ9.out.cells
    have y7 := HBY9.out.cells.2.2.2.2.2.2.2
    have hle : z.e.n ≤ y.e.n := by rw [HZL.out, HYL.out]; exact CL.out
    have heq := run_eqId z.id.b z.id.l z.id.s x.id.b x.id.l x.id.s
    have he' : idEq ⟨z.id.b, z.id.l, z.id.s⟩ ⟨x.id.b, x.id.l, x.id.s⟩ = true := by
      show idEq z.id x.id = true
      rw [HZID.out, HI.out.id]; exact idEq_true.2 rfl
    clear hxz hq HBF HBYF HBZF HBU HS HIU
    go_wp2
    go_ret
    refine ⟨rfl, ?_⟩
    (repeat (first | exact Ext.refl _ | refine Ext.alloc ?_ _ | refine Ext.drewN ?_ _ | refine Ext.drew ?_ | refine Ext.trans ?_ (Hid.out (by assumption))))
end Go.Proofs.Ytiifflojpoobpaa
