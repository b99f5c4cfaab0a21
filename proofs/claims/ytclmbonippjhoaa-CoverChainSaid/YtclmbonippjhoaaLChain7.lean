/- Covering goes on from filter to filter: the statement's walk. -/
import Derived.Test.YtclmbonippjhoaaLSound
import Derived.Deep.RegionHeld3
import Derived.Deep.DeepCutAuto
set_option linter.unusedVariables false
set_option linter.unusedSimpArgs false
namespace Go.Proofs.Ytclmbonippjhoaa
open Go.RowKit

theorem flts_of {w : World} {B : Nat} {t : TypeId} {fr : Nat × Nat} {cs : Array Value} {n : Nat} {xs : List FV} (h : w.heap[B]? = some (.cells cs t fr)) (hcs : cs.toList = xs.flatMap FV.cs) (hn : n = xs.length) (hl : xs.length ≤ 1000) (hx : ∀ x, x ∈ xs → Sl w 5 T.cs x.v.a x.v.n x.v.c x.ts) :
    Flts w (some ⟨B, 0, none⟩) n n xs := ⟨sl_ofBlock _ FV.wid hn hl h hcs, hx⟩
set_option maxRecDepth 100000 in
set_option maxHeartbeats 4000000 in
theorem chain07_any (fa : Option Addr) (fn fc : Nat) (fs : List T) (ga : Option Addr) (gn gc : Nat) (gs : List T) (ha : Option Addr) (hn hc : Nat) (hs : List T) (t : T) (w : World) (hF : Sl w 5 T.cs fa fn fc fs) (hG : Sl w 5 T.cs ga gn gc gs) (hH : Sl w 5 T.cs ha hn hc hs) :
    Calls Try.prog 10 #[.slice fa fn fc, .slice ga gn gc, .slice ha hn hc, .agg #[.string t.nm, .int .i64 t.op, .int .i64 t.k, .int .i64 t.n, .string t.s]] w fun e w' => e = .returned (.bool true) ∧ Ext w w' := by
  obtain ⟨i0, hi, hz0, hz1, hz2⟩ := info_parts infoT
  have I1 := hid hi
  have I2 := hid hz0
  have I3 := hid hz1
  have I4 := hid hz2
  clear hi hz0 hz1 hz2
  have HF := hid hF
  have HG := hid hG
  have HH := hid hH
  clear hF hG hH
  go_enter Try.func10, Try.ntmps10
  go_wp2_with fail
  refine (awake07_any _).mono ?_
  rintro e w1 ⟨rfl, hb⟩
  have t0 : w1.cell? ⟨w.heap.size, 0, none⟩ = some (.string t.nm) := hb.keep (by simp)
  have t1 : w1.cell? ⟨w.heap.size, 1, none⟩ = some (.int .i64 t.op) := hb.keep (by simp)
  have t2 : w1.cell? ⟨w.heap.size, 2, none⟩ = some (.int .i64 t.k) := hb.keep (by simp)
  have t3 : w1.cell? ⟨w.heap.size, 3, none⟩ = some (.int .i64 t.n) := hb.keep (by simp)
  have t4 : w1.cell? ⟨w.heap.size, 4, none⟩ = some (.string t.s) := hb.keep (by simp)
  have zt : w.heap.size < w1.heap.size := lt_of_cell t0
  have hx1 := hid (Ext.trans ((Ext.refl w).alloc _) hb)
  clear hb
  go_wp2_with fail
  refine (few07_any _ _ _ [(⟨⟨fa, fn, fc⟩, fs⟩ : FV), (⟨⟨ga, gn, gc⟩, gs⟩ : FV), (⟨⟨ha, hn, hc⟩, hs⟩ : FV), ⟨⟨some ⟨w1.heap.size, 0, none⟩, 1, 1⟩, [t]⟩] _ (flts_of (t := 29) (fr := (0, 0)) (by (repeat (first | (refine heap_new ?_; (simp; done)) | refine heap_old (by first | (simp; done) | (simp; omega)) ?_))) rfl rfl (by simp) (fun x hx => ?_))).mono ?_
  · simp only [List.mem_cons, List.not_mem_nil, or_false] at hx
    rcases hx with rfl | rfl | rfl | rfl
    · exact HF.out.ext (by (repeat (first | exact Ext.refl _ | refine Ext.alloc ?_ _ | refine Ext.drewN ?_ _ | refine Ext.drew ?_ | refine Ext.trans ?_ (Hid.out (by assumption)))))
    · exact HG.out.ext (by (repeat (first | exact Ext.refl _ | refine Ext.alloc ?_ _ | refine Ext.drewN ?_ _ | refine Ext.drew ?_ | refine Ext.trans ?_ (Hid.out (by assumption)))))
    · exact HH.out.ext (by (repeat (first | exact Ext.refl _ | refine Ext.alloc ?_ _ | refine Ext.drewN ?_ _ | refine Ext.drew ?_ | refine Ext.trans ?_ (Hid.out (by assumption)))))
    · exact sl_ofBlock [t] T.wid rfl (by simp) (t := 25) (fr := (0, 0)) (by (repeat (first | (refine heap_new ?_; (simp; done)) | refine heap_old (by first | (simp; done) | (simp; omega)) ?_))) rfl
  rintro e w2 ⟨f1, rfl, hf, hb⟩
  replace hb := Ext.trans (((Ext.refl w1).alloc _).alloc _) hb
  have u0 : w2.cell? ⟨w.heap.size, 0, none⟩ = some (.string t.nm) := hb.keep t0
  have u1 : w2.cell? ⟨w.heap.size, 1, none⟩ = some (.int .i64 t.op) := hb.keep t1
  have u2 : w2.cell? ⟨w.heap.size, 2, none⟩ = some (.int .i64 t.k) := hb.keep t2
  have u3 : w2.cell? ⟨w.heap.size, 3, none⟩ = some (.int .i64 t.n) := hb.keep t3
  have u4 : w2.cell? ⟨w.heap.size, 4, none⟩ = some (.string t.s) := hb.keep t4
  have zu : w.heap.size < w2.heap.size := lt_of_cell u0
  clear t0 t1 t2 t3 t4
  have hx2 := hid hb
  have HFW := hid hf
  clear hb hf
  cases f1
  · skip
    go_wp2
    go_ret
    refine ⟨rfl, ?_⟩
    (repeat (first | exact Ext.refl _ | refine Ext.alloc ?_ _ | refine Ext.drewN ?_ _ | refine Ext.drew ?_ | refine Ext.trans ?_ (Hid.out (by assumption))))
  have hfl : fs.length ≤ 10 := (HFW.out (by first | rfl | trivial)).2 _ (List.mem_cons_self ..)
  have hfn := HF.out.neq
  have hfn10 : fn ≤ 10 := by omega
  clear hfn hfl HFW
  go_wp2_with fail
  refine (may_any _ _ _ [(⟨⟨fa, fn, fc⟩, fs⟩ : FV), (⟨⟨ga, gn, gc⟩, gs⟩ : FV), (⟨⟨ha, hn, hc⟩, hs⟩ : FV)] _ (flts_of (t := 29) (fr := (0, 0)) (by (repeat (first | (refine heap_new ?_; (simp; done)) | refine heap_old (by first | (simp; done) | (simp; omega)) ?_))) rfl rfl (by simp) (fun x hx => ?_))).mono ?_
  · simp only [List.mem_cons, List.not_mem_nil, or_false] at hx
    rcases hx with rfl | rfl | rfl
    · exact HF.out.ext (by (repeat (first | exact Ext.refl _ | refine Ext.alloc ?_ _ | refine Ext.drewN ?_ _ | refine Ext.drew ?_ | refine Ext.trans ?_ (Hid.out (by assumption)))))
    · exact HG.out.ext (by (repeat (first | exact Ext.refl _ | refine Ext.alloc ?_ _ | refine Ext.drewN ?_ _ | refine Ext.drew ?_ | refine Ext.trans ?_ (Hid.out (by assumption)))))
    · exact HH.out.ext (by (repeat (first | exact Ext.refl _ | refine Ext.alloc ?_ _ | refine Ext.drewN ?_ _ | refine Ext.drew ?_ | refine Ext.trans ?_ (Hid.out (by assumption)))))
  rintro e w3 ⟨f2, rfl, hf, hb⟩
  replace hb := Ext.trans ((Ext.refl w2).alloc _) hb
  have v0 : w3.cell? ⟨w.heap.size, 0, none⟩ = some (.string t.nm) := hb.keep u0
  have v1 : w3.cell? ⟨w.heap.size, 1, none⟩ = some (.int .i64 t.op) := hb.keep u1
  have v2 : w3.cell? ⟨w.heap.size, 2, none⟩ = some (.int .i64 t.k) := hb.keep u2
  have v3 : w3.cell? ⟨w.heap.size, 3, none⟩ = some (.int .i64 t.n) := hb.keep u3
  have v4 : w3.cell? ⟨w.heap.size, 4, none⟩ = some (.string t.s) := hb.keep u4
  have zv : w.heap.size < w3.heap.size := lt_of_cell v0
  clear u0 u1 u2 u3 u4
  have hx3 := hid hb
  have HFW := hid hf
  clear hb hf
  cases f2
  · skip
    go_wp2
    go_ret
    refine ⟨rfl, ?_⟩
    (repeat (first | exact Ext.refl _ | refine Ext.alloc ?_ _ | refine Ext.drewN ?_ _ | refine Ext.drew ?_ | refine Ext.trans ?_ (Hid.out (by assumption))))
  have kf := hid (chk_ok (HFW.out (by first | rfl | trivial) _ (List.mem_cons_self ..))).2
  have kg := hid (chk_ok (HFW.out (by first | rfl | trivial) _ (List.mem_cons_of_mem _ (List.mem_cons_self ..)))).2
  have kh := hid (chk_ok (HFW.out (by first | rfl | trivial) _ (List.mem_cons_of_mem _ (List.mem_cons_of_mem _ (List.mem_cons_self ..))))).2
  clear HFW
  go_wp2_with fail
  refine (one_any t _).mono ?_
  rintro e w4 ⟨rfl, hb⟩
  have q0 : w4.cell? ⟨w.heap.size, 0, none⟩ = some (.string t.nm) := hb.keep v0
  have q1 : w4.cell? ⟨w.heap.size, 1, none⟩ = some (.int .i64 t.op) := hb.keep v1
  have q2 : w4.cell? ⟨w.heap.size, 2, none⟩ = some (.int .i64 t.k) := hb.keep v2
  have q3 : w4.cell? ⟨w.heap.size, 3, none⟩ = some (.int .i64 t.n) := hb.keep v3
  have q4 : w4.cell? ⟨w.heap.size, 4, none⟩ = some (.string t.s) := hb.keep v4
  have zq : w.heap.size < w4.heap.size := lt_of_cell q0
  clear v0 v1 v2 v3 v4
  have hx4 := hid hb
  clear hb
  cases h1 : oneB t with
  | false =>
    have h0 : errF false = 50 := rfl
    rw [h0]
    clear h0 h1
    go_wp2
    go_ret
    refine ⟨rfl, ?_⟩
    (repeat (first | exact Ext.refl _ | refine Ext.alloc ?_ _ | refine Ext.drewN ?_ _ | refine Ext.drew ?_ | refine Ext.trans ?_ (Hid.out (by assumption))))
  | true =>
    have h0 : errF true = 0 := rfl
    rw [h0]
    have kt := hid (one_ok h1)
    clear h0 h1
    have HM := hid (cov_mono (f := fs) (g := fs ++ [t]) kf.out (fun x hx => List.mem_append_left _ hx))
    have HR := hid (cov_refl kf.out)
    have HTR := hid (cov_trans kf.out kg.out kh.out)
    go_upto_region 4 with (fail)
    go_cut [10] (fun v wx => ∃ aa n c, v = .slice aa n c ∧ Hid (Sl wx 5 T.cs aa n c (fs ++ [t])) ∧ Hid (Ext w4 wx))
    case first =>
      go_region_held3 (fun w' => w'.cell? ⟨w.heap.size, 0, none⟩ = some (.string t.nm) ∧ w'.cell? ⟨w.heap.size, 1, none⟩ = some (.int .i64 t.op) ∧ w'.cell? ⟨w.heap.size, 2, none⟩ = some (.int .i64 t.k) ∧ w'.cell? ⟨w.heap.size, 3, none⟩ = some (.int .i64 t.n) ∧ w'.cell? ⟨w.heap.size, 4, none⟩ = some (.string t.s))
        (first | (go_split_ands; refine ⟨?_, ?_, ?_, ?_, ?_⟩ <;> exact (Hid.out hy).keep (by assumption)) | go_keep)
        (first | (refine stepOn (c := T.cs) (ys0 := []) (ys := fs) rfl (.tmp 35) (.tmp 36) 29 25 rfl i0 _ 56 Try.underlying29 I1.out I2.out I3.out I4.out rfl (by decide) rfl w4 (by (repeat (first | exact Ext.refl _ | refine Ext.alloc ?_ _ | refine Ext.drewN ?_ _ | refine Ext.drew ?_ | refine Ext.trans ?_ (Hid.out (by assumption))))) (Own.empty (by (repeat (first | (refine heap_new ?_; (simp; done)) | refine heap_old (by first | (simp; done) | (simp; omega)) ?_))) (by simp) T.wid) rfl (HF.out.ext (by (repeat (first | exact Ext.refl _ | refine Ext.alloc ?_ _ | refine Ext.drewN ?_ _ | refine Ext.drew ?_ | refine Ext.trans ?_ (Hid.out (by assumption)))))) T.one (by omega) (by decide) ?_; intro bb n1 cap1 w6 hn1 hown1 hx hg1; have HO1 := hid hown1; have hy := hid hx; have HG1 := hid hg1; have Hn1 := hid hn1; clear hown1 hx hg1 hn1) | (refine stepOn (c := T.cs) (ys0 := [] ++ fs) (ys := [t]) rfl (.tmp 37) (.tmp 39) 29 25 rfl i0 _ 56 Try.underlying29 I1.out I2.out I3.out I4.out rfl (by decide) rfl w4 (by (repeat (first | exact Ext.refl _ | refine Ext.alloc ?_ _ | refine Ext.drewN ?_ _ | refine Ext.drew ?_ | refine Ext.trans ?_ (Hid.out (by assumption))))) (HO1.out.ext (by (repeat (first | exact Ext.refl _ | refine Ext.alloc ?_ _ | refine Ext.drewN ?_ _ | refine Ext.drew ?_ | refine Ext.trans ?_ (Hid.out (by assumption)))))) rfl (by first | (refine sl_ofBlock [t] T.wid rfl (by simp) (t := 25) (fr := (0, 0)) ?_ rfl; (repeat (first | (refine heap_new ?_; (simp; done)) | refine heap_old (by first | (simp; done) | (simp; omega)) ?_)); done) | (refine sl_ofBlock [t] T.wid rfl (by simp) (t := 25) (fr := (0, 0)) ?_ rfl; refine (HG1.out.block _ (by first | (simp; done) | (simp; omega)) (by first | (simp [Value.ownBlock]; done) | (simp [Value.ownBlock]; omega))).trans ?_; (repeat (first | (refine heap_new ?_; (simp; done)) | refine heap_old (by first | (simp; done) | (simp; omega)) ?_)); done)) T.one (by have := Hn1.out; omega) (by decide) ?_; intro bb2 n2 cap2 w7 hn2 hown2 hx hg2; have HO2 : Hid (Own w7 w4.heap.size 25 5 T.cs bb2 n2 cap2 (fs ++ [t])) := hid hown2; have hy := hid hx; clear hown2 hx hg2 hn2))
      all_goals
        go_wp2_with fail
        go_meet
        exact ⟨_, _, _, rfl, HO2.out.sl.ext (by (repeat (first | exact Ext.refl _ | refine Ext.alloc ?_ _ | refine Ext.drewN ?_ _ | refine Ext.drew ?_ | refine Ext.trans ?_ (Hid.out (by assumption))))), (by (repeat (first | exact Ext.refl _ | refine Ext.alloc ?_ _ | refine Ext.drewN ?_ _ | refine Ext.drew ?_ | refine Ext.trans ?_ (Hid.out (by assumption)))))⟩
    case rest =>
      obtain ⟨ma, mn, mc, rfl, hms, hxm⟩ := hcut
      clear q0 q1 q2 q3 q4
      go_wp2_with fail
      refine (covers_any _ _ _ _ _ _ fs gs _ (HF.out.ext (by (repeat (first | exact Ext.refl _ | refine Ext.alloc ?_ _ | refine Ext.drewN ?_ _ | refine Ext.drew ?_ | refine Ext.trans ?_ (Hid.out (by assumption)))))) (HG.out.ext (by (repeat (first | exact Ext.refl _ | refine Ext.alloc ?_ _ | refine Ext.drewN ?_ _ | refine Ext.drew ?_ | refine Ext.trans ?_ (Hid.out (by assumption))))))).mono ?_
      rintro e w6 ⟨rfl, hb⟩
      have hx6 := hid hb
      clear hb
      cases h1 : cov fs gs with
      | false =>
        clear h1
        go_wp2_with fail
        refine (covers_any _ _ _ _ _ _ fs fs _ (HF.out.ext (by (repeat (first | exact Ext.refl _ | refine Ext.alloc ?_ _ | refine Ext.drewN ?_ _ | refine Ext.drew ?_ | refine Ext.trans ?_ (Hid.out (by assumption)))))) (HF.out.ext (by (repeat (first | exact Ext.refl _ | refine Ext.alloc ?_ _ | refine Ext.drewN ?_ _ | refine Ext.drew ?_ | refine Ext.trans ?_ (Hid.out (by assumption))))))).mono ?_
        rintro e w11 ⟨rfl, hb⟩
        have hx11 := hid hb
        clear hb
        rw [HR.out]
        go_wp2_with fail
        refine (covers_any _ _ _ _ _ _ fs (fs ++ [t]) _ (HF.out.ext (by (repeat (first | exact Ext.refl _ | refine Ext.alloc ?_ _ | refine Ext.drewN ?_ _ | refine Ext.drew ?_ | refine Ext.trans ?_ (Hid.out (by assumption)))))) (hms.out.ext (by (repeat (first | exact Ext.refl _ | refine Ext.alloc ?_ _ | refine Ext.drewN ?_ _ | refine Ext.drew ?_ | refine Ext.trans ?_ (Hid.out (by assumption))))))).mono ?_
        rintro e w12 ⟨rfl, hb⟩
        have hx12 := hid hb
        clear hb
        rw [HM.out]
        go_wp2_with fail
        refine (covers_any _ _ _ _ _ _ [] fs _ (Sl.nil _ T.wid) (HF.out.ext (by (repeat (first | exact Ext.refl _ | refine Ext.alloc ?_ _ | refine Ext.drewN ?_ _ | refine Ext.drew ?_ | refine Ext.trans ?_ (Hid.out (by assumption))))))).mono ?_
        rintro e w13 ⟨rfl, hb⟩
        have hx13 := hid hb
        clear hb
        rw [cov_nil]
        go_wp2
        go_ret
        refine ⟨rfl, ?_⟩
        (repeat (first | exact Ext.refl _ | refine Ext.alloc ?_ _ | refine Ext.drewN ?_ _ | refine Ext.drew ?_ | refine Ext.trans ?_ (Hid.out (by assumption))))
      | true =>
        have H1 := hid h1
        clear h1
        go_wp2_with fail
        refine (covers_any _ _ _ _ _ _ gs hs _ (HG.out.ext (by (repeat (first | exact Ext.refl _ | refine Ext.alloc ?_ _ | refine Ext.drewN ?_ _ | refine Ext.drew ?_ | refine Ext.trans ?_ (Hid.out (by assumption)))))) (HH.out.ext (by (repeat (first | exact Ext.refl _ | refine Ext.alloc ?_ _ | refine Ext.drewN ?_ _ | refine Ext.drew ?_ | refine Ext.trans ?_ (Hid.out (by assumption))))))).mono ?_
        rintro e w7 ⟨rfl, hb⟩
        have hx7 := hid hb
        clear hb
        cases h2 : cov gs hs with
        | false =>
          clear h2
          go_wp2_with fail
          refine (covers_any _ _ _ _ _ _ fs fs _ (HF.out.ext (by (repeat (first | exact Ext.refl _ | refine Ext.alloc ?_ _ | refine Ext.drewN ?_ _ | refine Ext.drew ?_ | refine Ext.trans ?_ (Hid.out (by assumption)))))) (HF.out.ext (by (repeat (first | exact Ext.refl _ | refine Ext.alloc ?_ _ | refine Ext.drewN ?_ _ | refine Ext.drew ?_ | refine Ext.trans ?_ (Hid.out (by assumption))))))).mono ?_
          rintro e w11 ⟨rfl, hb⟩
          have hx11 := hid hb
          clear hb
          rw [HR.out]
          go_wp2_with fail
          refine (covers_any _ _ _ _ _ _ fs (fs ++ [t]) _ (HF.out.ext (by (repeat (first | exact Ext.refl _ | refine Ext.alloc ?_ _ | refine Ext.drewN ?_ _ | refine Ext.drew ?_ | refine Ext.trans ?_ (Hid.out (by assumption)))))) (hms.out.ext (by (repeat (first | exact Ext.refl _ | refine Ext.alloc ?_ _ | refine Ext.drewN ?_ _ | refine Ext.drew ?_ | refine Ext.trans ?_ (Hid.out (by assumption))))))).mono ?_
          rintro e w12 ⟨rfl, hb⟩
          have hx12 := hid hb
          clear hb
          rw [HM.out]
          go_wp2_with fail
          refine (covers_any _ _ _ _ _ _ [] fs _ (Sl.nil _ T.wid) (HF.out.ext (by (repeat (first | exact Ext.refl _ | refine Ext.alloc ?_ _ | refine Ext.drewN ?_ _ | refine Ext.drew ?_ | refine Ext.trans ?_ (Hid.out (by assumption))))))).mono ?_
          rintro e w13 ⟨rfl, hb⟩
          have hx13 := hid hb
          clear hb
          rw [cov_nil]
          go_wp2
          go_ret
          refine ⟨rfl, ?_⟩
          (repeat (first | exact Ext.refl _ | refine Ext.alloc ?_ _ | refine Ext.drewN ?_ _ | refine Ext.drew ?_ | refine Ext.trans ?_ (Hid.out (by assumption))))
        | true =>
          have H3 := hid (HTR.out H1.out h2)
          clear h2
          go_wp2_with fail
          refine (covers_any _ _ _ _ _ _ fs hs _ (HF.out.ext (by (repeat (first | exact Ext.refl _ | refine Ext.alloc ?_ _ | refine Ext.drewN ?_ _ | refine Ext.drew ?_ | refine Ext.trans ?_ (Hid.out (by assumption)))))) (HH.out.ext (by (repeat (first | exact Ext.refl _ | refine Ext.alloc ?_ _ | refine Ext.drewN ?_ _ | refine Ext.drew ?_ | refine Ext.trans ?_ (Hid.out (by assumption))))))).mono ?_
          rintro e w8 ⟨rfl, hb⟩
          have hx8 := hid hb
          clear hb
          rw [H3.out]
          go_wp2_with fail
          refine (covers_any _ _ _ _ _ _ fs fs _ (HF.out.ext (by (repeat (first | exact Ext.refl _ | refine Ext.alloc ?_ _ | refine Ext.drewN ?_ _ | refine Ext.drew ?_ | refine Ext.trans ?_ (Hid.out (by assumption)))))) (HF.out.ext (by (repeat (first | exact Ext.refl _ | refine Ext.alloc ?_ _ | refine Ext.drewN ?_ _ | refine Ext.drew ?_ | refine Ext.trans ?_ (Hid.out (by assumption))))))).mono ?_
          rintro e w11 ⟨rfl, hb⟩
          have hx11 := hid hb
          clear hb
          rw [HR.out]
          go_wp2_with fail
          refine (covers_any _ _ _ _ _ _ fs (fs ++ [t]) _ (HF.out.ext (by (repeat (first | exact Ext.refl _ | refine Ext.alloc ?_ _ | refine Ext.drewN ?_ _ | refine Ext.drew ?_ | refine Ext.trans ?_ (Hid.out (by assumption)))))) (hms.out.ext (by (repeat (first | exact Ext.refl _ | refine Ext.alloc ?_ _ | refine Ext.drewN ?_ _ | refine Ext.drew ?_ | refine Ext.trans ?_ (Hid.out (by assumption))))))).mono ?_
          rintro e w12 ⟨rfl, hb⟩
          have hx12 := hid hb
          clear hb
          rw [HM.out]
          go_wp2_with fail
          refine (covers_any _ _ _ _ _ _ [] fs _ (Sl.nil _ T.wid) (HF.out.ext (by (repeat (first | exact Ext.refl _ | refine Ext.alloc ?_ _ | refine Ext.drewN ?_ _ | refine Ext.drew ?_ | refine Ext.trans ?_ (Hid.out (by assumption))))))).mono ?_
          rintro e w13 ⟨rfl, hb⟩
          have hx13 := hid hb
          clear hb
          rw [cov_nil]
          go_wp2
          go_ret
          refine ⟨rfl, ?_⟩
          (repeat (first | exact Ext.refl _ | refine Ext.alloc ?_ _ | refine Ext.drewN ?_ _ | refine Ext.drew ?_ | refine Ext.trans ?_ (Hid.out (by assumption))))
end Go.Proofs.Ytclmbonippjhoaa
