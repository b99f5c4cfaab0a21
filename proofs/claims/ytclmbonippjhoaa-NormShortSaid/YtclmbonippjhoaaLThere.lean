/- Each test that may be implies that its attribute is there, and nothing of another one: the statement's walk. -/
import Derived.Test.YtclmbonippjhoaaAwake06
import Derived.Test.YtclmbonippjhoaaQuiet
set_option linter.unusedVariables false
set_option linter.unusedSimpArgs false
namespace Go.Proofs.Ytclmbonippjhoaa
open Go.RowKit

theorem two_ok {a b : T} (h : chkB [a, b] = true) : oneB a = true ∧ oneB b = true := by
  unfold chkB at h
  simpa using h
theorem one_8 {t : T} (h : oneB t = true) (h8 : t.op = 8) : t.v = ⟨0, 0, []⟩ := by
  unfold oneB at h
  rw [if_pos h8] at h
  simp only [Bool.and_eq_true, decide_eq_true_eq] at h
  exact h.2
set_option maxRecDepth 100000 in
set_option maxHeartbeats 4000000 in
theorem there06_any (a b : T) (w : World) :
    Calls Try.prog 6 #[.agg #[.string a.nm, .int .i64 a.op, .int .i64 a.k, .int .i64 a.n, .string a.s], .agg #[.string b.nm, .int .i64 b.op, .int .i64 b.k, .int .i64 b.n, .string b.s]] w fun e w' => e = .returned (.bool true) ∧ Ext w w' := by
  obtain ⟨an, ao, ak, am, az⟩ := a
  obtain ⟨bn, bo, bk, bm, bz⟩ := b
  dsimp only
  go_enter Try.func6, Try.ntmps6
  go_wp2_with fail
  refine (awake06_any _).mono ?_
  rintro e w1 ⟨rfl, hb⟩
  have BA1 := hid (hb.blk (b := w.heap.size) (o := (Obj.cells #[.string an, .int .i64 ao, .int .i64 ak, .int .i64 am, .string az] 25)) (by (repeat (first | (refine heap_new ?_; (simp; done)) | refine heap_old (by first | (simp; done) | (simp; omega)) ?_))))
  have BB1 := hid (hb.blk (b := w.heap.size + 1) (o := (Obj.cells #[.string bn, .int .i64 bo, .int .i64 bk, .int .i64 bm, .string bz] 25)) (by (repeat (first | (refine heap_new ?_; (simp; done)) | refine heap_old (by first | (simp; done) | (simp; omega)) ?_))))
  have hx1 := hid (Ext.trans (((Ext.refl w).alloc _).alloc _) hb)
  clear hb
  have ca0 : w1.cell? ⟨w.heap.size, 0, none⟩ = some (.string an) := cellH BA1.out rfl
  have ca1 : w1.cell? ⟨w.heap.size, 1, none⟩ = some (.int .i64 ao) := cellH BA1.out rfl
  have ca2 : w1.cell? ⟨w.heap.size, 2, none⟩ = some (.int .i64 ak) := cellH BA1.out rfl
  have ca3 : w1.cell? ⟨w.heap.size, 3, none⟩ = some (.int .i64 am) := cellH BA1.out rfl
  have ca4 : w1.cell? ⟨w.heap.size, 4, none⟩ = some (.string az) := cellH BA1.out rfl
  have caz : w.heap.size < w1.heap.size := lt_of_cell ca0
  have cb0 : w1.cell? ⟨w.heap.size + 1, 0, none⟩ = some (.string bn) := cellH BB1.out rfl
  have cb1 : w1.cell? ⟨w.heap.size + 1, 1, none⟩ = some (.int .i64 bo) := cellH BB1.out rfl
  have cb2 : w1.cell? ⟨w.heap.size + 1, 2, none⟩ = some (.int .i64 bk) := cellH BB1.out rfl
  have cb3 : w1.cell? ⟨w.heap.size + 1, 3, none⟩ = some (.int .i64 bm) := cellH BB1.out rfl
  have cb4 : w1.cell? ⟨w.heap.size + 1, 4, none⟩ = some (.string bz) := cellH BB1.out rfl
  have cbz : w.heap.size + 1 < w1.heap.size := lt_of_cell cb0
  go_wp2_with fail
  refine (few05_any _ _ _ [⟨an, ao, ak, am, az⟩, ⟨bn, bo, bk, bm, bz⟩] _ (sl_of _ T.wid rfl (by simp) (t := 25) (fr := (0, 0)) (by (repeat (first | (refine heap_new ?_; (simp; done)) | refine heap_old (by first | (simp; done) | (simp; omega)) ?_))) rfl)).mono ?_
  rintro e w2 ⟨f1, rfl, hf, hb⟩
  have hb := Ext.trans ((Ext.refl w1).alloc _) hb
  have BA2 := hid (hb.blk BA1.out)
  have BB2 := hid (hb.blk BB1.out)
  have hx2 := hid hb
  clear hb hf
  clear ca0 ca1 ca2 ca3 ca4 caz
  clear cb0 cb1 cb2 cb3 cb4 cbz
  have ca0 : w2.cell? ⟨w.heap.size, 0, none⟩ = some (.string an) := cellH BA2.out rfl
  have ca1 : w2.cell? ⟨w.heap.size, 1, none⟩ = some (.int .i64 ao) := cellH BA2.out rfl
  have ca2 : w2.cell? ⟨w.heap.size, 2, none⟩ = some (.int .i64 ak) := cellH BA2.out rfl
  have ca3 : w2.cell? ⟨w.heap.size, 3, none⟩ = some (.int .i64 am) := cellH BA2.out rfl
  have ca4 : w2.cell? ⟨w.heap.size, 4, none⟩ = some (.string az) := cellH BA2.out rfl
  have caz : w.heap.size < w2.heap.size := lt_of_cell ca0
  have cb0 : w2.cell? ⟨w.heap.size + 1, 0, none⟩ = some (.string bn) := cellH BB2.out rfl
  have cb1 : w2.cell? ⟨w.heap.size + 1, 1, none⟩ = some (.int .i64 bo) := cellH BB2.out rfl
  have cb2 : w2.cell? ⟨w.heap.size + 1, 2, none⟩ = some (.int .i64 bk) := cellH BB2.out rfl
  have cb3 : w2.cell? ⟨w.heap.size + 1, 3, none⟩ = some (.int .i64 bm) := cellH BB2.out rfl
  have cb4 : w2.cell? ⟨w.heap.size + 1, 4, none⟩ = some (.string bz) := cellH BB2.out rfl
  have cbz : w.heap.size + 1 < w2.heap.size := lt_of_cell cb0
  cases f1
  · skip
    go_wp2
    go_ret
    refine ⟨rfl, ?_⟩
    (repeat (first | exact Ext.refl _ | refine Ext.alloc ?_ _ | refine Ext.drewN ?_ _ | refine Ext.drew ?_ | refine Ext.trans ?_ (Hid.out (by assumption))))
  go_wp2_with fail
  refine (chkF_any _ _ _ [⟨an, ao, ak, am, az⟩, ⟨bn, bo, bk, bm, bz⟩] _ (sl_of _ T.wid rfl (by simp) (t := 25) (fr := (0, 0)) (by (repeat (first | (refine heap_new ?_; (simp; done)) | refine heap_old (by first | (simp; done) | (simp; omega)) ?_))) rfl)).mono ?_
  rintro e w3 ⟨rfl, hb⟩
  have hb := Ext.trans ((Ext.refl w2).alloc _) hb
  have BA3 := hid (hb.blk BA2.out)
  have BB3 := hid (hb.blk BB2.out)
  have hx3 := hid hb
  clear hb
  clear ca0 ca1 ca2 ca3 ca4 caz
  clear cb0 cb1 cb2 cb3 cb4 cbz
  have ca0 : w3.cell? ⟨w.heap.size, 0, none⟩ = some (.string an) := cellH BA3.out rfl
  have ca1 : w3.cell? ⟨w.heap.size, 1, none⟩ = some (.int .i64 ao) := cellH BA3.out rfl
  have ca2 : w3.cell? ⟨w.heap.size, 2, none⟩ = some (.int .i64 ak) := cellH BA3.out rfl
  have ca3 : w3.cell? ⟨w.heap.size, 3, none⟩ = some (.int .i64 am) := cellH BA3.out rfl
  have ca4 : w3.cell? ⟨w.heap.size, 4, none⟩ = some (.string az) := cellH BA3.out rfl
  have caz : w.heap.size < w3.heap.size := lt_of_cell ca0
  have cb0 : w3.cell? ⟨w.heap.size + 1, 0, none⟩ = some (.string bn) := cellH BB3.out rfl
  have cb1 : w3.cell? ⟨w.heap.size + 1, 1, none⟩ = some (.int .i64 bo) := cellH BB3.out rfl
  have cb2 : w3.cell? ⟨w.heap.size + 1, 2, none⟩ = some (.int .i64 bk) := cellH BB3.out rfl
  have cb3 : w3.cell? ⟨w.heap.size + 1, 3, none⟩ = some (.int .i64 bm) := cellH BB3.out rfl
  have cb4 : w3.cell? ⟨w.heap.size + 1, 4, none⟩ = some (.string bz) := cellH BB3.out rfl
  have cbz : w.heap.size + 1 < w3.heap.size := lt_of_cell cb0
  cases hck : chkB [⟨an, ao, ak, am, az⟩, ⟨bn, bo, bk, bm, bz⟩] with
  | false =>
    have h0 : errF false = 50 := rfl
    rw [h0]
    clear h0 hck
    go_wp2
    go_ret
    refine ⟨rfl, ?_⟩
    (repeat (first | exact Ext.refl _ | refine Ext.alloc ?_ _ | refine Ext.drewN ?_ _ | refine Ext.drew ?_ | refine Ext.trans ?_ (Hid.out (by assumption))))
  | true =>
    have h0 : errF true = 0 := rfl
    rw [h0]
    clear h0
    have ha := (two_ok hck).1
    have hb := (two_ok hck).2
    have hop : 1 ≤ ao ∧ ao ≤ 8 := (one_ok ha).op
    have C1 : Hid (impT (T.ts ⟨an, ao, ak, am, az⟩) (T.ts ⟨an, 8, 0, 0, ⟨#[]⟩⟩) = true) := imp_is hop _
    have hbk : impT (T.ts ⟨an, 8, 0, 0, ⟨#[]⟩⟩) (T.ts ⟨an, ao, ak, am, az⟩) = decide (ao = 8) := imp_is_back (a := (T.ts ⟨an, ao, ak, am, az⟩)) hop _ (fun h8 => by rw [show (T.ts ⟨an, ao, ak, am, az⟩).v = (⟨an, ao, ak, am, az⟩ : T).v from rfl, one_8 ha h8]; simp [T.ts, T.v, Lib.toList_data])
    clear hck
    by_cases hn : an.toList = bn.toList
    · have hnb : (an.toList == bn.toList) = true := by simp [hn]
      have C2 : Hid (True = True) := rfl
      by_cases h8 : ao = 8
      · have h8b : (ao == 8) = true := by simp [h8]
        have C3 : Hid (impT (T.ts ⟨an, 8, 0, 0, ⟨#[]⟩⟩) (T.ts ⟨an, ao, ak, am, az⟩) = true) := by rw [hbk]; exact decide_eq_true h8
        clear h8 ha hb hop hbk
        go_wp2_with fail
        have ci0 : (w3.alloc (Obj.cells #[.string an, .int .i64 8, .int .i64 0, .int .i64 0, .string ⟨#[]⟩] 25)).cell? ⟨w3.heap.size, 0, none⟩ = some (.string an) := cellH (heap_alloc_new _ _) rfl
        have ci1 : (w3.alloc (Obj.cells #[.string an, .int .i64 8, .int .i64 0, .int .i64 0, .string ⟨#[]⟩] 25)).cell? ⟨w3.heap.size, 1, none⟩ = some (.int .i64 8) := cellH (heap_alloc_new _ _) rfl
        have ci2 : (w3.alloc (Obj.cells #[.string an, .int .i64 8, .int .i64 0, .int .i64 0, .string ⟨#[]⟩] 25)).cell? ⟨w3.heap.size, 2, none⟩ = some (.int .i64 0) := cellH (heap_alloc_new _ _) rfl
        have ci3 : (w3.alloc (Obj.cells #[.string an, .int .i64 8, .int .i64 0, .int .i64 0, .string ⟨#[]⟩] 25)).cell? ⟨w3.heap.size, 3, none⟩ = some (.int .i64 0) := cellH (heap_alloc_new _ _) rfl
        have ci4 : (w3.alloc (Obj.cells #[.string an, .int .i64 8, .int .i64 0, .int .i64 0, .string ⟨#[]⟩] 25)).cell? ⟨w3.heap.size, 4, none⟩ = some (.string ⟨#[]⟩) := cellH (heap_alloc_new _ _) rfl
        have ciz : w3.heap.size < (w3.alloc (Obj.cells #[.string an, .int .i64 8, .int .i64 0, .int .i64 0, .string ⟨#[]⟩] 25)).heap.size := lt_of_cell ci0
        replace ca0 : (w3.alloc (Obj.cells #[.string an, .int .i64 8, .int .i64 0, .int .i64 0, .string ⟨#[]⟩] 25)).cell? ⟨w.heap.size, 0, none⟩ = some (.string an) := ((Ext.refl w3).alloc _).keep ca0
        replace ca1 : (w3.alloc (Obj.cells #[.string an, .int .i64 8, .int .i64 0, .int .i64 0, .string ⟨#[]⟩] 25)).cell? ⟨w.heap.size, 1, none⟩ = some (.int .i64 ao) := ((Ext.refl w3).alloc _).keep ca1
        replace ca2 : (w3.alloc (Obj.cells #[.string an, .int .i64 8, .int .i64 0, .int .i64 0, .string ⟨#[]⟩] 25)).cell? ⟨w.heap.size, 2, none⟩ = some (.int .i64 ak) := ((Ext.refl w3).alloc _).keep ca2
        replace ca3 : (w3.alloc (Obj.cells #[.string an, .int .i64 8, .int .i64 0, .int .i64 0, .string ⟨#[]⟩] 25)).cell? ⟨w.heap.size, 3, none⟩ = some (.int .i64 am) := ((Ext.refl w3).alloc _).keep ca3
        replace ca4 : (w3.alloc (Obj.cells #[.string an, .int .i64 8, .int .i64 0, .int .i64 0, .string ⟨#[]⟩] 25)).cell? ⟨w.heap.size, 4, none⟩ = some (.string az) := ((Ext.refl w3).alloc _).keep ca4
        replace cb0 : (w3.alloc (Obj.cells #[.string an, .int .i64 8, .int .i64 0, .int .i64 0, .string ⟨#[]⟩] 25)).cell? ⟨w.heap.size + 1, 0, none⟩ = some (.string bn) := ((Ext.refl w3).alloc _).keep cb0
        replace cb1 : (w3.alloc (Obj.cells #[.string an, .int .i64 8, .int .i64 0, .int .i64 0, .string ⟨#[]⟩] 25)).cell? ⟨w.heap.size + 1, 1, none⟩ = some (.int .i64 bo) := ((Ext.refl w3).alloc _).keep cb1
        replace cb2 : (w3.alloc (Obj.cells #[.string an, .int .i64 8, .int .i64 0, .int .i64 0, .string ⟨#[]⟩] 25)).cell? ⟨w.heap.size + 1, 2, none⟩ = some (.int .i64 bk) := ((Ext.refl w3).alloc _).keep cb2
        replace cb3 : (w3.alloc (Obj.cells #[.string an, .int .i64 8, .int .i64 0, .int .i64 0, .string ⟨#[]⟩] 25)).cell? ⟨w.heap.size + 1, 3, none⟩ = some (.int .i64 bm) := ((Ext.refl w3).alloc _).keep cb3
        replace cb4 : (w3.alloc (Obj.cells #[.string an, .int .i64 8, .int .i64 0, .int .i64 0, .string ⟨#[]⟩] 25)).cell? ⟨w.heap.size + 1, 4, none⟩ = some (.string bz) := ((Ext.refl w3).alloc _).keep cb4
        replace ca0 := ExtBy.cell (w := (w3.alloc (Obj.cells #[.string an, .int .i64 8, .int .i64 0, .int .i64 0, .string ⟨#[]⟩] 25))) (a := ⟨w.heap.size, 0, none⟩) (v := .string an) ca0
        replace ca1 := ExtBy.cell (w := (w3.alloc (Obj.cells #[.string an, .int .i64 8, .int .i64 0, .int .i64 0, .string ⟨#[]⟩] 25))) (a := ⟨w.heap.size, 1, none⟩) (v := .int .i64 ao) ca1
        replace ca2 := ExtBy.cell (w := (w3.alloc (Obj.cells #[.string an, .int .i64 8, .int .i64 0, .int .i64 0, .string ⟨#[]⟩] 25))) (a := ⟨w.heap.size, 2, none⟩) (v := .int .i64 ak) ca2
        replace ca3 := ExtBy.cell (w := (w3.alloc (Obj.cells #[.string an, .int .i64 8, .int .i64 0, .int .i64 0, .string ⟨#[]⟩] 25))) (a := ⟨w.heap.size, 3, none⟩) (v := .int .i64 am) ca3
        replace ca4 := ExtBy.cell (w := (w3.alloc (Obj.cells #[.string an, .int .i64 8, .int .i64 0, .int .i64 0, .string ⟨#[]⟩] 25))) (a := ⟨w.heap.size, 4, none⟩) (v := .string az) ca4
        replace cb0 := ExtBy.cell (w := (w3.alloc (Obj.cells #[.string an, .int .i64 8, .int .i64 0, .int .i64 0, .string ⟨#[]⟩] 25))) (a := ⟨w.heap.size + 1, 0, none⟩) (v := .string bn) cb0
        replace cb1 := ExtBy.cell (w := (w3.alloc (Obj.cells #[.string an, .int .i64 8, .int .i64 0, .int .i64 0, .string ⟨#[]⟩] 25))) (a := ⟨w.heap.size + 1, 1, none⟩) (v := .int .i64 bo) cb1
        replace cb2 := ExtBy.cell (w := (w3.alloc (Obj.cells #[.string an, .int .i64 8, .int .i64 0, .int .i64 0, .string ⟨#[]⟩] 25))) (a := ⟨w.heap.size + 1, 2, none⟩) (v := .int .i64 bk) cb2
        replace cb3 := ExtBy.cell (w := (w3.alloc (Obj.cells #[.string an, .int .i64 8, .int .i64 0, .int .i64 0, .string ⟨#[]⟩] 25))) (a := ⟨w.heap.size + 1, 3, none⟩) (v := .int .i64 bm) cb3
        replace cb4 := ExtBy.cell (w := (w3.alloc (Obj.cells #[.string an, .int .i64 8, .int .i64 0, .int .i64 0, .string ⟨#[]⟩] 25))) (a := ⟨w.heap.size + 1, 4, none⟩) (v := .string bz) cb4
        replace ci0 := ExtBy.cell (w := (w3.alloc (Obj.cells #[.string an, .int .i64 8, .int .i64 0, .int .i64 0, .string ⟨#[]⟩] 25))) (a := ⟨w3.heap.size, 0, none⟩) (v := .string an) ci0
        replace ci1 := ExtBy.cell (w := (w3.alloc (Obj.cells #[.string an, .int .i64 8, .int .i64 0, .int .i64 0, .string ⟨#[]⟩] 25))) (a := ⟨w3.heap.size, 1, none⟩) (v := .int .i64 8) ci1
        replace ci2 := ExtBy.cell (w := (w3.alloc (Obj.cells #[.string an, .int .i64 8, .int .i64 0, .int .i64 0, .string ⟨#[]⟩] 25))) (a := ⟨w3.heap.size, 2, none⟩) (v := .int .i64 0) ci2
        replace ci3 := ExtBy.cell (w := (w3.alloc (Obj.cells #[.string an, .int .i64 8, .int .i64 0, .int .i64 0, .string ⟨#[]⟩] 25))) (a := ⟨w3.heap.size, 3, none⟩) (v := .int .i64 0) ci3
        replace ci4 := ExtBy.cell (w := (w3.alloc (Obj.cells #[.string an, .int .i64 8, .int .i64 0, .int .i64 0, .string ⟨#[]⟩] 25))) (a := ⟨w3.heap.size, 4, none⟩) (v := .string ⟨#[]⟩) ci4
        refine wp_region_quiet_ext (by kernel_rfl) (by kernel_rfl) ?_
        repeat (quiet_step (((go_at_call 19; first | exact Calls.extOf (implies_any ⟨_, _, _, _, _⟩ ⟨_, _, _, _, _⟩ _) (congrArg Value.bool C1.out) | exact Calls.extOf (implies_any ⟨_, _, _, _, _⟩ ⟨_, _, _, _, _⟩ _) (congrArg Value.bool C2.out) | exact Calls.extOf (implies_any ⟨_, _, _, _, _⟩ ⟨_, _, _, _, _⟩ _) (congrArg Value.bool C3.out)))))
        refine wpQuiet_nil ?_
        intro _ hw'
        obtain ⟨pe, hw''⟩ := hw'
        subst hw''
        obtain ⟨wq, hwq⟩ := pe
        dsimp only
        have hxq := hid hwq
        clear hwq
        go_wp2
        go_ret
        refine ⟨rfl, ?_⟩
        (repeat (first | exact Ext.refl _ | refine Ext.alloc ?_ _ | refine Ext.drewN ?_ _ | refine Ext.drew ?_ | refine Ext.trans ?_ (Hid.out (by assumption))))
      · have h8b : (ao == 8) = false := by simp [h8]
        have C3 : Hid (impT (T.ts ⟨an, 8, 0, 0, ⟨#[]⟩⟩) (T.ts ⟨an, ao, ak, am, az⟩) = false) := by rw [hbk]; exact decide_eq_false h8
        clear h8 ha hb hop hbk
        go_wp2_with fail
        have ci0 : (w3.alloc (Obj.cells #[.string an, .int .i64 8, .int .i64 0, .int .i64 0, .string ⟨#[]⟩] 25)).cell? ⟨w3.heap.size, 0, none⟩ = some (.string an) := cellH (heap_alloc_new _ _) rfl
        have ci1 : (w3.alloc (Obj.cells #[.string an, .int .i64 8, .int .i64 0, .int .i64 0, .string ⟨#[]⟩] 25)).cell? ⟨w3.heap.size, 1, none⟩ = some (.int .i64 8) := cellH (heap_alloc_new _ _) rfl
        have ci2 : (w3.alloc (Obj.cells #[.string an, .int .i64 8, .int .i64 0, .int .i64 0, .string ⟨#[]⟩] 25)).cell? ⟨w3.heap.size, 2, none⟩ = some (.int .i64 0) := cellH (heap_alloc_new _ _) rfl
        have ci3 : (w3.alloc (Obj.cells #[.string an, .int .i64 8, .int .i64 0, .int .i64 0, .string ⟨#[]⟩] 25)).cell? ⟨w3.heap.size, 3, none⟩ = some (.int .i64 0) := cellH (heap_alloc_new _ _) rfl
        have ci4 : (w3.alloc (Obj.cells #[.string an, .int .i64 8, .int .i64 0, .int .i64 0, .string ⟨#[]⟩] 25)).cell? ⟨w3.heap.size, 4, none⟩ = some (.string ⟨#[]⟩) := cellH (heap_alloc_new _ _) rfl
        have ciz : w3.heap.size < (w3.alloc (Obj.cells #[.string an, .int .i64 8, .int .i64 0, .int .i64 0, .string ⟨#[]⟩] 25)).heap.size := lt_of_cell ci0
        replace ca0 : (w3.alloc (Obj.cells #[.string an, .int .i64 8, .int .i64 0, .int .i64 0, .string ⟨#[]⟩] 25)).cell? ⟨w.heap.size, 0, none⟩ = some (.string an) := ((Ext.refl w3).alloc _).keep ca0
        replace ca1 : (w3.alloc (Obj.cells #[.string an, .int .i64 8, .int .i64 0, .int .i64 0, .string ⟨#[]⟩] 25)).cell? ⟨w.heap.size, 1, none⟩ = some (.int .i64 ao) := ((Ext.refl w3).alloc _).keep ca1
        replace ca2 : (w3.alloc (Obj.cells #[.string an, .int .i64 8, .int .i64 0, .int .i64 0, .string ⟨#[]⟩] 25)).cell? ⟨w.heap.size, 2, none⟩ = some (.int .i64 ak) := ((Ext.refl w3).alloc _).keep ca2
        replace ca3 : (w3.alloc (Obj.cells #[.string an, .int .i64 8, .int .i64 0, .int .i64 0, .string ⟨#[]⟩] 25)).cell? ⟨w.heap.size, 3, none⟩ = some (.int .i64 am) := ((Ext.refl w3).alloc _).keep ca3
        replace ca4 : (w3.alloc (Obj.cells #[.string an, .int .i64 8, .int .i64 0, .int .i64 0, .string ⟨#[]⟩] 25)).cell? ⟨w.heap.size, 4, none⟩ = some (.string az) := ((Ext.refl w3).alloc _).keep ca4
        replace cb0 : (w3.alloc (Obj.cells #[.string an, .int .i64 8, .int .i64 0, .int .i64 0, .string ⟨#[]⟩] 25)).cell? ⟨w.heap.size + 1, 0, none⟩ = some (.string bn) := ((Ext.refl w3).alloc _).keep cb0
        replace cb1 : (w3.alloc (Obj.cells #[.string an, .int .i64 8, .int .i64 0, .int .i64 0, .string ⟨#[]⟩] 25)).cell? ⟨w.heap.size + 1, 1, none⟩ = some (.int .i64 bo) := ((Ext.refl w3).alloc _).keep cb1
        replace cb2 : (w3.alloc (Obj.cells #[.string an, .int .i64 8, .int .i64 0, .int .i64 0, .string ⟨#[]⟩] 25)).cell? ⟨w.heap.size + 1, 2, none⟩ = some (.int .i64 bk) := ((Ext.refl w3).alloc _).keep cb2
        replace cb3 : (w3.alloc (Obj.cells #[.string an, .int .i64 8, .int .i64 0, .int .i64 0, .string ⟨#[]⟩] 25)).cell? ⟨w.heap.size + 1, 3, none⟩ = some (.int .i64 bm) := ((Ext.refl w3).alloc _).keep cb3
        replace cb4 : (w3.alloc (Obj.cells #[.string an, .int .i64 8, .int .i64 0, .int .i64 0, .string ⟨#[]⟩] 25)).cell? ⟨w.heap.size + 1, 4, none⟩ = some (.string bz) := ((Ext.refl w3).alloc _).keep cb4
        replace ca0 := ExtBy.cell (w := (w3.alloc (Obj.cells #[.string an, .int .i64 8, .int .i64 0, .int .i64 0, .string ⟨#[]⟩] 25))) (a := ⟨w.heap.size, 0, none⟩) (v := .string an) ca0
        replace ca1 := ExtBy.cell (w := (w3.alloc (Obj.cells #[.string an, .int .i64 8, .int .i64 0, .int .i64 0, .string ⟨#[]⟩] 25))) (a := ⟨w.heap.size, 1, none⟩) (v := .int .i64 ao) ca1
        replace ca2 := ExtBy.cell (w := (w3.alloc (Obj.cells #[.string an, .int .i64 8, .int .i64 0, .int .i64 0, .string ⟨#[]⟩] 25))) (a := ⟨w.heap.size, 2, none⟩) (v := .int .i64 ak) ca2
        replace ca3 := ExtBy.cell (w := (w3.alloc (Obj.cells #[.string an, .int .i64 8, .int .i64 0, .int .i64 0, .string ⟨#[]⟩] 25))) (a := ⟨w.heap.size, 3, none⟩) (v := .int .i64 am) ca3
        replace ca4 := ExtBy.cell (w := (w3.alloc (Obj.cells #[.string an, .int .i64 8, .int .i64 0, .int .i64 0, .string ⟨#[]⟩] 25))) (a := ⟨w.heap.size, 4, none⟩) (v := .string az) ca4
        replace cb0 := ExtBy.cell (w := (w3.alloc (Obj.cells #[.string an, .int .i64 8, .int .i64 0, .int .i64 0, .string ⟨#[]⟩] 25))) (a := ⟨w.heap.size + 1, 0, none⟩) (v := .string bn) cb0
        replace cb1 := ExtBy.cell (w := (w3.alloc (Obj.cells #[.string an, .int .i64 8, .int .i64 0, .int .i64 0, .string ⟨#[]⟩] 25))) (a := ⟨w.heap.size + 1, 1, none⟩) (v := .int .i64 bo) cb1
        replace cb2 := ExtBy.cell (w := (w3.alloc (Obj.cells #[.string an, .int .i64 8, .int .i64 0, .int .i64 0, .string ⟨#[]⟩] 25))) (a := ⟨w.heap.size + 1, 2, none⟩) (v := .int .i64 bk) cb2
        replace cb3 := ExtBy.cell (w := (w3.alloc (Obj.cells #[.string an, .int .i64 8, .int .i64 0, .int .i64 0, .string ⟨#[]⟩] 25))) (a := ⟨w.heap.size + 1, 3, none⟩) (v := .int .i64 bm) cb3
        replace cb4 := ExtBy.cell (w := (w3.alloc (Obj.cells #[.string an, .int .i64 8, .int .i64 0, .int .i64 0, .string ⟨#[]⟩] 25))) (a := ⟨w.heap.size + 1, 4, none⟩) (v := .string bz) cb4
        replace ci0 := ExtBy.cell (w := (w3.alloc (Obj.cells #[.string an, .int .i64 8, .int .i64 0, .int .i64 0, .string ⟨#[]⟩] 25))) (a := ⟨w3.heap.size, 0, none⟩) (v := .string an) ci0
        replace ci1 := ExtBy.cell (w := (w3.alloc (Obj.cells #[.string an, .int .i64 8, .int .i64 0, .int .i64 0, .string ⟨#[]⟩] 25))) (a := ⟨w3.heap.size, 1, none⟩) (v := .int .i64 8) ci1
        replace ci2 := ExtBy.cell (w := (w3.alloc (Obj.cells #[.string an, .int .i64 8, .int .i64 0, .int .i64 0, .string ⟨#[]⟩] 25))) (a := ⟨w3.heap.size, 2, none⟩) (v := .int .i64 0) ci2
        replace ci3 := ExtBy.cell (w := (w3.alloc (Obj.cells #[.string an, .int .i64 8, .int .i64 0, .int .i64 0, .string ⟨#[]⟩] 25))) (a := ⟨w3.heap.size, 3, none⟩) (v := .int .i64 0) ci3
        replace ci4 := ExtBy.cell (w := (w3.alloc (Obj.cells #[.string an, .int .i64 8, .int .i64 0, .int .i64 0, .string ⟨#[]⟩] 25))) (a := ⟨w3.heap.size, 4, none⟩) (v := .string ⟨#[]⟩) ci4
        refine wp_region_quiet_ext (by kernel_rfl) (by kernel_rfl) ?_
        repeat (quiet_step (((go_at_call 19; first | exact Calls.extOf (implies_any ⟨_, _, _, _, _⟩ ⟨_, _, _, _, _⟩ _) (congrArg Value.bool C1.out) | exact Calls.extOf (implies_any ⟨_, _, _, _, _⟩ ⟨_, _, _, _, _⟩ _) (congrArg Value.bool C2.out) | exact Calls.extOf (implies_any ⟨_, _, _, _, _⟩ ⟨_, _, _, _, _⟩ _) (congrArg Value.bool C3.out)))))
        refine wpQuiet_nil ?_
        intro _ hw'
        obtain ⟨pe, hw''⟩ := hw'
        subst hw''
        obtain ⟨wq, hwq⟩ := pe
        dsimp only
        have hxq := hid hwq
        clear hwq
        go_wp2
        go_ret
        refine ⟨rfl, ?_⟩
        (repeat (first | exact Ext.refl _ | refine Ext.alloc ?_ _ | refine Ext.drewN ?_ _ | refine Ext.drew ?_ | refine Ext.trans ?_ (Hid.out (by assumption))))
    · have hnb : (an.toList == bn.toList) = false := by simp [hn]
      have C2 : Hid (impT (T.ts ⟨an, ao, ak, am, az⟩) (T.ts ⟨bn, bo, bk, bm, bz⟩) = false) := imp_name hn
      by_cases h8 : ao = 8
      · have h8b : (ao == 8) = true := by simp [h8]
        have C3 : Hid (impT (T.ts ⟨an, 8, 0, 0, ⟨#[]⟩⟩) (T.ts ⟨an, ao, ak, am, az⟩) = true) := by rw [hbk]; exact decide_eq_true h8
        clear h8 ha hb hop hbk
        go_wp2_with fail
        have ci0 : (w3.alloc (Obj.cells #[.string an, .int .i64 8, .int .i64 0, .int .i64 0, .string ⟨#[]⟩] 25)).cell? ⟨w3.heap.size, 0, none⟩ = some (.string an) := cellH (heap_alloc_new _ _) rfl
        have ci1 : (w3.alloc (Obj.cells #[.string an, .int .i64 8, .int .i64 0, .int .i64 0, .string ⟨#[]⟩] 25)).cell? ⟨w3.heap.size, 1, none⟩ = some (.int .i64 8) := cellH (heap_alloc_new _ _) rfl
        have ci2 : (w3.alloc (Obj.cells #[.string an, .int .i64 8, .int .i64 0, .int .i64 0, .string ⟨#[]⟩] 25)).cell? ⟨w3.heap.size, 2, none⟩ = some (.int .i64 0) := cellH (heap_alloc_new _ _) rfl
        have ci3 : (w3.alloc (Obj.cells #[.string an, .int .i64 8, .int .i64 0, .int .i64 0, .string ⟨#[]⟩] 25)).cell? ⟨w3.heap.size, 3, none⟩ = some (.int .i64 0) := cellH (heap_alloc_new _ _) rfl
        have ci4 : (w3.alloc (Obj.cells #[.string an, .int .i64 8, .int .i64 0, .int .i64 0, .string ⟨#[]⟩] 25)).cell? ⟨w3.heap.size, 4, none⟩ = some (.string ⟨#[]⟩) := cellH (heap_alloc_new _ _) rfl
        have ciz : w3.heap.size < (w3.alloc (Obj.cells #[.string an, .int .i64 8, .int .i64 0, .int .i64 0, .string ⟨#[]⟩] 25)).heap.size := lt_of_cell ci0
        replace ca0 : (w3.alloc (Obj.cells #[.string an, .int .i64 8, .int .i64 0, .int .i64 0, .string ⟨#[]⟩] 25)).cell? ⟨w.heap.size, 0, none⟩ = some (.string an) := ((Ext.refl w3).alloc _).keep ca0
        replace ca1 : (w3.alloc (Obj.cells #[.string an, .int .i64 8, .int .i64 0, .int .i64 0, .string ⟨#[]⟩] 25)).cell? ⟨w.heap.size, 1, none⟩ = some (.int .i64 ao) := ((Ext.refl w3).alloc _).keep ca1
        replace ca2 : (w3.alloc (Obj.cells #[.string an, .int .i64 8, .int .i64 0, .int .i64 0, .string ⟨#[]⟩] 25)).cell? ⟨w.heap.size, 2, none⟩ = some (.int .i64 ak) := ((Ext.refl w3).alloc _).keep ca2
        replace ca3 : (w3.alloc (Obj.cells #[.string an, .int .i64 8, .int .i64 0, .int .i64 0, .string ⟨#[]⟩] 25)).cell? ⟨w.heap.size, 3, none⟩ = some (.int .i64 am) := ((Ext.refl w3).alloc _).keep ca3
        replace ca4 : (w3.alloc (Obj.cells #[.string an, .int .i64 8, .int .i64 0, .int .i64 0, .string ⟨#[]⟩] 25)).cell? ⟨w.heap.size, 4, none⟩ = some (.string az) := ((Ext.refl w3).alloc _).keep ca4
        replace cb0 : (w3.alloc (Obj.cells #[.string an, .int .i64 8, .int .i64 0, .int .i64 0, .string ⟨#[]⟩] 25)).cell? ⟨w.heap.size + 1, 0, none⟩ = some (.string bn) := ((Ext.refl w3).alloc _).keep cb0
        replace cb1 : (w3.alloc (Obj.cells #[.string an, .int .i64 8, .int .i64 0, .int .i64 0, .string ⟨#[]⟩] 25)).cell? ⟨w.heap.size + 1, 1, none⟩ = some (.int .i64 bo) := ((Ext.refl w3).alloc _).keep cb1
        replace cb2 : (w3.alloc (Obj.cells #[.string an, .int .i64 8, .int .i64 0, .int .i64 0, .string ⟨#[]⟩] 25)).cell? ⟨w.heap.size + 1, 2, none⟩ = some (.int .i64 bk) := ((Ext.refl w3).alloc _).keep cb2
        replace cb3 : (w3.alloc (Obj.cells #[.string an, .int .i64 8, .int .i64 0, .int .i64 0, .string ⟨#[]⟩] 25)).cell? ⟨w.heap.size + 1, 3, none⟩ = some (.int .i64 bm) := ((Ext.refl w3).alloc _).keep cb3
        replace cb4 : (w3.alloc (Obj.cells #[.string an, .int .i64 8, .int .i64 0, .int .i64 0, .string ⟨#[]⟩] 25)).cell? ⟨w.heap.size + 1, 4, none⟩ = some (.string bz) := ((Ext.refl w3).alloc _).keep cb4
        replace ca0 := ExtBy.cell (w := (w3.alloc (Obj.cells #[.string an, .int .i64 8, .int .i64 0, .int .i64 0, .string ⟨#[]⟩] 25))) (a := ⟨w.heap.size, 0, none⟩) (v := .string an) ca0
        replace ca1 := ExtBy.cell (w := (w3.alloc (Obj.cells #[.string an, .int .i64 8, .int .i64 0, .int .i64 0, .string ⟨#[]⟩] 25))) (a := ⟨w.heap.size, 1, none⟩) (v := .int .i64 ao) ca1
        replace ca2 := ExtBy.cell (w := (w3.alloc (Obj.cells #[.string an, .int .i64 8, .int .i64 0, .int .i64 0, .string ⟨#[]⟩] 25))) (a := ⟨w.heap.size, 2, none⟩) (v := .int .i64 ak) ca2
        replace ca3 := ExtBy.cell (w := (w3.alloc (Obj.cells #[.string an, .int .i64 8, .int .i64 0, .int .i64 0, .string ⟨#[]⟩] 25))) (a := ⟨w.heap.size, 3, none⟩) (v := .int .i64 am) ca3
        replace ca4 := ExtBy.cell (w := (w3.alloc (Obj.cells #[.string an, .int .i64 8, .int .i64 0, .int .i64 0, .string ⟨#[]⟩] 25))) (a := ⟨w.heap.size, 4, none⟩) (v := .string az) ca4
        replace cb0 := ExtBy.cell (w := (w3.alloc (Obj.cells #[.string an, .int .i64 8, .int .i64 0, .int .i64 0, .string ⟨#[]⟩] 25))) (a := ⟨w.heap.size + 1, 0, none⟩) (v := .string bn) cb0
        replace cb1 := ExtBy.cell (w := (w3.alloc (Obj.cells #[.string an, .int .i64 8, .int .i64 0, .int .i64 0, .string ⟨#[]⟩] 25))) (a := ⟨w.heap.size + 1, 1, none⟩) (v := .int .i64 bo) cb1
        replace cb2 := ExtBy.cell (w := (w3.alloc (Obj.cells #[.string an, .int .i64 8, .int .i64 0, .int .i64 0, .string ⟨#[]⟩] 25))) (a := ⟨w.heap.size + 1, 2, none⟩) (v := .int .i64 bk) cb2
        replace cb3 := ExtBy.cell (w := (w3.alloc (Obj.cells #[.string an, .int .i64 8, .int .i64 0, .int .i64 0, .string ⟨#[]⟩] 25))) (a := ⟨w.heap.size + 1, 3, none⟩) (v := .int .i64 bm) cb3
        replace cb4 := ExtBy.cell (w := (w3.alloc (Obj.cells #[.string an, .int .i64 8, .int .i64 0, .int .i64 0, .string ⟨#[]⟩] 25))) (a := ⟨w.heap.size + 1, 4, none⟩) (v := .string bz) cb4
        replace ci0 := ExtBy.cell (w := (w3.alloc (Obj.cells #[.string an, .int .i64 8, .int .i64 0, .int .i64 0, .string ⟨#[]⟩] 25))) (a := ⟨w3.heap.size, 0, none⟩) (v := .string an) ci0
        replace ci1 := ExtBy.cell (w := (w3.alloc (Obj.cells #[.string an, .int .i64 8, .int .i64 0, .int .i64 0, .string ⟨#[]⟩] 25))) (a := ⟨w3.heap.size, 1, none⟩) (v := .int .i64 8) ci1
        replace ci2 := ExtBy.cell (w := (w3.alloc (Obj.cells #[.string an, .int .i64 8, .int .i64 0, .int .i64 0, .string ⟨#[]⟩] 25))) (a := ⟨w3.heap.size, 2, none⟩) (v := .int .i64 0) ci2
        replace ci3 := ExtBy.cell (w := (w3.alloc (Obj.cells #[.string an, .int .i64 8, .int .i64 0, .int .i64 0, .string ⟨#[]⟩] 25))) (a := ⟨w3.heap.size, 3, none⟩) (v := .int .i64 0) ci3
        replace ci4 := ExtBy.cell (w := (w3.alloc (Obj.cells #[.string an, .int .i64 8, .int .i64 0, .int .i64 0, .string ⟨#[]⟩] 25))) (a := ⟨w3.heap.size, 4, none⟩) (v := .string ⟨#[]⟩) ci4
        refine wp_region_quiet_ext (by kernel_rfl) (by kernel_rfl) ?_
        repeat (quiet_step (((go_at_call 19; first | exact Calls.extOf (implies_any ⟨_, _, _, _, _⟩ ⟨_, _, _, _, _⟩ _) (congrArg Value.bool C1.out) | exact Calls.extOf (implies_any ⟨_, _, _, _, _⟩ ⟨_, _, _, _, _⟩ _) (congrArg Value.bool C2.out) | exact Calls.extOf (implies_any ⟨_, _, _, _, _⟩ ⟨_, _, _, _, _⟩ _) (congrArg Value.bool C3.out)))))
        refine wpQuiet_nil ?_
        intro _ hw'
        obtain ⟨pe, hw''⟩ := hw'
        subst hw''
        obtain ⟨wq, hwq⟩ := pe
        dsimp only
        have hxq := hid hwq
        clear hwq
        go_wp2
        go_ret
        refine ⟨rfl, ?_⟩
        (repeat (first | exact Ext.refl _ | refine Ext.alloc ?_ _ | refine Ext.drewN ?_ _ | refine Ext.drew ?_ | refine Ext.trans ?_ (Hid.out (by assumption))))
      · have h8b : (ao == 8) = false := by simp [h8]
        have C3 : Hid (impT (T.ts ⟨an, 8, 0, 0, ⟨#[]⟩⟩) (T.ts ⟨an, ao, ak, am, az⟩) = false) := by rw [hbk]; exact decide_eq_false h8
        clear h8 ha hb hop hbk
        go_wp2_with fail
        have ci0 : (w3.alloc (Obj.cells #[.string an, .int .i64 8, .int .i64 0, .int .i64 0, .string ⟨#[]⟩] 25)).cell? ⟨w3.heap.size, 0, none⟩ = some (.string an) := cellH (heap_alloc_new _ _) rfl
        have ci1 : (w3.alloc (Obj.cells #[.string an, .int .i64 8, .int .i64 0, .int .i64 0, .string ⟨#[]⟩] 25)).cell? ⟨w3.heap.size, 1, none⟩ = some (.int .i64 8) := cellH (heap_alloc_new _ _) rfl
        have ci2 : (w3.alloc (Obj.cells #[.string an, .int .i64 8, .int .i64 0, .int .i64 0, .string ⟨#[]⟩] 25)).cell? ⟨w3.heap.size, 2, none⟩ = some (.int .i64 0) := cellH (heap_alloc_new _ _) rfl
        have ci3 : (w3.alloc (Obj.cells #[.string an, .int .i64 8, .int .i64 0, .int .i64 0, .string ⟨#[]⟩] 25)).cell? ⟨w3.heap.size, 3, none⟩ = some (.int .i64 0) := cellH (heap_alloc_new _ _) rfl
        have ci4 : (w3.alloc (Obj.cells #[.string an, .int .i64 8, .int .i64 0, .int .i64 0, .string ⟨#[]⟩] 25)).cell? ⟨w3.heap.size, 4, none⟩ = some (.string ⟨#[]⟩) := cellH (heap_alloc_new _ _) rfl
        have ciz : w3.heap.size < (w3.alloc (Obj.cells #[.string an, .int .i64 8, .int .i64 0, .int .i64 0, .string ⟨#[]⟩] 25)).heap.size := lt_of_cell ci0
        replace ca0 : (w3.alloc (Obj.cells #[.string an, .int .i64 8, .int .i64 0, .int .i64 0, .string ⟨#[]⟩] 25)).cell? ⟨w.heap.size, 0, none⟩ = some (.string an) := ((Ext.refl w3).alloc _).keep ca0
        replace ca1 : (w3.alloc (Obj.cells #[.string an, .int .i64 8, .int .i64 0, .int .i64 0, .string ⟨#[]⟩] 25)).cell? ⟨w.heap.size, 1, none⟩ = some (.int .i64 ao) := ((Ext.refl w3).alloc _).keep ca1
        replace ca2 : (w3.alloc (Obj.cells #[.string an, .int .i64 8, .int .i64 0, .int .i64 0, .string ⟨#[]⟩] 25)).cell? ⟨w.heap.size, 2, none⟩ = some (.int .i64 ak) := ((Ext.refl w3).alloc _).keep ca2
        replace ca3 : (w3.alloc (Obj.cells #[.string an, .int .i64 8, .int .i64 0, .int .i64 0, .string ⟨#[]⟩] 25)).cell? ⟨w.heap.size, 3, none⟩ = some (.int .i64 am) := ((Ext.refl w3).alloc _).keep ca3
        replace ca4 : (w3.alloc (Obj.cells #[.string an, .int .i64 8, .int .i64 0, .int .i64 0, .string ⟨#[]⟩] 25)).cell? ⟨w.heap.size, 4, none⟩ = some (.string az) := ((Ext.refl w3).alloc _).keep ca4
        replace cb0 : (w3.alloc (Obj.cells #[.string an, .int .i64 8, .int .i64 0, .int .i64 0, .string ⟨#[]⟩] 25)).cell? ⟨w.heap.size + 1, 0, none⟩ = some (.string bn) := ((Ext.refl w3).alloc _).keep cb0
        replace cb1 : (w3.alloc (Obj.cells #[.string an, .int .i64 8, .int .i64 0, .int .i64 0, .string ⟨#[]⟩] 25)).cell? ⟨w.heap.size + 1, 1, none⟩ = some (.int .i64 bo) := ((Ext.refl w3).alloc _).keep cb1
        replace cb2 : (w3.alloc (Obj.cells #[.string an, .int .i64 8, .int .i64 0, .int .i64 0, .string ⟨#[]⟩] 25)).cell? ⟨w.heap.size + 1, 2, none⟩ = some (.int .i64 bk) := ((Ext.refl w3).alloc _).keep cb2
        replace cb3 : (w3.alloc (Obj.cells #[.string an, .int .i64 8, .int .i64 0, .int .i64 0, .string ⟨#[]⟩] 25)).cell? ⟨w.heap.size + 1, 3, none⟩ = some (.int .i64 bm) := ((Ext.refl w3).alloc _).keep cb3
        replace cb4 : (w3.alloc (Obj.cells #[.string an, .int .i64 8, .int .i64 0, .int .i64 0, .string ⟨#[]⟩] 25)).cell? ⟨w.heap.size + 1, 4, none⟩ = some (.string bz) := ((Ext.refl w3).alloc _).keep cb4
        replace ca0 := ExtBy.cell (w := (w3.alloc (Obj.cells #[.string an, .int .i64 8, .int .i64 0, .int .i64 0, .string ⟨#[]⟩] 25))) (a := ⟨w.heap.size, 0, none⟩) (v := .string an) ca0
        replace ca1 := ExtBy.cell (w := (w3.alloc (Obj.cells #[.string an, .int .i64 8, .int .i64 0, .int .i64 0, .string ⟨#[]⟩] 25))) (a := ⟨w.heap.size, 1, none⟩) (v := .int .i64 ao) ca1
        replace ca2 := ExtBy.cell (w := (w3.alloc (Obj.cells #[.string an, .int .i64 8, .int .i64 0, .int .i64 0, .string ⟨#[]⟩] 25))) (a := ⟨w.heap.size, 2, none⟩) (v := .int .i64 ak) ca2
        replace ca3 := ExtBy.cell (w := (w3.alloc (Obj.cells #[.string an, .int .i64 8, .int .i64 0, .int .i64 0, .string ⟨#[]⟩] 25))) (a := ⟨w.heap.size, 3, none⟩) (v := .int .i64 am) ca3
        replace ca4 := ExtBy.cell (w := (w3.alloc (Obj.cells #[.string an, .int .i64 8, .int .i64 0, .int .i64 0, .string ⟨#[]⟩] 25))) (a := ⟨w.heap.size, 4, none⟩) (v := .string az) ca4
        replace cb0 := ExtBy.cell (w := (w3.alloc (Obj.cells #[.string an, .int .i64 8, .int .i64 0, .int .i64 0, .string ⟨#[]⟩] 25))) (a := ⟨w.heap.size + 1, 0, none⟩) (v := .string bn) cb0
        replace cb1 := ExtBy.cell (w := (w3.alloc (Obj.cells #[.string an, .int .i64 8, .int .i64 0, .int .i64 0, .string ⟨#[]⟩] 25))) (a := ⟨w.heap.size + 1, 1, none⟩) (v := .int .i64 bo) cb1
        replace cb2 := ExtBy.cell (w := (w3.alloc (Obj.cells #[.string an, .int .i64 8, .int .i64 0, .int .i64 0, .string ⟨#[]⟩] 25))) (a := ⟨w.heap.size + 1, 2, none⟩) (v := .int .i64 bk) cb2
        replace cb3 := ExtBy.cell (w := (w3.alloc (Obj.cells #[.string an, .int .i64 8, .int .i64 0, .int .i64 0, .string ⟨#[]⟩] 25))) (a := ⟨w.heap.size + 1, 3, none⟩) (v := .int .i64 bm) cb3
        replace cb4 := ExtBy.cell (w := (w3.alloc (Obj.cells #[.string an, .int .i64 8, .int .i64 0, .int .i64 0, .string ⟨#[]⟩] 25))) (a := ⟨w.heap.size + 1, 4, none⟩) (v := .string bz) cb4
        replace ci0 := ExtBy.cell (w := (w3.alloc (Obj.cells #[.string an, .int .i64 8, .int .i64 0, .int .i64 0, .string ⟨#[]⟩] 25))) (a := ⟨w3.heap.size, 0, none⟩) (v := .string an) ci0
        replace ci1 := ExtBy.cell (w := (w3.alloc (Obj.cells #[.string an, .int .i64 8, .int .i64 0, .int .i64 0, .string ⟨#[]⟩] 25))) (a := ⟨w3.heap.size, 1, none⟩) (v := .int .i64 8) ci1
        replace ci2 := ExtBy.cell (w := (w3.alloc (Obj.cells #[.string an, .int .i64 8, .int .i64 0, .int .i64 0, .string ⟨#[]⟩] 25))) (a := ⟨w3.heap.size, 2, none⟩) (v := .int .i64 0) ci2
        replace ci3 := ExtBy.cell (w := (w3.alloc (Obj.cells #[.string an, .int .i64 8, .int .i64 0, .int .i64 0, .string ⟨#[]⟩] 25))) (a := ⟨w3.heap.size, 3, none⟩) (v := .int .i64 0) ci3
        replace ci4 := ExtBy.cell (w := (w3.alloc (Obj.cells #[.string an, .int .i64 8, .int .i64 0, .int .i64 0, .string ⟨#[]⟩] 25))) (a := ⟨w3.heap.size, 4, none⟩) (v := .string ⟨#[]⟩) ci4
        refine wp_region_quiet_ext (by kernel_rfl) (by kernel_rfl) ?_
        repeat (quiet_step (((go_at_call 19; first | exact Calls.extOf (implies_any ⟨_, _, _, _, _⟩ ⟨_, _, _, _, _⟩ _) (congrArg Value.bool C1.out) | exact Calls.extOf (implies_any ⟨_, _, _, _, _⟩ ⟨_, _, _, _, _⟩ _) (congrArg Value.bool C2.out) | exact Calls.extOf (implies_any ⟨_, _, _, _, _⟩ ⟨_, _, _, _, _⟩ _) (congrArg Value.bool C3.out)))))
        refine wpQuiet_nil ?_
        intro _ hw'
        obtain ⟨pe, hw''⟩ := hw'
        subst hw''
        obtain ⟨wq, hwq⟩ := pe
        dsimp only
        have hxq := hid hwq
        clear hwq
        go_wp2
        go_ret
        refine ⟨rfl, ?_⟩
        (repeat (first | exact Ext.refl _ | refine Ext.alloc ?_ _ | refine Ext.drewN ?_ _ | refine Ext.drew ?_ | refine Ext.trans ?_ (Hid.out (by assumption))))
end Go.Proofs.Ytclmbonippjhoaa
