/- What is asked to be a value implies just those tests of its attribute that the value is as: the statement's walk. -/
import Derived.Test.YtclmbonippjhoaaLThere
set_option linter.unusedVariables false
set_option linter.unusedSimpArgs false
namespace Go.Proofs.Ytclmbonippjhoaa
open Go.RowKit

set_option maxRecDepth 100000 in
set_option maxHeartbeats 4000000 in
theorem exact06_any (vk vm : Int) (vz : ByteArray) (b : T) (w : World) :
    Calls Try.prog 3 #[.agg #[.int .i64 vk, .int .i64 vm, .string vz], .agg #[.string b.nm, .int .i64 b.op, .int .i64 b.k, .int .i64 b.n, .string b.s]] w fun e w' => e = .returned (.bool true) ∧ Ext w w' := by
  obtain ⟨bn, bo, bk, bm, bz⟩ := b
  dsimp only
  go_enter Try.func3, Try.ntmps3
  go_wp2_with fail
  refine (awake06_any _).mono ?_
  rintro e w1 ⟨rfl, hb⟩
  have BA1 := hid (hb.blk (b := w.heap.size) (o := (Obj.cells #[.int .i64 vk, .int .i64 vm, .string vz] 23)) (by (repeat (first | (refine heap_new ?_; (simp; done)) | refine heap_old (by first | (simp; done) | (simp; omega)) ?_))))
  have BB1 := hid (hb.blk (b := w.heap.size + 1) (o := (Obj.cells #[.string bn, .int .i64 bo, .int .i64 bk, .int .i64 bm, .string bz] 25)) (by (repeat (first | (refine heap_new ?_; (simp; done)) | refine heap_old (by first | (simp; done) | (simp; omega)) ?_))))
  have hx1 := hid (Ext.trans (((Ext.refl w).alloc _).alloc _) hb)
  clear hb
  have ca0 : w1.cell? ⟨w.heap.size, 0, none⟩ = some (.int .i64 vk) := cellH BA1.out rfl
  have ca1 : w1.cell? ⟨w.heap.size, 1, none⟩ = some (.int .i64 vm) := cellH BA1.out rfl
  have ca2 : w1.cell? ⟨w.heap.size, 2, none⟩ = some (.string vz) := cellH BA1.out rfl
  have caz : w.heap.size < w1.heap.size := lt_of_cell ca0
  have cb0 : w1.cell? ⟨w.heap.size + 1, 0, none⟩ = some (.string bn) := cellH BB1.out rfl
  have cb1 : w1.cell? ⟨w.heap.size + 1, 1, none⟩ = some (.int .i64 bo) := cellH BB1.out rfl
  have cb2 : w1.cell? ⟨w.heap.size + 1, 2, none⟩ = some (.int .i64 bk) := cellH BB1.out rfl
  have cb3 : w1.cell? ⟨w.heap.size + 1, 3, none⟩ = some (.int .i64 bm) := cellH BB1.out rfl
  have cb4 : w1.cell? ⟨w.heap.size + 1, 4, none⟩ = some (.string bz) := cellH BB1.out rfl
  have cbz : w.heap.size + 1 < w1.heap.size := lt_of_cell cb0
  go_wp2_with fail
  refine (few05_any _ _ _ [⟨bn, bo, bk, bm, bz⟩] _ (sl_of _ T.wid rfl (by simp) (t := 25) (fr := (0, 0)) (by (repeat (first | (refine heap_new ?_; (simp; done)) | refine heap_old (by first | (simp; done) | (simp; omega)) ?_))) rfl)).mono ?_
  rintro e w2 ⟨f1, rfl, hf, hb⟩
  have hb := Ext.trans ((Ext.refl w1).alloc _) hb
  have BA2 := hid (hb.blk BA1.out)
  have BB2 := hid (hb.blk BB1.out)
  have hx2 := hid hb
  clear hb hf
  clear ca0 ca1 ca2 caz
  clear cb0 cb1 cb2 cb3 cb4 cbz
  have ca0 : w2.cell? ⟨w.heap.size, 0, none⟩ = some (.int .i64 vk) := cellH BA2.out rfl
  have ca1 : w2.cell? ⟨w.heap.size, 1, none⟩ = some (.int .i64 vm) := cellH BA2.out rfl
  have ca2 : w2.cell? ⟨w.heap.size, 2, none⟩ = some (.string vz) := cellH BA2.out rfl
  have caz : w.heap.size < w2.heap.size := lt_of_cell ca0
  have cb0 : w2.cell? ⟨w.heap.size + 1, 0, none⟩ = some (.string bn) := cellH BB2.out rfl
  have cb1 : w2.cell? ⟨w.heap.size + 1, 1, none⟩ = some (.int .i64 bo) := cellH BB2.out rfl
  have cb2 : w2.cell? ⟨w.heap.size + 1, 2, none⟩ = some (.int .i64 bk) := cellH BB2.out rfl
  have cb3 : w2.cell? ⟨w.heap.size + 1, 3, none⟩ = some (.int .i64 bm) := cellH BB2.out rfl
  have cb4 : w2.cell? ⟨w.heap.size + 1, 4, none⟩ = some (.string bz) := cellH BB2.out rfl
  have cbz : w.heap.size + 1 < w2.heap.size := lt_of_cell cb0
  cases f1
  · skip
    go_wp2
    go_ret
    refine ⟨rfl, ?_⟩
    (repeat (first | exact Ext.refl _ | refine Ext.alloc ?_ _ | refine Ext.drewN ?_ _ | refine Ext.drew ?_ | refine Ext.trans ?_ (Hid.out (by assumption))))
  by_cases h100 : vz.size ≤ 100
  · have h100i : (vz.size : Int) ≤ 100 := by omega
    go_wp2_with fail
    refine (check_any _ _ _ _).mono ?_
    rintro e w3 ⟨rfl, hb⟩
    have BA3 := hid (hb.blk BA2.out)
    have BB3 := hid (hb.blk BB2.out)
    have hx3 := hid hb
    clear hb
    clear ca0 ca1 ca2 caz
    clear cb0 cb1 cb2 cb3 cb4 cbz
    have ca0 : w3.cell? ⟨w.heap.size, 0, none⟩ = some (.int .i64 vk) := cellH BA3.out rfl
    have ca1 : w3.cell? ⟨w.heap.size, 1, none⟩ = some (.int .i64 vm) := cellH BA3.out rfl
    have ca2 : w3.cell? ⟨w.heap.size, 2, none⟩ = some (.string vz) := cellH BA3.out rfl
    have caz : w.heap.size < w3.heap.size := lt_of_cell ca0
    have cb0 : w3.cell? ⟨w.heap.size + 1, 0, none⟩ = some (.string bn) := cellH BB3.out rfl
    have cb1 : w3.cell? ⟨w.heap.size + 1, 1, none⟩ = some (.int .i64 bo) := cellH BB3.out rfl
    have cb2 : w3.cell? ⟨w.heap.size + 1, 2, none⟩ = some (.int .i64 bk) := cellH BB3.out rfl
    have cb3 : w3.cell? ⟨w.heap.size + 1, 3, none⟩ = some (.int .i64 bm) := cellH BB3.out rfl
    have cb4 : w3.cell? ⟨w.heap.size + 1, 4, none⟩ = some (.string bz) := cellH BB3.out rfl
    have cbz : w.heap.size + 1 < w3.heap.size := lt_of_cell cb0
    have hv : vChk vk vm vz.toList = 0 ∨ vChk vk vm vz.toList = 10 := by unfold vChk; split <;> simp
    rcases hv with hv | hv
    · rw [hv]
      clear hv
      go_wp2_with fail
      refine (one_any ⟨bn, bo, bk, bm, bz⟩ _).mono ?_
      rintro e w4 ⟨rfl, hb⟩
      have BA4 := hid (hb.blk BA3.out)
      have BB4 := hid (hb.blk BB3.out)
      have hx4 := hid hb
      clear hb
      clear ca0 ca1 ca2 caz
      clear cb0 cb1 cb2 cb3 cb4 cbz
      have ca0 : w4.cell? ⟨w.heap.size, 0, none⟩ = some (.int .i64 vk) := cellH BA4.out rfl
      have ca1 : w4.cell? ⟨w.heap.size, 1, none⟩ = some (.int .i64 vm) := cellH BA4.out rfl
      have ca2 : w4.cell? ⟨w.heap.size, 2, none⟩ = some (.string vz) := cellH BA4.out rfl
      have caz : w.heap.size < w4.heap.size := lt_of_cell ca0
      have cb0 : w4.cell? ⟨w.heap.size + 1, 0, none⟩ = some (.string bn) := cellH BB4.out rfl
      have cb1 : w4.cell? ⟨w.heap.size + 1, 1, none⟩ = some (.int .i64 bo) := cellH BB4.out rfl
      have cb2 : w4.cell? ⟨w.heap.size + 1, 2, none⟩ = some (.int .i64 bk) := cellH BB4.out rfl
      have cb3 : w4.cell? ⟨w.heap.size + 1, 3, none⟩ = some (.int .i64 bm) := cellH BB4.out rfl
      have cb4 : w4.cell? ⟨w.heap.size + 1, 4, none⟩ = some (.string bz) := cellH BB4.out rfl
      have cbz : w.heap.size + 1 < w4.heap.size := lt_of_cell cb0
      cases hck : oneB ⟨bn, bo, bk, bm, bz⟩ with
      | false =>
        have h0 : errF false = 50 := rfl
        rw [h0]
        clear h0 hck
        go_wp2
        go_ret
        refine ⟨rfl, ?_⟩
        (repeat (first | exact Ext.refl _ | refine Ext.alloc ?_ _ | refine Ext.drewN ?_ _ | refine Ext.drew ?_ | refine Ext.trans ?_ (Hid.out (by assumption))))
      | true =>
        have h0 : errF true = 0 := rfl
        rw [h0]
        clear h0
        have hop : 1 ≤ bo ∧ bo ≤ 8 := (one_ok hck).op
        obtain ⟨v, hv⟩ : ∃ v, v = isV bo (T.v ⟨bn, bo, bk, bm, bz⟩) ⟨vk, vm, vz.toList⟩ := ⟨_, rfl⟩
        have C2 : Hid (isV bo (T.v ⟨bn, bo, bk, bm, bz⟩) ⟨vk, vm, vz.toList⟩ = v) := hv.symm
        have C1 : Hid (impT (T.ts ⟨bn, 1, vk, vm, vz⟩) (T.ts ⟨bn, bo, bk, bm, bz⟩) = v) := (imp_exact (a := T.ts ⟨bn, 1, vk, vm, vz⟩) (b := T.ts ⟨bn, bo, bk, bm, bz⟩) rfl rfl hop).trans hv.symm
        clear hck hop hv
        cases v
        · go_wp2_with fail
          have ci0 : (w4.alloc (Obj.cells #[.string bn, .int .i64 1, .int .i64 vk, .int .i64 vm, .string vz] 25)).cell? ⟨w4.heap.size, 0, none⟩ = some (.string bn) := cellH (heap_alloc_new _ _) rfl
          have ci1 : (w4.alloc (Obj.cells #[.string bn, .int .i64 1, .int .i64 vk, .int .i64 vm, .string vz] 25)).cell? ⟨w4.heap.size, 1, none⟩ = some (.int .i64 1) := cellH (heap_alloc_new _ _) rfl
          have ci2 : (w4.alloc (Obj.cells #[.string bn, .int .i64 1, .int .i64 vk, .int .i64 vm, .string vz] 25)).cell? ⟨w4.heap.size, 2, none⟩ = some (.int .i64 vk) := cellH (heap_alloc_new _ _) rfl
          have ci3 : (w4.alloc (Obj.cells #[.string bn, .int .i64 1, .int .i64 vk, .int .i64 vm, .string vz] 25)).cell? ⟨w4.heap.size, 3, none⟩ = some (.int .i64 vm) := cellH (heap_alloc_new _ _) rfl
          have ci4 : (w4.alloc (Obj.cells #[.string bn, .int .i64 1, .int .i64 vk, .int .i64 vm, .string vz] 25)).cell? ⟨w4.heap.size, 4, none⟩ = some (.string vz) := cellH (heap_alloc_new _ _) rfl
          have ciz : w4.heap.size < (w4.alloc (Obj.cells #[.string bn, .int .i64 1, .int .i64 vk, .int .i64 vm, .string vz] 25)).heap.size := lt_of_cell ci0
          replace ca0 : (w4.alloc (Obj.cells #[.string bn, .int .i64 1, .int .i64 vk, .int .i64 vm, .string vz] 25)).cell? ⟨w.heap.size, 0, none⟩ = some (.int .i64 vk) := ((Ext.refl w4).alloc _).keep ca0
          replace ca1 : (w4.alloc (Obj.cells #[.string bn, .int .i64 1, .int .i64 vk, .int .i64 vm, .string vz] 25)).cell? ⟨w.heap.size, 1, none⟩ = some (.int .i64 vm) := ((Ext.refl w4).alloc _).keep ca1
          replace ca2 : (w4.alloc (Obj.cells #[.string bn, .int .i64 1, .int .i64 vk, .int .i64 vm, .string vz] 25)).cell? ⟨w.heap.size, 2, none⟩ = some (.string vz) := ((Ext.refl w4).alloc _).keep ca2
          replace cb0 : (w4.alloc (Obj.cells #[.string bn, .int .i64 1, .int .i64 vk, .int .i64 vm, .string vz] 25)).cell? ⟨w.heap.size + 1, 0, none⟩ = some (.string bn) := ((Ext.refl w4).alloc _).keep cb0
          replace cb1 : (w4.alloc (Obj.cells #[.string bn, .int .i64 1, .int .i64 vk, .int .i64 vm, .string vz] 25)).cell? ⟨w.heap.size + 1, 1, none⟩ = some (.int .i64 bo) := ((Ext.refl w4).alloc _).keep cb1
          replace cb2 : (w4.alloc (Obj.cells #[.string bn, .int .i64 1, .int .i64 vk, .int .i64 vm, .string vz] 25)).cell? ⟨w.heap.size + 1, 2, none⟩ = some (.int .i64 bk) := ((Ext.refl w4).alloc _).keep cb2
          replace cb3 : (w4.alloc (Obj.cells #[.string bn, .int .i64 1, .int .i64 vk, .int .i64 vm, .string vz] 25)).cell? ⟨w.heap.size + 1, 3, none⟩ = some (.int .i64 bm) := ((Ext.refl w4).alloc _).keep cb3
          replace cb4 : (w4.alloc (Obj.cells #[.string bn, .int .i64 1, .int .i64 vk, .int .i64 vm, .string vz] 25)).cell? ⟨w.heap.size + 1, 4, none⟩ = some (.string bz) := ((Ext.refl w4).alloc _).keep cb4
          replace ca0 := ExtBy.cell (w := (w4.alloc (Obj.cells #[.string bn, .int .i64 1, .int .i64 vk, .int .i64 vm, .string vz] 25))) (a := ⟨w.heap.size, 0, none⟩) (v := .int .i64 vk) ca0
          replace ca1 := ExtBy.cell (w := (w4.alloc (Obj.cells #[.string bn, .int .i64 1, .int .i64 vk, .int .i64 vm, .string vz] 25))) (a := ⟨w.heap.size, 1, none⟩) (v := .int .i64 vm) ca1
          replace ca2 := ExtBy.cell (w := (w4.alloc (Obj.cells #[.string bn, .int .i64 1, .int .i64 vk, .int .i64 vm, .string vz] 25))) (a := ⟨w.heap.size, 2, none⟩) (v := .string vz) ca2
          replace cb0 := ExtBy.cell (w := (w4.alloc (Obj.cells #[.string bn, .int .i64 1, .int .i64 vk, .int .i64 vm, .string vz] 25))) (a := ⟨w.heap.size + 1, 0, none⟩) (v := .string bn) cb0
          replace cb1 := ExtBy.cell (w := (w4.alloc (Obj.cells #[.string bn, .int .i64 1, .int .i64 vk, .int .i64 vm, .string vz] 25))) (a := ⟨w.heap.size + 1, 1, none⟩) (v := .int .i64 bo) cb1
          replace cb2 := ExtBy.cell (w := (w4.alloc (Obj.cells #[.string bn, .int .i64 1, .int .i64 vk, .int .i64 vm, .string vz] 25))) (a := ⟨w.heap.size + 1, 2, none⟩) (v := .int .i64 bk) cb2
          replace cb3 := ExtBy.cell (w := (w4.alloc (Obj.cells #[.string bn, .int .i64 1, .int .i64 vk, .int .i64 vm, .string vz] 25))) (a := ⟨w.heap.size + 1, 3, none⟩) (v := .int .i64 bm) cb3
          replace cb4 := ExtBy.cell (w := (w4.alloc (Obj.cells #[.string bn, .int .i64 1, .int .i64 vk, .int .i64 vm, .string vz] 25))) (a := ⟨w.heap.size + 1, 4, none⟩) (v := .string bz) cb4
          replace ci0 := ExtBy.cell (w := (w4.alloc (Obj.cells #[.string bn, .int .i64 1, .int .i64 vk, .int .i64 vm, .string vz] 25))) (a := ⟨w4.heap.size, 0, none⟩) (v := .string bn) ci0
          replace ci1 := ExtBy.cell (w := (w4.alloc (Obj.cells #[.string bn, .int .i64 1, .int .i64 vk, .int .i64 vm, .string vz] 25))) (a := ⟨w4.heap.size, 1, none⟩) (v := .int .i64 1) ci1
          replace ci2 := ExtBy.cell (w := (w4.alloc (Obj.cells #[.string bn, .int .i64 1, .int .i64 vk, .int .i64 vm, .string vz] 25))) (a := ⟨w4.heap.size, 2, none⟩) (v := .int .i64 vk) ci2
          replace ci3 := ExtBy.cell (w := (w4.alloc (Obj.cells #[.string bn, .int .i64 1, .int .i64 vk, .int .i64 vm, .string vz] 25))) (a := ⟨w4.heap.size, 3, none⟩) (v := .int .i64 vm) ci3
          replace ci4 := ExtBy.cell (w := (w4.alloc (Obj.cells #[.string bn, .int .i64 1, .int .i64 vk, .int .i64 vm, .string vz] 25))) (a := ⟨w4.heap.size, 4, none⟩) (v := .string vz) ci4
          refine wp_region_quiet_ext (by kernel_rfl) (by kernel_rfl) ?_
          repeat (quiet_step ((first | (go_at_call 19; exact Calls.extOf (implies_any ⟨_, _, _, _, _⟩ ⟨_, _, _, _, _⟩ _) (congrArg Value.bool C1.out)) | (go_at_call 20; exact Calls.extOf (is_any ⟨_, _, _, _, _⟩ _ _ _ _) (congrArg Value.bool C2.out)))))
          refine wpQuiet_nil ?_
          intro _ hw'
          obtain ⟨pe, hw''⟩ := hw'
          subst hw''
          obtain ⟨wq, hwq⟩ := pe
          dsimp only
          have hxq := hid hwq
          clear hwq
          go_wp2
          go_ret
          refine ⟨rfl, ?_⟩
          (repeat (first | exact Ext.refl _ | refine Ext.alloc ?_ _ | refine Ext.drewN ?_ _ | refine Ext.drew ?_ | refine Ext.trans ?_ (Hid.out (by assumption))))
        · go_wp2_with fail
          have ci0 : (w4.alloc (Obj.cells #[.string bn, .int .i64 1, .int .i64 vk, .int .i64 vm, .string vz] 25)).cell? ⟨w4.heap.size, 0, none⟩ = some (.string bn) := cellH (heap_alloc_new _ _) rfl
          have ci1 : (w4.alloc (Obj.cells #[.string bn, .int .i64 1, .int .i64 vk, .int .i64 vm, .string vz] 25)).cell? ⟨w4.heap.size, 1, none⟩ = some (.int .i64 1) := cellH (heap_alloc_new _ _) rfl
          have ci2 : (w4.alloc (Obj.cells #[.string bn, .int .i64 1, .int .i64 vk, .int .i64 vm, .string vz] 25)).cell? ⟨w4.heap.size, 2, none⟩ = some (.int .i64 vk) := cellH (heap_alloc_new _ _) rfl
          have ci3 : (w4.alloc (Obj.cells #[.string bn, .int .i64 1, .int .i64 vk, .int .i64 vm, .string vz] 25)).cell? ⟨w4.heap.size, 3, none⟩ = some (.int .i64 vm) := cellH (heap_alloc_new _ _) rfl
          have ci4 : (w4.alloc (Obj.cells #[.string bn, .int .i64 1, .int .i64 vk, .int .i64 vm, .string vz] 25)).cell? ⟨w4.heap.size, 4, none⟩ = some (.string vz) := cellH (heap_alloc_new _ _) rfl
          have ciz : w4.heap.size < (w4.alloc (Obj.cells #[.string bn, .int .i64 1, .int .i64 vk, .int .i64 vm, .string vz] 25)).heap.size := lt_of_cell ci0
          replace ca0 : (w4.alloc (Obj.cells #[.string bn, .int .i64 1, .int .i64 vk, .int .i64 vm, .string vz] 25)).cell? ⟨w.heap.size, 0, none⟩ = some (.int .i64 vk) := ((Ext.refl w4).alloc _).keep ca0
          replace ca1 : (w4.alloc (Obj.cells #[.string bn, .int .i64 1, .int .i64 vk, .int .i64 vm, .string vz] 25)).cell? ⟨w.heap.size, 1, none⟩ = some (.int .i64 vm) := ((Ext.refl w4).alloc _).keep ca1
          replace ca2 : (w4.alloc (Obj.cells #[.string bn, .int .i64 1, .int .i64 vk, .int .i64 vm, .string vz] 25)).cell? ⟨w.heap.size, 2, none⟩ = some (.string vz) := ((Ext.refl w4).alloc _).keep ca2
          replace cb0 : (w4.alloc (Obj.cells #[.string bn, .int .i64 1, .int .i64 vk, .int .i64 vm, .string vz] 25)).cell? ⟨w.heap.size + 1, 0, none⟩ = some (.string bn) := ((Ext.refl w4).alloc _).keep cb0
          replace cb1 : (w4.alloc (Obj.cells #[.string bn, .int .i64 1, .int .i64 vk, .int .i64 vm, .string vz] 25)).cell? ⟨w.heap.size + 1, 1, none⟩ = some (.int .i64 bo) := ((Ext.refl w4).alloc _).keep cb1
          replace cb2 : (w4.alloc (Obj.cells #[.string bn, .int .i64 1, .int .i64 vk, .int .i64 vm, .string vz] 25)).cell? ⟨w.heap.size + 1, 2, none⟩ = some (.int .i64 bk) := ((Ext.refl w4).alloc _).keep cb2
          replace cb3 : (w4.alloc (Obj.cells #[.string bn, .int .i64 1, .int .i64 vk, .int .i64 vm, .string vz] 25)).cell? ⟨w.heap.size + 1, 3, none⟩ = some (.int .i64 bm) := ((Ext.refl w4).alloc _).keep cb3
          replace cb4 : (w4.alloc (Obj.cells #[.string bn, .int .i64 1, .int .i64 vk, .int .i64 vm, .string vz] 25)).cell? ⟨w.heap.size + 1, 4, none⟩ = some (.string bz) := ((Ext.refl w4).alloc _).keep cb4
          replace ca0 := ExtBy.cell (w := (w4.alloc (Obj.cells #[.string bn, .int .i64 1, .int .i64 vk, .int .i64 vm, .string vz] 25))) (a := ⟨w.heap.size, 0, none⟩) (v := .int .i64 vk) ca0
          replace ca1 := ExtBy.cell (w := (w4.alloc (Obj.cells #[.string bn, .int .i64 1, .int .i64 vk, .int .i64 vm, .string vz] 25))) (a := ⟨w.heap.size, 1, none⟩) (v := .int .i64 vm) ca1
          replace ca2 := ExtBy.cell (w := (w4.alloc (Obj.cells #[.string bn, .int .i64 1, .int .i64 vk, .int .i64 vm, .string vz] 25))) (a := ⟨w.heap.size, 2, none⟩) (v := .string vz) ca2
          replace cb0 := ExtBy.cell (w := (w4.alloc (Obj.cells #[.string bn, .int .i64 1, .int .i64 vk, .int .i64 vm, .string vz] 25))) (a := ⟨w.heap.size + 1, 0, none⟩) (v := .string bn) cb0
          replace cb1 := ExtBy.cell (w := (w4.alloc (Obj.cells #[.string bn, .int .i64 1, .int .i64 vk, .int .i64 vm, .string vz] 25))) (a := ⟨w.heap.size + 1, 1, none⟩) (v := .int .i64 bo) cb1
          replace cb2 := ExtBy.cell (w := (w4.alloc (Obj.cells #[.string bn, .int .i64 1, .int .i64 vk, .int .i64 vm, .string vz] 25))) (a := ⟨w.heap.size + 1, 2, none⟩) (v := .int .i64 bk) cb2
          replace cb3 := ExtBy.cell (w := (w4.alloc (Obj.cells #[.string bn, .int .i64 1, .int .i64 vk, .int .i64 vm, .string vz] 25))) (a := ⟨w.heap.size + 1, 3, none⟩) (v := .int .i64 bm) cb3
          replace cb4 := ExtBy.cell (w := (w4.alloc (Obj.cells #[.string bn, .int .i64 1, .int .i64 vk, .int .i64 vm, .string vz] 25))) (a := ⟨w.heap.size + 1, 4, none⟩) (v := .string bz) cb4
          replace ci0 := ExtBy.cell (w := (w4.alloc (Obj.cells #[.string bn, .int .i64 1, .int .i64 vk, .int .i64 vm, .string vz] 25))) (a := ⟨w4.heap.size, 0, none⟩) (v := .string bn) ci0
          replace ci1 := ExtBy.cell (w := (w4.alloc (Obj.cells #[.string bn, .int .i64 1, .int .i64 vk, .int .i64 vm, .string vz] 25))) (a := ⟨w4.heap.size, 1, none⟩) (v := .int .i64 1) ci1
          replace ci2 := ExtBy.cell (w := (w4.alloc (Obj.cells #[.string bn, .int .i64 1, .int .i64 vk, .int .i64 vm, .string vz] 25))) (a := ⟨w4.heap.size, 2, none⟩) (v := .int .i64 vk) ci2
          replace ci3 := ExtBy.cell (w := (w4.alloc (Obj.cells #[.string bn, .int .i64 1, .int .i64 vk, .int .i64 vm, .string vz] 25))) (a := ⟨w4.heap.size, 3, none⟩) (v := .int .i64 vm) ci3
          replace ci4 := ExtBy.cell (w := (w4.alloc (Obj.cells #[.string bn, .int .i64 1, .int .i64 vk, .int .i64 vm, .string vz] 25))) (a := ⟨w4.heap.size, 4, none⟩) (v := .string vz) ci4
          refine wp_region_quiet_ext (by kernel_rfl) (by kernel_rfl) ?_
          repeat (quiet_step ((first | (go_at_call 19; exact Calls.extOf (implies_any ⟨_, _, _, _, _⟩ ⟨_, _, _, _, _⟩ _) (congrArg Value.bool C1.out)) | (go_at_call 20; exact Calls.extOf (is_any ⟨_, _, _, _, _⟩ _ _ _ _) (congrArg Value.bool C2.out)))))
          refine wpQuiet_nil ?_
          intro _ hw'
          obtain ⟨pe, hw''⟩ := hw'
          subst hw''
          obtain ⟨wq, hwq⟩ := pe
          dsimp only
          have hxq := hid hwq
          clear hwq
          go_wp2
          go_ret
          refine ⟨rfl, ?_⟩
          (repeat (first | exact Ext.refl _ | refine Ext.alloc ?_ _ | refine Ext.drewN ?_ _ | refine Ext.drew ?_ | refine Ext.trans ?_ (Hid.out (by assumption))))
    · rw [hv]
      clear hv
      go_wp2
      go_ret
      refine ⟨rfl, ?_⟩
      (repeat (first | exact Ext.refl _ | refine Ext.alloc ?_ _ | refine Ext.drewN ?_ _ | refine Ext.drew ?_ | refine Ext.trans ?_ (Hid.out (by assumption))))
  · have h100i : (100 : Int) < (vz.size : Int) := by omega
    go_wp2
    go_ret
    refine ⟨rfl, ?_⟩
    (repeat (first | exact Ext.refl _ | refine Ext.alloc ?_ _ | refine Ext.drewN ?_ _ | refine Ext.drew ?_ | refine Ext.trans ?_ (Hid.out (by assumption))))
end Go.Proofs.Ytclmbonippjhoaa
