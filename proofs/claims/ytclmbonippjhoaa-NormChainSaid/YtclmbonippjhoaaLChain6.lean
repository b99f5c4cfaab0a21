/- Implying goes on from test to test, and the order is one: the statement's walk. -/
import Derived.Test.YtclmbonippjhoaaLThere
import Derived.Deep.DeepCutAuto
set_option linter.unusedVariables false
set_option linter.unusedSimpArgs false
namespace Go.Proofs.Ytclmbonippjhoaa
open Go.RowKit

theorem three_ok {a b c : T} (h : chkB [a, b, c] = true) : oneB a = true ∧ oneB b = true ∧ oneB c = true := by
  unfold chkB at h
  simpa using h
set_option maxRecDepth 100000 in
set_option maxHeartbeats 4000000 in

theorem chain06_any (a b c : T) (w : World) :
    Calls Try.prog 5 #[.agg #[.string a.nm, .int .i64 a.op, .int .i64 a.k, .int .i64 a.n, .string a.s], .agg #[.string b.nm, .int .i64 b.op, .int .i64 b.k, .int .i64 b.n, .string b.s], .agg #[.string c.nm, .int .i64 c.op, .int .i64 c.k, .int .i64 c.n, .string c.s]] w fun e w' => e = .returned (.bool true) ∧ Ext w w' := by
  go_enter Try.func5, Try.ntmps5
  go_wp2_with fail
  refine (awake06_any _).mono ?_
  rintro e w1 ⟨rfl, hb⟩
  have BA1 := hid (hb.blk (b := w.heap.size) (o := (Obj.cells #[.string a.nm, .int .i64 a.op, .int .i64 a.k, .int .i64 a.n, .string a.s] 25)) (by (repeat (first | (refine heap_new ?_; (simp; done)) | refine heap_old (by first | (simp; done) | (simp; omega)) ?_))))
  have BB1 := hid (hb.blk (b := w.heap.size + 1) (o := (Obj.cells #[.string b.nm, .int .i64 b.op, .int .i64 b.k, .int .i64 b.n, .string b.s] 25)) (by (repeat (first | (refine heap_new ?_; (simp; done)) | refine heap_old (by first | (simp; done) | (simp; omega)) ?_))))
  have BC1 := hid (hb.blk (b := w.heap.size + 1 + 1) (o := (Obj.cells #[.string c.nm, .int .i64 c.op, .int .i64 c.k, .int .i64 c.n, .string c.s] 25)) (by (repeat (first | (refine heap_new ?_; (simp; done)) | refine heap_old (by first | (simp; done) | (simp; omega)) ?_))))
  have hx1 := hid (Ext.trans ((((Ext.refl w).alloc _).alloc _).alloc _) hb)
  clear hb
  have ca0 : w1.cell? ⟨w.heap.size, 0, none⟩ = some (.string a.nm) := cellH BA1.out rfl
  have ca1 : w1.cell? ⟨w.heap.size, 1, none⟩ = some (.int .i64 a.op) := cellH BA1.out rfl
  have ca2 : w1.cell? ⟨w.heap.size, 2, none⟩ = some (.int .i64 a.k) := cellH BA1.out rfl
  have ca3 : w1.cell? ⟨w.heap.size, 3, none⟩ = some (.int .i64 a.n) := cellH BA1.out rfl
  have ca4 : w1.cell? ⟨w.heap.size, 4, none⟩ = some (.string a.s) := cellH BA1.out rfl
  have caz : w.heap.size < w1.heap.size := lt_of_cell ca0
  have cb0 : w1.cell? ⟨w.heap.size + 1, 0, none⟩ = some (.string b.nm) := cellH BB1.out rfl
  have cb1 : w1.cell? ⟨w.heap.size + 1, 1, none⟩ = some (.int .i64 b.op) := cellH BB1.out rfl
  have cb2 : w1.cell? ⟨w.heap.size + 1, 2, none⟩ = some (.int .i64 b.k) := cellH BB1.out rfl
  have cb3 : w1.cell? ⟨w.heap.size + 1, 3, none⟩ = some (.int .i64 b.n) := cellH BB1.out rfl
  have cb4 : w1.cell? ⟨w.heap.size + 1, 4, none⟩ = some (.string b.s) := cellH BB1.out rfl
  have cbz : w.heap.size + 1 < w1.heap.size := lt_of_cell cb0
  have cc0 : w1.cell? ⟨w.heap.size + 1 + 1, 0, none⟩ = some (.string c.nm) := cellH BC1.out rfl
  have cc1 : w1.cell? ⟨w.heap.size + 1 + 1, 1, none⟩ = some (.int .i64 c.op) := cellH BC1.out rfl
  have cc2 : w1.cell? ⟨w.heap.size + 1 + 1, 2, none⟩ = some (.int .i64 c.k) := cellH BC1.out rfl
  have cc3 : w1.cell? ⟨w.heap.size + 1 + 1, 3, none⟩ = some (.int .i64 c.n) := cellH BC1.out rfl
  have cc4 : w1.cell? ⟨w.heap.size + 1 + 1, 4, none⟩ = some (.string c.s) := cellH BC1.out rfl
  have ccz : w.heap.size + 1 + 1 < w1.heap.size := lt_of_cell cc0
  go_wp2_with fail
  refine (few05_any _ _ _ [a, b, c] _ (sl_of _ T.wid rfl (by simp) (t := 25) (fr := (0, 0)) (by (repeat (first | (refine heap_new ?_; (simp; done)) | refine heap_old (by first | (simp; done) | (simp; omega)) ?_))) rfl)).mono ?_
  rintro e w2 ⟨f1, rfl, hf, hb⟩
  clear hf
  have hb := Ext.trans ((Ext.refl w1).alloc _) hb
  have BA2 := hid (hb.blk BA1.out)
  have BB2 := hid (hb.blk BB1.out)
  have BC2 := hid (hb.blk BC1.out)
  have hx2 := hid hb
  clear hb
  clear ca0 ca1 ca2 ca3 ca4 caz
  clear cb0 cb1 cb2 cb3 cb4 cbz
  clear cc0 cc1 cc2 cc3 cc4 ccz
  have ca0 : w2.cell? ⟨w.heap.size, 0, none⟩ = some (.string a.nm) := cellH BA2.out rfl
  have ca1 : w2.cell? ⟨w.heap.size, 1, none⟩ = some (.int .i64 a.op) := cellH BA2.out rfl
  have ca2 : w2.cell? ⟨w.heap.size, 2, none⟩ = some (.int .i64 a.k) := cellH BA2.out rfl
  have ca3 : w2.cell? ⟨w.heap.size, 3, none⟩ = some (.int .i64 a.n) := cellH BA2.out rfl
  have ca4 : w2.cell? ⟨w.heap.size, 4, none⟩ = some (.string a.s) := cellH BA2.out rfl
  have caz : w.heap.size < w2.heap.size := lt_of_cell ca0
  have cb0 : w2.cell? ⟨w.heap.size + 1, 0, none⟩ = some (.string b.nm) := cellH BB2.out rfl
  have cb1 : w2.cell? ⟨w.heap.size + 1, 1, none⟩ = some (.int .i64 b.op) := cellH BB2.out rfl
  have cb2 : w2.cell? ⟨w.heap.size + 1, 2, none⟩ = some (.int .i64 b.k) := cellH BB2.out rfl
  have cb3 : w2.cell? ⟨w.heap.size + 1, 3, none⟩ = some (.int .i64 b.n) := cellH BB2.out rfl
  have cb4 : w2.cell? ⟨w.heap.size + 1, 4, none⟩ = some (.string b.s) := cellH BB2.out rfl
  have cbz : w.heap.size + 1 < w2.heap.size := lt_of_cell cb0
  have cc0 : w2.cell? ⟨w.heap.size + 1 + 1, 0, none⟩ = some (.string c.nm) := cellH BC2.out rfl
  have cc1 : w2.cell? ⟨w.heap.size + 1 + 1, 1, none⟩ = some (.int .i64 c.op) := cellH BC2.out rfl
  have cc2 : w2.cell? ⟨w.heap.size + 1 + 1, 2, none⟩ = some (.int .i64 c.k) := cellH BC2.out rfl
  have cc3 : w2.cell? ⟨w.heap.size + 1 + 1, 3, none⟩ = some (.int .i64 c.n) := cellH BC2.out rfl
  have cc4 : w2.cell? ⟨w.heap.size + 1 + 1, 4, none⟩ = some (.string c.s) := cellH BC2.out rfl
  have ccz : w.heap.size + 1 + 1 < w2.heap.size := lt_of_cell cc0
  cases f1
  · skip
    go_wp2
    go_ret
    refine ⟨rfl, ?_⟩
    (repeat (first | exact Ext.refl _ | refine Ext.alloc ?_ _ | refine Ext.drewN ?_ _ | refine Ext.drew ?_ | refine Ext.trans ?_ (Hid.out (by assumption))))
  go_wp2_with fail
  refine (chkF_any _ _ _ [a, b, c] _ (sl_of _ T.wid rfl (by simp) (t := 25) (fr := (0, 0)) (by (repeat (first | (refine heap_new ?_; (simp; done)) | refine heap_old (by first | (simp; done) | (simp; omega)) ?_))) rfl)).mono ?_
  rintro e w3 ⟨rfl, hb⟩
  have hb := Ext.trans ((Ext.refl w2).alloc _) hb
  have BA3 := hid (hb.blk BA2.out)
  have BB3 := hid (hb.blk BB2.out)
  have BC3 := hid (hb.blk BC2.out)
  have hx3 := hid hb
  clear hb
  clear ca0 ca1 ca2 ca3 ca4 caz
  clear cb0 cb1 cb2 cb3 cb4 cbz
  clear cc0 cc1 cc2 cc3 cc4 ccz
  have ca0 : w3.cell? ⟨w.heap.size, 0, none⟩ = some (.string a.nm) := cellH BA3.out rfl
  have ca1 : w3.cell? ⟨w.heap.size, 1, none⟩ = some (.int .i64 a.op) := cellH BA3.out rfl
  have ca2 : w3.cell? ⟨w.heap.size, 2, none⟩ = some (.int .i64 a.k) := cellH BA3.out rfl
  have ca3 : w3.cell? ⟨w.heap.size, 3, none⟩ = some (.int .i64 a.n) := cellH BA3.out rfl
  have ca4 : w3.cell? ⟨w.heap.size, 4, none⟩ = some (.string a.s) := cellH BA3.out rfl
  have caz : w.heap.size < w3.heap.size := lt_of_cell ca0
  have cb0 : w3.cell? ⟨w.heap.size + 1, 0, none⟩ = some (.string b.nm) := cellH BB3.out rfl
  have cb1 : w3.cell? ⟨w.heap.size + 1, 1, none⟩ = some (.int .i64 b.op) := cellH BB3.out rfl
  have cb2 : w3.cell? ⟨w.heap.size + 1, 2, none⟩ = some (.int .i64 b.k) := cellH BB3.out rfl
  have cb3 : w3.cell? ⟨w.heap.size + 1, 3, none⟩ = some (.int .i64 b.n) := cellH BB3.out rfl
  have cb4 : w3.cell? ⟨w.heap.size + 1, 4, none⟩ = some (.string b.s) := cellH BB3.out rfl
  have cbz : w.heap.size + 1 < w3.heap.size := lt_of_cell cb0
  have cc0 : w3.cell? ⟨w.heap.size + 1 + 1, 0, none⟩ = some (.string c.nm) := cellH BC3.out rfl
  have cc1 : w3.cell? ⟨w.heap.size + 1 + 1, 1, none⟩ = some (.int .i64 c.op) := cellH BC3.out rfl
  have cc2 : w3.cell? ⟨w.heap.size + 1 + 1, 2, none⟩ = some (.int .i64 c.k) := cellH BC3.out rfl
  have cc3 : w3.cell? ⟨w.heap.size + 1 + 1, 3, none⟩ = some (.int .i64 c.n) := cellH BC3.out rfl
  have cc4 : w3.cell? ⟨w.heap.size + 1 + 1, 4, none⟩ = some (.string c.s) := cellH BC3.out rfl
  have ccz : w.heap.size + 1 + 1 < w3.heap.size := lt_of_cell cc0
  cases hck : chkB [a, b, c] with
  | false =>
    have h0 : errF false = 50 := rfl
    rw [h0]
    clear h0 hck
    go_wp2
    go_ret
    refine ⟨rfl, ?_⟩
    (repeat (first | exact Ext.refl _ | refine Ext.alloc ?_ _ | refine Ext.drewN ?_ _ | refine Ext.drew ?_ | refine Ext.trans ?_ (Hid.out (by assumption))))
  | true =>
    have h0 : errF true = 0 := rfl
    rw [h0]
    clear h0
    obtain ⟨oa, ob, oc⟩ := three_ok hck
    have HIM := hid (imp_trans (one_ok oa) (one_ok ob) (one_ok oc))
    have HAA := hid (imp_self (one_ok oa))
    have HN := hid (ordT_neg a.ts b.ts)
    have HZ := hid (ordT_zero a.ts b.ts)
    have HLE := hid (ordT_le_trans a.ts b.ts c.ts)
    have HR1 := hid (ordT_range a.ts b.ts)
    have HR2 := hid (ordT_range b.ts c.ts)
    clear hck oa ob oc
    go_upto_region 4 with (fail)
    go_cut [8] (fun v wx => v = .bool true ∧ Hid (Ext w3 wx))
    case first =>
      go_wp2_with fail
      refine (implies_any a b _).mono ?_
      rintro e w4 ⟨rfl, hb⟩
      have hb := hb
      have BA4 := hid (hb.blk BA3.out)
      have BB4 := hid (hb.blk BB3.out)
      have BC4 := hid (hb.blk BC3.out)
      have hx4 := hid hb
      clear hb
      clear ca0 ca1 ca2 ca3 ca4 caz
      clear cb0 cb1 cb2 cb3 cb4 cbz
      clear cc0 cc1 cc2 cc3 cc4 ccz
      have ca0 : w4.cell? ⟨w.heap.size, 0, none⟩ = some (.string a.nm) := cellH BA4.out rfl
      have ca1 : w4.cell? ⟨w.heap.size, 1, none⟩ = some (.int .i64 a.op) := cellH BA4.out rfl
      have ca2 : w4.cell? ⟨w.heap.size, 2, none⟩ = some (.int .i64 a.k) := cellH BA4.out rfl
      have ca3 : w4.cell? ⟨w.heap.size, 3, none⟩ = some (.int .i64 a.n) := cellH BA4.out rfl
      have ca4 : w4.cell? ⟨w.heap.size, 4, none⟩ = some (.string a.s) := cellH BA4.out rfl
      have caz : w.heap.size < w4.heap.size := lt_of_cell ca0
      have cb0 : w4.cell? ⟨w.heap.size + 1, 0, none⟩ = some (.string b.nm) := cellH BB4.out rfl
      have cb1 : w4.cell? ⟨w.heap.size + 1, 1, none⟩ = some (.int .i64 b.op) := cellH BB4.out rfl
      have cb2 : w4.cell? ⟨w.heap.size + 1, 2, none⟩ = some (.int .i64 b.k) := cellH BB4.out rfl
      have cb3 : w4.cell? ⟨w.heap.size + 1, 3, none⟩ = some (.int .i64 b.n) := cellH BB4.out rfl
      have cb4 : w4.cell? ⟨w.heap.size + 1, 4, none⟩ = some (.string b.s) := cellH BB4.out rfl
      have cbz : w.heap.size + 1 < w4.heap.size := lt_of_cell cb0
      have cc0 : w4.cell? ⟨w.heap.size + 1 + 1, 0, none⟩ = some (.string c.nm) := cellH BC4.out rfl
      have cc1 : w4.cell? ⟨w.heap.size + 1 + 1, 1, none⟩ = some (.int .i64 c.op) := cellH BC4.out rfl
      have cc2 : w4.cell? ⟨w.heap.size + 1 + 1, 2, none⟩ = some (.int .i64 c.k) := cellH BC4.out rfl
      have cc3 : w4.cell? ⟨w.heap.size + 1 + 1, 3, none⟩ = some (.int .i64 c.n) := cellH BC4.out rfl
      have cc4 : w4.cell? ⟨w.heap.size + 1 + 1, 4, none⟩ = some (.string c.s) := cellH BC4.out rfl
      have ccz : w.heap.size + 1 + 1 < w4.heap.size := lt_of_cell cc0
      cases h1 : impT a.ts b.ts with
      | false =>
        clear h1
        go_wp2_with fail
        go_meet
        exact ⟨rfl, (by (repeat (first | exact Ext.refl _ | refine Ext.alloc ?_ _ | refine Ext.drewN ?_ _ | refine Ext.drew ?_ | refine Ext.trans ?_ (Hid.out (by assumption)))))⟩
      | true =>
        have H1 := hid h1
        clear h1
        go_wp2_with fail
        refine (implies_any b c _).mono ?_
        rintro e w5 ⟨rfl, hb⟩
        have hb := hb
        have BA5 := hid (hb.blk BA4.out)
        have BB5 := hid (hb.blk BB4.out)
        have BC5 := hid (hb.blk BC4.out)
        have hx5 := hid hb
        clear hb
        clear ca0 ca1 ca2 ca3 ca4 caz
        clear cb0 cb1 cb2 cb3 cb4 cbz
        clear cc0 cc1 cc2 cc3 cc4 ccz
        have ca0 : w5.cell? ⟨w.heap.size, 0, none⟩ = some (.string a.nm) := cellH BA5.out rfl
        have ca1 : w5.cell? ⟨w.heap.size, 1, none⟩ = some (.int .i64 a.op) := cellH BA5.out rfl
        have ca2 : w5.cell? ⟨w.heap.size, 2, none⟩ = some (.int .i64 a.k) := cellH BA5.out rfl
        have ca3 : w5.cell? ⟨w.heap.size, 3, none⟩ = some (.int .i64 a.n) := cellH BA5.out rfl
        have ca4 : w5.cell? ⟨w.heap.size, 4, none⟩ = some (.string a.s) := cellH BA5.out rfl
        have caz : w.heap.size < w5.heap.size := lt_of_cell ca0
        have cb0 : w5.cell? ⟨w.heap.size + 1, 0, none⟩ = some (.string b.nm) := cellH BB5.out rfl
        have cb1 : w5.cell? ⟨w.heap.size + 1, 1, none⟩ = some (.int .i64 b.op) := cellH BB5.out rfl
        have cb2 : w5.cell? ⟨w.heap.size + 1, 2, none⟩ = some (.int .i64 b.k) := cellH BB5.out rfl
        have cb3 : w5.cell? ⟨w.heap.size + 1, 3, none⟩ = some (.int .i64 b.n) := cellH BB5.out rfl
        have cb4 : w5.cell? ⟨w.heap.size + 1, 4, none⟩ = some (.string b.s) := cellH BB5.out rfl
        have cbz : w.heap.size + 1 < w5.heap.size := lt_of_cell cb0
        have cc0 : w5.cell? ⟨w.heap.size + 1 + 1, 0, none⟩ = some (.string c.nm) := cellH BC5.out rfl
        have cc1 : w5.cell? ⟨w.heap.size + 1 + 1, 1, none⟩ = some (.int .i64 c.op) := cellH BC5.out rfl
        have cc2 : w5.cell? ⟨w.heap.size + 1 + 1, 2, none⟩ = some (.int .i64 c.k) := cellH BC5.out rfl
        have cc3 : w5.cell? ⟨w.heap.size + 1 + 1, 3, none⟩ = some (.int .i64 c.n) := cellH BC5.out rfl
        have cc4 : w5.cell? ⟨w.heap.size + 1 + 1, 4, none⟩ = some (.string c.s) := cellH BC5.out rfl
        have ccz : w.heap.size + 1 + 1 < w5.heap.size := lt_of_cell cc0
        cases h2 : impT b.ts c.ts with
        | false =>
          clear h2
          go_wp2_with fail
          go_meet
          exact ⟨rfl, (by (repeat (first | exact Ext.refl _ | refine Ext.alloc ?_ _ | refine Ext.drewN ?_ _ | refine Ext.drew ?_ | refine Ext.trans ?_ (Hid.out (by assumption)))))⟩
        | true =>
          have H3 := hid (HIM.out H1.out h2)
          clear h2
          go_wp2_with fail
          refine (implies_any a c _).mono ?_
          rintro e w6 ⟨rfl, hb⟩
          have hb := hb
          have BA6 := hid (hb.blk BA5.out)
          have BB6 := hid (hb.blk BB5.out)
          have BC6 := hid (hb.blk BC5.out)
          have hx6 := hid hb
          clear hb
          clear ca0 ca1 ca2 ca3 ca4 caz
          clear cb0 cb1 cb2 cb3 cb4 cbz
          clear cc0 cc1 cc2 cc3 cc4 ccz
          have ca0 : w6.cell? ⟨w.heap.size, 0, none⟩ = some (.string a.nm) := cellH BA6.out rfl
          have ca1 : w6.cell? ⟨w.heap.size, 1, none⟩ = some (.int .i64 a.op) := cellH BA6.out rfl
          have ca2 : w6.cell? ⟨w.heap.size, 2, none⟩ = some (.int .i64 a.k) := cellH BA6.out rfl
          have ca3 : w6.cell? ⟨w.heap.size, 3, none⟩ = some (.int .i64 a.n) := cellH BA6.out rfl
          have ca4 : w6.cell? ⟨w.heap.size, 4, none⟩ = some (.string a.s) := cellH BA6.out rfl
          have caz : w.heap.size < w6.heap.size := lt_of_cell ca0
          have cb0 : w6.cell? ⟨w.heap.size + 1, 0, none⟩ = some (.string b.nm) := cellH BB6.out rfl
          have cb1 : w6.cell? ⟨w.heap.size + 1, 1, none⟩ = some (.int .i64 b.op) := cellH BB6.out rfl
          have cb2 : w6.cell? ⟨w.heap.size + 1, 2, none⟩ = some (.int .i64 b.k) := cellH BB6.out rfl
          have cb3 : w6.cell? ⟨w.heap.size + 1, 3, none⟩ = some (.int .i64 b.n) := cellH BB6.out rfl
          have cb4 : w6.cell? ⟨w.heap.size + 1, 4, none⟩ = some (.string b.s) := cellH BB6.out rfl
          have cbz : w.heap.size + 1 < w6.heap.size := lt_of_cell cb0
          have cc0 : w6.cell? ⟨w.heap.size + 1 + 1, 0, none⟩ = some (.string c.nm) := cellH BC6.out rfl
          have cc1 : w6.cell? ⟨w.heap.size + 1 + 1, 1, none⟩ = some (.int .i64 c.op) := cellH BC6.out rfl
          have cc2 : w6.cell? ⟨w.heap.size + 1 + 1, 2, none⟩ = some (.int .i64 c.k) := cellH BC6.out rfl
          have cc3 : w6.cell? ⟨w.heap.size + 1 + 1, 3, none⟩ = some (.int .i64 c.n) := cellH BC6.out rfl
          have cc4 : w6.cell? ⟨w.heap.size + 1 + 1, 4, none⟩ = some (.string c.s) := cellH BC6.out rfl
          have ccz : w.heap.size + 1 + 1 < w6.heap.size := lt_of_cell cc0
          rw [H3.out]
          go_wp2_with fail
          go_meet
          exact ⟨rfl, (by (repeat (first | exact Ext.refl _ | refine Ext.alloc ?_ _ | refine Ext.drewN ?_ _ | refine Ext.drew ?_ | refine Ext.trans ?_ (Hid.out (by assumption)))))⟩
    case rest =>
      obtain ⟨rfl, hxc⟩ := hcut
      rename World => w6
      have BA6 := hid (hxc.out.blk BA3.out)
      have BB6 := hid (hxc.out.blk BB3.out)
      have BC6 := hid (hxc.out.blk BC3.out)
      clear ca0 ca1 ca2 ca3 ca4 caz
      clear cb0 cb1 cb2 cb3 cb4 cbz
      clear cc0 cc1 cc2 cc3 cc4 ccz
      have ca0 : w6.cell? ⟨w.heap.size, 0, none⟩ = some (.string a.nm) := cellH BA6.out rfl
      have ca1 : w6.cell? ⟨w.heap.size, 1, none⟩ = some (.int .i64 a.op) := cellH BA6.out rfl
      have ca2 : w6.cell? ⟨w.heap.size, 2, none⟩ = some (.int .i64 a.k) := cellH BA6.out rfl
      have ca3 : w6.cell? ⟨w.heap.size, 3, none⟩ = some (.int .i64 a.n) := cellH BA6.out rfl
      have ca4 : w6.cell? ⟨w.heap.size, 4, none⟩ = some (.string a.s) := cellH BA6.out rfl
      have caz : w.heap.size < w6.heap.size := lt_of_cell ca0
      have cb0 : w6.cell? ⟨w.heap.size + 1, 0, none⟩ = some (.string b.nm) := cellH BB6.out rfl
      have cb1 : w6.cell? ⟨w.heap.size + 1, 1, none⟩ = some (.int .i64 b.op) := cellH BB6.out rfl
      have cb2 : w6.cell? ⟨w.heap.size + 1, 2, none⟩ = some (.int .i64 b.k) := cellH BB6.out rfl
      have cb3 : w6.cell? ⟨w.heap.size + 1, 3, none⟩ = some (.int .i64 b.n) := cellH BB6.out rfl
      have cb4 : w6.cell? ⟨w.heap.size + 1, 4, none⟩ = some (.string b.s) := cellH BB6.out rfl
      have cbz : w.heap.size + 1 < w6.heap.size := lt_of_cell cb0
      have cc0 : w6.cell? ⟨w.heap.size + 1 + 1, 0, none⟩ = some (.string c.nm) := cellH BC6.out rfl
      have cc1 : w6.cell? ⟨w.heap.size + 1 + 1, 1, none⟩ = some (.int .i64 c.op) := cellH BC6.out rfl
      have cc2 : w6.cell? ⟨w.heap.size + 1 + 1, 2, none⟩ = some (.int .i64 c.k) := cellH BC6.out rfl
      have cc3 : w6.cell? ⟨w.heap.size + 1 + 1, 3, none⟩ = some (.int .i64 c.n) := cellH BC6.out rfl
      have cc4 : w6.cell? ⟨w.heap.size + 1 + 1, 4, none⟩ = some (.string c.s) := cellH BC6.out rfl
      have ccz : w.heap.size + 1 + 1 < w6.heap.size := lt_of_cell cc0
      go_wp2_with fail
      refine (order06_any a b _).mono ?_
      rintro e w7 ⟨rfl, hb⟩
      have hb := hb
      have BA7 := hid (hb.blk BA6.out)
      have BB7 := hid (hb.blk BB6.out)
      have BC7 := hid (hb.blk BC6.out)
      have hx7 := hid hb
      clear hb
      clear ca0 ca1 ca2 ca3 ca4 caz
      clear cb0 cb1 cb2 cb3 cb4 cbz
      clear cc0 cc1 cc2 cc3 cc4 ccz
      have ca0 : w7.cell? ⟨w.heap.size, 0, none⟩ = some (.string a.nm) := cellH BA7.out rfl
      have ca1 : w7.cell? ⟨w.heap.size, 1, none⟩ = some (.int .i64 a.op) := cellH BA7.out rfl
      have ca2 : w7.cell? ⟨w.heap.size, 2, none⟩ = some (.int .i64 a.k) := cellH BA7.out rfl
      have ca3 : w7.cell? ⟨w.heap.size, 3, none⟩ = some (.int .i64 a.n) := cellH BA7.out rfl
      have ca4 : w7.cell? ⟨w.heap.size, 4, none⟩ = some (.string a.s) := cellH BA7.out rfl
      have caz : w.heap.size < w7.heap.size := lt_of_cell ca0
      have cb0 : w7.cell? ⟨w.heap.size + 1, 0, none⟩ = some (.string b.nm) := cellH BB7.out rfl
      have cb1 : w7.cell? ⟨w.heap.size + 1, 1, none⟩ = some (.int .i64 b.op) := cellH BB7.out rfl
      have cb2 : w7.cell? ⟨w.heap.size + 1, 2, none⟩ = some (.int .i64 b.k) := cellH BB7.out rfl
      have cb3 : w7.cell? ⟨w.heap.size + 1, 3, none⟩ = some (.int .i64 b.n) := cellH BB7.out rfl
      have cb4 : w7.cell? ⟨w.heap.size + 1, 4, none⟩ = some (.string b.s) := cellH BB7.out rfl
      have cbz : w.heap.size + 1 < w7.heap.size := lt_of_cell cb0
      have cc0 : w7.cell? ⟨w.heap.size + 1 + 1, 0, none⟩ = some (.string c.nm) := cellH BC7.out rfl
      have cc1 : w7.cell? ⟨w.heap.size + 1 + 1, 1, none⟩ = some (.int .i64 c.op) := cellH BC7.out rfl
      have cc2 : w7.cell? ⟨w.heap.size + 1 + 1, 2, none⟩ = some (.int .i64 c.k) := cellH BC7.out rfl
      have cc3 : w7.cell? ⟨w.heap.size + 1 + 1, 3, none⟩ = some (.int .i64 c.n) := cellH BC7.out rfl
      have cc4 : w7.cell? ⟨w.heap.size + 1 + 1, 4, none⟩ = some (.string c.s) := cellH BC7.out rfl
      have ccz : w.heap.size + 1 + 1 < w7.heap.size := lt_of_cell cc0
      go_wp2_with fail
      refine (order06_any b c _).mono ?_
      rintro e w8 ⟨rfl, hb⟩
      have hb := hb
      have BA8 := hid (hb.blk BA7.out)
      have BB8 := hid (hb.blk BB7.out)
      have BC8 := hid (hb.blk BC7.out)
      have hx8 := hid hb
      clear hb
      clear ca0 ca1 ca2 ca3 ca4 caz
      clear cb0 cb1 cb2 cb3 cb4 cbz
      clear cc0 cc1 cc2 cc3 cc4 ccz
      have ca0 : w8.cell? ⟨w.heap.size, 0, none⟩ = some (.string a.nm) := cellH BA8.out rfl
      have ca1 : w8.cell? ⟨w.heap.size, 1, none⟩ = some (.int .i64 a.op) := cellH BA8.out rfl
      have ca2 : w8.cell? ⟨w.heap.size, 2, none⟩ = some (.int .i64 a.k) := cellH BA8.out rfl
      have ca3 : w8.cell? ⟨w.heap.size, 3, none⟩ = some (.int .i64 a.n) := cellH BA8.out rfl
      have ca4 : w8.cell? ⟨w.heap.size, 4, none⟩ = some (.string a.s) := cellH BA8.out rfl
      have caz : w.heap.size < w8.heap.size := lt_of_cell ca0
      have cb0 : w8.cell? ⟨w.heap.size + 1, 0, none⟩ = some (.string b.nm) := cellH BB8.out rfl
      have cb1 : w8.cell? ⟨w.heap.size + 1, 1, none⟩ = some (.int .i64 b.op) := cellH BB8.out rfl
      have cb2 : w8.cell? ⟨w.heap.size + 1, 2, none⟩ = some (.int .i64 b.k) := cellH BB8.out rfl
      have cb3 : w8.cell? ⟨w.heap.size + 1, 3, none⟩ = some (.int .i64 b.n) := cellH BB8.out rfl
      have cb4 : w8.cell? ⟨w.heap.size + 1, 4, none⟩ = some (.string b.s) := cellH BB8.out rfl
      have cbz : w.heap.size + 1 < w8.heap.size := lt_of_cell cb0
      have cc0 : w8.cell? ⟨w.heap.size + 1 + 1, 0, none⟩ = some (.string c.nm) := cellH BC8.out rfl
      have cc1 : w8.cell? ⟨w.heap.size + 1 + 1, 1, none⟩ = some (.int .i64 c.op) := cellH BC8.out rfl
      have cc2 : w8.cell? ⟨w.heap.size + 1 + 1, 2, none⟩ = some (.int .i64 c.k) := cellH BC8.out rfl
      have cc3 : w8.cell? ⟨w.heap.size + 1 + 1, 3, none⟩ = some (.int .i64 c.n) := cellH BC8.out rfl
      have cc4 : w8.cell? ⟨w.heap.size + 1 + 1, 4, none⟩ = some (.string c.s) := cellH BC8.out rfl
      have ccz : w.heap.size + 1 + 1 < w8.heap.size := lt_of_cell cc0
      go_wp2_with fail
      refine (implies_any a a _).mono ?_
      rintro e w9 ⟨rfl, hb⟩
      have hb := hb
      have BA9 := hid (hb.blk BA8.out)
      have BB9 := hid (hb.blk BB8.out)
      have BC9 := hid (hb.blk BC8.out)
      have hx9 := hid hb
      clear hb
      clear ca0 ca1 ca2 ca3 ca4 caz
      clear cb0 cb1 cb2 cb3 cb4 cbz
      clear cc0 cc1 cc2 cc3 cc4 ccz
      have ca0 : w9.cell? ⟨w.heap.size, 0, none⟩ = some (.string a.nm) := cellH BA9.out rfl
      have ca1 : w9.cell? ⟨w.heap.size, 1, none⟩ = some (.int .i64 a.op) := cellH BA9.out rfl
      have ca2 : w9.cell? ⟨w.heap.size, 2, none⟩ = some (.int .i64 a.k) := cellH BA9.out rfl
      have ca3 : w9.cell? ⟨w.heap.size, 3, none⟩ = some (.int .i64 a.n) := cellH BA9.out rfl
      have ca4 : w9.cell? ⟨w.heap.size, 4, none⟩ = some (.string a.s) := cellH BA9.out rfl
      have caz : w.heap.size < w9.heap.size := lt_of_cell ca0
      have cb0 : w9.cell? ⟨w.heap.size + 1, 0, none⟩ = some (.string b.nm) := cellH BB9.out rfl
      have cb1 : w9.cell? ⟨w.heap.size + 1, 1, none⟩ = some (.int .i64 b.op) := cellH BB9.out rfl
      have cb2 : w9.cell? ⟨w.heap.size + 1, 2, none⟩ = some (.int .i64 b.k) := cellH BB9.out rfl
      have cb3 : w9.cell? ⟨w.heap.size + 1, 3, none⟩ = some (.int .i64 b.n) := cellH BB9.out rfl
      have cb4 : w9.cell? ⟨w.heap.size + 1, 4, none⟩ = some (.string b.s) := cellH BB9.out rfl
      have cbz : w.heap.size + 1 < w9.heap.size := lt_of_cell cb0
      have cc0 : w9.cell? ⟨w.heap.size + 1 + 1, 0, none⟩ = some (.string c.nm) := cellH BC9.out rfl
      have cc1 : w9.cell? ⟨w.heap.size + 1 + 1, 1, none⟩ = some (.int .i64 c.op) := cellH BC9.out rfl
      have cc2 : w9.cell? ⟨w.heap.size + 1 + 1, 2, none⟩ = some (.int .i64 c.k) := cellH BC9.out rfl
      have cc3 : w9.cell? ⟨w.heap.size + 1 + 1, 3, none⟩ = some (.int .i64 c.n) := cellH BC9.out rfl
      have cc4 : w9.cell? ⟨w.heap.size + 1 + 1, 4, none⟩ = some (.string c.s) := cellH BC9.out rfl
      have ccz : w.heap.size + 1 + 1 < w9.heap.size := lt_of_cell cc0
      rw [HAA.out]
      go_wp2_with fail
      refine (order06_any b a _).mono ?_
      rintro e w10 ⟨rfl, hb⟩
      have hb := hb
      have BA10 := hid (hb.blk BA9.out)
      have BB10 := hid (hb.blk BB9.out)
      have BC10 := hid (hb.blk BC9.out)
      have hx10 := hid hb
      clear hb
      clear ca0 ca1 ca2 ca3 ca4 caz
      clear cb0 cb1 cb2 cb3 cb4 cbz
      clear cc0 cc1 cc2 cc3 cc4 ccz
      have ca0 : w10.cell? ⟨w.heap.size, 0, none⟩ = some (.string a.nm) := cellH BA10.out rfl
      have ca1 : w10.cell? ⟨w.heap.size, 1, none⟩ = some (.int .i64 a.op) := cellH BA10.out rfl
      have ca2 : w10.cell? ⟨w.heap.size, 2, none⟩ = some (.int .i64 a.k) := cellH BA10.out rfl
      have ca3 : w10.cell? ⟨w.heap.size, 3, none⟩ = some (.int .i64 a.n) := cellH BA10.out rfl
      have ca4 : w10.cell? ⟨w.heap.size, 4, none⟩ = some (.string a.s) := cellH BA10.out rfl
      have caz : w.heap.size < w10.heap.size := lt_of_cell ca0
      have cb0 : w10.cell? ⟨w.heap.size + 1, 0, none⟩ = some (.string b.nm) := cellH BB10.out rfl
      have cb1 : w10.cell? ⟨w.heap.size + 1, 1, none⟩ = some (.int .i64 b.op) := cellH BB10.out rfl
      have cb2 : w10.cell? ⟨w.heap.size + 1, 2, none⟩ = some (.int .i64 b.k) := cellH BB10.out rfl
      have cb3 : w10.cell? ⟨w.heap.size + 1, 3, none⟩ = some (.int .i64 b.n) := cellH BB10.out rfl
      have cb4 : w10.cell? ⟨w.heap.size + 1, 4, none⟩ = some (.string b.s) := cellH BB10.out rfl
      have cbz : w.heap.size + 1 < w10.heap.size := lt_of_cell cb0
      have cc0 : w10.cell? ⟨w.heap.size + 1 + 1, 0, none⟩ = some (.string c.nm) := cellH BC10.out rfl
      have cc1 : w10.cell? ⟨w.heap.size + 1 + 1, 1, none⟩ = some (.int .i64 c.op) := cellH BC10.out rfl
      have cc2 : w10.cell? ⟨w.heap.size + 1 + 1, 2, none⟩ = some (.int .i64 c.k) := cellH BC10.out rfl
      have cc3 : w10.cell? ⟨w.heap.size + 1 + 1, 3, none⟩ = some (.int .i64 c.n) := cellH BC10.out rfl
      have cc4 : w10.cell? ⟨w.heap.size + 1 + 1, 4, none⟩ = some (.string c.s) := cellH BC10.out rfl
      have ccz : w.heap.size + 1 + 1 < w10.heap.size := lt_of_cell cc0
      rw [HN.out]
      have hr1 := HR1.out
      have hr2 := HR2.out
      have heq := run_eqT a b
      by_cases hx0 : 0 < ordT a.ts b.ts
      · have e1 : ordT a.ts b.ts = 1 := by omega
        have hne : decide (a.ts = b.ts) = false := decide_eq_false (fun h => by have := HZ.out.2 h; omega)
        rw [e1]
        clear hr1 hr2 hx0 e1
        go_wp2
        go_ret
        refine ⟨rfl, ?_⟩
        (repeat (first | exact Ext.refl _ | refine Ext.alloc ?_ _ | refine Ext.drewN ?_ _ | refine Ext.drew ?_ | refine Ext.trans ?_ (Hid.out (by assumption))))
      · by_cases hy0 : 0 < ordT b.ts c.ts
        · have e2 : ordT b.ts c.ts = 1 := by omega
          rw [e2]
          by_cases hz0 : ordT a.ts b.ts = 0
          · have hne : decide (a.ts = b.ts) = true := decide_eq_true (HZ.out.1 hz0)
            rw [hz0]
            clear hr1 hr2 hx0 hy0 e2 hz0
            go_wp2
            go_ret
            refine ⟨rfl, ?_⟩
            (repeat (first | exact Ext.refl _ | refine Ext.alloc ?_ _ | refine Ext.drewN ?_ _ | refine Ext.drew ?_ | refine Ext.trans ?_ (Hid.out (by assumption))))
          · have e1 : ordT a.ts b.ts = -1 := by omega
            have hne : decide (a.ts = b.ts) = false := decide_eq_false (fun h => by have := HZ.out.2 h; omega)
            rw [e1]
            clear hr1 hr2 hx0 hy0 e2 hz0 e1
            go_wp2
            go_ret
            refine ⟨rfl, ?_⟩
            (repeat (first | exact Ext.refl _ | refine Ext.alloc ?_ _ | refine Ext.drewN ?_ _ | refine Ext.drew ?_ | refine Ext.trans ?_ (Hid.out (by assumption))))
        · have hac := HLE.out (by omega) (by omega)
          have hyi : ordT b.ts c.ts ≤ 0 := by omega
          by_cases hz0 : ordT a.ts b.ts = 0
          · have hne : decide (a.ts = b.ts) = true := decide_eq_true (HZ.out.1 hz0)
            rw [hz0]
            have HAC := hid hac
            clear hr1 hr2 hx0 hy0 hz0 hac
            go_wp2_with fail
            refine (order06_any a c _).mono ?_
            rintro e w11 ⟨rfl, hb⟩
            have hb := hb
            have BA11 := hid (hb.blk BA10.out)
            have BB11 := hid (hb.blk BB10.out)
            have BC11 := hid (hb.blk BC10.out)
            have hx11 := hid hb
            clear hb
            clear ca0 ca1 ca2 ca3 ca4 caz
            clear cb0 cb1 cb2 cb3 cb4 cbz
            clear cc0 cc1 cc2 cc3 cc4 ccz
            have ca0 : w11.cell? ⟨w.heap.size, 0, none⟩ = some (.string a.nm) := cellH BA11.out rfl
            have ca1 : w11.cell? ⟨w.heap.size, 1, none⟩ = some (.int .i64 a.op) := cellH BA11.out rfl
            have ca2 : w11.cell? ⟨w.heap.size, 2, none⟩ = some (.int .i64 a.k) := cellH BA11.out rfl
            have ca3 : w11.cell? ⟨w.heap.size, 3, none⟩ = some (.int .i64 a.n) := cellH BA11.out rfl
            have ca4 : w11.cell? ⟨w.heap.size, 4, none⟩ = some (.string a.s) := cellH BA11.out rfl
            have caz : w.heap.size < w11.heap.size := lt_of_cell ca0
            have cb0 : w11.cell? ⟨w.heap.size + 1, 0, none⟩ = some (.string b.nm) := cellH BB11.out rfl
            have cb1 : w11.cell? ⟨w.heap.size + 1, 1, none⟩ = some (.int .i64 b.op) := cellH BB11.out rfl
            have cb2 : w11.cell? ⟨w.heap.size + 1, 2, none⟩ = some (.int .i64 b.k) := cellH BB11.out rfl
            have cb3 : w11.cell? ⟨w.heap.size + 1, 3, none⟩ = some (.int .i64 b.n) := cellH BB11.out rfl
            have cb4 : w11.cell? ⟨w.heap.size + 1, 4, none⟩ = some (.string b.s) := cellH BB11.out rfl
            have cbz : w.heap.size + 1 < w11.heap.size := lt_of_cell cb0
            have cc0 : w11.cell? ⟨w.heap.size + 1 + 1, 0, none⟩ = some (.string c.nm) := cellH BC11.out rfl
            have cc1 : w11.cell? ⟨w.heap.size + 1 + 1, 1, none⟩ = some (.int .i64 c.op) := cellH BC11.out rfl
            have cc2 : w11.cell? ⟨w.heap.size + 1 + 1, 2, none⟩ = some (.int .i64 c.k) := cellH BC11.out rfl
            have cc3 : w11.cell? ⟨w.heap.size + 1 + 1, 3, none⟩ = some (.int .i64 c.n) := cellH BC11.out rfl
            have cc4 : w11.cell? ⟨w.heap.size + 1 + 1, 4, none⟩ = some (.string c.s) := cellH BC11.out rfl
            have ccz : w.heap.size + 1 + 1 < w11.heap.size := lt_of_cell cc0
            have hac := HAC.out
            go_wp2
            go_ret
            refine ⟨rfl, ?_⟩
            (repeat (first | exact Ext.refl _ | refine Ext.alloc ?_ _ | refine Ext.drewN ?_ _ | refine Ext.drew ?_ | refine Ext.trans ?_ (Hid.out (by assumption))))
          · have e1 : ordT a.ts b.ts = -1 := by omega
            have hne : decide (a.ts = b.ts) = false := decide_eq_false (fun h => by have := HZ.out.2 h; omega)
            rw [e1]
            have HAC := hid hac
            clear hr1 hr2 hx0 hy0 hz0 hac e1
            go_wp2_with fail
            refine (order06_any a c _).mono ?_
            rintro e w11 ⟨rfl, hb⟩
            have hb := hb
            have BA11 := hid (hb.blk BA10.out)
            have BB11 := hid (hb.blk BB10.out)
            have BC11 := hid (hb.blk BC10.out)
            have hx11 := hid hb
            clear hb
            clear ca0 ca1 ca2 ca3 ca4 caz
            clear cb0 cb1 cb2 cb3 cb4 cbz
            clear cc0 cc1 cc2 cc3 cc4 ccz
            have ca0 : w11.cell? ⟨w.heap.size, 0, none⟩ = some (.string a.nm) := cellH BA11.out rfl
            have ca1 : w11.cell? ⟨w.heap.size, 1, none⟩ = some (.int .i64 a.op) := cellH BA11.out rfl
            have ca2 : w11.cell? ⟨w.heap.size, 2, none⟩ = some (.int .i64 a.k) := cellH BA11.out rfl
            have ca3 : w11.cell? ⟨w.heap.size, 3, none⟩ = some (.int .i64 a.n) := cellH BA11.out rfl
            have ca4 : w11.cell? ⟨w.heap.size, 4, none⟩ = some (.string a.s) := cellH BA11.out rfl
            have caz : w.heap.size < w11.heap.size := lt_of_cell ca0
            have cb0 : w11.cell? ⟨w.heap.size + 1, 0, none⟩ = some (.string b.nm) := cellH BB11.out rfl
            have cb1 : w11.cell? ⟨w.heap.size + 1, 1, none⟩ = some (.int .i64 b.op) := cellH BB11.out rfl
            have cb2 : w11.cell? ⟨w.heap.size + 1, 2, none⟩ = some (.int .i64 b.k) := cellH BB11.out rfl
            have cb3 : w11.cell? ⟨w.heap.size + 1, 3, none⟩ = some (.int .i64 b.n) := cellH BB11.out rfl
            have cb4 : w11.cell? ⟨w.heap.size + 1, 4, none⟩ = some (.string b.s) := cellH BB11.out rfl
            have cbz : w.heap.size + 1 < w11.heap.size := lt_of_cell cb0
            have cc0 : w11.cell? ⟨w.heap.size + 1 + 1, 0, none⟩ = some (.string c.nm) := cellH BC11.out rfl
            have cc1 : w11.cell? ⟨w.heap.size + 1 + 1, 1, none⟩ = some (.int .i64 c.op) := cellH BC11.out rfl
            have cc2 : w11.cell? ⟨w.heap.size + 1 + 1, 2, none⟩ = some (.int .i64 c.k) := cellH BC11.out rfl
            have cc3 : w11.cell? ⟨w.heap.size + 1 + 1, 3, none⟩ = some (.int .i64 c.n) := cellH BC11.out rfl
            have cc4 : w11.cell? ⟨w.heap.size + 1 + 1, 4, none⟩ = some (.string c.s) := cellH BC11.out rfl
            have ccz : w.heap.size + 1 + 1 < w11.heap.size := lt_of_cell cc0
            have hac := HAC.out
            go_wp2
            go_ret
            refine ⟨rfl, ?_⟩
            (repeat (first | exact Ext.refl _ | refine Ext.alloc ?_ _ | refine Ext.drewN ?_ _ | refine Ext.drew ?_ | refine Ext.trans ?_ (Hid.out (by assumption))))
end Go.Proofs.Ytclmbonippjhoaa
