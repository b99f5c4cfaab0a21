/- Where a test that implies another one holds that one holds: the statement's walk. -/
import Derived.Test.YtclmbonippjhoaaLThere
set_option linter.unusedVariables false
set_option linter.unusedSimpArgs false
namespace Go.Proofs.Ytclmbonippjhoaa
open Go.RowKit

set_option maxRecDepth 100000 in
set_option maxHeartbeats 4000000 in
theorem sound06_any (a b : T) (vk vm : Int) (vz : ByteArray) (ea : Option Addr) (en ec : Nat) (es : List AT) (w : World) (hE : Sl w 4 AT.cs ea en ec es) :
    Calls Try.prog 7 #[.agg #[.string a.nm, .int .i64 a.op, .int .i64 a.k, .int .i64 a.n, .string a.s], .agg #[.string b.nm, .int .i64 b.op, .int .i64 b.k, .int .i64 b.n, .string b.s], .agg #[.int .i64 vk, .int .i64 vm, .string vz], .slice ea en ec] w fun e w' => e = .returned (.bool true) ∧ Ext w w' := by
  have HE := hid hE
  clear hE
  go_enter Try.func7, Try.ntmps7
  go_wp2_with fail
  refine (awake06_any _).mono ?_
  rintro e w1 ⟨rfl, hb⟩
  have BA1 := hid (hb.blk (b := w.heap.size) (o := (Obj.cells #[.string a.nm, .int .i64 a.op, .int .i64 a.k, .int .i64 a.n, .string a.s] 25)) (by (repeat (first | (refine heap_new ?_; (simp; done)) | refine heap_old (by first | (simp; done) | (simp; omega)) ?_))))
  have BB1 := hid (hb.blk (b := w.heap.size + 1) (o := (Obj.cells #[.string b.nm, .int .i64 b.op, .int .i64 b.k, .int .i64 b.n, .string b.s] 25)) (by (repeat (first | (refine heap_new ?_; (simp; done)) | refine heap_old (by first | (simp; done) | (simp; omega)) ?_))))
  have BC1 := hid (hb.blk (b := w.heap.size + 1 + 1) (o := (Obj.cells #[.int .i64 vk, .int .i64 vm, .string vz] 23)) (by (repeat (first | (refine heap_new ?_; (simp; done)) | refine heap_old (by first | (simp; done) | (simp; omega)) ?_))))
  have hx1 := hid (Ext.trans ((((Ext.refl w).alloc _).alloc _).alloc _) hb)
  clear hb
  have ca0 : w1.cell? ⟨w.heap.size, 0, none⟩ = some (.string a.nm) := cellH BA1.out rfl
  have ca1 : w1.cell? ⟨w.heap.size, 1, none⟩ = some (.int .i64 a.op) := cellH BA1.out rfl
  have ca2 : w1.cell? ⟨w.heap.size, 2, none⟩ = some (.int .i64 a.k) := cellH BA1.out rfl
  have ca3 : w1.cell? ⟨w.heap.size, 3, none⟩ = some (.int .i64 a.n) := cellH BA1.out rfl
  have ca4 : w1.cell? ⟨w.heap.size, 4, none⟩ = some (.string a.s) := cellH BA1.out rfl
  have caz : w.heap.size < w1.heap.size := lt_of_cell ca0
  have cb0 : w1.cell? ⟨w.heap.size + 1, 0, none⟩ = some (.string b.nm) := cellH BB1.out rfl
  have cb1 : w1.cell? ⟨w.heap.size + 1, 1, none⟩ = some (.int .i64 b.op) := cellH BB1.out rfl
  have cb2 : w1.cell? ⟨w.heap.size + 1, 2, none⟩ = some (.int .i64 b.k) := cellH BB1.out rfl
  have cb3 : w1.cell? ⟨w.heap.size + 1, 3, none⟩ = some (.int .i64 b.n) := cellH BB1.out rfl
  have cb4 : w1.cell? ⟨w.heap.size + 1, 4, none⟩ = some (.string b.s) := cellH BB1.out rfl
  have cbz : w.heap.size + 1 < w1.heap.size := lt_of_cell cb0
  have cc0 : w1.cell? ⟨w.heap.size + 1 + 1, 0, none⟩ = some (.int .i64 vk) := cellH BC1.out rfl
  have cc1 : w1.cell? ⟨w.heap.size + 1 + 1, 1, none⟩ = some (.int .i64 vm) := cellH BC1.out rfl
  have cc2 : w1.cell? ⟨w.heap.size + 1 + 1, 2, none⟩ = some (.string vz) := cellH BC1.out rfl
  have ccz : w.heap.size + 1 + 1 < w1.heap.size := lt_of_cell cc0
  go_wp2_with fail
  refine (few05_any _ _ _ [a, b] _ (sl_of _ T.wid rfl (by simp) (t := 25) (fr := (0, 0)) (by (repeat (first | (refine heap_new ?_; (simp; done)) | refine heap_old (by first | (simp; done) | (simp; omega)) ?_))) rfl)).mono ?_
  rintro e w2 ⟨f1, rfl, hf, hb⟩
  clear hf
  have hb := Ext.trans ((Ext.refl w1).alloc _) hb
  have BA2 := hid (hb.blk BA1.out)
  have BB2 := hid (hb.blk BB1.out)
  have BC2 := hid (hb.blk BC1.out)
  have hx2 := hid hb
  clear hb
  clear ca0 ca1 ca2 ca3 ca4 caz
  clear cb0 cb1 cb2 cb3 cb4 cbz
  clear cc0 cc1 cc2 ccz
  have ca0 : w2.cell? ⟨w.heap.size, 0, none⟩ = some (.string a.nm) := cellH BA2.out rfl
  have ca1 : w2.cell? ⟨w.heap.size, 1, none⟩ = some (.int .i64 a.op) := cellH BA2.out rfl
  have ca2 : w2.cell? ⟨w.heap.size, 2, none⟩ = some (.int .i64 a.k) := cellH BA2.out rfl
  have ca3 : w2.cell? ⟨w.heap.size, 3, none⟩ = some (.int .i64 a.n) := cellH BA2.out rfl
  have ca4 : w2.cell? ⟨w.heap.size, 4, none⟩ = some (.string a.s) := cellH BA2.out rfl
  have caz : w.heap.size < w2.heap.size := lt_of_cell ca0
  have cb0 : w2.cell? ⟨w.heap.size + 1, 0, none⟩ = some (.string b.nm) := cellH BB2.out rfl
  have cb1 : w2.cell? ⟨w.heap.size + 1, 1, none⟩ = some (.int .i64 b.op) := cellH BB2.out rfl
  have cb2 : w2.cell? ⟨w.heap.size + 1, 2, none⟩ = some (.int .i64 b.k) := cellH BB2.out rfl
  have cb3 : w2.cell? ⟨w.heap.size + 1, 3, none⟩ = some (.int .i64 b.n) := cellH BB2.out rfl
  have cb4 : w2.cell? ⟨w.heap.size + 1, 4, none⟩ = some (.string b.s) := cellH BB2.out rfl
  have cbz : w.heap.size + 1 < w2.heap.size := lt_of_cell cb0
  have cc0 : w2.cell? ⟨w.heap.size + 1 + 1, 0, none⟩ = some (.int .i64 vk) := cellH BC2.out rfl
  have cc1 : w2.cell? ⟨w.heap.size + 1 + 1, 1, none⟩ = some (.int .i64 vm) := cellH BC2.out rfl
  have cc2 : w2.cell? ⟨w.heap.size + 1 + 1, 2, none⟩ = some (.string vz) := cellH BC2.out rfl
  have ccz : w.heap.size + 1 + 1 < w2.heap.size := lt_of_cell cc0
  cases f1
  · skip
    go_wp2
    go_ret
    refine ⟨rfl, ?_⟩
    (repeat (first | exact Ext.refl _ | refine Ext.alloc ?_ _ | refine Ext.drewN ?_ _ | refine Ext.drew ?_ | refine Ext.trans ?_ (Hid.out (by assumption))))
  go_wp2_with fail
  refine (few04_any _ _ _ es _ (HE.out.ext (by (repeat (first | exact Ext.refl _ | refine Ext.alloc ?_ _ | refine Ext.drewN ?_ _ | refine Ext.drew ?_ | refine Ext.trans ?_ (Hid.out (by assumption))))))).mono ?_
  rintro e w3 ⟨f2, rfl, hf, hb⟩
  clear hf
  have hb := hb
  have BA3 := hid (hb.blk BA2.out)
  have BB3 := hid (hb.blk BB2.out)
  have BC3 := hid (hb.blk BC2.out)
  have hx3 := hid hb
  clear hb
  clear ca0 ca1 ca2 ca3 ca4 caz
  clear cb0 cb1 cb2 cb3 cb4 cbz
  clear cc0 cc1 cc2 ccz
  have ca0 : w3.cell? ⟨w.heap.size, 0, none⟩ = some (.string a.nm) := cellH BA3.out rfl
  have ca1 : w3.cell? ⟨w.heap.size, 1, none⟩ = some (.int .i64 a.op) := cellH BA3.out rfl
  have ca2 : w3.cell? ⟨w.heap.size, 2, none⟩ = some (.int .i64 a.k) := cellH BA3.out rfl
  have ca3 : w3.cell? ⟨w.heap.size, 3, none⟩ = some (.int .i64 a.n) := cellH BA3.out rfl
  have ca4 : w3.cell? ⟨w.heap.size, 4, none⟩ = some (.string a.s) := cellH BA3.out rfl
  have caz : w.heap.size < w3.heap.size := lt_of_cell ca0
  have cb0 : w3.cell? ⟨w.heap.size + 1, 0, none⟩ = some (.string b.nm) := cellH BB3.out rfl
  have cb1 : w3.cell? ⟨w.heap.size + 1, 1, none⟩ = some (.int .i64 b.op) := cellH BB3.out rfl
  have cb2 : w3.cell? ⟨w.heap.size + 1, 2, none⟩ = some (.int .i64 b.k) := cellH BB3.out rfl
  have cb3 : w3.cell? ⟨w.heap.size + 1, 3, none⟩ = some (.int .i64 b.n) := cellH BB3.out rfl
  have cb4 : w3.cell? ⟨w.heap.size + 1, 4, none⟩ = some (.string b.s) := cellH BB3.out rfl
  have cbz : w.heap.size + 1 < w3.heap.size := lt_of_cell cb0
  have cc0 : w3.cell? ⟨w.heap.size + 1 + 1, 0, none⟩ = some (.int .i64 vk) := cellH BC3.out rfl
  have cc1 : w3.cell? ⟨w.heap.size + 1 + 1, 1, none⟩ = some (.int .i64 vm) := cellH BC3.out rfl
  have cc2 : w3.cell? ⟨w.heap.size + 1 + 1, 2, none⟩ = some (.string vz) := cellH BC3.out rfl
  have ccz : w.heap.size + 1 + 1 < w3.heap.size := lt_of_cell cc0
  cases f2
  · skip
    go_wp2
    go_ret
    refine ⟨rfl, ?_⟩
    (repeat (first | exact Ext.refl _ | refine Ext.alloc ?_ _ | refine Ext.drewN ?_ _ | refine Ext.drew ?_ | refine Ext.trans ?_ (Hid.out (by assumption))))
  by_cases h100 : vz.size ≤ 100
  · have h100i : (vz.size : Int) ≤ 100 := by omega
    go_wp2_with fail
    refine (chkF_any _ _ _ [a, b] _ (sl_of _ T.wid rfl (by simp) (t := 25) (fr := (0, 0)) (by (repeat (first | (refine heap_new ?_; (simp; done)) | refine heap_old (by first | (simp; done) | (simp; omega)) ?_))) rfl)).mono ?_
    rintro e w4 ⟨rfl, hb⟩
    have hb := Ext.trans ((Ext.refl w3).alloc _) hb
    have BA4 := hid (hb.blk BA3.out)
    have BB4 := hid (hb.blk BB3.out)
    have BC4 := hid (hb.blk BC3.out)
    have hx4 := hid hb
    clear hb
    clear ca0 ca1 ca2 ca3 ca4 caz
    clear cb0 cb1 cb2 cb3 cb4 cbz
    clear cc0 cc1 cc2 ccz
    have ca0 : w4.cell? ⟨w.heap.size, 0, none⟩ = some (.string a.nm) := cellH BA4.out rfl
    have ca1 : w4.cell? ⟨w.heap.size, 1, none⟩ = some (.int .i64 a.op) := cellH BA4.out rfl
    have ca2 : w4.cell? ⟨w.heap.size, 2, none⟩ = some (.int .i64 a.k) := cellH BA4.out rfl
    have ca3 : w4.cell? ⟨w.heap.size, 3, none⟩ = some (.int .i64 a.n) := cellH BA4.out rfl
    have ca4 : w4.cell? ⟨w.heap.size, 4, none⟩ = some (.string a.s) := cellH BA4.out rfl
    have caz : w.heap.size < w4.heap.size := lt_of_cell ca0
    have cb0 : w4.cell? ⟨w.heap.size + 1, 0, none⟩ = some (.string b.nm) := cellH BB4.out rfl
    have cb1 : w4.cell? ⟨w.heap.size + 1, 1, none⟩ = some (.int .i64 b.op) := cellH BB4.out rfl
    have cb2 : w4.cell? ⟨w.heap.size + 1, 2, none⟩ = some (.int .i64 b.k) := cellH BB4.out rfl
    have cb3 : w4.cell? ⟨w.heap.size + 1, 3, none⟩ = some (.int .i64 b.n) := cellH BB4.out rfl
    have cb4 : w4.cell? ⟨w.heap.size + 1, 4, none⟩ = some (.string b.s) := cellH BB4.out rfl
    have cbz : w.heap.size + 1 < w4.heap.size := lt_of_cell cb0
    have cc0 : w4.cell? ⟨w.heap.size + 1 + 1, 0, none⟩ = some (.int .i64 vk) := cellH BC4.out rfl
    have cc1 : w4.cell? ⟨w.heap.size + 1 + 1, 1, none⟩ = some (.int .i64 vm) := cellH BC4.out rfl
    have cc2 : w4.cell? ⟨w.heap.size + 1 + 1, 2, none⟩ = some (.string vz) := cellH BC4.out rfl
    have ccz : w.heap.size + 1 + 1 < w4.heap.size := lt_of_cell cc0
    cases hck : chkB [a, b] with
    | false =>
      have h0 : errF false = 50 := rfl
      rw [h0]
      clear h0 hck
      go_wp2
      go_ret
      refine ⟨rfl, ?_⟩
      (repeat (first | exact Ext.refl _ | refine Ext.alloc ?_ _ | refine Ext.drewN ?_ _ | refine Ext.drew ?_ | refine Ext.trans ?_ (Hid.out (by assumption))))
    | true =>
      have h0 : errF true = 0 := rfl
      rw [h0]
      have HOA := hid (one_ok (two_ok hck).1)
      clear h0 hck
      go_wp2_with fail
      refine (check_any _ _ _ _).mono ?_
      rintro e w5 ⟨rfl, hb⟩
      have hb := hb
      have BA5 := hid (hb.blk BA4.out)
      have BB5 := hid (hb.blk BB4.out)
      have BC5 := hid (hb.blk BC4.out)
      have hx5 := hid hb
      clear hb
      clear ca0 ca1 ca2 ca3 ca4 caz
      clear cb0 cb1 cb2 cb3 cb4 cbz
      clear cc0 cc1 cc2 ccz
      have ca0 : w5.cell? ⟨w.heap.size, 0, none⟩ = some (.string a.nm) := cellH BA5.out rfl
      have ca1 : w5.cell? ⟨w.heap.size, 1, none⟩ = some (.int .i64 a.op) := cellH BA5.out rfl
      have ca2 : w5.cell? ⟨w.heap.size, 2, none⟩ = some (.int .i64 a.k) := cellH BA5.out rfl
      have ca3 : w5.cell? ⟨w.heap.size, 3, none⟩ = some (.int .i64 a.n) := cellH BA5.out rfl
      have ca4 : w5.cell? ⟨w.heap.size, 4, none⟩ = some (.string a.s) := cellH BA5.out rfl
      have caz : w.heap.size < w5.heap.size := lt_of_cell ca0
      have cb0 : w5.cell? ⟨w.heap.size + 1, 0, none⟩ = some (.string b.nm) := cellH BB5.out rfl
      have cb1 : w5.cell? ⟨w.heap.size + 1, 1, none⟩ = some (.int .i64 b.op) := cellH BB5.out rfl
      have cb2 : w5.cell? ⟨w.heap.size + 1, 2, none⟩ = some (.int .i64 b.k) := cellH BB5.out rfl
      have cb3 : w5.cell? ⟨w.heap.size + 1, 3, none⟩ = some (.int .i64 b.n) := cellH BB5.out rfl
      have cb4 : w5.cell? ⟨w.heap.size + 1, 4, none⟩ = some (.string b.s) := cellH BB5.out rfl
      have cbz : w.heap.size + 1 < w5.heap.size := lt_of_cell cb0
      have cc0 : w5.cell? ⟨w.heap.size + 1 + 1, 0, none⟩ = some (.int .i64 vk) := cellH BC5.out rfl
      have cc1 : w5.cell? ⟨w.heap.size + 1 + 1, 1, none⟩ = some (.int .i64 vm) := cellH BC5.out rfl
      have cc2 : w5.cell? ⟨w.heap.size + 1 + 1, 2, none⟩ = some (.string vz) := cellH BC5.out rfl
      have ccz : w.heap.size + 1 + 1 < w5.heap.size := lt_of_cell cc0
      have hv : vChk vk vm vz.toList = 0 ∨ vChk vk vm vz.toList = 10 := by unfold vChk; split <;> simp
      rcases hv with hv | hv
      · have HV := hid (show Vl.ok ⟨vk, vm, vz.toList⟩ from hv)
        rw [hv]
        clear hv
        go_wp2_with fail
        refine (chkE_any _ _ _ es _ (HE.out.ext (by (repeat (first | exact Ext.refl _ | refine Ext.alloc ?_ _ | refine Ext.drewN ?_ _ | refine Ext.drew ?_ | refine Ext.trans ?_ (Hid.out (by assumption))))))).mono ?_
        rintro e w6 ⟨z, rfl, hz, hz2, hb⟩
        have hb := hb
        have BA6 := hid (hb.blk BA5.out)
        have BB6 := hid (hb.blk BB5.out)
        have BC6 := hid (hb.blk BC5.out)
        have hx6 := hid hb
        clear hb
        clear ca0 ca1 ca2 ca3 ca4 caz
        clear cb0 cb1 cb2 cb3 cb4 cbz
        clear cc0 cc1 cc2 ccz
        have ca0 : w6.cell? ⟨w.heap.size, 0, none⟩ = some (.string a.nm) := cellH BA6.out rfl
        have ca1 : w6.cell? ⟨w.heap.size, 1, none⟩ = some (.int .i64 a.op) := cellH BA6.out rfl
        have ca2 : w6.cell? ⟨w.heap.size, 2, none⟩ = some (.int .i64 a.k) := cellH BA6.out rfl
        have ca3 : w6.cell? ⟨w.heap.size, 3, none⟩ = some (.int .i64 a.n) := cellH BA6.out rfl
        have ca4 : w6.cell? ⟨w.heap.size, 4, none⟩ = some (.string a.s) := cellH BA6.out rfl
        have caz : w.heap.size < w6.heap.size := lt_of_cell ca0
        have cb0 : w6.cell? ⟨w.heap.size + 1, 0, none⟩ = some (.string b.nm) := cellH BB6.out rfl
        have cb1 : w6.cell? ⟨w.heap.size + 1, 1, none⟩ = some (.int .i64 b.op) := cellH BB6.out rfl
        have cb2 : w6.cell? ⟨w.heap.size + 1, 2, none⟩ = some (.int .i64 b.k) := cellH BB6.out rfl
        have cb3 : w6.cell? ⟨w.heap.size + 1, 3, none⟩ = some (.int .i64 b.n) := cellH BB6.out rfl
        have cb4 : w6.cell? ⟨w.heap.size + 1, 4, none⟩ = some (.string b.s) := cellH BB6.out rfl
        have cbz : w.heap.size + 1 < w6.heap.size := lt_of_cell cb0
        have cc0 : w6.cell? ⟨w.heap.size + 1 + 1, 0, none⟩ = some (.int .i64 vk) := cellH BC6.out rfl
        have cc1 : w6.cell? ⟨w.heap.size + 1 + 1, 1, none⟩ = some (.int .i64 vm) := cellH BC6.out rfl
        have cc2 : w6.cell? ⟨w.heap.size + 1 + 1, 2, none⟩ = some (.string vz) := cellH BC6.out rfl
        have ccz : w.heap.size + 1 + 1 < w6.heap.size := lt_of_cell cc0
        rcases hz2 with rfl | rfl
        · have hek := hid (hz rfl)
          clear hz
          go_wp2_with fail
          refine (implies_any a b _).mono ?_
          rintro e w7 ⟨rfl, hb⟩
          have hb := hb
          have BA7 := hid (hb.blk BA6.out)
          have BB7 := hid (hb.blk BB6.out)
          have BC7 := hid (hb.blk BC6.out)
          have hx7 := hid hb
          clear hb
          clear ca0 ca1 ca2 ca3 ca4 caz
          clear cb0 cb1 cb2 cb3 cb4 cbz
          clear cc0 cc1 cc2 ccz
          have ca0 : w7.cell? ⟨w.heap.size, 0, none⟩ = some (.string a.nm) := cellH BA7.out rfl
          have ca1 : w7.cell? ⟨w.heap.size, 1, none⟩ = some (.int .i64 a.op) := cellH BA7.out rfl
          have ca2 : w7.cell? ⟨w.heap.size, 2, none⟩ = some (.int .i64 a.k) := cellH BA7.out rfl
          have ca3 : w7.cell? ⟨w.heap.size, 3, none⟩ = some (.int .i64 a.n) := cellH BA7.out rfl
          have ca4 : w7.cell? ⟨w.heap.size, 4, none⟩ = some (.string a.s) := cellH BA7.out rfl
          have caz : w.heap.size < w7.heap.size := lt_of_cell ca0
          have cb0 : w7.cell? ⟨w.heap.size + 1, 0, none⟩ = some (.string b.nm) := cellH BB7.out rfl
          have cb1 : w7.cell? ⟨w.heap.size + 1, 1, none⟩ = some (.int .i64 b.op) := cellH BB7.out rfl
          have cb2 : w7.cell? ⟨w.heap.size + 1, 2, none⟩ = some (.int .i64 b.k) := cellH BB7.out rfl
          have cb3 : w7.cell? ⟨w.heap.size + 1, 3, none⟩ = some (.int .i64 b.n) := cellH BB7.out rfl
          have cb4 : w7.cell? ⟨w.heap.size + 1, 4, none⟩ = some (.string b.s) := cellH BB7.out rfl
          have cbz : w.heap.size + 1 < w7.heap.size := lt_of_cell cb0
          have cc0 : w7.cell? ⟨w.heap.size + 1 + 1, 0, none⟩ = some (.int .i64 vk) := cellH BC7.out rfl
          have cc1 : w7.cell? ⟨w.heap.size + 1 + 1, 1, none⟩ = some (.int .i64 vm) := cellH BC7.out rfl
          have cc2 : w7.cell? ⟨w.heap.size + 1 + 1, 2, none⟩ = some (.string vz) := cellH BC7.out rfl
          have ccz : w.heap.size + 1 + 1 < w7.heap.size := lt_of_cell cc0
          cases himp : impT a.ts b.ts with
          | false =>
            clear himp
            go_wp2
            go_ret
            refine ⟨rfl, ?_⟩
            (repeat (first | exact Ext.refl _ | refine Ext.alloc ?_ _ | refine Ext.drewN ?_ _ | refine Ext.drew ?_ | refine Ext.trans ?_ (Hid.out (by assumption))))
          | true =>
            have HIS := hid (fun h => imp_sound (v := ⟨vk, vm, vz.toList⟩) HOA.out HV.out himp h)
            have HHO := hid (fun h => holds_imp (es := es) HOA.out hek.out himp h)
            clear himp
            go_upto_region 6 with (fail)
            go_wp2_with fail
            refine (is_any a vk vm vz _).mono ?_
            rintro e w8 ⟨rfl, hb⟩
            have hb := hb
            have BA8 := hid (hb.blk BA7.out)
            have BB8 := hid (hb.blk BB7.out)
            have BC8 := hid (hb.blk BC7.out)
            have hx8 := hid hb
            clear hb
            clear ca0 ca1 ca2 ca3 ca4 caz
            clear cb0 cb1 cb2 cb3 cb4 cbz
            clear cc0 cc1 cc2 ccz
            have ca0 : w8.cell? ⟨w.heap.size, 0, none⟩ = some (.string a.nm) := cellH BA8.out rfl
            have ca1 : w8.cell? ⟨w.heap.size, 1, none⟩ = some (.int .i64 a.op) := cellH BA8.out rfl
            have ca2 : w8.cell? ⟨w.heap.size, 2, none⟩ = some (.int .i64 a.k) := cellH BA8.out rfl
            have ca3 : w8.cell? ⟨w.heap.size, 3, none⟩ = some (.int .i64 a.n) := cellH BA8.out rfl
            have ca4 : w8.cell? ⟨w.heap.size, 4, none⟩ = some (.string a.s) := cellH BA8.out rfl
            have caz : w.heap.size < w8.heap.size := lt_of_cell ca0
            have cb0 : w8.cell? ⟨w.heap.size + 1, 0, none⟩ = some (.string b.nm) := cellH BB8.out rfl
            have cb1 : w8.cell? ⟨w.heap.size + 1, 1, none⟩ = some (.int .i64 b.op) := cellH BB8.out rfl
            have cb2 : w8.cell? ⟨w.heap.size + 1, 2, none⟩ = some (.int .i64 b.k) := cellH BB8.out rfl
            have cb3 : w8.cell? ⟨w.heap.size + 1, 3, none⟩ = some (.int .i64 b.n) := cellH BB8.out rfl
            have cb4 : w8.cell? ⟨w.heap.size + 1, 4, none⟩ = some (.string b.s) := cellH BB8.out rfl
            have cbz : w.heap.size + 1 < w8.heap.size := lt_of_cell cb0
            have cc0 : w8.cell? ⟨w.heap.size + 1 + 1, 0, none⟩ = some (.int .i64 vk) := cellH BC8.out rfl
            have cc1 : w8.cell? ⟨w.heap.size + 1 + 1, 1, none⟩ = some (.int .i64 vm) := cellH BC8.out rfl
            have cc2 : w8.cell? ⟨w.heap.size + 1 + 1, 2, none⟩ = some (.string vz) := cellH BC8.out rfl
            have ccz : w.heap.size + 1 + 1 < w8.heap.size := lt_of_cell cc0
            cases hia : isV a.op a.v ⟨vk, vm, vz.toList⟩ with
            | false =>
              clear hia
              go_wp2_with fail
              refine (holds_any a _ _ _ es _ (HE.out.ext (by (repeat (first | exact Ext.refl _ | refine Ext.alloc ?_ _ | refine Ext.drewN ?_ _ | refine Ext.drew ?_ | refine Ext.trans ?_ (Hid.out (by assumption))))))).mono ?_
              rintro e w9 ⟨rfl, hb⟩
              have hb := hb
              have BA9 := hid (hb.blk BA8.out)
              have BB9 := hid (hb.blk BB8.out)
              have BC9 := hid (hb.blk BC8.out)
              have hx9 := hid hb
              clear hb
              clear ca0 ca1 ca2 ca3 ca4 caz
              clear cb0 cb1 cb2 cb3 cb4 cbz
              clear cc0 cc1 cc2 ccz
              have ca0 : w9.cell? ⟨w.heap.size, 0, none⟩ = some (.string a.nm) := cellH BA9.out rfl
              have ca1 : w9.cell? ⟨w.heap.size, 1, none⟩ = some (.int .i64 a.op) := cellH BA9.out rfl
              have ca2 : w9.cell? ⟨w.heap.size, 2, none⟩ = some (.int .i64 a.k) := cellH BA9.out rfl
              have ca3 : w9.cell? ⟨w.heap.size, 3, none⟩ = some (.int .i64 a.n) := cellH BA9.out rfl
              have ca4 : w9.cell? ⟨w.heap.size, 4, none⟩ = some (.string a.s) := cellH BA9.out rfl
              have caz : w.heap.size < w9.heap.size := lt_of_cell ca0
              have cb0 : w9.cell? ⟨w.heap.size + 1, 0, none⟩ = some (.string b.nm) := cellH BB9.out rfl
              have cb1 : w9.cell? ⟨w.heap.size + 1, 1, none⟩ = some (.int .i64 b.op) := cellH BB9.out rfl
              have cb2 : w9.cell? ⟨w.heap.size + 1, 2, none⟩ = some (.int .i64 b.k) := cellH BB9.out rfl
              have cb3 : w9.cell? ⟨w.heap.size + 1, 3, none⟩ = some (.int .i64 b.n) := cellH BB9.out rfl
              have cb4 : w9.cell? ⟨w.heap.size + 1, 4, none⟩ = some (.string b.s) := cellH BB9.out rfl
              have cbz : w.heap.size + 1 < w9.heap.size := lt_of_cell cb0
              have cc0 : w9.cell? ⟨w.heap.size + 1 + 1, 0, none⟩ = some (.int .i64 vk) := cellH BC9.out rfl
              have cc1 : w9.cell? ⟨w.heap.size + 1 + 1, 1, none⟩ = some (.int .i64 vm) := cellH BC9.out rfl
              have cc2 : w9.cell? ⟨w.heap.size + 1 + 1, 2, none⟩ = some (.string vz) := cellH BC9.out rfl
              have ccz : w.heap.size + 1 + 1 < w9.heap.size := lt_of_cell cc0
              cases hha : holdsT a es with
              | false =>
                clear hha
                go_wp2
                go_ret
                refine ⟨rfl, ?_⟩
                (repeat (first | exact Ext.refl _ | refine Ext.alloc ?_ _ | refine Ext.drewN ?_ _ | refine Ext.drew ?_ | refine Ext.trans ?_ (Hid.out (by assumption))))
              | true =>
                have HHB := hid (HHO.out hha)
                clear hha
                go_wp2_with fail
                refine (holds_any b _ _ _ es _ (HE.out.ext (by (repeat (first | exact Ext.refl _ | refine Ext.alloc ?_ _ | refine Ext.drewN ?_ _ | refine Ext.drew ?_ | refine Ext.trans ?_ (Hid.out (by assumption))))))).mono ?_
                rintro e wl ⟨he, hb⟩
                rw [HHB.out] at he
                subst he
                have hxl := hid hb
                clear hb
                go_wp2
                go_ret
                refine ⟨rfl, ?_⟩
                (repeat (first | exact Ext.refl _ | refine Ext.alloc ?_ _ | refine Ext.drewN ?_ _ | refine Ext.drew ?_ | refine Ext.trans ?_ (Hid.out (by assumption))))
            | true =>
              have HIB := hid (HIS.out hia)
              clear hia
              go_wp2_with fail
              refine (is_any b vk vm vz _).mono ?_
              rintro e w9 ⟨he, hb⟩
              rw [show isV b.op b.v ⟨vk, vm, vz.toList⟩ = true from HIB.out] at he
              subst he
              have hb := hb
              have BA9 := hid (hb.blk BA8.out)
              have BB9 := hid (hb.blk BB8.out)
              have BC9 := hid (hb.blk BC8.out)
              have hx9 := hid hb
              clear hb
              clear ca0 ca1 ca2 ca3 ca4 caz
              clear cb0 cb1 cb2 cb3 cb4 cbz
              clear cc0 cc1 cc2 ccz
              have ca0 : w9.cell? ⟨w.heap.size, 0, none⟩ = some (.string a.nm) := cellH BA9.out rfl
              have ca1 : w9.cell? ⟨w.heap.size, 1, none⟩ = some (.int .i64 a.op) := cellH BA9.out rfl
              have ca2 : w9.cell? ⟨w.heap.size, 2, none⟩ = some (.int .i64 a.k) := cellH BA9.out rfl
              have ca3 : w9.cell? ⟨w.heap.size, 3, none⟩ = some (.int .i64 a.n) := cellH BA9.out rfl
              have ca4 : w9.cell? ⟨w.heap.size, 4, none⟩ = some (.string a.s) := cellH BA9.out rfl
              have caz : w.heap.size < w9.heap.size := lt_of_cell ca0
              have cb0 : w9.cell? ⟨w.heap.size + 1, 0, none⟩ = some (.string b.nm) := cellH BB9.out rfl
              have cb1 : w9.cell? ⟨w.heap.size + 1, 1, none⟩ = some (.int .i64 b.op) := cellH BB9.out rfl
              have cb2 : w9.cell? ⟨w.heap.size + 1, 2, none⟩ = some (.int .i64 b.k) := cellH BB9.out rfl
              have cb3 : w9.cell? ⟨w.heap.size + 1, 3, none⟩ = some (.int .i64 b.n) := cellH BB9.out rfl
              have cb4 : w9.cell? ⟨w.heap.size + 1, 4, none⟩ = some (.string b.s) := cellH BB9.out rfl
              have cbz : w.heap.size + 1 < w9.heap.size := lt_of_cell cb0
              have cc0 : w9.cell? ⟨w.heap.size + 1 + 1, 0, none⟩ = some (.int .i64 vk) := cellH BC9.out rfl
              have cc1 : w9.cell? ⟨w.heap.size + 1 + 1, 1, none⟩ = some (.int .i64 vm) := cellH BC9.out rfl
              have cc2 : w9.cell? ⟨w.heap.size + 1 + 1, 2, none⟩ = some (.string vz) := cellH BC9.out rfl
              have ccz : w.heap.size + 1 + 1 < w9.heap.size := lt_of_cell cc0
              go_wp2_with fail
              refine (holds_any a _ _ _ es _ (HE.out.ext (by (repeat (first | exact Ext.refl _ | refine Ext.alloc ?_ _ | refine Ext.drewN ?_ _ | refine Ext.drew ?_ | refine Ext.trans ?_ (Hid.out (by assumption))))))).mono ?_
              rintro e w10 ⟨rfl, hb⟩
              have hb := hb
              have BA10 := hid (hb.blk BA9.out)
              have BB10 := hid (hb.blk BB9.out)
              have BC10 := hid (hb.blk BC9.out)
              have hx10 := hid hb
              clear hb
              clear ca0 ca1 ca2 ca3 ca4 caz
              clear cb0 cb1 cb2 cb3 cb4 cbz
              clear cc0 cc1 cc2 ccz
              have ca0 : w10.cell? ⟨w.heap.size, 0, none⟩ = some (.string a.nm) := cellH BA10.out rfl
              have ca1 : w10.cell? ⟨w.heap.size, 1, none⟩ = some (.int .i64 a.op) := cellH BA10.out rfl
              have ca2 : w10.cell? ⟨w.heap.size, 2, none⟩ = some (.int .i64 a.k) := cellH BA10.out rfl
              have ca3 : w10.cell? ⟨w.heap.size, 3, none⟩ = some (.int .i64 a.n) := cellH BA10.out rfl
              have ca4 : w10.cell? ⟨w.heap.size, 4, none⟩ = some (.string a.s) := cellH BA10.out rfl
              have caz : w.heap.size < w10.heap.size := lt_of_cell ca0
              have cb0 : w10.cell? ⟨w.heap.size + 1, 0, none⟩ = some (.string b.nm) := cellH BB10.out rfl
              have cb1 : w10.cell? ⟨w.heap.size + 1, 1, none⟩ = some (.int .i64 b.op) := cellH BB10.out rfl
              have cb2 : w10.cell? ⟨w.heap.size + 1, 2, none⟩ = some (.int .i64 b.k) := cellH BB10.out rfl
              have cb3 : w10.cell? ⟨w.heap.size + 1, 3, none⟩ = some (.int .i64 b.n) := cellH BB10.out rfl
              have cb4 : w10.cell? ⟨w.heap.size + 1, 4, none⟩ = some (.string b.s) := cellH BB10.out rfl
              have cbz : w.heap.size + 1 < w10.heap.size := lt_of_cell cb0
              have cc0 : w10.cell? ⟨w.heap.size + 1 + 1, 0, none⟩ = some (.int .i64 vk) := cellH BC10.out rfl
              have cc1 : w10.cell? ⟨w.heap.size + 1 + 1, 1, none⟩ = some (.int .i64 vm) := cellH BC10.out rfl
              have cc2 : w10.cell? ⟨w.heap.size + 1 + 1, 2, none⟩ = some (.string vz) := cellH BC10.out rfl
              have ccz : w.heap.size + 1 + 1 < w10.heap.size := lt_of_cell cc0
              cases hha : holdsT a es with
              | false =>
                clear hha
                go_wp2
                go_ret
                refine ⟨rfl, ?_⟩
                (repeat (first | exact Ext.refl _ | refine Ext.alloc ?_ _ | refine Ext.drewN ?_ _ | refine Ext.drew ?_ | refine Ext.trans ?_ (Hid.out (by assumption))))
              | true =>
                have HHB := hid (HHO.out hha)
                clear hha
                go_wp2_with fail
                refine (holds_any b _ _ _ es _ (HE.out.ext (by (repeat (first | exact Ext.refl _ | refine Ext.alloc ?_ _ | refine Ext.drewN ?_ _ | refine Ext.drew ?_ | refine Ext.trans ?_ (Hid.out (by assumption))))))).mono ?_
                rintro e wl ⟨he, hb⟩
                rw [HHB.out] at he
                subst he
                have hxl := hid hb
                clear hb
                go_wp2
                go_ret
                refine ⟨rfl, ?_⟩
                (repeat (first | exact Ext.refl _ | refine Ext.alloc ?_ _ | refine Ext.drewN ?_ _ | refine Ext.drew ?_ | refine Ext.trans ?_ (Hid.out (by assumption))))
        · clear hz
          go_wp2
          go_ret
          refine ⟨rfl, ?_⟩
          (repeat (first | exact Ext.refl _ | refine Ext.alloc ?_ _ | refine Ext.drewN ?_ _ | refine Ext.drew ?_ | refine Ext.trans ?_ (Hid.out (by assumption))))
      · rw [hv]
        clear hv
        go_wp2
        go_ret
        refine ⟨rfl, ?_⟩
        (repeat (first | exact Ext.refl _ | refine Ext.alloc ?_ _ | refine Ext.drewN ?_ _ | refine Ext.drew ?_ | refine Ext.trans ?_ (Hid.out (by assumption))))
  · have h100i : (100 : Int) < (vz.size : Int) := by omega
    go_wp2
    go_ret
    refine ⟨rfl, ?_⟩
    (repeat (first | exact Ext.refl _ | refine Ext.alloc ?_ _ | refine Ext.drewN ?_ _ | refine Ext.drew ?_ | refine Ext.trans ?_ (Hid.out (by assumption))))
end Go.Proofs.Ytclmbonippjhoaa
