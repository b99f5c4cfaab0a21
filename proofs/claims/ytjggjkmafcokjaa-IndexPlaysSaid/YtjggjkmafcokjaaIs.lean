/- Whether a value is as a test asks it: the walk of the program's Is. -/
import Derived.Test.YtjggjkmafcokjaaTst
import Derived.Test.YtjggjkmafcokjaaMaps
import Derived.Carry
import Derived.Deep.DeepCutAuto
set_option linter.unusedVariables false
set_option linter.unusedSimpArgs false
namespace Go.Proofs.Ytjggjkmafcokjaa
open Go.RowKit

theorem look_none {P : Program} {t kt e : TypeId} (ht : P.underlying t = some (.map kt e)) (hk : P.underlying kt = some (.int .i64)) {W : World} {b : Nat} {es : Array MapEntry} {c : Nat} (hb : W.heap[b]? = some (.map es c)) (k : Int)
    (hf : Instr.findNow (.int .i64) (.int .i64 k) es.toList 0 = some none) {z : Value} (hz : (zeroValue e).run P W = .ok z W) :
    (Instr.lookup t (.map (some b)) (.int .i64 k) true).run P W = .ok (.tuple #[z, .bool false]) W := by
  simp [Instr.lookup, Go.run_underlying ht, MapKept.run_getObj_map hb, MapKept.run_checkKey hk (k := .int .i64 k) rfl, MapKept.run_findKey hk hf, hz, Result.andThen]
theorem is1_any (n : Int) (b : Nat) (w : World) (h : w.cell? ⟨b, 0, none⟩ = some (.int .i64 n)) :
    Calls Try.prog 49 #[.pointer (some ⟨b, 0, none⟩)] w fun e w' => e = .returned (.bool (asks 1 n false)) ∧ Ext w w' := by
  go_enter Try.func49, Try.ntmps49
  go_wp2
  go_ret
  exact ⟨ret_bool (by rw [asks_1, Bool.eq_iff_iff]; simp), Ext.refl _⟩
theorem is2_any (n : Int) (b : Nat) (w : World) (h : w.cell? ⟨b, 0, none⟩ = some (.int .i64 n)) :
    Calls Try.prog 50 #[.pointer (some ⟨b, 0, none⟩)] w fun e w' => e = .returned (.bool (asks 2 n false)) ∧ Ext w w' := by
  go_enter Try.func50, Try.ntmps50
  go_wp2
  go_ret
  exact ⟨ret_bool (by rw [asks_2, Bool.eq_iff_iff]; simp), Ext.refl _⟩
theorem is3_any (n : Int) (b : Nat) (w : World) (h : w.cell? ⟨b, 0, none⟩ = some (.int .i64 n)) :
    Calls Try.prog 51 #[.pointer (some ⟨b, 0, none⟩)] w fun e w' => e = .returned (.bool (asks 3 n false)) ∧ Ext w w' := by
  go_enter Try.func51, Try.ntmps51
  go_wp2
  go_ret
  exact ⟨ret_bool (by rw [asks_3]), Ext.refl _⟩
theorem is4_any (n : Int) (b : Nat) (w : World) (h : w.cell? ⟨b, 0, none⟩ = some (.int .i64 n)) :
    Calls Try.prog 52 #[.pointer (some ⟨b, 0, none⟩)] w fun e w' => e = .returned (.bool (asks 4 n false)) ∧ Ext w w' := by
  go_enter Try.func52, Try.ntmps52
  go_wp2
  go_ret
  exact ⟨ret_bool (by rw [asks_4]), Ext.refl _⟩
theorem is5_any (n : Int) (b : Nat) (w : World) (h : w.cell? ⟨b, 0, none⟩ = some (.int .i64 n)) :
    Calls Try.prog 53 #[.pointer (some ⟨b, 0, none⟩)] w fun e w' => e = .returned (.bool (asks 5 n false)) ∧ Ext w w' := by
  go_enter Try.func53, Try.ntmps53
  go_wp2
  go_ret
  exact ⟨ret_bool (by rw [asks_5]), Ext.refl _⟩
theorem is6_any (n : Int) (b : Nat) (w : World) (h : w.cell? ⟨b, 0, none⟩ = some (.int .i64 n)) :
    Calls Try.prog 54 #[.pointer (some ⟨b, 0, none⟩)] w fun e w' => e = .returned (.bool (asks 6 n false)) ∧ Ext w w' := by
  go_enter Try.func54, Try.ntmps54
  go_wp2
  go_ret
  exact ⟨ret_bool (by rw [asks_6]), Ext.refl _⟩
theorem is7_any (k n : Int) (s : ByteArray) (t : T) (bv bt : Nat) (w : World) (h0 : w.cell? ⟨bv, 0, none⟩ = some (.int .i64 k)) (h1 : w.cell? ⟨bv, 1, none⟩ = some (.int .i64 n)) (h2 : w.cell? ⟨bv, 2, none⟩ = some (.string s))
    (g2 : w.cell? ⟨bt, 2, none⟩ = some (.int .i64 t.k)) (g3 : w.cell? ⟨bt, 3, none⟩ = some (.int .i64 t.n)) (g4 : w.cell? ⟨bt, 4, none⟩ = some (.string t.s)) :
    Calls Try.prog 55 #[.pointer (some ⟨bv, 0, none⟩), .pointer (some ⟨bt, 0, none⟩)] w fun e w' => e = .returned (.bool (vBeg k s.toList t.k t.s.toList)) ∧ Ext w w' := by
  go_enter Try.func55, Try.ntmps55
  go_wp2_with (go_at_call 56; refine (beg_any _ _ _ _ _ _ _).mono ?_; rintro e w' ⟨rfl, hb⟩; have hx := hid hb; clear hb)
  go_ret
  refine ⟨rfl, ?_⟩
  (repeat (first | exact Ext.refl _ | refine Ext.alloc ?_ _ | refine Ext.drewN ?_ _ | refine Ext.drew ?_ | refine Ext.trans ?_ (Hid.out (by assumption))))

theorem find_no (k : Int) (h : k < 1 ∨ 7 < k) (v0 v1 v2 v3 v4 v5 v6 : Value) : Instr.findNow (.int .i64) (.int .i64 k) [⟨.int .i64 1, v0, 0⟩, ⟨.int .i64 2, v1, 1⟩, ⟨.int .i64 3, v2, 2⟩, ⟨.int .i64 4, v3, 3⟩, ⟨.int .i64 5, v4, 4⟩, ⟨.int .i64 6, v5, 5⟩, ⟨.int .i64 7, v6, 6⟩] 0 = some none := by
  have : ∀ j : Int, 1 ≤ j → j ≤ 7 → (k == j) = false := fun j h1 h2 => by simp; omega
  simp [Instr.findNow, Instr.sameNow, this]
theorem asks_no {op n : Int} {bg : Bool} (h : op < 1 ∨ 7 < op) : asks op n bg = false := by
  unfold asks
  rw [if_neg (by omega), if_neg (by omega), if_neg (by omega), if_neg (by omega), if_neg (by omega), if_neg (by omega), if_neg (by omega)]
theorem zeroF (W : World) : (zeroValue 22).run Try.prog W = .ok .nilFunc W := by kernel_rfl
theorem isV_eq {op k n : Int} {s : ByteArray} {t : T} (h8 : op ≠ 8) : isV op t.v ⟨k, n, s.toList⟩ = (decide (k = t.k) && asks op (vOrd k n s.toList t.k t.n t.s.toList) (vBeg k s.toList t.k t.s.toList)) := by
  unfold isV; rw [if_neg h8]; rfl
set_option maxRecDepth 100000 in
set_option maxHeartbeats 2000000 in
theorem is_any (t : T) (k n : Int) (s : ByteArray) (w : World) :
    Calls Try.prog 38 #[.agg #[.string t.nm, .int .i64 t.op, .int .i64 t.k, .int .i64 t.n, .string t.s], .agg #[.int .i64 k, .int .i64 n, .string s]] w fun e w' => e = .returned (.bool (isV t.op t.v ⟨k, n, s.toList⟩)) ∧ Ext w w' := by
  have hmm := @run_makeMap Try.prog
  go_enter Try.func38, Try.ntmps38
  go_wp2_with fail
  refine (order_any k n s t.k t.n t.s ((w.alloc (Obj.cells #[.string t.nm, .int .i64 t.op, .int .i64 t.k, .int .i64 t.n, .string t.s] 54)).alloc (Obj.cells #[.int .i64 k, .int .i64 n, .string s] 52))).mono ?_
  rintro e w1 ⟨rfl, hb⟩
  have BT : ((w.alloc (Obj.cells #[.string t.nm, .int .i64 t.op, .int .i64 t.k, .int .i64 t.n, .string t.s] 54)).alloc (Obj.cells #[.int .i64 k, .int .i64 n, .string s] 52)).heap[w.heap.size]? = some (Obj.cells #[.string t.nm, .int .i64 t.op, .int .i64 t.k, .int .i64 t.n, .string t.s] 54) := by (repeat (first | (refine heap_new ?_; (simp; done)) | refine heap_old (by first | (simp; done) | (simp; omega)) ?_))
  have BV : ((w.alloc (Obj.cells #[.string t.nm, .int .i64 t.op, .int .i64 t.k, .int .i64 t.n, .string t.s] 54)).alloc (Obj.cells #[.int .i64 k, .int .i64 n, .string s] 52)).heap[w.heap.size + 1]? = some (Obj.cells #[.int .i64 k, .int .i64 n, .string s] 52) := by (repeat (first | (refine heap_new ?_; (simp; done)) | refine heap_old (by first | (simp; done) | (simp; omega)) ?_))
  have ABT := hid (hb.blk BT)
  have ABV := hid (hb.blk BV)
  have hx1 := hid hb
  have hz1 : w.heap.size + 1 < w1.heap.size := lt_of_block ABV.out
  have hz0 : w.heap.size < w1.heap.size := lt_of_block ABT.out
  clear hb BT BV
  have i0 := fun (v : Value) => ins_new (P := Try.prog) Try.underlying93 Try.underlying3 (w1.alloc (Obj.cells #[.int .i64 (vOrd k n s.toList t.k t.n t.s.toList)] 3)) (w1.heap.size + 1) (by simp) #[] 0 1 v rfl
  have i1 := fun (v v0 : Value) => ins_new (P := Try.prog) Try.underlying93 Try.underlying3 (w1.alloc (Obj.cells #[.int .i64 (vOrd k n s.toList t.k t.n t.s.toList)] 3)) (w1.heap.size + 1) (by simp) #[⟨.int .i64 1, v0, 0⟩] 1 2 v rfl
  have i2 := fun (v v0 v1 : Value) => ins_new (P := Try.prog) Try.underlying93 Try.underlying3 (w1.alloc (Obj.cells #[.int .i64 (vOrd k n s.toList t.k t.n t.s.toList)] 3)) (w1.heap.size + 1) (by simp) #[⟨.int .i64 1, v0, 0⟩, ⟨.int .i64 2, v1, 1⟩] 2 3 v rfl
  have i3 := fun (v v0 v1 v2 : Value) => ins_new (P := Try.prog) Try.underlying93 Try.underlying3 (w1.alloc (Obj.cells #[.int .i64 (vOrd k n s.toList t.k t.n t.s.toList)] 3)) (w1.heap.size + 1) (by simp) #[⟨.int .i64 1, v0, 0⟩, ⟨.int .i64 2, v1, 1⟩, ⟨.int .i64 3, v2, 2⟩] 3 4 v rfl
  have i4 := fun (v v0 v1 v2 v3 : Value) => ins_new (P := Try.prog) Try.underlying93 Try.underlying3 (w1.alloc (Obj.cells #[.int .i64 (vOrd k n s.toList t.k t.n t.s.toList)] 3)) (w1.heap.size + 1) (by simp) #[⟨.int .i64 1, v0, 0⟩, ⟨.int .i64 2, v1, 1⟩, ⟨.int .i64 3, v2, 2⟩, ⟨.int .i64 4, v3, 3⟩] 4 5 v rfl
  have i5 := fun (v v0 v1 v2 v3 v4 : Value) => ins_new (P := Try.prog) Try.underlying93 Try.underlying3 (w1.alloc (Obj.cells #[.int .i64 (vOrd k n s.toList t.k t.n t.s.toList)] 3)) (w1.heap.size + 1) (by simp) #[⟨.int .i64 1, v0, 0⟩, ⟨.int .i64 2, v1, 1⟩, ⟨.int .i64 3, v2, 2⟩, ⟨.int .i64 4, v3, 3⟩, ⟨.int .i64 5, v4, 4⟩] 5 6 v rfl
  have i6 := fun (v v0 v1 v2 v3 v4 v5 : Value) => ins_new (P := Try.prog) Try.underlying93 Try.underlying3 (w1.alloc (Obj.cells #[.int .i64 (vOrd k n s.toList t.k t.n t.s.toList)] 3)) (w1.heap.size + 1) (by simp) #[⟨.int .i64 1, v0, 0⟩, ⟨.int .i64 2, v1, 1⟩, ⟨.int .i64 3, v2, 2⟩, ⟨.int .i64 4, v3, 3⟩, ⟨.int .i64 5, v4, 4⟩, ⟨.int .i64 6, v5, 5⟩] 6 7 v rfl
  have t1 : w1.cell? ⟨w.heap.size, 1, none⟩ = some (.int .i64 t.op) := cellH ABT.out rfl
  have t2 : w1.cell? ⟨w.heap.size, 2, none⟩ = some (.int .i64 t.k) := cellH ABT.out rfl
  have v0 : w1.cell? ⟨w.heap.size + 1, 0, none⟩ = some (.int .i64 k) := cellH ABV.out rfl
  go_upto_region 3 with fail
  clear i0 i1 i2 i3 i4 i5 i6 hmm
  have BM : ((w1.alloc (Obj.cells #[.int .i64 (vOrd k n s.toList t.k t.n t.s.toList)] 3)).alloc (Obj.map #[⟨.int .i64 1, (.func (.func 49) #[] #[.pointer (some ⟨w1.heap.size, 0, none⟩)]), 0⟩, ⟨.int .i64 2, (.func (.func 50) #[] #[.pointer (some ⟨w1.heap.size, 0, none⟩)]), 1⟩, ⟨.int .i64 3, (.func (.func 51) #[] #[.pointer (some ⟨w1.heap.size, 0, none⟩)]), 2⟩, ⟨.int .i64 4, (.func (.func 52) #[] #[.pointer (some ⟨w1.heap.size, 0, none⟩)]), 3⟩, ⟨.int .i64 5, (.func (.func 53) #[] #[.pointer (some ⟨w1.heap.size, 0, none⟩)]), 4⟩, ⟨.int .i64 6, (.func (.func 54) #[] #[.pointer (some ⟨w1.heap.size, 0, none⟩)]), 5⟩, ⟨.int .i64 7, (.func (.func 55) #[] #[.pointer (some ⟨w.heap.size + 1, 0, none⟩), .pointer (some ⟨w.heap.size, 0, none⟩)]), 6⟩] 7)).heap[w1.heap.size + 1]? = some (Obj.map #[⟨.int .i64 1, (.func (.func 49) #[] #[.pointer (some ⟨w1.heap.size, 0, none⟩)]), 0⟩, ⟨.int .i64 2, (.func (.func 50) #[] #[.pointer (some ⟨w1.heap.size, 0, none⟩)]), 1⟩, ⟨.int .i64 3, (.func (.func 51) #[] #[.pointer (some ⟨w1.heap.size, 0, none⟩)]), 2⟩, ⟨.int .i64 4, (.func (.func 52) #[] #[.pointer (some ⟨w1.heap.size, 0, none⟩)]), 3⟩, ⟨.int .i64 5, (.func (.func 53) #[] #[.pointer (some ⟨w1.heap.size, 0, none⟩)]), 4⟩, ⟨.int .i64 6, (.func (.func 54) #[] #[.pointer (some ⟨w1.heap.size, 0, none⟩)]), 5⟩, ⟨.int .i64 7, (.func (.func 55) #[] #[.pointer (some ⟨w.heap.size + 1, 0, none⟩), .pointer (some ⟨w.heap.size, 0, none⟩)]), 6⟩] 7) := by (repeat (first | (refine heap_new ?_; (simp; done)) | refine heap_old (by first | (simp; done) | (simp; omega)) ?_))
  have HBM := hid BM
  have A0 : ((w1.alloc (Obj.cells #[.int .i64 (vOrd k n s.toList t.k t.n t.s.toList)] 3)).alloc (Obj.map #[⟨.int .i64 1, (.func (.func 49) #[] #[.pointer (some ⟨w1.heap.size, 0, none⟩)]), 0⟩, ⟨.int .i64 2, (.func (.func 50) #[] #[.pointer (some ⟨w1.heap.size, 0, none⟩)]), 1⟩, ⟨.int .i64 3, (.func (.func 51) #[] #[.pointer (some ⟨w1.heap.size, 0, none⟩)]), 2⟩, ⟨.int .i64 4, (.func (.func 52) #[] #[.pointer (some ⟨w1.heap.size, 0, none⟩)]), 3⟩, ⟨.int .i64 5, (.func (.func 53) #[] #[.pointer (some ⟨w1.heap.size, 0, none⟩)]), 4⟩, ⟨.int .i64 6, (.func (.func 54) #[] #[.pointer (some ⟨w1.heap.size, 0, none⟩)]), 5⟩, ⟨.int .i64 7, (.func (.func 55) #[] #[.pointer (some ⟨w.heap.size + 1, 0, none⟩), .pointer (some ⟨w.heap.size, 0, none⟩)]), 6⟩] 7)).cell? ⟨w1.heap.size, 0, none⟩ = some (.int .i64 (vOrd k n s.toList t.k t.n t.s.toList)) := cellH (t := 3) (fr := (0, 0)) (show ((w1.alloc (Obj.cells #[.int .i64 (vOrd k n s.toList t.k t.n t.s.toList)] 3)).alloc (Obj.map #[⟨.int .i64 1, (.func (.func 49) #[] #[.pointer (some ⟨w1.heap.size, 0, none⟩)]), 0⟩, ⟨.int .i64 2, (.func (.func 50) #[] #[.pointer (some ⟨w1.heap.size, 0, none⟩)]), 1⟩, ⟨.int .i64 3, (.func (.func 51) #[] #[.pointer (some ⟨w1.heap.size, 0, none⟩)]), 2⟩, ⟨.int .i64 4, (.func (.func 52) #[] #[.pointer (some ⟨w1.heap.size, 0, none⟩)]), 3⟩, ⟨.int .i64 5, (.func (.func 53) #[] #[.pointer (some ⟨w1.heap.size, 0, none⟩)]), 4⟩, ⟨.int .i64 6, (.func (.func 54) #[] #[.pointer (some ⟨w1.heap.size, 0, none⟩)]), 5⟩, ⟨.int .i64 7, (.func (.func 55) #[] #[.pointer (some ⟨w.heap.size + 1, 0, none⟩), .pointer (some ⟨w.heap.size, 0, none⟩)]), 6⟩] 7)).heap[w1.heap.size]? = some _ from by (repeat (first | (refine heap_new ?_; (simp; done)) | refine heap_old (by first | (simp; done) | (simp; omega)) ?_))) rfl
  have HA0 := hid A0
  clear BM A0
  by_cases h8 : t.op = 8
  · have h8b : (t.op == 8) = true := by simp [h8]
    have H8 := hid h8
    clear h8
    go_wp2
    go_ret
    refine ⟨ret_bool (by unfold isV; rw [if_pos H8.out]), ?_⟩
    (repeat (first | exact Ext.refl _ | refine Ext.alloc ?_ _ | refine Ext.drewN ?_ _ | refine Ext.drew ?_ | refine Ext.trans ?_ (Hid.out (by assumption))))
  have h8b : (t.op == 8) = false := by simp [h8]
  have HIV := hid (isV_eq (k := k) (n := n) (s := s) (t := t) h8)
  clear h8
  by_cases hno : t.op < 1 ∨ 7 < t.op
  · have lk := look_none (P := Try.prog) Try.underlying93 Try.underlying3 HBM.out t.op (find_no _ hno _ _ _ _ _ _ _) (zeroF _)
    have HNO := hid hno
    clear hno
    go_wp2
    go_ret
    refine ⟨ret_bool (by rw [HIV.out, asks_no HNO.out, Bool.and_false]), ?_⟩
    (repeat (first | exact Ext.refl _ | refine Ext.alloc ?_ _ | refine Ext.drewN ?_ _ | refine Ext.drew ?_ | refine Ext.trans ?_ (Hid.out (by assumption))))
  have hop : t.op = 1 ∨ t.op = 2 ∨ t.op = 3 ∨ t.op = 4 ∨ t.op = 5 ∨ t.op = 6 ∨ t.op = 7 := by omega
  clear hno h8b
  by_cases hk : k = t.k
  · have hkb : (k == t.k) = true := by simp [hk]
    have HK := hid hk
    clear hk
    rcases hop with h | h | h | h | h | h | h
    · have H := hid h
      rw [h] at t1
      clear h
      have lk := look_at (P := Try.prog) Try.underlying93 Try.underlying3 HBM.out 1 rfl
      dsimp only at lk
      go_wp2_with (go_at_call 49; refine (is1_any _ _ _ HA0.out).mono ?_; rintro e w' ⟨rfl, hb⟩; have hx := hid hb; clear hb)
      go_ret
      refine ⟨ret_bool (by rw [HIV.out, H.out, decide_eq_true HK.out, Bool.true_and]; rfl), ?_⟩
      (repeat (first | exact Ext.refl _ | refine Ext.alloc ?_ _ | refine Ext.drewN ?_ _ | refine Ext.drew ?_ | refine Ext.trans ?_ (Hid.out (by assumption))))
    · have H := hid h
      rw [h] at t1
      clear h
      have lk := look_at (P := Try.prog) Try.underlying93 Try.underlying3 HBM.out 2 rfl
      dsimp only at lk
      go_wp2_with (go_at_call 50; refine (is2_any _ _ _ HA0.out).mono ?_; rintro e w' ⟨rfl, hb⟩; have hx := hid hb; clear hb)
      go_ret
      refine ⟨ret_bool (by rw [HIV.out, H.out, decide_eq_true HK.out, Bool.true_and]; rfl), ?_⟩
      (repeat (first | exact Ext.refl _ | refine Ext.alloc ?_ _ | refine Ext.drewN ?_ _ | refine Ext.drew ?_ | refine Ext.trans ?_ (Hid.out (by assumption))))
    · have H := hid h
      rw [h] at t1
      clear h
      have lk := look_at (P := Try.prog) Try.underlying93 Try.underlying3 HBM.out 3 rfl
      dsimp only at lk
      go_wp2_with (go_at_call 51; refine (is3_any _ _ _ HA0.out).mono ?_; rintro e w' ⟨rfl, hb⟩; have hx := hid hb; clear hb)
      go_ret
      refine ⟨ret_bool (by rw [HIV.out, H.out, decide_eq_true HK.out, Bool.true_and]; rfl), ?_⟩
      (repeat (first | exact Ext.refl _ | refine Ext.alloc ?_ _ | refine Ext.drewN ?_ _ | refine Ext.drew ?_ | refine Ext.trans ?_ (Hid.out (by assumption))))
    · have H := hid h
      rw [h] at t1
      clear h
      have lk := look_at (P := Try.prog) Try.underlying93 Try.underlying3 HBM.out 4 rfl
      dsimp only at lk
      go_wp2_with (go_at_call 52; refine (is4_any _ _ _ HA0.out).mono ?_; rintro e w' ⟨rfl, hb⟩; have hx := hid hb; clear hb)
      go_ret
      refine ⟨ret_bool (by rw [HIV.out, H.out, decide_eq_true HK.out, Bool.true_and]; rfl), ?_⟩
      (repeat (first | exact Ext.refl _ | refine Ext.alloc ?_ _ | refine Ext.drewN ?_ _ | refine Ext.drew ?_ | refine Ext.trans ?_ (Hid.out (by assumption))))
    · have H := hid h
      rw [h] at t1
      clear h
      have lk := look_at (P := Try.prog) Try.underlying93 Try.underlying3 HBM.out 5 rfl
      dsimp only at lk
      go_wp2_with (go_at_call 53; refine (is5_any _ _ _ HA0.out).mono ?_; rintro e w' ⟨rfl, hb⟩; have hx := hid hb; clear hb)
      go_ret
      refine ⟨ret_bool (by rw [HIV.out, H.out, decide_eq_true HK.out, Bool.true_and]; rfl), ?_⟩
      (repeat (first | exact Ext.refl _ | refine Ext.alloc ?_ _ | refine Ext.drewN ?_ _ | refine Ext.drew ?_ | refine Ext.trans ?_ (Hid.out (by assumption))))
    · have H := hid h
      rw [h] at t1
      clear h
      have lk := look_at (P := Try.prog) Try.underlying93 Try.underlying3 HBM.out 6 rfl
      dsimp only at lk
      go_wp2_with (go_at_call 54; refine (is6_any _ _ _ HA0.out).mono ?_; rintro e w' ⟨rfl, hb⟩; have hx := hid hb; clear hb)
      go_ret
      refine ⟨ret_bool (by rw [HIV.out, H.out, decide_eq_true HK.out, Bool.true_and]; rfl), ?_⟩
      (repeat (first | exact Ext.refl _ | refine Ext.alloc ?_ _ | refine Ext.drewN ?_ _ | refine Ext.drew ?_ | refine Ext.trans ?_ (Hid.out (by assumption))))
    · have H := hid h
      rw [h] at t1
      clear h
      have lk := look_at (P := Try.prog) Try.underlying93 Try.underlying3 HBM.out 7 rfl
      dsimp only at lk
      go_wp2_with (go_at_call 55; refine (is7_any k n s t _ _ _ ((((Ext.refl w1).alloc _).alloc _).keep (cellH ABV.out rfl)) ((((Ext.refl w1).alloc _).alloc _).keep (cellH ABV.out rfl)) ((((Ext.refl w1).alloc _).alloc _).keep (cellH ABV.out rfl)) ((((Ext.refl w1).alloc _).alloc _).keep (cellH ABT.out rfl)) ((((Ext.refl w1).alloc _).alloc _).keep (cellH ABT.out rfl)) ((((Ext.refl w1).alloc _).alloc _).keep (cellH ABT.out rfl))).mono ?_; rintro e w' ⟨rfl, hb⟩; have hx := hid hb; clear hb)
      go_ret
      refine ⟨ret_bool (by rw [HIV.out, H.out, decide_eq_true HK.out, Bool.true_and]; rfl), ?_⟩
      (repeat (first | exact Ext.refl _ | refine Ext.alloc ?_ _ | refine Ext.drewN ?_ _ | refine Ext.drew ?_ | refine Ext.trans ?_ (Hid.out (by assumption))))
  · have hkb : (k == t.k) = false := by simp [hk]
    have HK := hid hk
    clear hk
    rcases hop with h | h | h | h | h | h | h
    · rw [h] at t1
      clear h
      have lk := look_at (P := Try.prog) Try.underlying93 Try.underlying3 HBM.out 1 rfl
      dsimp only at lk
      go_wp2
      go_ret
      refine ⟨ret_bool (by rw [HIV.out, decide_eq_false HK.out, Bool.false_and]), ?_⟩
      (repeat (first | exact Ext.refl _ | refine Ext.alloc ?_ _ | refine Ext.drewN ?_ _ | refine Ext.drew ?_ | refine Ext.trans ?_ (Hid.out (by assumption))))
    · rw [h] at t1
      clear h
      have lk := look_at (P := Try.prog) Try.underlying93 Try.underlying3 HBM.out 2 rfl
      dsimp only at lk
      go_wp2
      go_ret
      refine ⟨ret_bool (by rw [HIV.out, decide_eq_false HK.out, Bool.false_and]), ?_⟩
      (repeat (first | exact Ext.refl _ | refine Ext.alloc ?_ _ | refine Ext.drewN ?_ _ | refine Ext.drew ?_ | refine Ext.trans ?_ (Hid.out (by assumption))))
    · rw [h] at t1
      clear h
      have lk := look_at (P := Try.prog) Try.underlying93 Try.underlying3 HBM.out 3 rfl
      dsimp only at lk
      go_wp2
      go_ret
      refine ⟨ret_bool (by rw [HIV.out, decide_eq_false HK.out, Bool.false_and]), ?_⟩
      (repeat (first | exact Ext.refl _ | refine Ext.alloc ?_ _ | refine Ext.drewN ?_ _ | refine Ext.drew ?_ | refine Ext.trans ?_ (Hid.out (by assumption))))
    · rw [h] at t1
      clear h
      have lk := look_at (P := Try.prog) Try.underlying93 Try.underlying3 HBM.out 4 rfl
      dsimp only at lk
      go_wp2
      go_ret
      refine ⟨ret_bool (by rw [HIV.out, decide_eq_false HK.out, Bool.false_and]), ?_⟩
      (repeat (first | exact Ext.refl _ | refine Ext.alloc ?_ _ | refine Ext.drewN ?_ _ | refine Ext.drew ?_ | refine Ext.trans ?_ (Hid.out (by assumption))))
    · rw [h] at t1
      clear h
      have lk := look_at (P := Try.prog) Try.underlying93 Try.underlying3 HBM.out 5 rfl
      dsimp only at lk
      go_wp2
      go_ret
      refine ⟨ret_bool (by rw [HIV.out, decide_eq_false HK.out, Bool.false_and]), ?_⟩
      (repeat (first | exact Ext.refl _ | refine Ext.alloc ?_ _ | refine Ext.drewN ?_ _ | refine Ext.drew ?_ | refine Ext.trans ?_ (Hid.out (by assumption))))
    · rw [h] at t1
      clear h
      have lk := look_at (P := Try.prog) Try.underlying93 Try.underlying3 HBM.out 6 rfl
      dsimp only at lk
      go_wp2
      go_ret
      refine ⟨ret_bool (by rw [HIV.out, decide_eq_false HK.out, Bool.false_and]), ?_⟩
      (repeat (first | exact Ext.refl _ | refine Ext.alloc ?_ _ | refine Ext.drewN ?_ _ | refine Ext.drew ?_ | refine Ext.trans ?_ (Hid.out (by assumption))))
    · rw [h] at t1
      clear h
      have lk := look_at (P := Try.prog) Try.underlying93 Try.underlying3 HBM.out 7 rfl
      dsimp only at lk
      go_wp2
      go_ret
      refine ⟨ret_bool (by rw [HIV.out, decide_eq_false HK.out, Bool.false_and]), ?_⟩
      (repeat (first | exact Ext.refl _ | refine Ext.alloc ?_ _ | refine Ext.drewN ?_ _ | refine Ext.drew ?_ | refine Ext.trans ?_ (Hid.out (by assumption))))
end Go.Proofs.Ytjggjkmafcokjaa
