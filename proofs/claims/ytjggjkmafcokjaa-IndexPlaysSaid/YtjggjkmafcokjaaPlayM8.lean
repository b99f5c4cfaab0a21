/- The two indexes side by side: what a script of calls keeps. -/
import Derived.Test.YtjggjkmafcokjaaRAdd8
set_option linter.unusedVariables false
set_option linter.unusedSimpArgs false
namespace Go.Proofs.Ytjggjkmafcokjaa
open Go.RowKit

/-- a call's load that is little, with its names -/
def LittleN (x : CallV) : Prop := x.ts.length ≤ 10 ∧ (∀ t, t ∈ x.ts → t.nm.size ≤ 100) ∧ x.es.length ≤ 20 ∧ ∀ a, a ∈ x.es → a.nm.size ≤ 100
def RetSmallN (x : CallV) (w : World) (e : Ending) (w' : World) : Prop := ∃ K : Bool, e = .returned (.bool K) ∧ (K = true → LittleN x) ∧ Ext w w'
set_option maxRecDepth 100000 in
set_option maxHeartbeats 1000000 in
theorem small2_any (x : CallV) (w : World) (h : CallOk w x) : Calls Try.prog 11 #[.agg #[.int .i64 x.k, .int .u64 x.id, .slice x.f.a x.f.n x.f.c, .slice x.e.a x.e.n x.e.c]] w (RetSmallN x w) := by
  have H := hid h
  clear h
  go_enter Try.func11, Try.ntmps11
  go_wp2_with fail
  refine (few05n_any _ _ _ x.ts _ (H.out.f.ext (by (repeat (first | exact Ext.refl _ | refine Ext.alloc ?_ _ | refine Ext.drewN ?_ _ | refine Ext.drew ?_ | refine Ext.trans ?_ (Hid.out (by assumption))))))).mono ?_
  rintro e w1 ⟨f5, rfl, hf5, hb⟩
  have HF5 := hid hf5
  have hx1 := hid hb
  clear hf5 hb
  have c3 : w1.cell? ⟨w.heap.size, 3, none⟩ = some (.slice x.e.a x.e.n x.e.c) := hx1.out.keep (cellH (heap_alloc_new _ _) rfl)
  go_wp2_with fail
  refine (few04n_any _ _ _ x.es _ (H.out.e.ext (by (repeat (first | exact Ext.refl _ | refine Ext.alloc ?_ _ | refine Ext.drewN ?_ _ | refine Ext.drew ?_ | refine Ext.trans ?_ (Hid.out (by assumption))))))).mono ?_
  rintro e w2 ⟨f4, rfl, hf4, hb⟩
  have HF4 := hid hf4
  have hx2 := hid hb
  clear hf4 hb
  cases f5 with
  | false =>
    go_wp2
    go_ret
    exact ⟨false, rfl, (fun h => by cases h), (by (repeat (first | exact Ext.refl _ | refine Ext.alloc ?_ _ | refine Ext.drewN ?_ _ | refine Ext.drew ?_ | refine Ext.trans ?_ (Hid.out (by assumption)))))⟩
  | true =>
    cases f4 with
    | false =>
      go_wp2
      go_ret
      exact ⟨false, rfl, (fun h => by cases h), (by (repeat (first | exact Ext.refl _ | refine Ext.alloc ?_ _ | refine Ext.drewN ?_ _ | refine Ext.drew ?_ | refine Ext.trans ?_ (Hid.out (by assumption)))))⟩
    | true =>
      have HL := hid (show LittleN x from ⟨(HF5.out rfl).1, (HF5.out rfl).2, (HF4.out rfl).1, (HF4.out rfl).2⟩)
      go_wp2
      go_ret
      exact ⟨true, rfl, (fun _ => HL.out), (by (repeat (first | exact Ext.refl _ | refine Ext.alloc ?_ _ | refine Ext.drewN ?_ _ | refine Ext.drew ?_ | refine Ext.trans ?_ (Hid.out (by assumption)))))⟩
/-- an Add's answer, and what it makes of an index -/
def addV (fd : Int → Option (List T)) (id : Int) (ts : List T) : Int := if chkB ts = true then (if (fd id).isSome = true then 80 else 0) else 50
def addF (fd : Int → Option (List T)) (id : Int) (ts : List T) : Int → Option (List T) := if chkB ts = true then (if (fd id).isSome = true then fd else fun k => if k = id then some ts else fd k) else fd
def addN (fd : Int → Option (List T)) (s : Nat) (id : Int) (ts : List T) : Nat := if chkB ts = true then (if (fd id).isSome = true then s else s + 1) else s
def dropV (fd : Int → Option (List T)) (id : Int) : Int := if (fd id).isSome = true then 0 else 80
def dropF (fd : Int → Option (List T)) (id : Int) : Int → Option (List T) := fun k => if k = id then none else fd k
def dropN (fd : Int → Option (List T)) (s : Nat) (id : Int) : Nat := if (fd id).isSome = true then s - 1 else s
theorem addN_le (fd : Int → Option (List T)) (s : Nat) (id : Int) (ts : List T) : addN fd s id ts ≤ s + 1 := by
  unfold addN
  split
  · split <;> omega
  · omega
theorem dropN_le (fd : Int → Option (List T)) (s : Nat) (id : Int) : dropN fd s id ≤ s := by unfold dropN; split <;> omega
theorem dropF_same {fd : Int → Option (List T)} {id : Int} (h : fd id = none) : dropF fd id = fd := funext fun k => by
  unfold dropF
  by_cases e : k = id
  · subst e; simp [h]
  · simp [e]
/-- the blocks of the document's index are not the other's -/
structure RFree (own : Nat → Option Lab) (q : Nat) (a : Option Addr) (ys : List ItemV) : Prop where
  q : own q = none
  row : ∀ ad, a = some ad → ys ≠ [] → own ad.block = none
  it : ∀ y, y ∈ ys → ∀ ad, y.f.a = some ad → y.ts ≠ [] → own ad.block = none
theorem RIx.chg {w w' : World} {q : Nat} {a : Option Addr} {n c : Nat} {ys : List ItemV} {own : Nat → Option Lab} (h : RIx w q a n c ys) (hF : RFree own q a ys) (hC : Chg own w w') : RIx w' q a n c ys :=
  ⟨(hC.block q h.lt hF.q).trans h.hq, h.sl.blk (fun ad e hne => hC.block _ (sl_low8 h.sl (by decide) e hne) (hF.row ad e hne)),
    fun y hy => (h.it y hy).blk (fun ad e hne => hC.block _ (sl_low8 (h.it y hy) (by decide) e hne) (hF.it y hy ad e hne)), h.fm⟩
theorem RFree.fresh {w : World} {q : Nat} {a : Option Addr} {n c : Nat} {ys : List ItemV} {own own' : Nat → Option Lab} (h : RFree own q a ys) (hR : RIx w q a n c ys) (hf : Fresh own own' w) : RFree own' q a ys := by
  have aux : ∀ b, b < w.heap.size → own b = none → own' b = none := fun b hb hn => by
    cases e : own' b with
    | none => rfl
    | some l =>
      rcases hf.new b l e with k | k
      · rw [hn] at k; cases k
      · omega
  exact ⟨aux _ hR.lt h.q, fun ad e hne => aux _ (sl_low8 hR.sl (by decide) e hne) (h.row ad e hne), fun y hy ad e hne => aux _ (sl_low8 (hR.it y hy) (by decide) e hne) (h.it y hy ad e hne)⟩
/-- both indexes: ours holds fx, s filters; the document's holds fr, t filters; all that lies low is W's -/
structure Both (W : World) (B p q m : Nat) (fx : Int → Option (List T)) (s : Nat) (fr : Int → Option (List T)) (t : Nat) (own : Nat → Option Lab) (a : Option Addr) (n c : Nat) (ys : List ItemV) (w : World) : Prop where
  ix : Ix w B p m fx s own
  ok : FdOk fx
  rx : RIx w q a n c ys
  rel : RelF ys fr
  len : t = ys.length
  free : RFree own q a ys
  ext : Ext W w
  bw : B ≤ w.heap.size
  wb : W.heap.size ≤ B
  wq : W.heap.size ≤ q
def St0 (W : World) (B p q m : Nat) (fx : Int → Option (List T)) (s : Nat) (fr : Int → Option (List T)) (t : Nat) (w : World) : Prop :=
  ∃ own a n c ys, Both W B p q m fx s fr t own a n c ys w
/-- .. and a block that is neither's -/
def St (W : World) (B p q m : Nat) (fx : Int → Option (List T)) (s : Nat) (fr : Int → Option (List T)) (t g : Nat) (o : Obj) (w : World) : Prop :=
  ∃ own a n c ys, Both W B p q m fx s fr t own a n c ys w ∧ w.heap[g]? = some o ∧ own g = none ∧ g ≠ q
section
variable {W : World} {B p q m s t g : Nat} {fx fr : Int → Option (List T)} {o : Obj}
theorem Both.up {own : Nat → Option Lab} {a : Option Addr} {n c : Nat} {ys : List ItemV} {w w' : World} (h : Both W B p q m fx s fr t own a n c ys w) (hx : Ext w w') : Both W B p q m fx s fr t own a n c ys w' :=
  ⟨ix_ext h.ix hx, h.ok, h.rx.ext hx, h.rel, h.len, h.free, h.ext.trans hx, Nat.le_trans h.bw hx.size, h.wb, h.wq⟩
theorem St0.up {w w' : World} (h : St0 W B p q m fx s fr t w) (hx : Ext w w') : St0 W B p q m fx s fr t w' := by
  obtain ⟨own, a, n, c, ys, h⟩ := h
  exact ⟨own, a, n, c, ys, h.up hx⟩
theorem St.up {w w' : World} (h : St W B p q m fx s fr t g o w) (hx : Ext w w') : St W B p q m fx s fr t g o w' := by
  obtain ⟨own, a, n, c, ys, h, hg, ho, hq⟩ := h
  have hlt : g < w.heap.size := by
    rcases Nat.lt_or_ge g w.heap.size with k | k
    · exact k
    · rw [Array.getElem?_eq_none k] at hg; cases hg
  exact ⟨own, a, n, c, ys, h.up hx, (hx.block _ hlt).trans hg, ho, hq⟩
theorem St.st0 {w : World} (h : St W B p q m fx s fr t g o w) : St0 W B p q m fx s fr t w := by
  obtain ⟨own, a, n, c, ys, h, _⟩ := h
  exact ⟨own, a, n, c, ys, h⟩
theorem St0.st {w w' : World} (h : St0 W B p q m fx s fr t w) (hx : Ext w w') (hg : w'.heap[w.heap.size]? = some o) : St W B p q m fx s fr t w.heap.size o w' := by
  obtain ⟨own, a, n, c, ys, h⟩ := h
  exact ⟨own, a, n, c, ys, h.up hx, hg, ix_lab h.ix (Nat.le_refl _), fun e => by have := h.rx.lt; omega⟩
theorem St0.more {w : World} {m' : Nat} (h : St0 W B p q m fx s fr t w) (hm : m ≤ m') : St0 W B p q m' fx s fr t w := by
  obtain ⟨own, a, n, c, ys, h⟩ := h
  exact ⟨own, a, n, c, ys, ix_mono h.ix hm, h.ok, h.rx, h.rel, h.len, h.free, h.ext, h.bw, h.wb, h.wq⟩
theorem St0.ext {w : World} (h : St0 W B p q m fx s fr t w) : Ext W w := by
  obtain ⟨own, a, n, c, ys, h⟩ := h
  exact h.ext
theorem St.ext {w : World} (h : St W B p q m fx s fr t g o w) : Ext W w := h.st0.ext
theorem St.blk {w : World} (h : St W B p q m fx s fr t g o w) : w.heap[g]? = some o := by
  obtain ⟨own, a, n, c, ys, h, hg, _⟩ := h
  exact hg
theorem St0.row {w : World} (h : St0 W B p q m fx s fr t w) : ∃ a c, w.cell? ⟨q, 0, none⟩ = some (.slice a t c) := by
  obtain ⟨own, a, n, c, ys, h⟩ := h
  obtain rfl := h.rx.sl.neq
  obtain rfl := h.len
  exact ⟨a, c, h.rx.cell⟩
theorem St0.start {w1 w2 : World} {own : Nat → Option Lab} (hW : Ext W w1) (hI : Ix w2 w1.heap.size p 0 (fun _ => none) 0 own) (hx : Ext w1 w2) : St0 W w1.heap.size p w2.heap.size 0 (fun _ => none) 0 (fun _ => none) 0 (w2.alloc (.cells #[.slice none 0 0] 29)) := by
  have hA : Ext w2 (w2.alloc (.cells #[.slice none 0 0] 29)) := (Ext.refl _).alloc _
  exact ⟨own, none, 0, 0, [], ix_ext hI hA, FdOk.none, ⟨heap_alloc_new _ _, Sl.nil _ ItemV.wid, (fun y hy => by cases hy), (fun ad e => by cases e)⟩, RelF.nil, rfl, ⟨ix_lab hI (Nat.le_refl _), (fun ad e => by cases e), (fun y hy => by cases hy)⟩, (hW.trans hx).trans hA, Nat.le_trans hx.size hA.size, hW.size, Nat.le_trans hW.size hx.size⟩
theorem Both.x {own : Nat → Option Lab} {a : Option Addr} {n c : Nat} {ys : List ItemV} {w w' : World} {m' s' : Nat} {fx' : Int → Option (List T)} {own' : Nat → Option Lab} (h : Both W B p q m fx s fr t own a n c ys w) (hI : Ix w' B p m' fx' s' own') (hf : FdOk fx') (hC : Chg own w w') (hF : Fresh own own' w) :
    Both W B p q m' fx' s' fr t own' a n c ys w' :=
  ⟨hI, hf, h.rx.chg h.free hC, h.rel, h.len, h.free.fresh h.rx hF, ext_chg h.ext hC (fun b l e => Nat.le_trans h.wb (ix_base h.ix b l e)), Nat.le_trans h.bw hC.size, h.wb, h.wq⟩
theorem St.x {w : World} {w' : World} {m' s' : Nat} {fx' : Int → Option (List T)} {own own' : Nat → Option Lab} {a : Option Addr} {n c : Nat} {ys : List ItemV} (h : Both W B p q m fx s fr t own a n c ys w) (hg : w.heap[g]? = some o) (ho : own g = none) (hq : g ≠ q) (hI : Ix w' B p m' fx' s' own') (hf : FdOk fx') (hC : Chg own w w') (hF : Fresh own own' w) : St W B p q m' fx' s' fr t g o w' := by
  have hlt : g < w.heap.size := by
    rcases Nat.lt_or_ge g w.heap.size with k | k
    · exact k
    · rw [Array.getElem?_eq_none k] at hg; cases hg
  refine ⟨own', a, n, c, ys, h.x hI hf hC hF, (hC.block _ hlt ho).trans hg, ?_, hq⟩
  cases e : own' g with
  | none => rfl
  | some l =>
    rcases hF.new g l e with k | k
    · rw [ho] at k; cases k
    · omega
theorem St.r {w w' : World} {own : Nat → Option Lab} {a a' : Option Addr} {n c n' c' : Nat} {ys ys' : List ItemV} {fr' : Int → Option (List T)} (h : Both W B p q m fx s fr t own a n c ys w) (hg : w.heap[g]? = some o) (ho : own g = none) (hq : g ≠ q) (hR : RIx w' q a' n' c' ys') (hrel : RelF ys' fr') (hC : Chg (only q) w w')
    (ha : ∀ ad, a' = some ad → w.heap.size ≤ ad.block) (hy : ∀ y, y ∈ ys' → y ∈ ys ∨ ∀ ad, y.f.a = some ad → w.heap.size ≤ ad.block) : St W B p q m fx s fr' ys'.length g o w' := by
  have hlt : g < w.heap.size := by
    rcases Nat.lt_or_ge g w.heap.size with k | k
    · exact k
    · rw [Array.getElem?_eq_none k] at hg; cases hg
  have hA : Apart own (only q) := fun b => by
    by_cases e : b = q
    · subst e; exact .inl h.free.q
    · exact .inr (only_none e)
  refine ⟨own, a', n', c', ys', ⟨ix_far h.ix hC hA, h.ok, hR, hrel, rfl, ⟨h.free.q, fun ad e _ => ix_lab h.ix (ha ad e), fun y hm ad e hne => ?_⟩, ext_chg h.ext hC (fun b l e => ?_), Nat.le_trans h.bw hC.size, h.wb, h.wq⟩, (hC.block _ hlt (only_none hq)).trans hg, ho, hq⟩
  · rcases hy y hm with k | k
    · exact h.free.it y k ad e hne
    · exact ix_lab h.ix (k ad e)
  · by_cases k : b = q
    · subst k; exact h.wq
    · rw [only_none k] at e; cases e
end
end Go.Proofs.Ytjggjkmafcokjaa

namespace Go.Proofs.Ytjggjkmafcokjaa
open Go.RowKit

section
variable {W : World} {B p q m s t g : Nat} {fx fr : Int → Option (List T)} {o : Obj}
theorem addX (id : Int) (a : Option Addr) (n c : Nat) (ts : List T) (w : World) (hU : U64 id) (hS : Sl W 5 T.cs a n c ts) (h : St W B p q m fx s fr t g o w) (hs : s < 500) (hm : m ≤ 1000000) :
    Calls Try.prog 12 #[.pointer (some ⟨p, 0, none⟩), .int .u64 id, .slice a n c] w fun e w' => e = .returned (.int .i64 (addV fx id ts)) ∧ St W B p q (m + 17) (addF fx id ts) (addN fx s id ts) fr t g o w' := by
  obtain ⟨own, a1, n1, c1, ys, hB, hg, ho, hq⟩ := h
  cases hc : chkB ts with
  | false =>
    have e1 : addV fx id ts = 50 := by unfold addV; rw [hc]; rfl
    have e2 : addF fx id ts = fx := by unfold addF; rw [hc]; rfl
    have e3 : addN fx s id ts = s := by unfold addN; rw [hc]; rfl
    rw [e1, e2, e3]
    refine (add_bad p id a n c ts w (hS.ext hB.ext) hc).mono ?_
    rintro e w' ⟨rfl, hx⟩
    exact ⟨rfl, St.x hB hg ho hq (ix_mono (ix_ext hB.ix hx) (by omega)) hB.ok (Chg.of hx) (Fresh.refl _ _)⟩
  | true =>
    cases hd : fx id with
    | some us =>
      have e1 : addV fx id ts = 80 := by unfold addV; rw [hc, hd]; rfl
      have e2 : addF fx id ts = fx := by unfold addF; rw [hc, hd]; rfl
      have e3 : addN fx s id ts = s := by unfold addN; rw [hc, hd]; rfl
      rw [e1, e2, e3]
      refine (add_dup8 id a n c ts w hU (hS.ext hB.ext) hc hB.ix (.inl (by rw [hd]; rfl))).mono ?_
      rintro e w' ⟨rfl, hx⟩
      exact ⟨rfl, St.x hB hg ho hq (ix_mono (ix_ext hB.ix hx) (by omega)) hB.ok (Chg.of hx) (Fresh.refl _ _)⟩
    | none =>
      have e1 : addV fx id ts = 0 := by unfold addV; rw [hc, hd]; rfl
      have e2 : addF fx id ts = fun k => if k = id then some ts else fx k := by unfold addF; rw [hc, hd]; rfl
      have e3 : addN fx s id ts = s + 1 := by unfold addN; rw [hc, hd]; rfl
      rw [e1, e2, e3]
      refine (add_ok id a n c ts w hU (hS.ext hB.ext) (fun ad e hne => ix_low hB.ix (Nat.lt_of_lt_of_le (sl_low8 hS (by decide) e hne) hB.wb)) hc hB.ix hB.bw hd hs hm).mono ?_
      rintro e w' ⟨own', rfl, hI, hC, hF⟩
      exact ⟨rfl, St.x hB hg ho hq hI (hB.ok.put hc) hC hF⟩
theorem raddX (id : Int) (a : Option Addr) (n c : Nat) (ts : List T) (w : World) (hS : Sl W 5 T.cs a n c ts) (hnm : ∀ t, t ∈ ts → t.nm.size ≤ 1000) (h : St W B p q m fx s fr t g o w) (ht : t ≤ 400) :
    Calls Try.prog 13 #[.pointer (some ⟨q, 0, none⟩), .int .u64 id, .slice a n c] w fun e w' => e = .returned (.int .i64 (addV fr id ts)) ∧ St W B p q m fx s (addF fr id ts) (addN fr t id ts) g o w' := by
  have h0 := h
  obtain ⟨own, a1, n1, c1, ys, hB, hg, ho, hq⟩ := h
  cases hc : chkB ts with
  | false =>
    have e1 : addV fr id ts = 50 := by unfold addV; rw [hc]; rfl
    have e2 : addF fr id ts = fr := by unfold addF; rw [hc]; rfl
    have e3 : addN fr t id ts = t := by unfold addN; rw [hc]; rfl
    rw [e1, e2, e3]
    refine (radd_bad q a1 n1 c1 ys id a n c ts w hB.rx (hS.ext hB.ext) hnm hc).mono ?_
    rintro e w' ⟨rfl, hx⟩
    exact ⟨rfl, h0.up hx⟩
  | true =>
    cases hd : fr id with
    | some us =>
      have e1 : addV fr id ts = 80 := by unfold addV; rw [hc, hd]; rfl
      have e2 : addF fr id ts = fr := by unfold addF; rw [hc, hd]; rfl
      have e3 : addN fr t id ts = t := by unfold addN; rw [hc, hd]; rfl
      rw [e1, e2, e3]
      refine (radd_dup q a1 n1 c1 ys fr id a n c ts w hB.rx hB.rel (hS.ext hB.ext) hnm hc (by rw [hd]; rfl)).mono ?_
      rintro e w' ⟨rfl, hx⟩
      exact ⟨rfl, h0.up hx⟩
    | none =>
      have e1 : addV fr id ts = 0 := by unfold addV; rw [hc, hd]; rfl
      have e2 : addF fr id ts = fun k => if k = id then some ts else fr k := by unfold addF; rw [hc, hd]; rfl
      have e3 : addN fr t id ts = t + 1 := by unfold addN; rw [hc, hd]; rfl
      rw [e1, e2, e3]
      have hl := hB.len
      have hn := hB.rx.sl.neq
      refine (radd_ok q a1 n1 c1 ys fr id a n c ts w hB.rx hB.rel (hS.ext hB.ext) hnm hc hd (by omega)).mono ?_
      rintro e w' ⟨k, hk, hno, rfl, a', n', c', y, hy1, hy2, hR, hC, ha, hf⟩
      have hrel := hB.rel.put hk hno y hy1
      rw [hy2] at hrel
      have hle := hk.le
      have hlen : (ys.take k ++ [y] ++ ys.drop k).length = t + 1 := by simp only [List.length_append, List.length_take, List.length_drop, List.length_cons, List.length_nil]; omega
      have hst := St.r hB hg ho hq hR hrel hC ha (fun z hz => by
        rcases List.mem_append.1 hz with hz | hz
        · rcases List.mem_append.1 hz with hz | hz
          · exact .inl (List.mem_of_mem_take hz)
          · rw [List.mem_singleton] at hz
            subst hz
            exact .inr hf
        · exact .inl (List.mem_of_mem_drop hz))
      rw [hlen] at hst
      exact ⟨rfl, hst⟩
theorem dropX (id : Int) (w : World) (hU : U64 id) (h : St W B p q m fx s fr t g o w) :
    Calls Try.prog 14 #[.pointer (some ⟨p, 0, none⟩), .int .u64 id] w fun e w' => e = .returned (.int .i64 (dropV fx id)) ∧ St W B p q m (dropF fx id) (dropN fx s id) fr t g o w' := by
  have h0 := h
  obtain ⟨own, a1, n1, c1, ys, hB, hg, ho, hq⟩ := h
  cases hd : fx id with
  | none =>
    have e1 : dropV fx id = 80 := by unfold dropV; rw [hd]; rfl
    have e3 : dropN fx s id = s := by unfold dropN; rw [hd]; rfl
    rw [e1, dropF_same hd, e3]
    refine (drop_unknown id w hU hB.ix hd).mono ?_
    rintro e w' ⟨rfl, hx⟩
    exact ⟨rfl, h0.up hx⟩
  | some ts =>
    have e1 : dropV fx id = 0 := by unfold dropV; rw [hd]; rfl
    have e3 : dropN fx s id = s - 1 := by unfold dropN; rw [hd]; rfl
    rw [e1, e3]
    refine (drop_ok id ts w hU (hB.ok id ts hd) hB.ix hd).mono ?_
    rintro e w' ⟨rfl, hI, hC⟩
    exact ⟨rfl, St.x hB hg ho hq hI hB.ok.del hC (Fresh.refl _ _)⟩
theorem rdropX (id : Int) (w : World) (h : St W B p q m fx s fr t g o w) (ht : t ≤ 400) :
    Calls Try.prog 15 #[.pointer (some ⟨q, 0, none⟩), .int .u64 id] w fun e w' => e = .returned (.int .i64 (dropV fr id)) ∧ St W B p q m fx s (dropF fr id) (dropN fr t id) g o w' := by
  have h0 := h
  obtain ⟨own, a1, n1, c1, ys, hB, hg, ho, hq⟩ := h
  cases hd : fr id with
  | none =>
    have e1 : dropV fr id = 80 := by unfold dropV; rw [hd]; rfl
    have e3 : dropN fr t id = t := by unfold dropN; rw [hd]; rfl
    rw [e1, dropF_same hd, e3]
    refine (rdrop_no q a1 n1 c1 ys fr id w hB.rx hB.rel hd).mono ?_
    rintro e w' ⟨rfl, hx⟩
    exact ⟨rfl, h0.up hx⟩
  | some ts =>
    have e1 : dropV fr id = 0 := by unfold dropV; rw [hd]; rfl
    have e3 : dropN fr t id = t - 1 := by unfold dropN; rw [hd]; rfl
    rw [e1, e3]
    have hl := hB.len
    have hn := hB.rx.sl.neq
    refine (rdrop_ok q a1 n1 c1 ys fr id w hB.rx hB.rel (by rw [hd]; rfl) (by omega)).mono ?_
    rintro e w' ⟨k, hk, ⟨hkl, he⟩, rfl, a', n', c', hR, hC, ha⟩
    have hlen : (ys.take k ++ ys.drop (k + 1)).length = t - 1 := by simp only [List.length_append, List.length_take, List.length_drop]; omega
    have hst := St.r hB hg ho hq hR (hB.rel.del hkl he) hC ha (fun z hz => .inl ((List.mem_append.1 hz).elim List.mem_of_mem_take List.mem_of_mem_drop))
    rw [hlen] at hst
    exact ⟨rfl, hst⟩
/-- the numbers that match, in their order -/
def MZ (fd : Int → Option (List T)) (es : List AT) (zs : List Int) : Prop := zs.Nodup ∧ Rise zs 0 zs.length ∧ ∀ x, x ∈ zs ↔ ∃ ts, fd x = some ts ∧ matchesT ts es = true
theorem matX (a : Option Addr) (n c : Nat) (es : List AT) (w : World) (hE : Sl W 4 AT.cs a n c es) (hn : es.length ≤ 20) (hnm : ∀ e, e ∈ es → e.nm.size ≤ 100) (h : St W B p q m fx s fr t g o w) (hs : s ≤ 400) :
    Calls Try.prog 17 #[.pointer (some ⟨p, 0, none⟩), .slice a n c] w fun e w' => ∃ aa k cap zs, e = .returned (.slice aa k cap) ∧ Sl w' 1 uC aa k cap zs ∧ MZ fx es zs ∧ Ext w w' := by
  obtain ⟨own, a1, n1, c1, ys, hB, hg, ho, hq⟩ := h
  have hne := hE.neq
  refine (match_any sortedTo1000 a n c es w hB.ix (by omega) (by omega) hB.ok.ts (hE.ext hB.ext) (by omega) (fun e he => by have := hnm e he; unfold maxLen; omega)).mono ?_
  rintro e w' ⟨aa, k, cap, zs, rfl, hown, ⟨h1, h2, h3⟩, hx⟩
  obtain rfl := hown.neq
  exact ⟨aa, _, cap, zs, rfl, hown.sl, ⟨h1, h2, h3⟩, hx⟩
theorem rmatX (a : Option Addr) (n c : Nat) (es : List AT) (w : World) (hE : Sl W 4 AT.cs a n c es) (h : St W B p q m fx s fr t g o w) (ht : t ≤ 400) :
    Calls Try.prog 18 #[.pointer (some ⟨q, 0, none⟩), .slice a n c] w fun e w' => ∃ aa k cap zs, e = .returned (.slice aa k cap) ∧ Sl w' 1 uC aa k cap zs ∧ (∀ xs, MZ fr es xs → xs = zs) ∧ Ext w w' := by
  obtain ⟨own, a1, n1, c1, ys, hB, hg, ho, hq⟩ := h
  have hl := hB.len
  have hn := hB.rx.sl.neq
  refine (rmat_any q a1 n1 c1 ys a n c es w hB.rx (hE.ext hB.ext) (by omega)).mono ?_
  rintro e w' ⟨aa, k, cap, rfl, hsl, hx⟩
  exact ⟨aa, k, cap, _, rfl, hsl, fun xs hm => matR_eq hB.rel hm.1 hm.2.1 hm.2.2, hx⟩
theorem fltX (id : Int) (w : World) (hU : U64 id) (h : St W B p q m fx s fr t g o w) :
    Calls Try.prog 19 #[.pointer (some ⟨p, 0, none⟩), .int .u64 id] w fun e w' => ∃ aa k cap, e = .returned (.tuple #[.slice aa k cap, .bool (fx id).isSome]) ∧ Sl w' 5 T.cs aa k cap ((fx id).getD []) ∧ Ext w w' := by
  obtain ⟨own, a1, n1, c1, ys, hB, hg, ho, hq⟩ := h
  refine (filter_any id w hU hB.ix ?_).mono ?_
  · cases hd : fx id with
    | none => exact Nat.zero_le _
    | some ts =>
      have := hB.ok.ts id ts hd
      show ts.length ≤ 1000000
      omega
  · rintro e w' ⟨aa, k, cap, rfl, hown, hx⟩
    exact ⟨aa, k, cap, rfl, hown.sl, hx⟩
theorem rfltX (id : Int) (w : World) (h : St W B p q m fx s fr t g o w) :
    Calls Try.prog 20 #[.pointer (some ⟨q, 0, none⟩), .int .u64 id] w fun e w' => ∃ aa k cap, e = .returned (.tuple #[.slice aa k cap, .bool (fr id).isSome]) ∧ Sl w' 5 T.cs aa k cap ((fr id).getD []) ∧ Ext w w' := by
  obtain ⟨own, a1, n1, c1, ys, hB, hg, ho, hq⟩ := h
  exact rflt_any q a1 n1 c1 ys fr id w hB.rx hB.rel
theorem cntX (w : World) (h : St W B p q m fx s fr t g o w) :
    Calls Try.prog 22 #[.pointer (some ⟨p, 0, none⟩)] w fun e w' => e = .returned (.int .i64 s) ∧ Ext w w' := by
  obtain ⟨own, a1, n1, c1, ys, hB, hg, ho, hq⟩ := h
  exact count_any w hB.ix
end
end Go.Proofs.Ytjggjkmafcokjaa

