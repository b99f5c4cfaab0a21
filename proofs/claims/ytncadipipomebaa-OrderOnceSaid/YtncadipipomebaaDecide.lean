/- What is decided: the walk of order's Decide. -/
import Derived.Test.YtncadipipomebaaDecA
import Derived.Test.YtncadipipomebaaTally
import Derived.Test.YtncadipipomebaaEnds
import Derived.Test.YtncadipipomebaaMaps
import Derived.Carry
import Derived.Deep.QuietTactic
namespace Go.Proofs.Ytncadipipomebaa
open Go.RowKit
attribute [local go_sem ↓] Go.wp_at_zero Go.wp_at_succ

def decY (f : Id → Int) (ds : List ED) : List ED := ds.filter fun d => f d.id == 1
def decN (f : Id → Int) (ds : List ED) : List Id := (ds.filter fun d => f d.id == 2).map (·.id)
def decO (f : Id → Int) (ds : List ED) : List ED := ds.filter fun d => f d.id == 0
theorem filter_succ {α : Type} {p : α → Bool} {xs : List α} {k : Nat} (hk : k < xs.length) : (xs.take (k + 1)).filter p = (xs.take k).filter p ++ if p xs[k] = true then [xs[k]] else [] := by
  rw [List.take_succ_eq_append_getElem hk, List.filter_append, List.filter_cons]; rfl
theorem decY_succ {f : Id → Int} {ds : List ED} {k : Nat} {v : Int} {d : ED} (hk : k < ds.length) (hd : ds[k] = d) (h : f d.id = v) : decY f (ds.take (k + 1)) = decY f (ds.take k) ++ if v = 1 then [d] else [] := by
  subst hd
  unfold decY; rw [filter_succ hk]; simp [h]
theorem decO_succ {f : Id → Int} {ds : List ED} {k : Nat} {v : Int} {d : ED} (hk : k < ds.length) (hd : ds[k] = d) (h : f d.id = v) : decO f (ds.take (k + 1)) = decO f (ds.take k) ++ if v = 0 then [d] else [] := by
  subst hd
  unfold decO; rw [filter_succ hk]; simp [h]
theorem decN_succ {f : Id → Int} {ds : List ED} {k : Nat} {v : Int} {d : ED} (hk : k < ds.length) (hd : ds[k] = d) (h : f d.id = v) : decN f (ds.take (k + 1)) = decN f (ds.take k) ++ if v = 2 then [d.id] else [] := by
  subst hd
  unfold decN; rw [filter_succ hk]; simp only [h, beq_iff_eq, List.map_append]; split <;> rfl
theorem Own.lenle {α : Type} {w : World} {base : Nat} {e : TypeId} {sz : Nat} {c : α → List Value} {aa : Option Addr} {n cap : Nat} {ys : List α} (h : Own w base e sz c aa n cap ys) {β : Type} {f : α → β} {p : β → Bool} {l : List β} {m : Nat} (hm : ys.map f = l.filter p) (hl : l.length ≤ m) : n ≤ m := by
  have h1 := h.neq
  have h2 := congrArg List.length hm
  rw [List.length_map] at h2
  have h3 := List.length_filter_le p l
  omega
theorem dis_new {α : Type} {w : World} {base : Nat} {e : TypeId} {sz : Nat} {c : α → List Value} {aa bb : Option Addr} {n cap g : Nat} {ys : List α} (h : (∃ ad, aa = some ad ∧ ad.block = g) ∨ w.heap.size ≤ g) (hd : Dis aa bb) (hown : Own w base e sz c bb n cap ys) : Dis (some ⟨g, 0, none⟩) bb := fun x y hx hy he => by
  cases hx
  rcases h with ⟨ad, ha, hg⟩ | hg
  · exact hd ad y ha hy (by rw [hg]; exact he)
  · have := (hown.lt y hy).2
    simp only at he
    omega

/-- what stands at a round's head -/
structure DecI (w wr : World) (f : Id → Int) (ds : List ED) (ya : Option Addr) (yn yc : Nat) (ys : List EP) (na : Option Addr) (nn nc : Nat) (oa : Option Addr) (on oc : Nat) (os : List EP) : Prop where
  bY : wr.heap[w.heap.size]? = some (.cells #[.slice ya yn yc] 24 (0, 0))
  bO : wr.heap[(w.heap.size + 1)]? = some (.cells #[.slice oa on oc] 24 (0, 0))
  bN : wr.heap[(w.heap.size + 1 + 1)]? = some (.cells #[.slice na nn nc] 25 (0, 0))
  mp : wr.heap[(w.heap.size + 1 + 1 + 1)]? = some (Obj.map #[⟨.int .i64 0, .func (.func 56) #[] #[.pointer (some ⟨w.heap.size + 1, 0, none⟩)], 0⟩, ⟨.int .i64 1, .func (.func 57) #[] #[.pointer (some ⟨w.heap.size, 0, none⟩)], 1⟩, ⟨.int .i64 2, .func (.func 58) #[] #[.pointer (some ⟨w.heap.size + 1 + 1, 0, none⟩)], 2⟩] 3)
  oY : Own wr (w.heap.size + 1 + 1 + 1 + 1) 50 8 EP.cs ya yn yc ys
  oO : Own wr (w.heap.size + 1 + 1 + 1 + 1) 50 8 EP.cs oa on oc os
  oN : Own wr (w.heap.size + 1 + 1 + 1 + 1) 30 3 Id.cs na nn nc (decN f ds)
  dis : Dis ya oa
  eY : ∀ y, y ∈ ys → EntryOwn wr (w.heap.size + 1 + 1 + 1 + 1) y.x y.d
  eO : ∀ y, y ∈ os → EntryOwn wr (w.heap.size + 1 + 1 + 1 + 1) y.x y.d
  mY : ys.map (·.d) = decY f ds
  mO : os.map (·.d) = decO f ds
theorem DecI.ext {w wr wx : World} {f : Id → Int} {ds : List ED} {ya : Option Addr} {yn yc : Nat} {ys : List EP} {na : Option Addr} {nn nc : Nat} {oa : Option Addr} {on oc : Nat} {os : List EP} (h : DecI w wr f ds ya yn yc ys na nn nc oa on oc os) (hx : Ext wr wx) : DecI w wx f ds ya yn yc ys na nn nc oa on oc os :=
  ⟨hx.blk h.bY, hx.blk h.bO, hx.blk h.bN, hx.blk h.mp, h.oY.ext hx, h.oO.ext hx, h.oN.ext hx, h.dis, fun y hy => (h.eY y hy).ext hx, fun y hy => (h.eO y hy).ext hx, h.mY, h.mO⟩
theorem ne_blk {α : Type} {w : World} {base : Nat} {e : TypeId} {sz : Nat} {c : α → List Value} {aa : Option Addr} {n cap b : Nat} {ys : List α} (h : Own w base e sz c aa n cap ys) (hb : b < base) : ∀ ad, aa = some ad → ad.block ≠ b := fun ad ha => by have := (h.lt ad ha).1; omega
/-- The three results. -/
def RetD (f : Id → Int) (ds : List ED) (w : World) (e : Ending) (w' : World) : Prop :=
  ∃ ya yn yc ys na nn nc oa on oc os, e = .returned (.tuple #[.slice ya yn yc, .slice na nn nc, .slice oa on oc]) ∧ Ents w' ya yn yc ys ∧ ys.map (·.d) = decY f ds ∧ Sl w' 3 Id.cs na nn nc (decN f ds) ∧ Ents w' oa on oc os ∧ os.map (·.d) = decO f ds ∧ Ext w w'
set_option maxRecDepth 100000 in
set_option maxHeartbeats 4000000 in
theorem decide_any (la : Option Addr) (ln lc : Nat) (xs : List EP) (ka : Option Addr) (kn kc : Nat) (kids : List Kid) (w : World) (hX : Ents w la ln lc xs) (hsm : ∀ p, p ∈ xs → Small p.d) (hK : Kids w ka kn kc kids) (hn2 : ln ≤ 1000000) :
    Calls Try.prog 33 #[.slice la ln lc, .slice ka kn kc] w (RetD (saysOf kids) (xs.map (·.d)) w) := by
  have hmm := @run_makeMap Try.prog
  have i0 := fun (v : Value) => ins_new (P := Try.prog) Try.underlying81 Try.underlying3 (((w.alloc (Obj.cells #[.slice none 0 0] 24)).alloc (Obj.cells #[.slice none 0 0] 24)).alloc (Obj.cells #[.slice none 0 0] 25)) (w.heap.size + 1 + 1 + 1) (by simp) #[] 0 0 v rfl
  have i1 := fun (v v0 : Value) => ins_new (P := Try.prog) Try.underlying81 Try.underlying3 (((w.alloc (Obj.cells #[.slice none 0 0] 24)).alloc (Obj.cells #[.slice none 0 0] 24)).alloc (Obj.cells #[.slice none 0 0] 25)) (w.heap.size + 1 + 1 + 1) (by simp) #[⟨.int .i64 0, v0, 0⟩] 1 1 v rfl
  have i2 := fun (v v0 v1 : Value) => ins_new (P := Try.prog) Try.underlying81 Try.underlying3 (((w.alloc (Obj.cells #[.slice none 0 0] 24)).alloc (Obj.cells #[.slice none 0 0] 24)).alloc (Obj.cells #[.slice none 0 0] 25)) (w.heap.size + 1 + 1 + 1) (by simp) #[⟨.int .i64 0, v0, 0⟩, ⟨.int .i64 1, v1, 1⟩] 2 2 v rfl
  obtain rfl := hX.sl.neq
  have hm := hX.sl.max
  have hl := hX.sl.len
  unfold maxLen at hm
  generalize hds : xs.map (·.d) = ds
  have hdl : ds.length = xs.length := by rw [← hds, List.length_map]
  have HDS := hid hds
  have HDL := hid hdl
  have HX := hid hX
  have HSMA := hid hsm
  have HK := hid hK
  clear hX hsm hK hds hdl
  go_enter Try.func33, Try.ntmps33
  go_wp2_with fail
  clear i0 i1 i2 hmm
  go_loopg [12, 13, 14, 22] (xs.length) (fun g _ _ _ st wr => ∃ (k : Nat) (ya : Option Addr) (yn yc : Nat) (ys : List EP) (na : Option Addr) (nn nc : Nat) (oa : Option Addr) (on oc : Nat) (os : List EP), g + k = xs.length ∧ st = .int .i64 k ∧ Hid (DecI w wr (saysOf kids) (ds.take k) ya yn yc ys na nn nc oa on oc os) ∧ Hid (Ext w wr))
  case atStart => exact ⟨0, none, 0, 0, [], none, 0, 0, none, 0, 0, [], by omega, rfl, ⟨by (repeat (first | (refine heap_new ?_; (simp; done)) | refine heap_old (by first | (simp; done) | (simp; omega)) ?_)), by (repeat (first | (refine heap_new ?_; (simp; done)) | refine heap_old (by first | (simp; done) | (simp; omega)) ?_)), by (repeat (first | (refine heap_new ?_; (simp; done)) | refine heap_old (by first | (simp; done) | (simp; omega)) ?_)), by (repeat (first | (refine heap_new ?_; (simp; done)) | refine heap_old (by first | (simp; done) | (simp; omega)) ?_)), Own.nil _ _ _ EP.wid, Own.nil _ _ _ EP.wid, Own.nil _ _ _ Id.wid, Dis.nil _, (fun y hy => by cases hy), (fun y hy => by cases hy), rfl, rfl⟩, (by (repeat (first | exact Ext.refl _ | refine Ext.alloc ?_ _ | refine Ext.drewN ?_ _ | refine Ext.drew ?_ | refine Ext.trans ?_ (Hid.out (by assumption)))))⟩
  case round =>
    obtain ⟨k, ya, yn, yc, ys, na, nn, nc, oa, on, oc, os, hg, rfl, hrel2, hx⟩ := hrel
    by_cases hk : k < xs.length
    · obtain ⟨b, o, rfl, hc⟩ := HX.out.sl.get k hk
      obtain ⟨c0, c1, c2, c3, c4, c5, c6, c7⟩ := cells8 (w := wr) (b := b) (o := o + k * 8) (x := xs[k].x) (fun j v hj => hx.out.keep (hc j v hj))
      have HV := hid ((HX.out.is xs[k] (List.getElem_mem hk)).ext hx.out)
      have HSM := hid (HSMA.out xs[k] (List.getElem_mem hk))
      have hkd : k < ds.length := by rw [HDL.out]; exact hk
      have hdk : ds[k] = xs[k].d := by have := HDS.out; subst this; simp
      have HKD := hid hkd
      have HDK := hid hdk
      have hlen : (ds.take k).length ≤ 1000000 := by rw [List.length_take]; omega
      have hyn : yn ≤ 1000000 := hrel2.out.oY.lenle hrel2.out.mY hlen
      have hon : on ≤ 1000000 := hrel2.out.oO.lenle hrel2.out.mO hlen
      have hnn : nn ≤ 1000000 := by
        have h1 := hrel2.out.oN.neq
        unfold decN at h1
        rw [List.length_map] at h1
        have h3 := List.length_filter_le (fun d : ED => saysOf kids d.id == 2) (ds.take k)
        omega
      have BX : (wr.alloc (Obj.cells #[.int .i64 xs[k].x.k, .int .i64 xs[k].x.id.b, .int .u64 xs[k].x.id.l, .int .u64 xs[k].x.id.s, .int .i64 xs[k].x.c, .int .u64 xs[k].x.u, .slice xs[k].x.f.a xs[k].x.f.n xs[k].x.f.c, .slice xs[k].x.e.a xs[k].x.e.n xs[k].x.e.c] 50)).heap[wr.heap.size]? = some (Obj.cells #[.int .i64 xs[k].x.k, .int .i64 xs[k].x.id.b, .int .u64 xs[k].x.id.l, .int .u64 xs[k].x.id.s, .int .i64 xs[k].x.c, .int .u64 xs[k].x.u, .slice xs[k].x.f.a xs[k].x.f.n xs[k].x.f.c, .slice xs[k].x.e.a xs[k].x.e.n xs[k].x.e.c] 50) := heap_alloc_new _ _
      have j0 : (wr.alloc (Obj.cells #[.int .i64 xs[k].x.k, .int .i64 xs[k].x.id.b, .int .u64 xs[k].x.id.l, .int .u64 xs[k].x.id.s, .int .i64 xs[k].x.c, .int .u64 xs[k].x.u, .slice xs[k].x.f.a xs[k].x.f.n xs[k].x.f.c, .slice xs[k].x.e.a xs[k].x.e.n xs[k].x.e.c] 50)).cell? ⟨wr.heap.size, 0, none⟩ = some (.int .i64 xs[k].x.k) := cellH BX rfl
      have j1 : (wr.alloc (Obj.cells #[.int .i64 xs[k].x.k, .int .i64 xs[k].x.id.b, .int .u64 xs[k].x.id.l, .int .u64 xs[k].x.id.s, .int .i64 xs[k].x.c, .int .u64 xs[k].x.u, .slice xs[k].x.f.a xs[k].x.f.n xs[k].x.f.c, .slice xs[k].x.e.a xs[k].x.e.n xs[k].x.e.c] 50)).cell? ⟨wr.heap.size, 1, none⟩ = some (.int .i64 xs[k].x.id.b) := cellH BX rfl
      have j2 : (wr.alloc (Obj.cells #[.int .i64 xs[k].x.k, .int .i64 xs[k].x.id.b, .int .u64 xs[k].x.id.l, .int .u64 xs[k].x.id.s, .int .i64 xs[k].x.c, .int .u64 xs[k].x.u, .slice xs[k].x.f.a xs[k].x.f.n xs[k].x.f.c, .slice xs[k].x.e.a xs[k].x.e.n xs[k].x.e.c] 50)).cell? ⟨wr.heap.size, 2, none⟩ = some (.int .u64 xs[k].x.id.l) := cellH BX rfl
      have j3 : (wr.alloc (Obj.cells #[.int .i64 xs[k].x.k, .int .i64 xs[k].x.id.b, .int .u64 xs[k].x.id.l, .int .u64 xs[k].x.id.s, .int .i64 xs[k].x.c, .int .u64 xs[k].x.u, .slice xs[k].x.f.a xs[k].x.f.n xs[k].x.f.c, .slice xs[k].x.e.a xs[k].x.e.n xs[k].x.e.c] 50)).cell? ⟨wr.heap.size, 3, none⟩ = some (.int .u64 xs[k].x.id.s) := cellH BX rfl
      have j4 : (wr.alloc (Obj.cells #[.int .i64 xs[k].x.k, .int .i64 xs[k].x.id.b, .int .u64 xs[k].x.id.l, .int .u64 xs[k].x.id.s, .int .i64 xs[k].x.c, .int .u64 xs[k].x.u, .slice xs[k].x.f.a xs[k].x.f.n xs[k].x.f.c, .slice xs[k].x.e.a xs[k].x.e.n xs[k].x.e.c] 50)).cell? ⟨wr.heap.size, 4, none⟩ = some (.int .i64 xs[k].x.c) := cellH BX rfl
      have j5 : (wr.alloc (Obj.cells #[.int .i64 xs[k].x.k, .int .i64 xs[k].x.id.b, .int .u64 xs[k].x.id.l, .int .u64 xs[k].x.id.s, .int .i64 xs[k].x.c, .int .u64 xs[k].x.u, .slice xs[k].x.f.a xs[k].x.f.n xs[k].x.f.c, .slice xs[k].x.e.a xs[k].x.e.n xs[k].x.e.c] 50)).cell? ⟨wr.heap.size, 5, none⟩ = some (.int .u64 xs[k].x.u) := cellH BX rfl
      have j6 : (wr.alloc (Obj.cells #[.int .i64 xs[k].x.k, .int .i64 xs[k].x.id.b, .int .u64 xs[k].x.id.l, .int .u64 xs[k].x.id.s, .int .i64 xs[k].x.c, .int .u64 xs[k].x.u, .slice xs[k].x.f.a xs[k].x.f.n xs[k].x.f.c, .slice xs[k].x.e.a xs[k].x.e.n xs[k].x.e.c] 50)).cell? ⟨wr.heap.size, 6, none⟩ = some (.slice xs[k].x.f.a xs[k].x.f.n xs[k].x.f.c) := cellH BX rfl
      have j7 : (wr.alloc (Obj.cells #[.int .i64 xs[k].x.k, .int .i64 xs[k].x.id.b, .int .u64 xs[k].x.id.l, .int .u64 xs[k].x.id.s, .int .i64 xs[k].x.c, .int .u64 xs[k].x.u, .slice xs[k].x.f.a xs[k].x.f.n xs[k].x.f.c, .slice xs[k].x.e.a xs[k].x.e.n xs[k].x.e.c] 50)).cell? ⟨wr.heap.size, 7, none⟩ = some (.slice xs[k].x.e.a xs[k].x.e.n xs[k].x.e.c) := cellH BX rfl
      have hzr : w.heap.size + 1 + 1 + 1 < wr.heap.size := lt_of_block hrel2.out.mp
      have HID := hid HV.out.id
      clear hc hdk BX hlen
      have b0 : (0 : Int) ≤ (k : Int) := by omega
      have b1 : (k : Int) < (xs.length : Int) := by omega
      rcases says_cases kids xs[k].x.id with h | h | h
      · have HSAY := hid h
        have HSD := hid (show saysOf kids xs[k].d.id = 0 from by rw [← HID.out]; exact h)
        clear h
        go_wp2_with (first | (go_at_call 25; refine (says_any _ _ _ kids xs[k].x.id _ (HK.out.ext (by (repeat (first | exact Ext.refl _ | refine Ext.alloc ?_ _ | refine Ext.drewN ?_ _ | refine Ext.drew ?_ | refine Ext.trans ?_ (Hid.out (by assumption))))))).mono ?_; rintro e wq ⟨he, hb⟩; rw [HSAY.out] at he; subst he; have HD1 := hid (hrel2.out.ext (((Ext.refl wr).alloc _).trans hb)); have lk := look_at (P := Try.prog) Try.underlying81 Try.underlying3 HD1.out.mp 0 rfl; have lk' : (Instr.lookup 81 (.map (some (w.heap.size + 1 + 1 + 1))) (.int .i64 0) true).run Try.prog wq = .ok _ wq := lk; clear lk; have j0 := hb.keep j0; have j1 := hb.keep j1; have j2 := hb.keep j2; have j3 := hb.keep j3; have j4 := hb.keep j4; have j5 := hb.keep j5; have j6 := hb.keep j6; have j7 := hb.keep j7; have hxq := hid hb; clear hb) | (go_at_call 56; refine (dec1_any xs[k].x xs[k].d (w.heap.size + 1 + 1 + 1 + 1) (w.heap.size + 1) oa on oc os _ (HV.out.ext (by (repeat (first | exact Ext.refl _ | refine Ext.alloc ?_ _ | refine Ext.drewN ?_ _ | refine Ext.drew ?_ | refine Ext.trans ?_ (Hid.out (by assumption)))))) HSM.out (HD1.out.oO.ext (by (repeat (first | exact Ext.refl _ | refine Ext.alloc ?_ _ | refine Ext.drewN ?_ _ | refine Ext.drew ?_ | refine Ext.trans ?_ (Hid.out (by assumption)))))) (by omega) (by have := hxq.out.size; simp at this; omega) (Ext.blk (by (repeat (first | exact Ext.refl _ | refine Ext.alloc ?_ _ | refine Ext.drewN ?_ _ | refine Ext.drew ?_ | refine Ext.trans ?_ (Hid.out (by assumption))))) HD1.out.bO) (by omega)).mono ?_; rintro e wf ⟨rfl, g, cap', y, hown, hY, hbox, hbut, hat⟩; have HOWN := hid hown; have HYY := hid hY; have HBOX := hid hbox; have HBUT := hid hbut; have HAT := hid hat; clear hown hY hbox hbut hat))
        go_roundg (gk - 1)
        case measure => omega
        case rel =>
          have hd1 := HD1.out
          have hb := HBUT.out
          have nY := ne_blk hd1.oO (b := w.heap.size) (by omega)
          have nN := ne_blk hd1.oO (b := (w.heap.size + 1 + 1)) (by omega)
          have nM := ne_blk hd1.oO (b := (w.heap.size + 1 + 1 + 1)) (by omega)
          refine ⟨k + 1, ya, yn, yc, ys, na, nn, nc, some ⟨g, 0, none⟩, on + 1, cap', os ++ [y], by omega, by go_num, ?_, hb.ext (by (repeat (first | exact Ext.refl _ | refine Ext.alloc ?_ _ | refine Ext.drewN ?_ _ | refine Ext.drew ?_ | refine Ext.trans ?_ (Hid.out (by assumption))))) (by omega) (fun ad ha => by have := (hd1.oO.lt ad ha).1; omega)⟩
          refine ⟨hb.blk hd1.bY (by omega) nY, HBOX.out, hb.blk hd1.bN (by omega) nN, hb.blk hd1.mp (by omega) nM, hb.own hd1.oY (by omega) hd1.dis.symm, HOWN.out, ?_, (dis_new HAT.out hd1.dis.symm hd1.oY).symm, fun z hz => hb.eown (hd1.eY z hz) hd1.oO (by omega) (by decide) (by decide) (by decide), fun z hz => ?_, ?_, ?_⟩
          · rw [decN_succ HKD.out HDK.out HSD.out, if_neg (by decide), List.append_nil]; exact hb.own hd1.oN (by omega) (hd1.oO.ne hd1.oN (by decide))
          · rcases List.mem_append.1 hz with hz | hz
            · exact hb.eown (hd1.eO z hz) hd1.oO (by omega) (by decide) (by decide) (by decide)
            · obtain rfl := List.mem_singleton.1 hz
              exact HYY.out.2
          · rw [decY_succ HKD.out HDK.out HSD.out, if_neg (by decide), List.append_nil]; exact hd1.mY
          · rw [decO_succ HKD.out HDK.out HSD.out, if_pos rfl, List.map_append, hd1.mO]; simp [HYY.out.1]
      · have HSAY := hid h
        have HSD := hid (show saysOf kids xs[k].d.id = 1 from by rw [← HID.out]; exact h)
        clear h
        go_wp2_with (first | (go_at_call 25; refine (says_any _ _ _ kids xs[k].x.id _ (HK.out.ext (by (repeat (first | exact Ext.refl _ | refine Ext.alloc ?_ _ | refine Ext.drewN ?_ _ | refine Ext.drew ?_ | refine Ext.trans ?_ (Hid.out (by assumption))))))).mono ?_; rintro e wq ⟨he, hb⟩; rw [HSAY.out] at he; subst he; have HD1 := hid (hrel2.out.ext (((Ext.refl wr).alloc _).trans hb)); have lk := look_at (P := Try.prog) Try.underlying81 Try.underlying3 HD1.out.mp 1 rfl; have lk' : (Instr.lookup 81 (.map (some (w.heap.size + 1 + 1 + 1))) (.int .i64 1) true).run Try.prog wq = .ok _ wq := lk; clear lk; have j0 := hb.keep j0; have j1 := hb.keep j1; have j2 := hb.keep j2; have j3 := hb.keep j3; have j4 := hb.keep j4; have j5 := hb.keep j5; have j6 := hb.keep j6; have j7 := hb.keep j7; have hxq := hid hb; clear hb) | (go_at_call 57; refine (dec2_any xs[k].x xs[k].d (w.heap.size + 1 + 1 + 1 + 1) w.heap.size ya yn yc ys _ (HV.out.ext (by (repeat (first | exact Ext.refl _ | refine Ext.alloc ?_ _ | refine Ext.drewN ?_ _ | refine Ext.drew ?_ | refine Ext.trans ?_ (Hid.out (by assumption)))))) HSM.out (HD1.out.oY.ext (by (repeat (first | exact Ext.refl _ | refine Ext.alloc ?_ _ | refine Ext.drewN ?_ _ | refine Ext.drew ?_ | refine Ext.trans ?_ (Hid.out (by assumption)))))) (by omega) (by have := hxq.out.size; simp at this; omega) (Ext.blk (by (repeat (first | exact Ext.refl _ | refine Ext.alloc ?_ _ | refine Ext.drewN ?_ _ | refine Ext.drew ?_ | refine Ext.trans ?_ (Hid.out (by assumption))))) HD1.out.bY) (by omega)).mono ?_; rintro e wf ⟨rfl, g, cap', y, hown, hY, hbox, hbut, hat⟩; have HOWN := hid hown; have HYY := hid hY; have HBOX := hid hbox; have HBUT := hid hbut; have HAT := hid hat; clear hown hY hbox hbut hat))
        go_roundg (gk - 1)
        case measure => omega
        case rel =>
          have hd1 := HD1.out
          have hb := HBUT.out
          have nO := ne_blk hd1.oY (b := (w.heap.size + 1)) (by omega)
          have nN := ne_blk hd1.oY (b := (w.heap.size + 1 + 1)) (by omega)
          have nM := ne_blk hd1.oY (b := (w.heap.size + 1 + 1 + 1)) (by omega)
          refine ⟨k + 1, some ⟨g, 0, none⟩, yn + 1, cap', ys ++ [y], na, nn, nc, oa, on, oc, os, by omega, by go_num, ?_, hb.ext (by (repeat (first | exact Ext.refl _ | refine Ext.alloc ?_ _ | refine Ext.drewN ?_ _ | refine Ext.drew ?_ | refine Ext.trans ?_ (Hid.out (by assumption))))) (by omega) (fun ad ha => by have := (hd1.oY.lt ad ha).1; omega)⟩
          refine ⟨HBOX.out, hb.blk hd1.bO (by omega) nO, hb.blk hd1.bN (by omega) nN, hb.blk hd1.mp (by omega) nM, HOWN.out, hb.own hd1.oO (by omega) hd1.dis, ?_, dis_new HAT.out hd1.dis hd1.oO, fun z hz => ?_, fun z hz => hb.eown (hd1.eO z hz) hd1.oY (by omega) (by decide) (by decide) (by decide), ?_, ?_⟩
          · rw [decN_succ HKD.out HDK.out HSD.out, if_neg (by decide), List.append_nil]; exact hb.own hd1.oN (by omega) (hd1.oY.ne hd1.oN (by decide))
          · rcases List.mem_append.1 hz with hz | hz
            · exact hb.eown (hd1.eY z hz) hd1.oY (by omega) (by decide) (by decide) (by decide)
            · obtain rfl := List.mem_singleton.1 hz
              exact HYY.out.2
          · rw [decY_succ HKD.out HDK.out HSD.out, if_pos rfl, List.map_append, hd1.mY]; simp [HYY.out.1]
          · rw [decO_succ HKD.out HDK.out HSD.out, if_neg (by decide), List.append_nil]; exact hd1.mO
      · have HSAY := hid h
        have HSD := hid (show saysOf kids xs[k].d.id = 2 from by rw [← HID.out]; exact h)
        clear h
        go_wp2_with (first | (go_at_call 25; refine (says_any _ _ _ kids xs[k].x.id _ (HK.out.ext (by (repeat (first | exact Ext.refl _ | refine Ext.alloc ?_ _ | refine Ext.drewN ?_ _ | refine Ext.drew ?_ | refine Ext.trans ?_ (Hid.out (by assumption))))))).mono ?_; rintro e wq ⟨he, hb⟩; rw [HSAY.out] at he; subst he; have HD1 := hid (hrel2.out.ext (((Ext.refl wr).alloc _).trans hb)); have lk := look_at (P := Try.prog) Try.underlying81 Try.underlying3 HD1.out.mp 2 rfl; have lk' : (Instr.lookup 81 (.map (some (w.heap.size + 1 + 1 + 1))) (.int .i64 2) true).run Try.prog wq = .ok _ wq := lk; clear lk; have j0 := hb.keep j0; have j1 := hb.keep j1; have j2 := hb.keep j2; have j3 := hb.keep j3; have j4 := hb.keep j4; have j5 := hb.keep j5; have j6 := hb.keep j6; have j7 := hb.keep j7; have hxq := hid hb; clear hb) | (go_at_call 58; refine (dec3_any xs[k].x xs[k].d (w.heap.size + 1 + 1 + 1 + 1) (w.heap.size + 1 + 1) na nn nc (decN (saysOf kids) (ds.take k)) _ (HV.out.ext (by (repeat (first | exact Ext.refl _ | refine Ext.alloc ?_ _ | refine Ext.drewN ?_ _ | refine Ext.drew ?_ | refine Ext.trans ?_ (Hid.out (by assumption)))))) (HD1.out.oN.ext (by (repeat (first | exact Ext.refl _ | refine Ext.alloc ?_ _ | refine Ext.drewN ?_ _ | refine Ext.drew ?_ | refine Ext.trans ?_ (Hid.out (by assumption)))))) (by omega) (by have := hxq.out.size; simp at this; omega) (Ext.blk (by (repeat (first | exact Ext.refl _ | refine Ext.alloc ?_ _ | refine Ext.drewN ?_ _ | refine Ext.drew ?_ | refine Ext.trans ?_ (Hid.out (by assumption))))) HD1.out.bN) (by omega)).mono ?_; rintro e wf ⟨rfl, g, cap', y, hown, hY, hbox, hbut, hat⟩; have HOWN := hid hown; have HYY := hid hY; have HBOX := hid hbox; have HBUT := hid hbut; have HAT := hid hat; clear hown hY hbox hbut hat))
        go_roundg (gk - 1)
        case measure => omega
        case rel =>
          have hd1 := HD1.out
          have hb := HBUT.out
          have nY := ne_blk hd1.oN (b := w.heap.size) (by omega)
          have nO := ne_blk hd1.oN (b := (w.heap.size + 1)) (by omega)
          have nM := ne_blk hd1.oN (b := (w.heap.size + 1 + 1 + 1)) (by omega)
          refine ⟨k + 1, ya, yn, yc, ys, some ⟨g, 0, none⟩, nn + 1, cap', oa, on, oc, os, by omega, by go_num, ?_, hb.ext (by (repeat (first | exact Ext.refl _ | refine Ext.alloc ?_ _ | refine Ext.drewN ?_ _ | refine Ext.drew ?_ | refine Ext.trans ?_ (Hid.out (by assumption))))) (by omega) (fun ad ha => by have := (hd1.oN.lt ad ha).1; omega)⟩
          refine ⟨hb.blk hd1.bY (by omega) nY, hb.blk hd1.bO (by omega) nO, HBOX.out, hb.blk hd1.mp (by omega) nM, hb.own hd1.oY (by omega) (hd1.oN.ne hd1.oY (by decide)), hb.own hd1.oO (by omega) (hd1.oN.ne hd1.oO (by decide)), ?_, hd1.dis, fun z hz => hb.eown (hd1.eY z hz) hd1.oN (by omega) (by decide) (by decide) (by decide), fun z hz => hb.eown (hd1.eO z hz) hd1.oN (by omega) (by decide) (by decide) (by decide), ?_, ?_⟩
          · rw [decN_succ HKD.out HDK.out HSD.out, if_pos rfl, ← HYY.out]; exact HOWN.out
          · rw [decY_succ HKD.out HDK.out HSD.out, if_neg (by decide), List.append_nil]; exact hd1.mY
          · rw [decO_succ HKD.out HDK.out HSD.out, if_neg (by decide), List.append_nil]; exact hd1.mO
    · have hk' : ds.take k = ds := List.take_of_length_le (by rw [HDL.out]; omega)
      rw [hk'] at hrel2
      clear hk'
      have y0 := cell_of_one hrel2.out.bY
      have o0 := cell_of_one hrel2.out.bO
      have n0 := cell_of_one hrel2.out.bN
      go_wp2_with fail
      go_quiet (fail)
      go_wp2
      go_ret3
      replace hrel2 := hid (hrel2.out.ext ((Ext.refl wr).drewN nq))
      exact ⟨ya, yn, yc, ys, na, nn, nc, oa, on, oc, os, rfl, ⟨hrel2.out.oY.sl, fun p hp => (hrel2.out.eY p hp).is⟩, hrel2.out.mY, hrel2.out.oN.sl, ⟨hrel2.out.oO.sl, fun p hp => (hrel2.out.eO p hp).is⟩, hrel2.out.mO, (by (repeat (first | exact Ext.refl _ | refine Ext.alloc ?_ _ | refine Ext.drewN ?_ _ | refine Ext.drew ?_ | refine Ext.trans ?_ (Hid.out (by assumption)))))⟩
end Go.Proofs.Ytncadipipomebaa
