/- Chapter 19: the statements' head, and what is of little loads. -/
import Derived.Test.YtncadipipomebaaAdmit
import Derived.Test.YtncadipipomebaaDecide
import Derived.Test.YtncadipipomebaaFrom
import Derived.Test.YtncadipipomebaaFew
namespace Go.Proofs.Ytncadipipomebaa
open Go.RowKit
attribute [local go_sem ↓] Go.wp_at_zero Go.wp_at_succ

theorem one_ent {w : World} {aa : Option Addr} {n c : Nat} {ps : List EP} {d : ED} (h : Ents w aa n c ps) (hm : ps.map (·.d) = [d]) :
    ∃ b o, n = 1 ∧ aa = some ⟨b, o, none⟩ ∧ w.cell? ⟨b, o + 1, none⟩ = some (.int .i64 d.id.b) ∧ w.cell? ⟨b, o + 2, none⟩ = some (.int .u64 d.id.l) ∧ w.cell? ⟨b, o + 3, none⟩ = some (.int .u64 d.id.s) := by
  have hl : ps.length = 1 := by have := congrArg List.length hm; rwa [List.length_map] at this
  obtain ⟨p, rfl⟩ := List.length_eq_one_iff.1 hl
  obtain ⟨b, o, ha, hc⟩ := h.sl.get 0 (by simp)
  have hd : p.d = d := by simpa using hm
  have hi := (h.is p (by simp)).id
  have hc' : CellsAt w b o p.x.cs := by have := hc; rw [Nat.zero_mul, Nat.add_zero] at this; exact this
  obtain ⟨c0, c1, c2, c3, _⟩ := cells8 hc'
  rw [hi, hd] at c1 c2 c3
  exact ⟨b, o, h.sl.neq, ha, c1, c2, c3⟩
theorem no_ent {w : World} {aa : Option Addr} {n c : Nat} {ps : List EP} (h : Ents w aa n c ps) (hm : ps.map (·.d) = []) : n = 0 := by
  rw [h.sl.neq]; have := congrArg List.length hm; rwa [List.length_map] at this
theorem one_i {w : World} {aa : Option Addr} {n c : Nat} {i : Id} (h : Sl w 3 Id.cs aa n c [i]) :
    ∃ b o, n = 1 ∧ aa = some ⟨b, o, none⟩ ∧ w.cell? ⟨b, o, none⟩ = some (.int .i64 i.b) ∧ w.cell? ⟨b, o + 1, none⟩ = some (.int .u64 i.l) ∧ w.cell? ⟨b, o + 2, none⟩ = some (.int .u64 i.s) := by
  obtain ⟨b, o, ha, hc⟩ := h.get 0 (by simp)
  have hc' : CellsAt w b o i.cs := by have := hc; rw [Nat.zero_mul, Nat.add_zero] at this; exact this
  obtain ⟨c0, c1, c2⟩ := cells3 hc'
  exact ⟨b, o, h.neq, ha, c0, c1, c2⟩
def xEV : EV := ⟨1, aId, 0, 0, ⟨none, 0, 0⟩, ⟨none, 0, 0⟩⟩
def xED : ED := ⟨1, aId, 0, 0, [], []⟩
def yEV : EV := ⟨2, bId, 0, 0, ⟨none, 0, 0⟩, ⟨none, 0, 0⟩⟩
def yED : ED := ⟨2, bId, 0, 0, [], []⟩
def xEP : EP := ⟨xEV, xED⟩
def yEP : EP := ⟨yEV, yED⟩
theorem xyIs (w : World) : ∀ p, p = xEP ∨ p = yEP → EntryIs w p.x p.d := by
  rintro p (rfl | rfl)
  · exact ⟨rfl, rfl, rfl, rfl, Sl.nil _ T.wid, [], rfl, Sl.nil _ EvV.wid, fun x hx => by cases hx⟩
  · exact ⟨rfl, rfl, rfl, rfl, Sl.nil _ T.wid, [], rfl, Sl.nil _ EvV.wid, fun x hx => by cases hx⟩
theorem xySmall : ∀ p, p = xEP ∨ p = yEP → Small p.d := by
  rintro p (rfl | rfl)
  · exact ⟨by decide, by decide, fun e he => by cases he⟩
  · exact ⟨by decide, by decide, fun e he => by cases he⟩
theorem xyEnts {w : World} {B : Nat} {cs : Array Value} {t : TypeId} {fr : Nat × Nat} (ps : List EP) (n : Nat) (hn : n = ps.length) (hm : ps.length ≤ 1000) (hp : ∀ p, p ∈ ps → p = xEP ∨ p = yEP) (h : w.heap[B]? = some (.cells cs t fr)) (hcs : cs.toList = ps.flatMap EP.cs) : Ents w (some ⟨B, 0, none⟩) n n ps :=
  ⟨sl_ofBlock ps EP.wid hn hm h hcs, fun p h => xyIs w p (hp p h)⟩

def zMV2 (v : SV) : MV := ⟨0, 0, v, ⟨none, 0, 0⟩, ⟨none, 0, 0⟩, ⟨none, 0, 0⟩, ⟨none, 0, 0⟩, ⟨none, 0, 0⟩⟩
set_option maxRecDepth 100000 in
set_option maxHeartbeats 2000000 in
theorem awake19_any (w : World) : Calls Try.prog 30 #[] w fun e w' => e = .returned (.bool true) ∧ Ext w w' := by
  go_enter Try.func30, Try.ntmps30
  go_wp2_with fail
  have BX : ((w.alloc (Obj.cells #[.int .i64 1, .int .i64 0, .int .u64 0, .int .u64 1, .int .i64 0, .int .u64 0, .slice none 0 0, .slice none 0 0] 50)).alloc (Obj.cells #[.int .i64 2, .int .i64 0, .int .u64 0, .int .u64 2, .int .i64 0, .int .u64 0, .slice none 0 0, .slice none 0 0] 50)).heap[w.heap.size]? = some (Obj.cells #[.int .i64 1, .int .i64 0, .int .u64 0, .int .u64 1, .int .i64 0, .int .u64 0, .slice none 0 0, .slice none 0 0] 50) := by (repeat (first | (refine heap_new ?_; (simp; done)) | refine heap_old (by first | (simp; done) | (simp; omega)) ?_))
  have BY : ((w.alloc (Obj.cells #[.int .i64 1, .int .i64 0, .int .u64 0, .int .u64 1, .int .i64 0, .int .u64 0, .slice none 0 0, .slice none 0 0] 50)).alloc (Obj.cells #[.int .i64 2, .int .i64 0, .int .u64 0, .int .u64 2, .int .i64 0, .int .u64 0, .slice none 0 0, .slice none 0 0] 50)).heap[w.heap.size + 1]? = some (Obj.cells #[.int .i64 2, .int .i64 0, .int .u64 0, .int .u64 2, .int .i64 0, .int .u64 0, .slice none 0 0, .slice none 0 0] 50) := by (repeat (first | (refine heap_new ?_; (simp; done)) | refine heap_old (by first | (simp; done) | (simp; omega)) ?_))
  refine (admit_any zSt [] [] none 0 0 [] (some ⟨w.heap.size + 1 + 1, 0, none⟩) 3 3 [xEP, yEP, xEP] _ (Sl.nil _ EV.wid) (Sl.nil _ Id.wid) (Ents.nil _) (fun p hp => by cases hp) (xyEnts (w := _) (B := _) (t := 50) (fr := (0, 0)) [xEP, yEP, xEP] 3 rfl (by simp) (by simp) (by (repeat (first | (refine heap_new ?_; (simp; done)) | refine heap_old (by first | (simp; done) | (simp; omega)) ?_))) rfl) (fun p hp => xySmall p (by simp at hp; rcases hp with rfl | rfl | rfl <;> simp)) (by decide) (by decide)).mono ?_
  rintro e w1 ⟨aa, n1, c1, ps, bb, n2, c2, qs, rfl, he1, hm1, he2, hm2, hb⟩
  have hb := ((Ext.refl ((w.alloc (Obj.cells #[.int .i64 1, .int .i64 0, .int .u64 0, .int .u64 1, .int .i64 0, .int .u64 0, .slice none 0 0, .slice none 0 0] 50)).alloc (Obj.cells #[.int .i64 2, .int .i64 0, .int .u64 0, .int .u64 2, .int .i64 0, .int .u64 0, .slice none 0 0, .slice none 0 0] 50))).alloc _).trans hb
  obtain ⟨ob, oo, rfl, rfl, o1, o2, o3⟩ := one_ent (d := xED) he1 (hm1.trans rfl)
  obtain ⟨lb, lo, rfl, rfl, l1, l2, l3⟩ := one_ent (d := yED) he2 (hm2.trans rfl)
  have aBX := hb.blk BX
  have aBY := hb.blk BY
  have hx1 := hid hb
  clear hb BX BY he1 hm1 he2 hm2
  have ax0 : w1.cell? ⟨w.heap.size, 0, none⟩ = some (.int .i64 1) := cellH aBX rfl
  have ax1 : w1.cell? ⟨w.heap.size, 1, none⟩ = some (.int .i64 0) := cellH aBX rfl
  have ax2 : w1.cell? ⟨w.heap.size, 2, none⟩ = some (.int .u64 0) := cellH aBX rfl
  have ax3 : w1.cell? ⟨w.heap.size, 3, none⟩ = some (.int .u64 1) := cellH aBX rfl
  have ax4 : w1.cell? ⟨w.heap.size, 4, none⟩ = some (.int .i64 0) := cellH aBX rfl
  have ax5 : w1.cell? ⟨w.heap.size, 5, none⟩ = some (.int .u64 0) := cellH aBX rfl
  have ax6 : w1.cell? ⟨w.heap.size, 6, none⟩ = some (.slice none 0 0) := cellH aBX rfl
  have ax7 : w1.cell? ⟨w.heap.size, 7, none⟩ = some (.slice none 0 0) := cellH aBX rfl
  have ay0 : w1.cell? ⟨w.heap.size + 1, 0, none⟩ = some (.int .i64 2) := cellH aBY rfl
  have ay1 : w1.cell? ⟨w.heap.size + 1, 1, none⟩ = some (.int .i64 0) := cellH aBY rfl
  have ay2 : w1.cell? ⟨w.heap.size + 1, 2, none⟩ = some (.int .u64 0) := cellH aBY rfl
  have ay3 : w1.cell? ⟨w.heap.size + 1, 3, none⟩ = some (.int .u64 2) := cellH aBY rfl
  have ay4 : w1.cell? ⟨w.heap.size + 1, 4, none⟩ = some (.int .i64 0) := cellH aBY rfl
  have ay5 : w1.cell? ⟨w.heap.size + 1, 5, none⟩ = some (.int .u64 0) := cellH aBY rfl
  have ay6 : w1.cell? ⟨w.heap.size + 1, 6, none⟩ = some (.slice none 0 0) := cellH aBY rfl
  have ay7 : w1.cell? ⟨w.heap.size + 1, 7, none⟩ = some (.slice none 0 0) := cellH aBY rfl
  have az : w.heap.size + 1 < w1.heap.size := lt_of_block aBY
  have az2 : w.heap.size < w1.heap.size := lt_of_block aBX
  have O1 := hid o1
  have O2 := hid o2
  have O3 := hid o3
  have L1 := hid l1
  have L2 := hid l2
  have L3 := hid l3
  have ABX := hid aBX
  have ABY := hid aBY
  clear o1 o2 o3 l1 l2 l3 aBX aBY
  go_wp2_with fail
  refine (decide_any (some ⟨w1.heap.size, 0, none⟩) 2 2 [xEP, yEP] (some ⟨w1.heap.size + 1 + 1, 0, none⟩) 1 1 [(⟨zMV2 ⟨some ⟨w1.heap.size + 1, 0, none⟩, 2, 2⟩, [⟨aId, true⟩, ⟨bId, false⟩]⟩ : Kid)] _ (xyEnts (w := _) (B := _) (t := 50) (fr := (0, 0)) [xEP, yEP] 2 rfl (by simp) (by simp) (by (repeat (first | (refine heap_new ?_; (simp; done)) | refine heap_old (by first | (simp; done) | (simp; omega)) ?_))) rfl) (fun p hp => xySmall p (by simp at hp; rcases hp with rfl | rfl <;> simp))
    ⟨sl_ofBlock [(⟨zMV2 ⟨some ⟨w1.heap.size + 1, 0, none⟩, 2, 2⟩, [⟨aId, true⟩, ⟨bId, false⟩]⟩ : Kid)] (fun _ => rfl) rfl (by simp) (t := 41) (fr := (0, 0)) (by (repeat (first | (refine heap_new ?_; (simp; done)) | refine heap_old (by first | (simp; done) | (simp; omega)) ?_))) rfl, fun m hm => by (obtain rfl := List.mem_singleton.1 hm; exact sl_ofBlock [(⟨aId, true⟩ : V), ⟨bId, false⟩] V.wid rfl (by simp) (t := 45) (fr := (0, 0)) (by (repeat (first | (refine heap_new ?_; (simp; done)) | refine heap_old (by first | (simp; done) | (simp; omega)) ?_))) rfl)⟩ (by decide)).mono ?_
  rintro e w2 ⟨ya, yn, yc, ys, na, nn, nc, ra, rn, rc, rs, rfl, he1, hm1, hsl, he2, hm2, hb⟩
  have hb := (((Ext.refl w1).alloc _).alloc _).alloc _ |>.trans hb
  obtain ⟨yb, yo, rfl, rfl, y1, y2, y3⟩ := one_ent (d := xED) he1 (hm1.trans rfl)
  obtain ⟨nb, no, rfl, rfl, n1, n2, n3⟩ := one_i (i := bId) hsl
  obtain rfl := no_ent he2 (hm2.trans rfl)
  have bBX := hb.blk ABX.out
  have bBY := hb.blk ABY.out
  replace O1 := hid (hb.keep O1.out)
  replace O2 := hid (hb.keep O2.out)
  replace O3 := hid (hb.keep O3.out)
  replace L1 := hid (hb.keep L1.out)
  replace L2 := hid (hb.keep L2.out)
  replace L3 := hid (hb.keep L3.out)
  clear ax0 ax1 ax2 ax3 ax4 ax5 ax6 ax7 ay0 ay1 ay2 ay3 ay4 ay5 ay6 ay7
  have hx2 := hid hb
  clear hb he1 hm1 hsl he2 hm2
  have bx0 : w2.cell? ⟨w.heap.size, 0, none⟩ = some (.int .i64 1) := cellH bBX rfl
  have bx1 : w2.cell? ⟨w.heap.size, 1, none⟩ = some (.int .i64 0) := cellH bBX rfl
  have bx2 : w2.cell? ⟨w.heap.size, 2, none⟩ = some (.int .u64 0) := cellH bBX rfl
  have bx3 : w2.cell? ⟨w.heap.size, 3, none⟩ = some (.int .u64 1) := cellH bBX rfl
  have bx4 : w2.cell? ⟨w.heap.size, 4, none⟩ = some (.int .i64 0) := cellH bBX rfl
  have bx5 : w2.cell? ⟨w.heap.size, 5, none⟩ = some (.int .u64 0) := cellH bBX rfl
  have bx6 : w2.cell? ⟨w.heap.size, 6, none⟩ = some (.slice none 0 0) := cellH bBX rfl
  have bx7 : w2.cell? ⟨w.heap.size, 7, none⟩ = some (.slice none 0 0) := cellH bBX rfl
  have by0 : w2.cell? ⟨w.heap.size + 1, 0, none⟩ = some (.int .i64 2) := cellH bBY rfl
  have by1 : w2.cell? ⟨w.heap.size + 1, 1, none⟩ = some (.int .i64 0) := cellH bBY rfl
  have by2 : w2.cell? ⟨w.heap.size + 1, 2, none⟩ = some (.int .u64 0) := cellH bBY rfl
  have by3 : w2.cell? ⟨w.heap.size + 1, 3, none⟩ = some (.int .u64 2) := cellH bBY rfl
  have by4 : w2.cell? ⟨w.heap.size + 1, 4, none⟩ = some (.int .i64 0) := cellH bBY rfl
  have by5 : w2.cell? ⟨w.heap.size + 1, 5, none⟩ = some (.int .u64 0) := cellH bBY rfl
  have by6 : w2.cell? ⟨w.heap.size + 1, 6, none⟩ = some (.slice none 0 0) := cellH bBY rfl
  have by7 : w2.cell? ⟨w.heap.size + 1, 7, none⟩ = some (.slice none 0 0) := cellH bBY rfl
  have bz : w.heap.size + 1 < w2.heap.size := lt_of_block bBY
  have bz2 : w.heap.size < w2.heap.size := lt_of_block bBX
  have Y1 := hid y1
  have Y2 := hid y2
  have Y3 := hid y3
  have N1 := hid n1
  have N2 := hid n2
  have N3 := hid n3
  have BBX := hid bBX
  have BBY := hid bBY
  clear y1 y2 y3 n1 n2 n3 bBX bBY ABX ABY
  go_wp2_with fail
  refine (told19_any (some ⟨w2.heap.size, 0, none⟩) 1 1 [aId] (some ⟨w2.heap.size + 1, 0, none⟩) 3 3 [yEV, xEV, xEV] _ (sl_ofBlock [aId] Id.wid rfl (by simp) (t := 30) (fr := (0, 0)) (by (repeat (first | (refine heap_new ?_; (simp; done)) | refine heap_old (by first | (simp; done) | (simp; omega)) ?_))) rfl) (sl_ofBlock [yEV, xEV, xEV] EV.wid rfl (by simp) (t := 50) (fr := (0, 0)) (by (repeat (first | (refine heap_new ?_; (simp; done)) | refine heap_old (by first | (simp; done) | (simp; omega)) ?_))) rfl)).mono ?_
  rintro e w3 ⟨ta, tn, tc, rfl, hsl, hb⟩
  have hb := ((Ext.refl w2).alloc _).alloc _ |>.trans hb
  obtain ⟨tb, tof, rfl, rfl, t1, t2, t3⟩ := one_i (i := aId) hsl
  have cBX := hb.blk BBX.out
  have cBY := hb.blk BBY.out
  replace O1 := hid (hb.keep O1.out)
  replace O2 := hid (hb.keep O2.out)
  replace O3 := hid (hb.keep O3.out)
  replace L1 := hid (hb.keep L1.out)
  replace L2 := hid (hb.keep L2.out)
  replace L3 := hid (hb.keep L3.out)
  replace Y1 := hid (hb.keep Y1.out)
  replace Y2 := hid (hb.keep Y2.out)
  replace Y3 := hid (hb.keep Y3.out)
  replace N1 := hid (hb.keep N1.out)
  replace N2 := hid (hb.keep N2.out)
  replace N3 := hid (hb.keep N3.out)
  clear bx0 bx1 bx2 bx3 bx4 bx5 bx6 bx7 by0 by1 by2 by3 by4 by5 by6 by7
  have hx3 := hid hb
  clear hb hsl
  have cx0 : w3.cell? ⟨w.heap.size, 0, none⟩ = some (.int .i64 1) := cellH cBX rfl
  have cx1 : w3.cell? ⟨w.heap.size, 1, none⟩ = some (.int .i64 0) := cellH cBX rfl
  have cx2 : w3.cell? ⟨w.heap.size, 2, none⟩ = some (.int .u64 0) := cellH cBX rfl
  have cx3 : w3.cell? ⟨w.heap.size, 3, none⟩ = some (.int .u64 1) := cellH cBX rfl
  have cx4 : w3.cell? ⟨w.heap.size, 4, none⟩ = some (.int .i64 0) := cellH cBX rfl
  have cx5 : w3.cell? ⟨w.heap.size, 5, none⟩ = some (.int .u64 0) := cellH cBX rfl
  have cx6 : w3.cell? ⟨w.heap.size, 6, none⟩ = some (.slice none 0 0) := cellH cBX rfl
  have cx7 : w3.cell? ⟨w.heap.size, 7, none⟩ = some (.slice none 0 0) := cellH cBX rfl
  have cy0 : w3.cell? ⟨w.heap.size + 1, 0, none⟩ = some (.int .i64 2) := cellH cBY rfl
  have cy1 : w3.cell? ⟨w.heap.size + 1, 1, none⟩ = some (.int .i64 0) := cellH cBY rfl
  have cy2 : w3.cell? ⟨w.heap.size + 1, 2, none⟩ = some (.int .u64 0) := cellH cBY rfl
  have cy3 : w3.cell? ⟨w.heap.size + 1, 3, none⟩ = some (.int .u64 2) := cellH cBY rfl
  have cy4 : w3.cell? ⟨w.heap.size + 1, 4, none⟩ = some (.int .i64 0) := cellH cBY rfl
  have cy5 : w3.cell? ⟨w.heap.size + 1, 5, none⟩ = some (.int .u64 0) := cellH cBY rfl
  have cy6 : w3.cell? ⟨w.heap.size + 1, 6, none⟩ = some (.slice none 0 0) := cellH cBY rfl
  have cy7 : w3.cell? ⟨w.heap.size + 1, 7, none⟩ = some (.slice none 0 0) := cellH cBY rfl
  have cz : w.heap.size + 1 < w3.heap.size := lt_of_block cBY
  have cz2 : w.heap.size < w3.heap.size := lt_of_block cBX
  have T1 := hid t1
  have T2 := hid t2
  have T3 := hid t3
  have CBX := hid cBX
  have CBY := hid cBY
  clear t1 t2 t3 cBX cBY BBX BBY
  go_wp2_with fail
  refine (from19_any (some ⟨w3.heap.size, 0, none⟩) 2 2 [xEP, yEP] 1 _ (xyEnts (w := _) (B := _) (t := 50) (fr := (0, 0)) [xEP, yEP] 2 rfl (by simp) (by simp) (by (repeat (first | (refine heap_new ?_; (simp; done)) | refine heap_old (by first | (simp; done) | (simp; omega)) ?_))) rfl) (fun p hp => xySmall p (by simp at hp; rcases hp with rfl | rfl <;> simp)) (by decide)).mono ?_
  rintro e w4 ⟨fa, fn, fc, fs, rfl, hfo, hfe, hfm, hb⟩
  have hb := ((Ext.refl w3).alloc _).trans hb
  obtain ⟨fb, fo, rfl, rfl, f1, f2, f3⟩ := one_ent (d := yED) ⟨hfo.sl, fun p hp => (hfe p hp).is⟩ (hfm.trans rfl)
  have dBX := hb.blk CBX.out
  have dBY := hb.blk CBY.out
  have o1 := hb.keep O1.out
  have o2 := hb.keep O2.out
  have o3 := hb.keep O3.out
  have l1 := hb.keep L1.out
  have l2 := hb.keep L2.out
  have l3 := hb.keep L3.out
  have y1 := hb.keep Y1.out
  have y2 := hb.keep Y2.out
  have y3 := hb.keep Y3.out
  have n1 := hb.keep N1.out
  have n2 := hb.keep N2.out
  have n3 := hb.keep N3.out
  have t1 := hb.keep T1.out
  have t2 := hb.keep T2.out
  have t3 := hb.keep T3.out
  clear cx0 cx1 cx2 cx3 cx4 cx5 cx6 cx7 cy0 cy1 cy2 cy3 cy4 cy5 cy6 cy7
  have hx4 := hid hb
  clear hb hfo hfe hfm
  have dx0 : w4.cell? ⟨w.heap.size, 0, none⟩ = some (.int .i64 1) := cellH dBX rfl
  have dx1 : w4.cell? ⟨w.heap.size, 1, none⟩ = some (.int .i64 0) := cellH dBX rfl
  have dx2 : w4.cell? ⟨w.heap.size, 2, none⟩ = some (.int .u64 0) := cellH dBX rfl
  have dx3 : w4.cell? ⟨w.heap.size, 3, none⟩ = some (.int .u64 1) := cellH dBX rfl
  have dx4 : w4.cell? ⟨w.heap.size, 4, none⟩ = some (.int .i64 0) := cellH dBX rfl
  have dx5 : w4.cell? ⟨w.heap.size, 5, none⟩ = some (.int .u64 0) := cellH dBX rfl
  have dx6 : w4.cell? ⟨w.heap.size, 6, none⟩ = some (.slice none 0 0) := cellH dBX rfl
  have dx7 : w4.cell? ⟨w.heap.size, 7, none⟩ = some (.slice none 0 0) := cellH dBX rfl
  have dy0 : w4.cell? ⟨w.heap.size + 1, 0, none⟩ = some (.int .i64 2) := cellH dBY rfl
  have dy1 : w4.cell? ⟨w.heap.size + 1, 1, none⟩ = some (.int .i64 0) := cellH dBY rfl
  have dy2 : w4.cell? ⟨w.heap.size + 1, 2, none⟩ = some (.int .u64 0) := cellH dBY rfl
  have dy3 : w4.cell? ⟨w.heap.size + 1, 3, none⟩ = some (.int .u64 2) := cellH dBY rfl
  have dy4 : w4.cell? ⟨w.heap.size + 1, 4, none⟩ = some (.int .i64 0) := cellH dBY rfl
  have dy5 : w4.cell? ⟨w.heap.size + 1, 5, none⟩ = some (.int .u64 0) := cellH dBY rfl
  have dy6 : w4.cell? ⟨w.heap.size + 1, 6, none⟩ = some (.slice none 0 0) := cellH dBY rfl
  have dy7 : w4.cell? ⟨w.heap.size + 1, 7, none⟩ = some (.slice none 0 0) := cellH dBY rfl
  have dz : w.heap.size + 1 < w4.heap.size := lt_of_block dBY
  have dz2 : w.heap.size < w4.heap.size := lt_of_block dBX
  clear dBX dBY CBX CBY O1 O2 O3 L1 L2 L3 Y1 Y2 Y3 N1 N2 N3 T1 T2 T3
  simp only [xED, yED, aId, bId] at o1 o2 o3 l1 l2 l3 y1 y2 y3 n1 n2 n3 t1 t2 t3 f1 f2 f3
  go_wp2_with fail
  go_quiet (fail)
  go_wp2
  go_ret
  refine ⟨rfl, ?_⟩
  (repeat (first | exact Ext.refl _ | refine Ext.alloc ?_ _ | refine Ext.drewN ?_ _ | refine Ext.drew ?_ | refine Ext.trans ?_ (Hid.out (by assumption))))
end Go.Proofs.Ytncadipipomebaa
