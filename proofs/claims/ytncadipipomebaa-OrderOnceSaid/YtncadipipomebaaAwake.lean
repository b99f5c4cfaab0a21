/- The calls at the head of the statements on votes answer as they should. -/
import Derived.Test.YtncadipipomebaaTally
import Derived.Test.YtncadipipomebaaProm
import Derived.Test.YtncadipipomebaaFew
import Derived.Deep.DeepMust
namespace Go.Proofs.Ytncadipipomebaa
open Go.RowKit
attribute [local go_sem ↓] Go.wp_at_zero Go.wp_at_succ

/-- A slice that was laid just now, whole. -/
theorem sl_ofBlock {α : Type} {w : World} {sz : Nat} {c : α → List Value} {B n : Nat} {t : TypeId} {fr : Nat × Nat} (xs : List α) (hw : ∀ x, (c x).length = sz) (hn : n = xs.length) (hm : xs.length ≤ 1000)
    {cs : Array Value} (h : w.heap[B]? = some (.cells cs t fr)) (hcs : cs.toList = xs.flatMap c) : Sl w sz c (some ⟨B, 0, none⟩) n n xs :=
  ⟨hn, Nat.le_refl _, by rw [hn]; simp only [maxLen]; omega, (fun h => by cases h), hw, fun k x hk => ⟨B, 0, rfl, fun j v hj => by
    have := flatMap_at hw xs k x hk j v hj
    rw [← hcs] at this
    rw [Nat.zero_add]
    simp only [World.cell?, h]
    simpa using this⟩⟩

theorem heap_new {w : World} {o : Obj} {n : Nat} (h : n = w.heap.size) : (w.alloc o).heap[n]? = some o := by subst h; exact heap_alloc_new _ _
theorem heap_old {w : World} {o : Obj} {n : Nat} {r : Option Obj} (h : n < w.heap.size) (k : w.heap[n]? = r) : (w.alloc o).heap[n]? = r := by rw [Below.heap_alloc _ _ _ h]; exact k
theorem cellH {w : World} {b o : Nat} {cs : Array Value} {t : TypeId} {fr : Nat × Nat} {v : Value} (h : w.heap[b]? = some (.cells cs t fr)) (hv : cs[o]? = some v) : w.cell? ⟨b, o, none⟩ = some v := by
  simp only [World.cell?, h]; simpa using hv
def aId : Id := ⟨0, 0, 1⟩
def bId : Id := ⟨0, 0, 2⟩
def aEV : EV := ⟨3, aId, 0, 0, ⟨none, 0, 0⟩, ⟨none, 0, 0⟩⟩
def aED : ED := ⟨3, aId, 0, 0, [], []⟩
def nMV (v : SV) : MV := ⟨1, 0, v, ⟨none, 0, 0⟩, ⟨none, 0, 0⟩, ⟨none, 0, 0⟩, ⟨none, 0, 0⟩, ⟨none, 0, 0⟩⟩
def zMV : MV := ⟨0, 0, ⟨none, 0, 0⟩, ⟨none, 0, 0⟩, ⟨none, 0, 0⟩, ⟨none, 0, 0⟩, ⟨none, 0, 0⟩, ⟨none, 0, 0⟩⟩
def zSt : StV := ⟨0, ⟨none, 0, 0⟩, ⟨none, 0, 0⟩, ⟨none, 0, 0⟩⟩
theorem aIs (w : World) : EntryIs w aEV aED := ⟨rfl, rfl, rfl, rfl, Sl.nil _ T.wid, [], rfl, Sl.nil _ EvV.wid, fun x hx => by cases hx⟩
theorem aSmall : Small aED := ⟨by decide, by decide, fun e he => by cases he⟩

theorem says_none (w : World) : Calls Try.prog 25 #[.slice none 0 0, .agg #[.int .i64 0, .int .u64 0, .int .u64 2]] w fun e w' => e = .returned (.int .i64 1) ∧ Ext w w' :=
  says_any none 0 0 [] bId w ⟨Sl.nil _ (fun _ => rfl), fun m hm => by cases hm⟩
theorem says_zero (w : World) (q : Nat) (t : TypeId) (fr : Nat × Nat) (h : w.heap[q]? = some (.cells #[.int .i64 0, .int .u64 0, .slice none 0 0, .slice none 0 0, .slice none 0 0, .slice none 0 0, .slice none 0 0, .slice none 0 0] t fr)) :
    Calls Try.prog 25 #[.slice (some ⟨q, 0, none⟩) 1 1, .agg #[.int .i64 0, .int .u64 0, .int .u64 2]] w fun e w' => e = .returned (.int .i64 0) ∧ Ext w w' :=
  says_any (some ⟨q, 0, none⟩) 1 1 [⟨zMV, []⟩] bId w ⟨sl_ofBlock [_] (fun _ => rfl) rfl (by simp) h rfl, fun m hm => by (obtain rfl := List.mem_singleton.1 hm; exact Sl.nil _ V.wid)⟩
theorem ends_none (w : World) (q v : Nat) (t : TypeId) (fr : Nat × Nat) (hv : Sl w 4 V.cs (some ⟨v, 0, none⟩) 1 1 [(⟨aId, true⟩ : V)])
    (h : w.heap[q]? = some (.cells #[.int .i64 3, .int .i64 0, .int .u64 0, .int .u64 1, .int .i64 0, .int .u64 0, .slice none 0 0, .slice none 0 0] t fr)) :
    Calls Try.prog 23 #[.agg #[.int .u64 0, .slice none 0 0, .slice none 0 0, .slice none 0 0], .slice (some ⟨q, 0, none⟩) 1 1, .agg #[.int .i64 1, .int .u64 0, .slice (some ⟨v, 0, none⟩) 1 1, .slice none 0 0, .slice none 0 0, .slice none 0 0, .slice none 0 0, .slice none 0 0]] w
      fun e w' => ∃ ga gc, e = .returned (.slice ga 0 gc) ∧ Ext w w' := by
  refine (ends_any zSt [] [] [aEV] _ 1 1 (nMV ⟨some ⟨v, 0, none⟩, 1, 1⟩) [⟨aId, true⟩] w (Sl.nil _ EV.wid) (Sl.nil _ EV.wid) (sl_ofBlock [aEV] EV.wid rfl (by simp) h rfl) hv).mono ?_
  rintro e w' ⟨ga, gn, gc, rfl, hsl, hb⟩
  have hgn : gn = 0 := hsl.neq
  subst hgn
  exact ⟨ga, gc, rfl, hb⟩

set_option maxRecDepth 100000 in
set_option maxHeartbeats 4000000 in
theorem awake18_any (w : World) : Calls Try.prog 14 #[] w fun e w' => e = .returned (.bool true) ∧ Ext w w' := by
  go_enter Try.func14, Try.ntmps14
  go_wp2_with fail
  have hV : Sl (((((((w.alloc (.cells #[.int .i64 3, .int .i64 0, .int .u64 0, .int .u64 1, .int .i64 0, .int .u64 0, .slice none 0 0, .slice none 0 0] 50)).alloc (.cells #[.int .i64 0, .int .u64 0, .int .u64 2] 30)).alloc (.cells #[.int .i64 0, .int .u64 0, .int .u64 1, .bool true] 45)).alloc (.cells #[.int .i64 1, .int .u64 0, .slice (some ⟨w.heap.size + 1 + 1, 0, none⟩) 1 1, .slice none 0 0, .slice none 0 0, .slice none 0 0, .slice none 0 0, .slice none 0 0] 41)).alloc (.cells #[.int .i64 3, .int .i64 0, .int .u64 0, .int .u64 1, .int .i64 0, .int .u64 0, .slice none 0 0, .slice none 0 0] 50)).alloc (.cells #[.int .i64 0, .int .u64 0, .int .u64 2] 30)).alloc (.cells #[.int .i64 1, .int .u64 0, .slice (some ⟨w.heap.size + 1 + 1, 0, none⟩) 1 1, .slice none 0 0, .slice none 0 0, .slice none 0 0, .slice none 0 0, .slice none 0 0] 41)) 4 V.cs (some ⟨w.heap.size + 1 + 1, 0, none⟩) 1 1 [(⟨aId, true⟩ : V)] :=
    sl_ofBlock [(⟨aId, true⟩ : V)] V.wid rfl (by simp) (t := 45) (fr := (0, 0)) (by (repeat (first | (refine heap_new ?_; (simp; done)) | refine heap_old (by first | (simp; done) | (simp; omega)) ?_))) rfl
  have BX : ((((((((w.alloc (.cells #[.int .i64 3, .int .i64 0, .int .u64 0, .int .u64 1, .int .i64 0, .int .u64 0, .slice none 0 0, .slice none 0 0] 50)).alloc (.cells #[.int .i64 0, .int .u64 0, .int .u64 2] 30)).alloc (.cells #[.int .i64 0, .int .u64 0, .int .u64 1, .bool true] 45)).alloc (.cells #[.int .i64 1, .int .u64 0, .slice (some ⟨w.heap.size + 1 + 1, 0, none⟩) 1 1, .slice none 0 0, .slice none 0 0, .slice none 0 0, .slice none 0 0, .slice none 0 0] 41)).alloc (.cells #[.int .i64 3, .int .i64 0, .int .u64 0, .int .u64 1, .int .i64 0, .int .u64 0, .slice none 0 0, .slice none 0 0] 50)).alloc (.cells #[.int .i64 0, .int .u64 0, .int .u64 2] 30)).alloc (.cells #[.int .i64 1, .int .u64 0, .slice (some ⟨w.heap.size + 1 + 1, 0, none⟩) 1 1, .slice none 0 0, .slice none 0 0, .slice none 0 0, .slice none 0 0, .slice none 0 0] 41))).heap[w.heap.size]? = some (.cells #[.int .i64 3, .int .i64 0, .int .u64 0, .int .u64 1, .int .i64 0, .int .u64 0, .slice none 0 0, .slice none 0 0] 50) := by (repeat (first | (refine heap_new ?_; (simp; done)) | refine heap_old (by first | (simp; done) | (simp; omega)) ?_))
  have BY : ((((((((w.alloc (.cells #[.int .i64 3, .int .i64 0, .int .u64 0, .int .u64 1, .int .i64 0, .int .u64 0, .slice none 0 0, .slice none 0 0] 50)).alloc (.cells #[.int .i64 0, .int .u64 0, .int .u64 2] 30)).alloc (.cells #[.int .i64 0, .int .u64 0, .int .u64 1, .bool true] 45)).alloc (.cells #[.int .i64 1, .int .u64 0, .slice (some ⟨w.heap.size + 1 + 1, 0, none⟩) 1 1, .slice none 0 0, .slice none 0 0, .slice none 0 0, .slice none 0 0, .slice none 0 0] 41)).alloc (.cells #[.int .i64 3, .int .i64 0, .int .u64 0, .int .u64 1, .int .i64 0, .int .u64 0, .slice none 0 0, .slice none 0 0] 50)).alloc (.cells #[.int .i64 0, .int .u64 0, .int .u64 2] 30)).alloc (.cells #[.int .i64 1, .int .u64 0, .slice (some ⟨w.heap.size + 1 + 1, 0, none⟩) 1 1, .slice none 0 0, .slice none 0 0, .slice none 0 0, .slice none 0 0, .slice none 0 0] 41))).heap[w.heap.size + 1]? = some (.cells #[.int .i64 0, .int .u64 0, .int .u64 2] 30) := by (repeat (first | (refine heap_new ?_; (simp; done)) | refine heap_old (by first | (simp; done) | (simp; omega)) ?_))
  have BK : ((((((((w.alloc (.cells #[.int .i64 3, .int .i64 0, .int .u64 0, .int .u64 1, .int .i64 0, .int .u64 0, .slice none 0 0, .slice none 0 0] 50)).alloc (.cells #[.int .i64 0, .int .u64 0, .int .u64 2] 30)).alloc (.cells #[.int .i64 0, .int .u64 0, .int .u64 1, .bool true] 45)).alloc (.cells #[.int .i64 1, .int .u64 0, .slice (some ⟨w.heap.size + 1 + 1, 0, none⟩) 1 1, .slice none 0 0, .slice none 0 0, .slice none 0 0, .slice none 0 0, .slice none 0 0] 41)).alloc (.cells #[.int .i64 3, .int .i64 0, .int .u64 0, .int .u64 1, .int .i64 0, .int .u64 0, .slice none 0 0, .slice none 0 0] 50)).alloc (.cells #[.int .i64 0, .int .u64 0, .int .u64 2] 30)).alloc (.cells #[.int .i64 1, .int .u64 0, .slice (some ⟨w.heap.size + 1 + 1, 0, none⟩) 1 1, .slice none 0 0, .slice none 0 0, .slice none 0 0, .slice none 0 0, .slice none 0 0] 41))).heap[w.heap.size + 1 + 1 + 1]? = some (.cells #[.int .i64 1, .int .u64 0, .slice (some ⟨w.heap.size + 1 + 1, 0, none⟩) 1 1, .slice none 0 0, .slice none 0 0, .slice none 0 0, .slice none 0 0, .slice none 0 0] 41) := by (repeat (first | (refine heap_new ?_; (simp; done)) | refine heap_old (by first | (simp; done) | (simp; omega)) ?_))
  have hT := tally_any (some ⟨w.heap.size + 1 + 1 + 1 + 1, 0, none⟩) 1 1 [aEV] (some ⟨w.heap.size + 1 + 1 + 1 + 1 + 1, 0, none⟩) 1 1 [bId] (some ⟨w.heap.size + 1 + 1 + 1 + 1 + 1 + 1, 0, none⟩) 1 1 [⟨nMV ⟨some ⟨w.heap.size + 1 + 1, 0, none⟩, 1, 1⟩, [⟨aId, true⟩]⟩] (((((((w.alloc (.cells #[.int .i64 3, .int .i64 0, .int .u64 0, .int .u64 1, .int .i64 0, .int .u64 0, .slice none 0 0, .slice none 0 0] 50)).alloc (.cells #[.int .i64 0, .int .u64 0, .int .u64 2] 30)).alloc (.cells #[.int .i64 0, .int .u64 0, .int .u64 1, .bool true] 45)).alloc (.cells #[.int .i64 1, .int .u64 0, .slice (some ⟨w.heap.size + 1 + 1, 0, none⟩) 1 1, .slice none 0 0, .slice none 0 0, .slice none 0 0, .slice none 0 0, .slice none 0 0] 41)).alloc (.cells #[.int .i64 3, .int .i64 0, .int .u64 0, .int .u64 1, .int .i64 0, .int .u64 0, .slice none 0 0, .slice none 0 0] 50)).alloc (.cells #[.int .i64 0, .int .u64 0, .int .u64 2] 30)).alloc (.cells #[.int .i64 1, .int .u64 0, .slice (some ⟨w.heap.size + 1 + 1, 0, none⟩) 1 1, .slice none 0 0, .slice none 0 0, .slice none 0 0, .slice none 0 0, .slice none 0 0] 41))
    (sl_ofBlock [aEV] EV.wid rfl (by simp) (t := 50) (fr := (0, 0)) (by (repeat (first | (refine heap_new ?_; (simp; done)) | refine heap_old (by first | (simp; done) | (simp; omega)) ?_))) rfl) (sl_ofBlock [bId] Id.wid rfl (by simp) (t := 30) (fr := (0, 0)) (by (repeat (first | (refine heap_new ?_; (simp; done)) | refine heap_old (by first | (simp; done) | (simp; omega)) ?_))) rfl)
    ⟨sl_ofBlock [_] (fun _ => rfl) rfl (by simp) (t := 41) (fr := (0, 0)) (by (repeat (first | (refine heap_new ?_; (simp; done)) | refine heap_old (by first | (simp; done) | (simp; omega)) ?_))) rfl, fun m hm => by
      obtain rfl := List.mem_singleton.1 hm
      exact hV⟩
  refine hT.mono ?_
  clear hT
  rintro e w1 ⟨aa, n, cap, rfl, hsl, hb⟩
  rw [show tallyOf [⟨nMV ⟨some ⟨w.heap.size + 1 + 1, 0, none⟩, 1, 1⟩, [⟨aId, true⟩]⟩] [aEV] [bId] = [⟨aId, true⟩, ⟨bId, false⟩] from by rfl] at hsl
  have hn : n = 2 := hsl.neq
  subst hn
  obtain ⟨b, o, rfl, hc0⟩ := hsl.get 0 (by decide)
  obtain ⟨b', o', he, hc1⟩ := hsl.get 1 (by decide)
  simp only [Option.some.injEq, Addr.mk.injEq, and_true] at he
  obtain ⟨rfl, rfl⟩ := he
  have v0 : w1.cell? ⟨b, o, none⟩ = some (.int .i64 0) := by simpa [aId] using hc0 0 _ rfl
  have v1 : w1.cell? ⟨b, o + 1, none⟩ = some (.int .u64 0) := by simpa [aId] using hc0 1 _ rfl
  have v2 : w1.cell? ⟨b, o + 2, none⟩ = some (.int .u64 1) := by simpa [aId] using hc0 2 _ rfl
  have v3 : w1.cell? ⟨b, o + 3, none⟩ = some (.bool true) := by simpa [aId] using hc0 3 _ rfl
  have u0 : w1.cell? ⟨b, o + 4, none⟩ = some (.int .i64 0) := by simpa [bId] using hc1 0 _ rfl
  have u1 : w1.cell? ⟨b, o + 4 + 1, none⟩ = some (.int .u64 0) := by simpa [bId] using hc1 1 _ rfl
  have u2 : w1.cell? ⟨b, o + 4 + 2, none⟩ = some (.int .u64 2) := by simpa [bId] using hc1 2 _ rfl
  have u3 : w1.cell? ⟨b, o + 4 + 3, none⟩ = some (.bool false) := by simpa [bId] using hc1 3 _ rfl
  have ax0 : w1.cell? ⟨w.heap.size, 0, none⟩ = some (.int .i64 3) := hb.keep (cellH BX rfl)
  have ax1 : w1.cell? ⟨w.heap.size, 1, none⟩ = some (.int .i64 0) := hb.keep (cellH BX rfl)
  have ax2 : w1.cell? ⟨w.heap.size, 2, none⟩ = some (.int .u64 0) := hb.keep (cellH BX rfl)
  have ax3 : w1.cell? ⟨w.heap.size, 3, none⟩ = some (.int .u64 1) := hb.keep (cellH BX rfl)
  have ax4 : w1.cell? ⟨w.heap.size, 4, none⟩ = some (.int .i64 0) := hb.keep (cellH BX rfl)
  have ax5 : w1.cell? ⟨w.heap.size, 5, none⟩ = some (.int .u64 0) := hb.keep (cellH BX rfl)
  have ax6 : w1.cell? ⟨w.heap.size, 6, none⟩ = some (.slice none 0 0) := hb.keep (cellH BX rfl)
  have ax7 : w1.cell? ⟨w.heap.size, 7, none⟩ = some (.slice none 0 0) := hb.keep (cellH BX rfl)
  have ay0 : w1.cell? ⟨w.heap.size + 1, 0, none⟩ = some (.int .i64 0) := hb.keep (cellH BY rfl)
  have ay1 : w1.cell? ⟨w.heap.size + 1, 1, none⟩ = some (.int .u64 0) := hb.keep (cellH BY rfl)
  have ay2 : w1.cell? ⟨w.heap.size + 1, 2, none⟩ = some (.int .u64 2) := hb.keep (cellH BY rfl)
  have ak0 : w1.cell? ⟨w.heap.size + 1 + 1 + 1, 0, none⟩ = some (.int .i64 1) := hb.keep (cellH BK rfl)
  have ak1 : w1.cell? ⟨w.heap.size + 1 + 1 + 1, 1, none⟩ = some (.int .u64 0) := hb.keep (cellH BK rfl)
  have ak2 : w1.cell? ⟨w.heap.size + 1 + 1 + 1, 2, none⟩ = some (.slice (some ⟨w.heap.size + 1 + 1, 0, none⟩) 1 1) := hb.keep (cellH BK rfl)
  have ak3 : w1.cell? ⟨w.heap.size + 1 + 1 + 1, 3, none⟩ = some (.slice none 0 0) := hb.keep (cellH BK rfl)
  have ak4 : w1.cell? ⟨w.heap.size + 1 + 1 + 1, 4, none⟩ = some (.slice none 0 0) := hb.keep (cellH BK rfl)
  have ak5 : w1.cell? ⟨w.heap.size + 1 + 1 + 1, 5, none⟩ = some (.slice none 0 0) := hb.keep (cellH BK rfl)
  have ak6 : w1.cell? ⟨w.heap.size + 1 + 1 + 1, 6, none⟩ = some (.slice none 0 0) := hb.keep (cellH BK rfl)
  have ak7 : w1.cell? ⟨w.heap.size + 1 + 1 + 1, 7, none⟩ = some (.slice none 0 0) := hb.keep (cellH BK rfl)
  have hz1 : w.heap.size + 1 + 1 + 1 < w1.heap.size := by have := hb.size; simp at this; omega
  have hv := hid (hV.ext hb)
  clear hV
  have hx1 := hid hb
  have HSL := hid hsl
  clear hb hsl hc0 hc1 BX BY BK
  go_wp2_with fail
  have hW2 : Ents (w1.alloc (.cells #[.int .i64 3, .int .i64 0, .int .u64 0, .int .u64 1, .int .i64 0, .int .u64 0, .slice none 0 0, .slice none 0 0, .int .i64 3, .int .i64 0, .int .u64 0, .int .u64 1, .int .i64 0, .int .u64 0, .slice none 0 0, .slice none 0 0] 50)) (some ⟨w1.heap.size, 0, none⟩) 2 2 [⟨aEV, aED⟩, ⟨aEV, aED⟩] :=
    ⟨sl_ofBlock [(⟨aEV, aED⟩ : EP), ⟨aEV, aED⟩] EP.wid rfl (by simp) (t := 50) (fr := (0, 0)) (by (repeat (first | (refine heap_new ?_; (simp; done)) | refine heap_old (by first | (simp; done) | (simp; omega)) ?_))) rfl, fun p hp => by
      simp only [List.mem_cons, List.not_mem_nil, or_false, or_self] at hp
      subst hp
      exact aIs _⟩
  have hP := promise_any zSt [] [] [] (some ⟨w1.heap.size, 0, none⟩) 2 2 [⟨aEV, aED⟩, ⟨aEV, aED⟩] _ (Sl.nil _ EV.wid) (Sl.nil _ EV.wid) (Sl.nil _ Id.wid) hW2 (fun p hp => by
      simp only [List.mem_cons, List.not_mem_nil, or_false, or_self] at hp
      subst hp
      exact aSmall) (by decide) (by decide)
  refine hP.mono ?_
  clear hP hW2
  rintro e w2 ⟨ea, en, ec, fa, fm, fc, ps, rfl, hents, hmap, hfs, hb⟩
  have hen : en = 1 := by rw [hents.sl.neq]; have := congrArg List.length hmap; rw [List.length_map] at this; exact this
  have hfm : fm = 0 := hfs.neq
  subst hen
  subst hfm
  have hb := (Ext.alloc (Ext.refl w1) _).trans hb
  have bax0 := hb.keep ax0
  have bax1 := hb.keep ax1
  have bax2 := hb.keep ax2
  have bax3 := hb.keep ax3
  have bax4 := hb.keep ax4
  have bax5 := hb.keep ax5
  have bax6 := hb.keep ax6
  have bax7 := hb.keep ax7
  have bay0 := hb.keep ay0
  have bay1 := hb.keep ay1
  have bay2 := hb.keep ay2
  have bak0 := hb.keep ak0
  have bak1 := hb.keep ak1
  have bak2 := hb.keep ak2
  have bak3 := hb.keep ak3
  have bak4 := hb.keep ak4
  have bak5 := hb.keep ak5
  have bak6 := hb.keep ak6
  have bak7 := hb.keep ak7
  have bv0 := hb.keep v0
  have bv1 := hb.keep v1
  have bv2 := hb.keep v2
  have bv3 := hb.keep v3
  have bu0 := hb.keep u0
  have bu1 := hb.keep u1
  have bu2 := hb.keep u2
  have bu3 := hb.keep u3
  clear ax0 ax1 ax2 ax3 ax4 ax5 ax6 ax7 ay0 ay1 ay2 ak0 ak1 ak2 ak3 ak4 ak5 ak6 ak7 v0 v1 v2 v3 u0 u1 u2 u3 hents hmap hfs
  have hx2 := hid hb
  have hv2 := hid (hv.out.ext hb)
  clear hb hv
  go_wp2_with fail
  have hE := ends_any zSt [] [] [] none 0 0 (nMV ⟨some ⟨w.heap.size + 1 + 1, 0, none⟩, 1, 1⟩) [⟨aId, true⟩] w2 (Sl.nil _ EV.wid) (Sl.nil _ EV.wid) (Sl.nil _ EV.wid) hv2.out
  refine hE.mono ?_
  clear hE
  rintro e w3 ⟨da, dn, dc, rfl, hsl, hb⟩
  rw [show endsOf (knows [] [] []) [⟨aId, true⟩] = [aId] from by rfl] at hsl
  have hdn : dn = 1 := hsl.neq
  subst hdn
  obtain ⟨d, q, rfl, hc0⟩ := hsl.get 0 (by decide)
  have d0 : w3.cell? ⟨d, q, none⟩ = some (.int .i64 0) := by simpa [aId] using hc0 0 _ rfl
  have d1 : w3.cell? ⟨d, q + 1, none⟩ = some (.int .u64 0) := by simpa [aId] using hc0 1 _ rfl
  have d2 : w3.cell? ⟨d, q + 2, none⟩ = some (.int .u64 1) := by simpa [aId] using hc0 2 _ rfl
  have cax0 := hb.keep bax0
  have cax1 := hb.keep bax1
  have cax2 := hb.keep bax2
  have cax3 := hb.keep bax3
  have cax4 := hb.keep bax4
  have cax5 := hb.keep bax5
  have cax6 := hb.keep bax6
  have cax7 := hb.keep bax7
  have cay0 := hb.keep bay0
  have cay1 := hb.keep bay1
  have cay2 := hb.keep bay2
  have cak0 := hb.keep bak0
  have cak1 := hb.keep bak1
  have cak2 := hb.keep bak2
  have cak3 := hb.keep bak3
  have cak4 := hb.keep bak4
  have cak5 := hb.keep bak5
  have cak6 := hb.keep bak6
  have cak7 := hb.keep bak7
  have cv0 := hb.keep bv0
  have cv1 := hb.keep bv1
  have cv2 := hb.keep bv2
  have cv3 := hb.keep bv3
  have cu0 := hb.keep bu0
  have cu1 := hb.keep bu1
  have cu2 := hb.keep bu2
  have cu3 := hb.keep bu3
  clear bax0 bax1 bax2 bax3 bax4 bax5 bax6 bax7 bay0 bay1 bay2 bak0 bak1 bak2 bak3 bak4 bak5 bak6 bak7 bv0 bv1 bv2 bv3 bu0 bu1 bu2 bu3 hsl hc0
  have hz3 : w.heap.size + 1 + 1 + 1 < w3.heap.size := by have := hb.size; have := hx2.out.size; simp at *; omega
  have hx3 := hid hb
  have hv3 := hid (hv2.out.ext hb)
  clear hb hv2
  go_wp2_with fail
  go_region_held3 (fun w' => w'.cell? ⟨w.heap.size, 0, none⟩ = some (.int .i64 3) ∧ w'.cell? ⟨w.heap.size, 1, none⟩ = some (.int .i64 0) ∧ w'.cell? ⟨w.heap.size, 2, none⟩ = some (.int .u64 0) ∧ w'.cell? ⟨w.heap.size, 3, none⟩ = some (.int .u64 1) ∧ w'.cell? ⟨w.heap.size, 4, none⟩ = some (.int .i64 0) ∧ w'.cell? ⟨w.heap.size, 5, none⟩ = some (.int .u64 0) ∧ w'.cell? ⟨w.heap.size, 6, none⟩ = some (.slice none 0 0) ∧ w'.cell? ⟨w.heap.size, 7, none⟩ = some (.slice none 0 0) ∧ w'.cell? ⟨w.heap.size + 1, 0, none⟩ = some (.int .i64 0) ∧ w'.cell? ⟨w.heap.size + 1, 1, none⟩ = some (.int .u64 0) ∧ w'.cell? ⟨w.heap.size + 1, 2, none⟩ = some (.int .u64 2) ∧ w'.cell? ⟨w.heap.size + 1 + 1 + 1, 0, none⟩ = some (.int .i64 1) ∧ w'.cell? ⟨w.heap.size + 1 + 1 + 1, 1, none⟩ = some (.int .u64 0) ∧ w'.cell? ⟨w.heap.size + 1 + 1 + 1, 2, none⟩ = some (.slice (some ⟨w.heap.size + 1 + 1, 0, none⟩) 1 1) ∧ w'.cell? ⟨w.heap.size + 1 + 1 + 1, 3, none⟩ = some (.slice none 0 0) ∧ w'.cell? ⟨w.heap.size + 1 + 1 + 1, 4, none⟩ = some (.slice none 0 0) ∧ w'.cell? ⟨w.heap.size + 1 + 1 + 1, 5, none⟩ = some (.slice none 0 0) ∧ w'.cell? ⟨w.heap.size + 1 + 1 + 1, 6, none⟩ = some (.slice none 0 0) ∧ w'.cell? ⟨w.heap.size + 1 + 1 + 1, 7, none⟩ = some (.slice none 0 0) ∧ w'.cell? ⟨b, o, none⟩ = some (.int .i64 0) ∧ w'.cell? ⟨b, o + 1, none⟩ = some (.int .u64 0) ∧ w'.cell? ⟨b, o + 2, none⟩ = some (.int .u64 1) ∧ w'.cell? ⟨b, o + 3, none⟩ = some (.bool true) ∧ w'.cell? ⟨b, o + 4, none⟩ = some (.int .i64 0) ∧ w'.cell? ⟨b, o + 4 + 1, none⟩ = some (.int .u64 0) ∧ w'.cell? ⟨b, o + 4 + 2, none⟩ = some (.int .u64 2) ∧ w'.cell? ⟨b, o + 4 + 3, none⟩ = some (.bool false) ∧ w'.cell? ⟨d, q, none⟩ = some (.int .i64 0) ∧ w'.cell? ⟨d, q + 1, none⟩ = some (.int .u64 0) ∧ w'.cell? ⟨d, q + 2, none⟩ = some (.int .u64 1))
    (first | (go_split_ands; refine ⟨?_, ?_, ?_, ?_, ?_, ?_, ?_, ?_, ?_, ?_, ?_, ?_, ?_, ?_, ?_, ?_, ?_, ?_, ?_, ?_, ?_, ?_, ?_, ?_, ?_, ?_, ?_, ?_, ?_, ?_⟩ <;> exact (Hid.out hy).keep (by assumption)) | go_keep)
    (first | (go_at_call 23; go_must ((with_reducible refine Calls.mono (ends_none _ _ _ ?t2 ?fr2 (hv3.out.ext ?hx2) ?hz2) ?_); (case hz2 => (repeat (first | (refine heap_new ?_; (simp; done)) | refine heap_old (by first | (simp; done) | (simp; omega)) ?_))); (case hx2 => (repeat (first | exact Ext.refl _ | refine Ext.alloc ?_ _ | refine Ext.drewN ?_ _ | refine Ext.drew ?_ | refine Ext.trans ?_ (Hid.out (by assumption))))); rintro e w' ⟨ga, gc, rfl, hb⟩; have hy := hid hb; clear hb)) | (go_at_call 25; (first | ((with_reducible refine Calls.mono (says_none _) ?_); rintro e w' ⟨rfl, hb⟩; have hy := hid hb; clear hb) | ((with_reducible refine Calls.mono (says_zero _ _ ?t ?fr ?hz) ?_); (case hz => (repeat (first | (refine heap_new ?_; (simp; done)) | refine heap_old (by first | (simp; done) | (simp; omega)) ?_))); rintro e w' ⟨rfl, hb⟩; have hy := hid hb; clear hb))))
  go_wp2
  go_ret
  refine ⟨rfl, ?_⟩
  (repeat (first | exact Ext.refl _ | refine Ext.alloc ?_ _ | refine Ext.drewN ?_ _ | refine Ext.drew ?_ | refine Ext.trans ?_ (Hid.out (by assumption))))
end Go.Proofs.Ytncadipipomebaa
