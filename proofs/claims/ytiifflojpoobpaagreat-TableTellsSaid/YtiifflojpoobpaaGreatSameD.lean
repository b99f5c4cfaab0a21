/- Two filters, and two lists of filters, that hold the same: the walks of the document's Same. -/
import Derived.Test.YtiifflojpoobpaaGreatFewD
import Derived.Deep.RegionHeld3
set_option linter.unusedVariables false
set_option linter.unusedSimpArgs false
namespace Go.Proofs.YtiifflojpoobpaaGreat
open Go.RowKit

theorem run_neT (t : T) (w : World) :
    (binOp .neq 50 (.agg #[.string t.nm, .int .i64 t.op, .int .i64 t.k, .int .i64 t.n, .string t.s]) (.agg #[.string t.nm, .int .i64 t.op, .int .i64 t.k, .int .i64 t.n, .string t.s])).run Tryz.prog w = .ok (.bool false) w := by
  simp [go_sem]
set_option maxHeartbeats 1000000 in
theorem same05_any (a : Option Addr) (n cap : Nat) (b : Option Addr) (m cap' : Nat) (xs : List T) (w : World) (hS : Sl w 5 T.cs a n cap xs) (hS' : Sl w 5 T.cs b m cap' xs) :
    Calls Tryz.prog 34 #[.slice a n cap, .slice b m cap'] w fun e w' => e = .returned (.bool true) ∧ Ext w w' := by
  obtain rfl := hS.neq
  obtain rfl := hS'.neq
  have hm := hS.max
  have hl := hS.len
  have hm' := hS'.max
  have hl' := hS'.len
  unfold maxLen at hm hm'
  have HS := hid hS
  have HS' := hid hS'
  clear hS hS'
  go_enter Tryz.func34, Tryz.ntmps34
  go_wp2_with fail
  go_loopg [5] (xs.length) (fun g st wr => ∃ k : Nat, g + k = xs.length ∧ st = .int .i64 k ∧ Hid (Ext w wr))
  case atStart => exact ⟨0, by omega, rfl, Ext.refl _⟩
  case round =>
    obtain ⟨k, hg, rfl, hx⟩ := hrel
    by_cases hk : k < xs.length
    · obtain ⟨b1, o1, rfl, hc⟩ := HS.out.get k hk
      obtain ⟨b2, o2, rfl, hc'⟩ := HS'.out.get k hk
      obtain ⟨c0, c1, c2, c3, c4⟩ := cellsT (w := wr) (b := b1) (o := o1 + k * 5) (x := xs[k]) (fun j v hj => hx.out.keep (hc j v hj))
      obtain ⟨d0, d1, d2, d3, d4⟩ := cellsT (w := wr) (b := b2) (o := o2 + k * 5) (x := xs[k]) (fun j v hj => hx.out.keep (hc' j v hj))
      clear hc hc'
      have p0 : (0 : Int) ≤ (k : Int) := by omega
      have p1 : (k : Int) < (xs.length : Int) := by omega
      have heq := run_neT xs[k]
      go_wp2_with fail
      go_quiet (fail)
      go_wp2
      go_roundg (gk - 1)
      case measure => omega
      case rel => exact ⟨k + 1, by omega, by go_num, (by (repeat (first | exact Ext.refl _ | refine Ext.alloc ?_ _ | refine Ext.drewN ?_ _ | refine Ext.drew ?_ | refine Ext.trans ?_ (Hid.out (by assumption)))))⟩
    · go_wp2
      go_ret
      refine ⟨rfl, ?_⟩
      (repeat (first | exact Ext.refl _ | refine Ext.alloc ?_ _ | refine Ext.drewN ?_ _ | refine Ext.drew ?_ | refine Ext.trans ?_ (Hid.out (by assumption))))
set_option maxHeartbeats 1000000 in
theorem same07_any (a : Option Addr) (n cap : Nat) (b : Option Addr) (m cap' : Nat) (xs ys : List FV) (w : World) (hS : Flts w a n cap xs) (hS' : Flts w b m cap' ys) (hE : xs.map (·.ts) = ys.map (·.ts)) :
    Calls Tryz.prog 10 #[.slice a n cap, .slice b m cap'] w fun e w' => e = .returned (.bool true) ∧ Ext w w' := by
  obtain rfl := hS.sl.neq
  obtain rfl := hS'.sl.neq
  have hlen : ys.length = xs.length := by have := congrArg List.length hE; rw [List.length_map, List.length_map] at this; exact this.symm
  have hm := hS.sl.max
  have hl := hS.sl.len
  have hm' := hS'.sl.max
  have hl' := hS'.sl.len
  unfold maxLen at hm hm'
  have HS := hid hS
  have HS' := hid hS'
  have HE := hid hE
  have HL := hid hlen
  rw [hlen] at hl' ⊢
  clear hS hS' hE hlen
  go_enter Tryz.func10, Tryz.ntmps10
  go_wp2_with fail
  go_loopg [5, 6] (xs.length) (fun g st _ wr => ∃ k : Nat, g + k = xs.length ∧ st = .int .i64 k ∧ Hid (Ext w wr))
  case atStart => exact ⟨0, by omega, rfl, Ext.refl _⟩
  case round =>
    obtain ⟨k, hg, rfl, hx⟩ := hrel
    by_cases hk : k < xs.length
    · have hky : k < ys.length := by have := HL.out; omega
      obtain ⟨b1, o1, rfl, hc⟩ := HS.out.sl.get k hk
      obtain ⟨b2, o2, rfl, hc'⟩ := HS'.out.sl.get k hky
      have c0 := cellsF (w := wr) (b := b1) (o := o1 + k * 1) (x := xs[k]) (fun j v hj => hx.out.keep (hc j v hj))
      have d0 := cellsF (w := wr) (b := b2) (o := o2 + k * 1) (x := ys[k]) (fun j v hj => hx.out.keep (hc' j v hj))
      rw [Nat.mul_one] at c0 d0
      have hts : ys[k].ts = xs[k].ts := by
        have := congrArg (fun l => l[k]?) HE.out
        simp [List.getElem?_map, hk, hky] at this
        exact this.symm
      have HX := hid ((HS.out.ts _ (List.getElem_mem hk)).ext hx.out)
      have HY : Hid (Sl wr 5 T.cs ys[k].v.a ys[k].v.n ys[k].v.c xs[k].ts) := by rw [← hts]; exact (HS'.out.ts _ (List.getElem_mem hky)).ext hx.out
      clear hc hc' hts
      have p0 : (0 : Int) ≤ (k : Int) := by omega
      have p1 : (k : Int) < (xs.length : Int) := by omega
      go_wp2_with fail
      go_region_held3 (fun w' => w'.cell? ⟨b1, o1 + k, none⟩ = some (.slice xs[k].v.a xs[k].v.n xs[k].v.c) ∧ w'.cell? ⟨b2, o2 + k, none⟩ = some (.slice ys[k].v.a ys[k].v.n ys[k].v.c))
        (first | (go_split_ands; refine ⟨?_, ?_⟩ <;> exact (Hid.out hy).keep (by assumption)) | go_keep)
        ((go_at_call 34; refine (same05_any _ _ _ _ _ _ xs[k].ts _ (HX.out.ext (by (repeat (first | exact Ext.refl _ | refine Ext.alloc ?_ _ | refine Ext.drewN ?_ _ | refine Ext.drew ?_ | refine Ext.trans ?_ (Hid.out (by assumption)))))) (HY.out.ext (by (repeat (first | exact Ext.refl _ | refine Ext.alloc ?_ _ | refine Ext.drewN ?_ _ | refine Ext.drew ?_ | refine Ext.trans ?_ (Hid.out (by assumption))))))).mono ?_; rintro e w' ⟨rfl, hb⟩; have hy := hid hb; clear hb))
      all_goals
        go_wp2
        go_roundg (gk - 1)
        case measure => omega
        case rel => exact ⟨k + 1, by omega, by go_num, (by (repeat (first | exact Ext.refl _ | refine Ext.alloc ?_ _ | refine Ext.drewN ?_ _ | refine Ext.drew ?_ | refine Ext.trans ?_ (Hid.out (by assumption)))))⟩
    · go_wp2
      go_ret
      refine ⟨rfl, ?_⟩
      (repeat (first | exact Ext.refl _ | refine Ext.alloc ?_ _ | refine Ext.drewN ?_ _ | refine Ext.drew ?_ | refine Ext.trans ?_ (Hid.out (by assumption))))
end Go.Proofs.YtiifflojpoobpaaGreat
