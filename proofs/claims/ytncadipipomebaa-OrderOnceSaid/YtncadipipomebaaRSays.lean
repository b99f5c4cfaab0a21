/- What reports say, by the document's definition. -/
import Derived.Test.YtncadipipomebaaVotes
import Derived.Deep.RegionHeld3
import Derived.Deep.DrawnRows
namespace Go.Proofs.Ytncadipipomebaa
open Go.RowKit
attribute [local go_sem ↓] Go.wp_at_zero Go.wp_at_succ

theorem ret_bools {a b c d : Bool} (h : a = c) (k : b = d) : Ending.returned (.tuple #[.bool a, .bool b]) = .returned (.tuple #[.bool c, .bool d]) := by rw [h, k]
theorem hasV_succ {vs : List V} {i : Id} {k : Nat} (y : Bool) (hk : k < vs.length) : hasV (vs.take (k + 1)) i y = (hasV (vs.take k) i y || (idEq vs[k].id i && (vs[k].yes == y))) := by
  unfold hasV; rw [List.take_succ_eq_append_getElem hk, List.any_append]; simp [veq]

set_option maxHeartbeats 2000000 in
theorem said_any (x : MV) (vs : List V) (i : Id) (w : World) (hS : Sl w 4 V.cs x.v.a x.v.n x.v.c vs) :
    Calls Try.prog 51 #[.agg #[.int .i64 x.k, .int .u64 x.h, .slice x.v.a x.v.n x.v.c, .slice x.q.a x.q.n x.q.c, .slice x.e.a x.e.n x.e.c, .slice x.p.a x.p.n x.p.c, .slice x.b.a x.b.n x.b.c, .slice x.d.a x.d.n x.d.c], .agg #[.int .i64 i.b, .int .u64 i.l, .int .u64 i.s]] w fun e w' => e = .returned (.tuple #[.bool (hasV vs i false), .bool (hasV vs i true)]) ∧ Ext w w' := by
  obtain ⟨xk, xh, ⟨a, n, cap⟩, xq, xe, xp, xb, xd⟩ := x
  obtain rfl := hS.neq
  have hm := hS.max
  have hl := hS.len
  dsimp only at hm hl hS ⊢
  unfold maxLen at hm
  have HS := hid hS
  clear hS
  go_enter Try.func51, Try.ntmps51
  go_wp2_with fail
  go_loopg [6, 7, 8] (vs.length) (fun g no ys st wr => ∃ k : Nat, g + k = vs.length ∧ st = .int .i64 k ∧ no = .bool (hasV (vs.take k) i false) ∧ ys = .bool (hasV (vs.take k) i true) ∧ Hid (Ext ((w.alloc (Obj.cells #[.int .i64 xk, .int .u64 xh, .slice a vs.length cap, .slice xq.a xq.n xq.c, .slice xe.a xe.n xe.c, .slice xp.a xp.n xp.c, .slice xb.a xb.n xb.c, .slice xd.a xd.n xd.c] 41)).alloc (Obj.cells #[.int .i64 i.b, .int .u64 i.l, .int .u64 i.s] 30)) wr))
  case atStart => exact ⟨0, by omega, rfl, rfl, rfl, Ext.refl _⟩
  case round =>
    obtain ⟨k, hg, rfl, rfl, rfl, hx⟩ := hrel
    have m2 : wr.cell? ⟨w.heap.size, 2, none⟩ = some (.slice a vs.length cap) := hx.out.keep (by simp)
    have i0 : wr.cell? ⟨w.heap.size + 1, 0, none⟩ = some (.int .i64 i.b) := hx.out.keep (by simp)
    have i1 : wr.cell? ⟨w.heap.size + 1, 1, none⟩ = some (.int .u64 i.l) := hx.out.keep (by simp)
    have i2 : wr.cell? ⟨w.heap.size + 1, 2, none⟩ = some (.int .u64 i.s) := hx.out.keep (by simp)
    by_cases hk : k < vs.length
    · obtain ⟨b, o, rfl, hc⟩ := HS.out.get k hk
      have hE : Ext w wr := Ext.trans (by (repeat (first | exact Ext.refl _ | refine Ext.alloc ?_ _ | refine Ext.drewN ?_ _ | refine Ext.drew ?_ | refine Ext.trans ?_ (Hid.out (by assumption))))) hx.out
      obtain ⟨c0, c1, c2, c3⟩ := cells4 (w := wr) (b := b) (o := o + k * 4) (x := vs[k]) (fun j v hj => hE.keep (hc j v hj))
      have Hs := hid (And.intro (hasV_succ (i := i) false hk) (hasV_succ (i := i) true hk))
      clear hc hE
      have b0 : (0 : Int) ≤ (k : Int) := by omega
      have b1 : (k : Int) < (vs.length : Int) := by omega
      have heq := run_eqId vs[k].id.b vs[k].id.l vs[k].id.s i.b i.l i.s
      cases hN : hasV (vs.take k) i false <;> cases hY : hasV (vs.take k) i true <;> cases hy : vs[k].yes <;> rw [hy] at c3 <;> cases he : idEq vs[k].id i
      all_goals
        have HN := hid hN
        have HY := hid hY
        have Hy := hid hy
        have He := hid he
        have he' : idEq ⟨vs[k].id.b, vs[k].id.l, vs[k].id.s⟩ ⟨i.b, i.l, i.s⟩ = _ := he
        clear hN hY hy he
        go_wp2_with fail
        go_quiet (fail)
        go_wp2
        go_roundg (gk - 1)
        case measure => omega
        case rel => exact ⟨k + 1, by omega, by go_num, by rw [Hs.out.1, HN.out, He.out, Hy.out]; rfl, by rw [Hs.out.2, HY.out, He.out, Hy.out]; rfl, (by (repeat (first | exact Ext.refl _ | refine Ext.alloc ?_ _ | refine Ext.drewN ?_ _ | refine Ext.drew ?_ | refine Ext.trans ?_ (Hid.out (by assumption)))))⟩
    · go_wp2
      go_ret2
      have hk' : vs.take k = vs := List.take_of_length_le (by omega)
      refine ⟨ret_bools (by rw [hk']) (by rw [hk']), ?_⟩
      (repeat (first | exact Ext.refl _ | refine Ext.alloc ?_ _ | refine Ext.drewN ?_ _ | refine Ext.drew ?_ | refine Ext.trans ?_ (Hid.out (by assumption))))

theorem all_succ {kids : List Kid} {i : Id} {k : Nat} (hk : k < kids.length) : (kids.take (k + 1)).all (fun m => hasV m.vs i true) = ((kids.take k).all (fun m => hasV m.vs i true) && hasV kids[k].vs i true) := by
  rw [List.take_succ_eq_append_getElem hk, List.all_append]; simp
theorem some_succ {kids : List Kid} {i : Id} {k : Nat} (hk : k < kids.length) : (kids.take (k + 1)).any (fun m => hasV m.vs i false) = ((kids.take k).any (fun m => hasV m.vs i false) || hasV kids[k].vs i false) := by
  rw [List.take_succ_eq_append_getElem hk, List.any_append]; simp

set_option maxHeartbeats 2000000 in
theorem rsays_any (a : Option Addr) (n cap : Nat) (xs : List Kid) (i : Id) (w : World) (hS : Kids w a n cap xs) :
    Calls Try.prog 26 #[.slice a n cap, .agg #[.int .i64 i.b, .int .u64 i.l, .int .u64 i.s]] w fun e w' => e = .returned (.int .i64 (saysOf xs i)) ∧ Ext w w' := by
  obtain rfl := hS.sl.neq
  have hm := hS.sl.max
  have hl := hS.sl.len
  unfold maxLen at hm
  have HS := hid hS
  clear hS
  go_enter Try.func26, Try.ntmps26
  go_wp2_with fail
  go_loopg [5, 6, 7] (xs.length) (fun g al so st wr => ∃ k : Nat, g + k = xs.length ∧ st = .int .i64 k ∧ al = .bool ((xs.take k).all (fun m => hasV m.vs i true)) ∧ so = .bool ((xs.take k).any (fun m => hasV m.vs i false)) ∧ Hid (Ext (w.alloc (Obj.cells #[.int .i64 i.b, .int .u64 i.l, .int .u64 i.s] 30)) wr))
  case atStart => exact ⟨0, by omega, rfl, rfl, rfl, Ext.refl _⟩
  case round =>
    obtain ⟨k, hg, rfl, rfl, rfl, hx⟩ := hrel
    have i0 : wr.cell? ⟨w.heap.size, 0, none⟩ = some (.int .i64 i.b) := hx.out.keep (by simp)
    have i1 : wr.cell? ⟨w.heap.size, 1, none⟩ = some (.int .u64 i.l) := hx.out.keep (by simp)
    have i2 : wr.cell? ⟨w.heap.size, 2, none⟩ = some (.int .u64 i.s) := hx.out.keep (by simp)
    by_cases hk : k < xs.length
    · obtain ⟨b, o, rfl, hc⟩ := HS.out.sl.get k hk
      have hE : Ext w wr := Ext.trans (by (repeat (first | exact Ext.refl _ | refine Ext.alloc ?_ _ | refine Ext.drewN ?_ _ | refine Ext.drew ?_ | refine Ext.trans ?_ (Hid.out (by assumption))))) hx.out
      obtain ⟨c0, c1, c2, c3, c4, c5, c6, c7⟩ := cellsM (w := wr) (b := b) (o := o + k * 8) (x := xs[k].m) (fun j v hj => hE.keep (hc j v hj))
      have HV := hid ((HS.out.votes xs[k] (List.getElem_mem hk)).ext hE)
      have Hs := hid (And.intro (all_succ (i := i) hk) (some_succ (i := i) hk))
      clear hc hE
      have b0 : (0 : Int) ≤ (k : Int) := by omega
      have b1 : (k : Int) < (xs.length : Int) := by omega
      cases hA : (xs.take k).all (fun m => hasV m.vs i true) <;> cases hO : (xs.take k).any (fun m => hasV m.vs i false)
      all_goals
        have HA := hid hA
        have HO := hid hO
        clear hA hO
        go_wp2_with fail
        go_region_held3 (fun w' => w'.cell? ⟨w.heap.size, 0, none⟩ = some (.int .i64 i.b) ∧ w'.cell? ⟨w.heap.size, 1, none⟩ = some (.int .u64 i.l) ∧ w'.cell? ⟨w.heap.size, 2, none⟩ = some (.int .u64 i.s) ∧ w'.cell? ⟨b, o + k * 8, none⟩ = some (.int .i64 xs[k].m.k) ∧ w'.cell? ⟨b, o + k * 8 + 1, none⟩ = some (.int .u64 xs[k].m.h) ∧ w'.cell? ⟨b, o + k * 8 + 2, none⟩ = some (.slice xs[k].m.v.a xs[k].m.v.n xs[k].m.v.c) ∧ w'.cell? ⟨b, o + k * 8 + 3, none⟩ = some (.slice xs[k].m.q.a xs[k].m.q.n xs[k].m.q.c) ∧ w'.cell? ⟨b, o + k * 8 + 4, none⟩ = some (.slice xs[k].m.e.a xs[k].m.e.n xs[k].m.e.c) ∧ w'.cell? ⟨b, o + k * 8 + 5, none⟩ = some (.slice xs[k].m.p.a xs[k].m.p.n xs[k].m.p.c) ∧ w'.cell? ⟨b, o + k * 8 + 6, none⟩ = some (.slice xs[k].m.b.a xs[k].m.b.n xs[k].m.b.c) ∧ w'.cell? ⟨b, o + k * 8 + 7, none⟩ = some (.slice xs[k].m.d.a xs[k].m.d.n xs[k].m.d.c))
          (first | (go_split_ands; refine ⟨?_, ?_, ?_, ?_, ?_, ?_, ?_, ?_, ?_, ?_, ?_⟩ <;> exact (Hid.out hy).keep (by assumption)) | go_keep)
          ((go_at_call 51; refine (said_any xs[k].m xs[k].vs i _ (HV.out.ext (by (repeat (first | exact Ext.refl _ | refine Ext.alloc ?_ _ | refine Ext.drewN ?_ _ | refine Ext.drew ?_ | refine Ext.trans ?_ (Hid.out (by assumption))))))).mono ?_; rintro e w' ⟨rfl, hb⟩; have hy := hid hb; clear hb))
        go_wp2
        go_roundg (gk - 1)
        case measure => omega
        case rel => exact ⟨k + 1, by omega, by go_num, by rw [Hs.out.1, HA.out]; rfl, by rw [Hs.out.2, HO.out]; rfl, (by (repeat (first | exact Ext.refl _ | refine Ext.alloc ?_ _ | refine Ext.drewN ?_ _ | refine Ext.drew ?_ | refine Ext.trans ?_ (Hid.out (by assumption)))))⟩
    · have hk' : xs.take k = xs := List.take_of_length_le (by omega)
      have Hk := hid hk'
      clear hk'
      go_wp2
      · go_ret
        refine ⟨ret_int (by unfold saysOf; rw [← Hk.out, if_pos (by assumption)]), ?_⟩
        (repeat (first | exact Ext.refl _ | refine Ext.alloc ?_ _ | refine Ext.drewN ?_ _ | refine Ext.drew ?_ | refine Ext.trans ?_ (Hid.out (by assumption))))
      · go_ret
        refine ⟨ret_int (by unfold saysOf; rw [← Hk.out, if_neg (by rw [Bool.not_eq_true]; assumption), if_pos (by assumption)]), ?_⟩
        (repeat (first | exact Ext.refl _ | refine Ext.alloc ?_ _ | refine Ext.drewN ?_ _ | refine Ext.drew ?_ | refine Ext.trans ?_ (Hid.out (by assumption))))
      · go_ret
        refine ⟨ret_int (by unfold saysOf; rw [← Hk.out, if_neg (by rw [Bool.not_eq_true]; assumption), if_neg (by rw [Bool.not_eq_true]; assumption)]), ?_⟩
        (repeat (first | exact Ext.refl _ | refine Ext.alloc ?_ _ | refine Ext.drewN ?_ _ | refine Ext.drew ?_ | refine Ext.trans ?_ (Hid.out (by assumption))))
end Go.Proofs.Ytncadipipomebaa
