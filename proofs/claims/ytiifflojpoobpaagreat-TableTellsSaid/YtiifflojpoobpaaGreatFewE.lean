/- How great an entry is: the walk of the statements' Few. -/
import Derived.Test.YtiifflojpoobpaaGreatEnt0
import Derived.Test.YtiifflojpoobpaaGreatFewD
set_option linter.unusedVariables false
set_option linter.unusedSimpArgs false
namespace Go.Proofs.YtiifflojpoobpaaGreat
open Go.RowKit

set_option maxRecDepth 100000 in
set_option maxHeartbeats 2000000 in
theorem few11_any (x : EV) (d : ED) (w : World) (hI : EntryIs w x d) : Calls Tryz.prog 5 #[.agg #[.int .i64 x.k, .int .i64 x.id.b, .int .u64 x.id.l, .int .u64 x.id.s, .int .i64 x.c, .int .u64 x.u, .slice x.f.a x.f.n x.f.c, .slice x.e.a x.e.n x.e.c]] w (FewR (Small d) w) := by
  obtain ⟨evs, hes, hev⟩ := hI.e
  have hT := hI.f
  obtain ⟨xk, xi, xc, xu, ⟨fa, fn, fc⟩, ⟨ea, en, ec⟩⟩ := x
  dsimp only at hT hev ⊢
  obtain rfl := hev.sl.neq
  have hm := hev.sl.max
  have hl := hev.sl.len
  unfold maxLen at hm
  have HT := hid hT
  have HEV := hid hev
  have HES := hid hes
  clear hI hT hev hes
  by_cases hb : evs.length ≤ 10
  · have hbi : (evs.length : Int) ≤ 10 := by omega
    go_enter Tryz.func5, Tryz.ntmps5
    go_wp2_with fail
    go_loopg [3] (evs.length) (fun g st wr => ∃ k : Nat, g + k = evs.length ∧ st = .int .i64 k ∧ Hid (∀ y, y ∈ evs.take k → y.ats.length ≤ 20) ∧ Hid (Ext (w.alloc (Obj.cells #[.int .i64 xk, .int .i64 xi.b, .int .u64 xi.l, .int .u64 xi.s, .int .i64 xc, .int .u64 xu, .slice fa fn fc, .slice ea evs.length ec] 31)) wr))
    case atStart => exact ⟨0, by omega, rfl, (fun y hy => by cases hy), Ext.refl _⟩
    case round =>
      obtain ⟨k, hg, rfl, hok, hx⟩ := hrel
      have x6 : wr.cell? ⟨w.heap.size, 6, none⟩ = some (.slice fa fn fc) := hx.out.keep (by simp)
      have x7 : wr.cell? ⟨w.heap.size, 7, none⟩ = some (.slice ea evs.length ec) := hx.out.keep (by simp)
      by_cases hk : k < evs.length
      · obtain ⟨b, o, rfl, hc⟩ := HEV.out.sl.get k hk
        have hE : Ext w wr := Ext.trans ((Ext.refl w).alloc _) hx.out
        have d0 := cells1 (w := wr) (b := b) (o := o + k * 1) (x := evs[k]) (fun j v hj => hE.keep (hc j v hj))
        rw [Nat.mul_one] at d0
        have HV := hid ((HEV.out.ats evs[k] (List.getElem_mem hk)).ext hE)
        clear hc hE
        have b0 : (0 : Int) ≤ (k : Int) := by omega
        have b1 : (k : Int) < (evs.length : Int) := by omega
        go_wp2_with (go_at_call 20; refine (few04_any _ _ _ evs[k].ats _ HV.out).mono ?_; rintro e w' ⟨fw, rfl, hfw, hb⟩; have hx' := hid hb; have HFW := hid hfw; clear hb hfw; cases fw)
        · (go_ret; exact ⟨false, rfl, (fun h => by cases h), (by (repeat (first | exact Ext.refl _ | refine Ext.alloc ?_ _ | refine Ext.drewN ?_ _ | refine Ext.drew ?_ | refine Ext.trans ?_ (Hid.out (by assumption)))))⟩)
        · go_roundg (gk - 1)
          case measure => omega
          case rel =>
            refine ⟨k + 1, by omega, by go_num, fun y hy => ?_, (by (repeat (first | exact Ext.refl _ | refine Ext.alloc ?_ _ | refine Ext.drewN ?_ _ | refine Ext.drew ?_ | refine Ext.trans ?_ (Hid.out (by assumption)))))⟩
            rw [List.take_succ_eq_append_getElem hk] at hy
            rcases List.mem_append.1 hy with hy | hy
            · exact hok.out y hy
            · obtain rfl := List.mem_singleton.1 hy
              exact HFW.out (by trivial)
      · have hk' : evs.take k = evs := List.take_of_length_le (by omega)
        rw [hk'] at hok
        clear hk'
        go_wp2_with (go_at_call 21; refine (few05_any _ _ _ d.ts _ (HT.out.ext (Ext.trans ((Ext.refl w).alloc _) hx.out))).mono ?_; rintro e w' ⟨fw, rfl, hfw, hb⟩; have hx' := hid hb; have HFW := hid hfw; clear hb hfw)
        go_ret
        refine ⟨fw, rfl, fun h => ⟨Nat.le_trans (HFW.out h) (by decide), ?_, fun e he => ?_⟩, (by (repeat (first | exact Ext.refl _ | refine Ext.alloc ?_ _ | refine Ext.drewN ?_ _ | refine Ext.drew ?_ | refine Ext.trans ?_ (Hid.out (by assumption)))))⟩
        · rw [← HES.out, List.length_map]; omega
        · rw [← HES.out] at he
          obtain ⟨y, hy, rfl⟩ := List.mem_map.1 he
          exact Nat.le_trans (hok.out y hy) (by decide)
  · have hbi : 10 < (evs.length : Int) := by omega
    go_enter Tryz.func5, Tryz.ntmps5
    go_wp2_with fail
    (go_ret; exact ⟨false, rfl, (fun h => by cases h), (by (repeat (first | exact Ext.refl _ | refine Ext.alloc ?_ _ | refine Ext.drewN ?_ _ | refine Ext.drew ?_ | refine Ext.trans ?_ (Hid.out (by assumption)))))⟩)

end Go.Proofs.YtiifflojpoobpaaGreat
