/- Whether an entry that ends a subscription may be: the walk of the program's Check. -/
import Derived.Test.YtiifflojpoobpaaGreatHome15
set_option linter.unusedVariables false
set_option linter.unusedSimpArgs false
namespace Go.Proofs.YtiifflojpoobpaaGreat
open Go.RowKit

set_option maxRecDepth 100000 in
set_option maxHeartbeats 1000000 in
theorem chk3_any (x : EV) (d : ED) (w : World) (hI : EntryIs w x d) (hk : x.k = 3) : Calls Tryz.prog 6 #[.agg #[.int .i64 x.k, .int .i64 x.id.b, .int .u64 x.id.l, .int .u64 x.id.s, .int .i64 x.c, .int .u64 x.u, .slice x.f.a x.f.n x.f.c, .slice x.e.a x.e.n x.e.c]] w (ChkD d w) := by
  obtain ⟨evs, hes, hev⟩ := hI.e
  have HKK := hid hk
  have hfn := hI.f.neq
  have hen := hev.sl.neq
  have hm := hev.sl.max
  have hl := hev.sl.len
  unfold maxLen at hm
  have HF := hid hI.f
  have HV := hid hev
  have HES := hid hes
  have HFN := hid hfn
  have HEN := hid hen
  clear hI hev hes hfn hen hk
  go_enter Tryz.func6, Tryz.ntmps6
  go_wp2_with fail
  refine (home_any _ _ _ _).mono ?_
  rintro e w1 ⟨q, rfl, -, hb⟩
  have c0 : w1.cell? ⟨w.heap.size, 0, none⟩ = some (.int .i64 x.k) := hb.keep (by simp)
  have c4 : w1.cell? ⟨w.heap.size, 4, none⟩ = some (.int .i64 x.c) := hb.keep (by simp)
  have c5 : w1.cell? ⟨w.heap.size, 5, none⟩ = some (.int .u64 x.u) := hb.keep (by simp)
  have c6 : w1.cell? ⟨w.heap.size, 6, none⟩ = some (.slice x.f.a x.f.n x.f.c) := hb.keep (by simp)
  have c7 : w1.cell? ⟨w.heap.size, 7, none⟩ = some (.slice x.e.a x.e.n x.e.c) := hb.keep (by simp)
  have hy := hid (show Ext w w1 from Ext.trans ((Ext.refl w).alloc _) hb)
  clear hb
  cases q with
  | false =>
    go_wp2
    (go_ret; refine ⟨110, rfl, fun h => absurd h (by decide), .inr rfl, ?_⟩; (repeat (first | exact Ext.refl _ | refine Ext.alloc ?_ _ | refine Ext.drewN ?_ _ | refine Ext.drew ?_ | refine Ext.trans ?_ (Hid.out (by assumption)))))
  | true =>
    by_cases h1 : x.c < 0
    · go_wp2
      (go_ret; refine ⟨110, rfl, fun h => absurd h (by decide), .inr rfl, ?_⟩; (repeat (first | exact Ext.refl _ | refine Ext.alloc ?_ _ | refine Ext.drewN ?_ _ | refine Ext.drew ?_ | refine Ext.trans ?_ (Hid.out (by assumption)))))
    · by_cases h2 : x.c ≥ 32
      · go_wp2
        (go_ret; refine ⟨110, rfl, fun h => absurd h (by decide), .inr rfl, ?_⟩; (repeat (first | exact Ext.refl _ | refine Ext.alloc ?_ _ | refine Ext.drewN ?_ _ | refine Ext.drew ?_ | refine Ext.trans ?_ (Hid.out (by assumption)))))
      · rw [HKK.out] at c0
        by_cases h4 : x.f.n = 0
        case neg =>
          go_wp2
          (go_ret; refine ⟨110, rfl, fun h => absurd h (by decide), .inr rfl, ?_⟩; (repeat (first | exact Ext.refl _ | refine Ext.alloc ?_ _ | refine Ext.drewN ?_ _ | refine Ext.drew ?_ | refine Ext.trans ?_ (Hid.out (by assumption)))))
        by_cases h3 : x.e.n = 0
        · go_wp2_with fail
          have HF0 := HF.out
          rw [h4] at HF0
          refine (chkF_any _ _ _ d.ts _ (HF0.ext (by (repeat (first | exact Ext.refl _ | refine Ext.alloc ?_ _ | refine Ext.drewN ?_ _ | refine Ext.drew ?_ | refine Ext.trans ?_ (Hid.out (by assumption))))))).mono ?_
          rintro e w2 ⟨rfl, hb⟩
          have hy2 := hid hb
          clear hb
          cases hB : chkB d.ts with
          | true =>
            go_wp2
            go_ret
            refine ⟨0, rfl, fun _ => ⟨(chk_ok hB).2, ?_⟩, .inl rfl, ?_⟩
            · intro e he
              rw [← HES.out, List.eq_nil_of_length_eq_zero (HEN.out.symm.trans h3)] at he
              cases he
            · skip
              (repeat (first | exact Ext.refl _ | refine Ext.alloc ?_ _ | refine Ext.drewN ?_ _ | refine Ext.drew ?_ | refine Ext.trans ?_ (Hid.out (by assumption))))
          | false =>
            go_wp2
            (go_ret; refine ⟨110, rfl, fun h => absurd h (by decide), .inr rfl, ?_⟩; (repeat (first | exact Ext.refl _ | refine Ext.alloc ?_ _ | refine Ext.drewN ?_ _ | refine Ext.drew ?_ | refine Ext.trans ?_ (Hid.out (by assumption)))))
        · go_wp2
          (go_ret; refine ⟨110, rfl, fun h => absurd h (by decide), .inr rfl, ?_⟩; (repeat (first | exact Ext.refl _ | refine Ext.alloc ?_ _ | refine Ext.drewN ?_ _ | refine Ext.drew ?_ | refine Ext.trans ?_ (Hid.out (by assumption)))))
end Go.Proofs.YtiifflojpoobpaaGreat
