/- Whether an entry may be: the walk of the program's Check. -/
import Derived.Test.YtiifflojpoobpaaGreatEnt0
import Derived.Test.YtiifflojpoobpaaGreatChk
import Derived.Test.YtiifflojpoobpaaGreatRedQ
import Derived.Test.YtiifflojpoobpaaGreatFewD
import Derived.Deep.DeepCutAuto
set_option linter.unusedVariables false
set_option linter.unusedSimpArgs false
namespace Go.Proofs.YtiifflojpoobpaaGreat
open Go.RowKit

theorem home_any (b l s : Int) (w : World) : Calls Tryz.prog 22 #[.agg #[.int .i64 b, .int .u64 l, .int .u64 s]] w (FewR True w) := by
  go_enter Tryz.func22, Tryz.ntmps22
  go_wp2
  all_goals
    go_ret
    refine ⟨_, rfl, fun _ => trivial, ?_⟩
    (repeat (first | exact Ext.refl _ | refine Ext.alloc ?_ _ | refine Ext.drewN ?_ _ | refine Ext.drew ?_ | refine Ext.trans ?_ (Hid.out (by assumption))))
/-- what an entry that may be is -/
def okD (d : ED) : Prop := okF d.ts ∧ ∀ e, e ∈ d.es → okE e
def ChkD (d : ED) (w : World) (e : Ending) (w' : World) : Prop := ∃ z : Int, e = .returned (.int .i64 z) ∧ (z = 0 → okD d) ∧ (z = 0 ∨ z = 110) ∧ Ext w w'
set_option maxRecDepth 100000 in
set_option maxHeartbeats 4000000 in
theorem chk0_any (x : EV) (d : ED) (w : World) (hI : EntryIs w x d) (k1 : x.k ≠ 1) (k2 : x.k ≠ 2) (k3 : x.k ≠ 3) : Calls Tryz.prog 6 #[.agg #[.int .i64 x.k, .int .i64 x.id.b, .int .u64 x.id.l, .int .u64 x.id.s, .int .i64 x.c, .int .u64 x.u, .slice x.f.a x.f.n x.f.c, .slice x.e.a x.e.n x.e.c]] w (ChkD d w) := by
  obtain ⟨evs, hes, hev⟩ := hI.e
  have hfn := hI.f.neq
  have hen := hev.sl.neq
  have hm := hev.sl.max
  have hl := hev.sl.len
  unfold maxLen at hm
  have HF := hid hI.f
  have HV := hid hev
  have HES := hid hes
  have HFN := hid hfn
  have HEN := hid hen
  clear hI hev hes hfn hen
  go_enter Tryz.func6, Tryz.ntmps6
  go_wp2_with fail
  refine (home_any _ _ _ _).mono ?_
  rintro e w1 ⟨q, rfl, -, hb⟩
  have c0 : w1.cell? ⟨w.heap.size, 0, none⟩ = some (.int .i64 x.k) := hb.keep (by simp)
  have c4 : w1.cell? ⟨w.heap.size, 4, none⟩ = some (.int .i64 x.c) := hb.keep (by simp)
  have c5 : w1.cell? ⟨w.heap.size, 5, none⟩ = some (.int .u64 x.u) := hb.keep (by simp)
  have c6 : w1.cell? ⟨w.heap.size, 6, none⟩ = some (.slice x.f.a x.f.n x.f.c) := hb.keep (by simp)
  have c7 : w1.cell? ⟨w.heap.size, 7, none⟩ = some (.slice x.e.a x.e.n x.e.c) := hb.keep (by simp)
  have hy := hid (show Ext w w1 from Ext.trans ((Ext.refl w).alloc _) hb)
  clear hb
  cases q with
  | false =>
    go_wp2
    (go_ret; refine ⟨110, rfl, fun h => absurd h (by decide), .inr rfl, ?_⟩; (repeat (first | exact Ext.refl _ | refine Ext.alloc ?_ _ | refine Ext.drewN ?_ _ | refine Ext.drew ?_ | refine Ext.trans ?_ (Hid.out (by assumption)))))
  | true =>
    by_cases h1 : x.c < 0
    · go_wp2
      (go_ret; refine ⟨110, rfl, fun h => absurd h (by decide), .inr rfl, ?_⟩; (repeat (first | exact Ext.refl _ | refine Ext.alloc ?_ _ | refine Ext.drewN ?_ _ | refine Ext.drew ?_ | refine Ext.trans ?_ (Hid.out (by assumption)))))
    · by_cases h2 : x.c ≥ 32
      · go_wp2
        (go_ret; refine ⟨110, rfl, fun h => absurd h (by decide), .inr rfl, ?_⟩; (repeat (first | exact Ext.refl _ | refine Ext.alloc ?_ _ | refine Ext.drewN ?_ _ | refine Ext.drew ?_ | refine Ext.trans ?_ (Hid.out (by assumption)))))
      · have q1 : (x.k == 1) = false := by simp [k1]
        have q2 : (x.k == 2) = false := by simp [k2]
        have q3 : (x.k == 3) = false := by simp [k3]
        go_wp2
        (go_ret; refine ⟨110, rfl, fun h => absurd h (by decide), .inr rfl, ?_⟩; (repeat (first | exact Ext.refl _ | refine Ext.alloc ?_ _ | refine Ext.drewN ?_ _ | refine Ext.drew ?_ | refine Ext.trans ?_ (Hid.out (by assumption)))))
set_option maxRecDepth 100000 in
set_option maxHeartbeats 4000000 in
theorem chk2_any (x : EV) (d : ED) (w : World) (hI : EntryIs w x d) (hk : x.k = 2) : Calls Tryz.prog 6 #[.agg #[.int .i64 x.k, .int .i64 x.id.b, .int .u64 x.id.l, .int .u64 x.id.s, .int .i64 x.c, .int .u64 x.u, .slice x.f.a x.f.n x.f.c, .slice x.e.a x.e.n x.e.c]] w (ChkD d w) := by
  obtain ⟨evs, hes, hev⟩ := hI.e
  have HKK := hid hk
  have hfn := hI.f.neq
  have hen := hev.sl.neq
  have hm := hev.sl.max
  have hl := hev.sl.len
  unfold maxLen at hm
  have HF := hid hI.f
  have HV := hid hev
  have HES := hid hes
  have HFN := hid hfn
  have HEN := hid hen
  clear hI hev hes hfn hen hk
  go_enter Tryz.func6, Tryz.ntmps6
  go_wp2_with fail
  refine (home_any _ _ _ _).mono ?_
  rintro e w1 ⟨q, rfl, -, hb⟩
  have c0 : w1.cell? ⟨w.heap.size, 0, none⟩ = some (.int .i64 x.k) := hb.keep (by simp)
  have c4 : w1.cell? ⟨w.heap.size, 4, none⟩ = some (.int .i64 x.c) := hb.keep (by simp)
  have c5 : w1.cell? ⟨w.heap.size, 5, none⟩ = some (.int .u64 x.u) := hb.keep (by simp)
  have c6 : w1.cell? ⟨w.heap.size, 6, none⟩ = some (.slice x.f.a x.f.n x.f.c) := hb.keep (by simp)
  have c7 : w1.cell? ⟨w.heap.size, 7, none⟩ = some (.slice x.e.a x.e.n x.e.c) := hb.keep (by simp)
  have hy := hid (show Ext w w1 from Ext.trans ((Ext.refl w).alloc _) hb)
  clear hb
  cases q with
  | false =>
    go_wp2
    (go_ret; refine ⟨110, rfl, fun h => absurd h (by decide), .inr rfl, ?_⟩; (repeat (first | exact Ext.refl _ | refine Ext.alloc ?_ _ | refine Ext.drewN ?_ _ | refine Ext.drew ?_ | refine Ext.trans ?_ (Hid.out (by assumption)))))
  | true =>
    by_cases h1 : x.c < 0
    · go_wp2
      (go_ret; refine ⟨110, rfl, fun h => absurd h (by decide), .inr rfl, ?_⟩; (repeat (first | exact Ext.refl _ | refine Ext.alloc ?_ _ | refine Ext.drewN ?_ _ | refine Ext.drew ?_ | refine Ext.trans ?_ (Hid.out (by assumption)))))
    · by_cases h2 : x.c ≥ 32
      · go_wp2
        (go_ret; refine ⟨110, rfl, fun h => absurd h (by decide), .inr rfl, ?_⟩; (repeat (first | exact Ext.refl _ | refine Ext.alloc ?_ _ | refine Ext.drewN ?_ _ | refine Ext.drew ?_ | refine Ext.trans ?_ (Hid.out (by assumption)))))
      · rw [HKK.out] at c0
        by_cases h3 : x.e.n = 0
        · go_wp2_with fail
          refine (chkF_any _ _ _ d.ts _ (HF.out.ext (by (repeat (first | exact Ext.refl _ | refine Ext.alloc ?_ _ | refine Ext.drewN ?_ _ | refine Ext.drew ?_ | refine Ext.trans ?_ (Hid.out (by assumption))))))).mono ?_
          rintro e w2 ⟨rfl, hb⟩
          have hy2 := hid hb
          clear hb
          cases hB : chkB d.ts with
          | true =>
            go_wp2
            go_ret
            refine ⟨0, rfl, fun _ => ⟨(chk_ok hB).2, ?_⟩, .inl rfl, ?_⟩
            · intro e he
              rw [← HES.out, List.eq_nil_of_length_eq_zero (HEN.out.symm.trans h3)] at he
              cases he
            · skip
              (repeat (first | exact Ext.refl _ | refine Ext.alloc ?_ _ | refine Ext.drewN ?_ _ | refine Ext.drew ?_ | refine Ext.trans ?_ (Hid.out (by assumption))))
          | false =>
            go_wp2
            (go_ret; refine ⟨110, rfl, fun h => absurd h (by decide), .inr rfl, ?_⟩; (repeat (first | exact Ext.refl _ | refine Ext.alloc ?_ _ | refine Ext.drewN ?_ _ | refine Ext.drew ?_ | refine Ext.trans ?_ (Hid.out (by assumption)))))
        · go_wp2
          (go_ret; refine ⟨110, rfl, fun h => absurd h (by decide), .inr rfl, ?_⟩; (repeat (first | exact Ext.refl _ | refine Ext.alloc ?_ _ | refine Ext.drewN ?_ _ | refine Ext.drew ?_ | refine Ext.trans ?_ (Hid.out (by assumption)))))
end Go.Proofs.YtiifflojpoobpaaGreat
