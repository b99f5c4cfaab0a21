/- Whether an entry that publishes may be: the walk of the program's Check. -/
import Derived.Test.YtiifflojpoobpaaGreatHome15
set_option linter.unusedVariables false
set_option linter.unusedSimpArgs false
namespace Go.Proofs.YtiifflojpoobpaaGreat
open Go.RowKit

set_option maxRecDepth 100000 in
set_option maxHeartbeats 2000000 in
theorem chk1_any (x : EV) (d : ED) (w : World) (hI : EntryIs w x d) (hk : x.k = 1) : Calls Tryz.prog 6 #[.agg #[.int .i64 x.k, .int .i64 x.id.b, .int .u64 x.id.l, .int .u64 x.id.s, .int .i64 x.c, .int .u64 x.u, .slice x.f.a x.f.n x.f.c, .slice x.e.a x.e.n x.e.c]] w (ChkD d w) := by
  obtain ⟨evs, hes, hev⟩ := hI.e
  have HKK := hid hk
  have hfn := hI.f.neq
  have hen := hev.sl.neq
  have hm := hev.sl.max
  have hl := hev.sl.len
  unfold maxLen at hm
  have HF := hid hI.f
  have HV := hid hev
  have HES := hid hes
  have HFN := hid hfn
  have HEN := hid hen
  clear hI hev hes hfn hen hk
  go_enter Tryz.func6, Tryz.ntmps6
  go_wp2_with fail
  refine (home_any _ _ _ _).mono ?_
  rintro e w1 ⟨q, rfl, -, hb⟩
  have c0 : w1.cell? ⟨w.heap.size, 0, none⟩ = some (.int .i64 x.k) := hb.keep (by simp)
  have c4 : w1.cell? ⟨w.heap.size, 4, none⟩ = some (.int .i64 x.c) := hb.keep (by simp)
  have c5 : w1.cell? ⟨w.heap.size, 5, none⟩ = some (.int .u64 x.u) := hb.keep (by simp)
  have c6 : w1.cell? ⟨w.heap.size, 6, none⟩ = some (.slice x.f.a x.f.n x.f.c) := hb.keep (by simp)
  have c7 : w1.cell? ⟨w.heap.size, 7, none⟩ = some (.slice x.e.a x.e.n x.e.c) := hb.keep (by simp)
  have hy := hid (show Ext w w1 from Ext.trans ((Ext.refl w).alloc _) hb)
  clear hb
  cases q with
  | false =>
    go_wp2
    (go_ret; refine ⟨110, rfl, fun h => absurd h (by decide), .inr rfl, ?_⟩; (repeat (first | exact Ext.refl _ | refine Ext.alloc ?_ _ | refine Ext.drewN ?_ _ | refine Ext.drew ?_ | refine Ext.trans ?_ (Hid.out (by assumption)))))
  | true =>
    by_cases h1 : x.c < 0
    · go_wp2
      (go_ret; refine ⟨110, rfl, fun h => absurd h (by decide), .inr rfl, ?_⟩; (repeat (first | exact Ext.refl _ | refine Ext.alloc ?_ _ | refine Ext.drewN ?_ _ | refine Ext.drew ?_ | refine Ext.trans ?_ (Hid.out (by assumption)))))
    · by_cases h2 : x.c ≥ 32
      · go_wp2
        (go_ret; refine ⟨110, rfl, fun h => absurd h (by decide), .inr rfl, ?_⟩; (repeat (first | exact Ext.refl _ | refine Ext.alloc ?_ _ | refine Ext.drewN ?_ _ | refine Ext.drew ?_ | refine Ext.trans ?_ (Hid.out (by assumption)))))
      · rw [HKK.out] at c0
        rw [HEN.out] at c7
        have hb63 : evs.length ≤ 2 ^ 63 - 1 := by have := HEN.out; omega
        by_cases hu : x.u = 0
        case neg =>
          have q0 : (x.u == 0) = false := by simp [hu]
          go_wp2_with fail
          go_loopg [3, 4] 0 (fun g ov st wr => ov = .bool false ∧ st = .int .i64 0 ∧ Hid (Ext w1 wr))
          case atStart => exact ⟨rfl, rfl, Ext.refl _⟩
          case round =>
            obtain ⟨rfl, rfl, hx⟩ := hrel
            have d7 := hx.out.keep c7
            go_wp2
            (go_ret; refine ⟨110, rfl, fun h => absurd h (by decide), .inr rfl, ?_⟩; (repeat (first | exact Ext.refl _ | refine Ext.alloc ?_ _ | refine Ext.drewN ?_ _ | refine Ext.drew ?_ | refine Ext.trans ?_ (Hid.out (by assumption)))))
        rw [hu] at c5
        by_cases hF0 : x.f.n = 0
        case neg =>
          go_wp2_with fail
          go_loopg [3, 4] 0 (fun g ov st wr => ov = .bool false ∧ st = .int .i64 0 ∧ Hid (Ext w1 wr))
          case atStart => exact ⟨rfl, rfl, Ext.refl _⟩
          case round =>
            obtain ⟨rfl, rfl, hx⟩ := hrel
            have d7 := hx.out.keep c7
            go_wp2
            (go_ret; refine ⟨110, rfl, fun h => absurd h (by decide), .inr rfl, ?_⟩; (repeat (first | exact Ext.refl _ | refine Ext.alloc ?_ _ | refine Ext.drewN ?_ _ | refine Ext.drew ?_ | refine Ext.trans ?_ (Hid.out (by assumption)))))
        go_wp2_with fail
        go_loopg [3, 4] (evs.length) (fun g ov st wr => ∃ (k : Nat) (B : Bool), g + k = evs.length ∧ st = .int .i64 k ∧ ov = .bool B ∧ Hid (B = true → x.f.n = 0 ∧ ∀ y, y ∈ evs.take k → okE y.ats) ∧ Hid (Ext w1 wr))
        case atStart => exact ⟨0, _, by omega, rfl, rfl, fun _ => ⟨hF0, fun y hy => by simp at hy⟩, Ext.refl _⟩
        case round =>
          obtain ⟨k, B2, hg, rfl, rfl, hB2, hx⟩ := hrel
          have d7 := hx.out.keep c7
          cases B2 with
          | false =>
            go_wp2
            (go_ret; refine ⟨110, rfl, fun h => absurd h (by decide), .inr rfl, ?_⟩; (repeat (first | exact Ext.refl _ | refine Ext.alloc ?_ _ | refine Ext.drewN ?_ _ | refine Ext.drew ?_ | refine Ext.trans ?_ (Hid.out (by assumption)))))
          | true =>
            have HB := hid (hB2.out rfl)
            clear hB2
            by_cases hk : k < evs.length
            · obtain ⟨b, o, hab, hc⟩ := HV.out.sl.get k hk
              have d0 := cells1 (w := wr) (b := b) (o := o + k * 1) (x := evs[k]) (fun j v hj => hx.out.keep (hy.out.keep (hc j v hj)))
              rw [Nat.mul_one] at d0
              rw [hab] at d7
              clear hc hab
              have b0 : (0 : Int) ≤ (k : Int) := by omega
              have b1 : (k : Int) < (evs.length : Int) := by omega
              go_wp2_with fail
              refine (chkE_any _ _ _ evs[k].ats _ ((HV.out.ats evs[k] (List.getElem_mem hk)).ext (by (repeat (first | exact Ext.refl _ | refine Ext.alloc ?_ _ | refine Ext.drewN ?_ _ | refine Ext.drew ?_ | refine Ext.trans ?_ (Hid.out (by assumption))))))).mono ?_
              rintro e w2 ⟨z, rfl, hz, hz2, hb⟩
              have hy2 := hid hb
              have HZ := hid hz
              clear hb hz
              rcases hz2 with rfl | rfl
              · go_wp2
                go_roundg (gk - 1)
                case measure => omega
                case rel =>
                  refine ⟨k + 1, true, by omega, by go_num, rfl, fun _ => ⟨HB.out.1, fun y hy' => ?_⟩, (by (repeat (first | exact Ext.refl _ | refine Ext.alloc ?_ _ | refine Ext.drewN ?_ _ | refine Ext.drew ?_ | refine Ext.trans ?_ (Hid.out (by assumption)))))⟩
                  rw [List.take_succ_eq_append_getElem hk] at hy'
                  rcases List.mem_append.1 hy' with hy' | hy'
                  · exact HB.out.2 y hy'
                  · rw [List.mem_singleton.1 hy']; exact HZ.out trivial
              · go_wp2
                go_roundg (gk - 1)
                case measure => omega
                case rel => exact ⟨k + 1, false, by omega, by go_num, rfl, fun h => absurd h (by decide), (by (repeat (first | exact Ext.refl _ | refine Ext.alloc ?_ _ | refine Ext.drewN ?_ _ | refine Ext.drew ?_ | refine Ext.trans ?_ (Hid.out (by assumption)))))⟩
            · have hk' : evs.take k = evs := List.take_of_length_le (by omega)
              rw [hk'] at HB
              clear hk'
              go_wp2
              go_ret
              refine ⟨0, rfl, fun _ => ⟨?_, ?_⟩, .inl rfl, ?_⟩
              · intro t ht
                rw [List.eq_nil_of_length_eq_zero (HFN.out.symm.trans HB.out.1)] at ht
                cases ht
              · intro e he
                rw [← HES.out] at he
                obtain ⟨y, hy', rfl⟩ := List.mem_map.1 he
                exact HB.out.2 y hy'
              · skip
                (repeat (first | exact Ext.refl _ | refine Ext.alloc ?_ _ | refine Ext.drewN ?_ _ | refine Ext.drew ?_ | refine Ext.trans ?_ (Hid.out (by assumption))))
end Go.Proofs.YtiifflojpoobpaaGreat
