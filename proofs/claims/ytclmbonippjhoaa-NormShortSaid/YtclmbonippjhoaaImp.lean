/- Whether a test implies another one: the walk of the program's Implies. -/
import Derived.Test.YtclmbonippjhoaaIs
import Derived.Deep.RegionHeld3
set_option linter.unusedVariables false
set_option linter.unusedSimpArgs false
namespace Go.Proofs.Ytclmbonippjhoaa
open Go.RowKit

theorem less_m (a b : T) (w : World) : Calls Try.prog 66 #[.agg #[.string a.nm, .int .i64 a.op, .int .i64 a.k, .int .i64 a.n, .string a.s, .string b.nm, .int .i64 b.op, .int .i64 b.k, .int .i64 b.n, .string b.s, .int .i64 (vOrd a.k a.n a.s.toList b.k b.n b.s.toList)]] w fun e w' => e = .returned (.bool (pairV 3 a.v b.op b.v)) ∧ Ext w w' := by
  have H := hid (show a.v.ord b.v = vOrd a.k a.n a.s.toList b.k b.n b.s.toList from rfl)
  go_enter Try.func66, Try.ntmps66
  go_wp2
  all_goals
    go_ret
    refine ⟨ret_bool (by unfold pairV; rw [H.out]; simp_all), ?_⟩
    (repeat (first | exact Ext.refl _ | refine Ext.alloc ?_ _ | refine Ext.drewN ?_ _ | refine Ext.drew ?_ | refine Ext.trans ?_ (Hid.out (by assumption))))

theorem most_m (a b : T) (w : World) : Calls Try.prog 67 #[.agg #[.string a.nm, .int .i64 a.op, .int .i64 a.k, .int .i64 a.n, .string a.s, .string b.nm, .int .i64 b.op, .int .i64 b.k, .int .i64 b.n, .string b.s, .int .i64 (vOrd a.k a.n a.s.toList b.k b.n b.s.toList)]] w fun e w' => e = .returned (.bool (pairV 4 a.v b.op b.v)) ∧ Ext w w' := by
  have H := hid (show a.v.ord b.v = vOrd a.k a.n a.s.toList b.k b.n b.s.toList from rfl)
  go_enter Try.func67, Try.ntmps67
  go_wp2
  all_goals
    go_ret
    refine ⟨ret_bool (by unfold pairV; rw [H.out]; simp_all), ?_⟩
    (repeat (first | exact Ext.refl _ | refine Ext.alloc ?_ _ | refine Ext.drewN ?_ _ | refine Ext.drew ?_ | refine Ext.trans ?_ (Hid.out (by assumption))))

theorem more_m (a b : T) (w : World) : Calls Try.prog 68 #[.agg #[.string a.nm, .int .i64 a.op, .int .i64 a.k, .int .i64 a.n, .string a.s, .string b.nm, .int .i64 b.op, .int .i64 b.k, .int .i64 b.n, .string b.s, .int .i64 (vOrd a.k a.n a.s.toList b.k b.n b.s.toList)]] w fun e w' => e = .returned (.bool (pairV 5 a.v b.op b.v)) ∧ Ext w w' := by
  have H := hid (show a.v.ord b.v = vOrd a.k a.n a.s.toList b.k b.n b.s.toList from rfl)
  go_enter Try.func68, Try.ntmps68
  go_wp2
  all_goals
    go_ret
    refine ⟨ret_bool (by unfold pairV; rw [H.out]; simp_all), ?_⟩
    (repeat (first | exact Ext.refl _ | refine Ext.alloc ?_ _ | refine Ext.drewN ?_ _ | refine Ext.drew ?_ | refine Ext.trans ?_ (Hid.out (by assumption))))

theorem least_m (a b : T) (w : World) : Calls Try.prog 69 #[.agg #[.string a.nm, .int .i64 a.op, .int .i64 a.k, .int .i64 a.n, .string a.s, .string b.nm, .int .i64 b.op, .int .i64 b.k, .int .i64 b.n, .string b.s, .int .i64 (vOrd a.k a.n a.s.toList b.k b.n b.s.toList)]] w fun e w' => e = .returned (.bool (pairV 6 a.v b.op b.v)) ∧ Ext w w' := by
  have H := hid (show a.v.ord b.v = vOrd a.k a.n a.s.toList b.k b.n b.s.toList from rfl)
  go_enter Try.func69, Try.ntmps69
  go_wp2
  all_goals
    go_ret
    refine ⟨ret_bool (by unfold pairV; rw [H.out]; simp_all), ?_⟩
    (repeat (first | exact Ext.refl _ | refine Ext.alloc ?_ _ | refine Ext.drewN ?_ _ | refine Ext.drew ?_ | refine Ext.trans ?_ (Hid.out (by assumption))))

theorem other_m (a b : T) (w : World) : Calls Try.prog 71 #[.agg #[.string a.nm, .int .i64 a.op, .int .i64 a.k, .int .i64 a.n, .string a.s, .string b.nm, .int .i64 b.op, .int .i64 b.k, .int .i64 b.n, .string b.s, .int .i64 (vOrd a.k a.n a.s.toList b.k b.n b.s.toList)]] w fun e w' => e = .returned (.bool false) ∧ Ext w w' := by
  go_enter Try.func71, Try.ntmps71
  go_wp2
  go_ret
  refine ⟨rfl, ?_⟩
  (repeat (first | exact Ext.refl _ | refine Ext.alloc ?_ _ | refine Ext.drewN ?_ _ | refine Ext.drew ?_ | refine Ext.trans ?_ (Hid.out (by assumption))))
theorem same_m (a b : T) (w : World) : Calls Try.prog 65 #[.agg #[.string a.nm, .int .i64 a.op, .int .i64 a.k, .int .i64 a.n, .string a.s, .string b.nm, .int .i64 b.op, .int .i64 b.k, .int .i64 b.n, .string b.s, .int .i64 (vOrd a.k a.n a.s.toList b.k b.n b.s.toList)]] w fun e w' => e = .returned (.bool (pairV 1 a.v b.op b.v)) ∧ Ext w w' := by
  go_enter Try.func65, Try.ntmps65
  go_wp2_with (go_at_call 20; refine (is_any b a.k a.n a.s _).mono ?_; rintro e w' ⟨rfl, hb⟩; have hx := hid hb; clear hb)
  go_ret
  refine ⟨rfl, ?_⟩
  (repeat (first | exact Ext.refl _ | refine Ext.alloc ?_ _ | refine Ext.drewN ?_ _ | refine Ext.drew ?_ | refine Ext.trans ?_ (Hid.out (by assumption))))
theorem begins_m (a b : T) (w : World) : Calls Try.prog 70 #[.agg #[.string a.nm, .int .i64 a.op, .int .i64 a.k, .int .i64 a.n, .string a.s, .string b.nm, .int .i64 b.op, .int .i64 b.k, .int .i64 b.n, .string b.s, .int .i64 (vOrd a.k a.n a.s.toList b.k b.n b.s.toList)]] w fun e w' => e = .returned (.bool (pairV 7 a.v b.op b.v)) ∧ Ext w w' := by
  have H := hid (show a.v.ord b.v = vOrd a.k a.n a.s.toList b.k b.n b.s.toList from rfl)
  go_enter Try.func70, Try.ntmps70
  go_wp2_with (go_at_call 51; refine (beg_any _ _ _ _ _ _ _).mono ?_; rintro e w' ⟨rfl, hb⟩; have hx := hid hb; clear hb)
  all_goals
    go_ret
    refine ⟨ret_bool (by unfold pairV; rw [H.out]; simp_all [Vl.beg, T.v]), ?_⟩
    (repeat (first | exact Ext.refl _ | refine Ext.alloc ?_ _ | refine Ext.drewN ?_ _ | refine Ext.drew ?_ | refine Ext.trans ?_ (Hid.out (by assumption))))
theorem known_any (op : Int) (w : World) : Calls Try.prog 41 #[.int .i64 op] w fun e w' => e = .returned (.bool (known op)) ∧ w = w' := by
  go_enter Try.func41, Try.ntmps41
  go_wp2
  all_goals
    go_ret
    refine ⟨ret_bool (by unfold known; simp_all <;> omega), rfl⟩
/-- what asks a pair -/
def askF (op : Int) : Nat := if op = 1 then 65 else if op = 3 then 66 else if op = 4 then 67 else if op = 5 then 68 else if op = 6 then 69 else if op = 7 then 70 else 71
theorem asked_any (op : Int) (w : World) : Calls Try.prog 42 #[.int .i64 op] w fun e w' => e = .returned (.func (.func (askF op)) #[] #[]) ∧ w = w' := by
  go_enter Try.func42, Try.ntmps42
  go_wp2
  all_goals
    go_ret
    refine ⟨?_, rfl⟩
    unfold askF
    simp_all
theorem run_eqT (a b : T) (w : World) :
    (binOp .eql 25 (.agg #[.string a.nm, .int .i64 a.op, .int .i64 a.k, .int .i64 a.n, .string a.s]) (.agg #[.string b.nm, .int .i64 b.op, .int .i64 b.k, .int .i64 b.n, .string b.s])).run Try.prog w = .ok (.bool (decide (a.ts = b.ts))) w := by
  have e : (a.ts = b.ts) ↔ (a.nm.toList = b.nm.toList ∧ a.op = b.op ∧ a.k = b.k ∧ a.n = b.n ∧ a.s.toList = b.s.toList) := by simp [T.ts, T.v]
  have e' : decide (a.ts = b.ts) = decide (a.nm.toList = b.nm.toList ∧ a.op = b.op ∧ a.k = b.k ∧ a.n = b.n ∧ a.s.toList = b.s.toList) := decide_eq_decide.2 e
  rw [e']
  clear e e'
  by_cases h1 : a.nm.toList = b.nm.toList
  · by_cases h2 : a.op = b.op
    · by_cases h3 : a.k = b.k
      · by_cases h4 : a.n = b.n
        · by_cases h5 : a.s.toList = b.s.toList
          · simp [h1, h2, h3, h4, h5, go_sem]
          · simp [h1, h2, h3, h4, h5, go_sem]
        · simp [h1, h2, h3, h4, go_sem]
      · simp [h1, h2, h3, go_sem]
    · simp [h1, h2, go_sem]
  · simp [h1, go_sem]
theorem imp_eq (a b : T) : impT a.ts b.ts = (decide (a.nm.toList = b.nm.toList) && known a.op && known b.op && (decide (a.ts = b.ts) || decide (b.op = 8) || (!decide (a.op = 8) && decide (a.k = b.k) && pairV a.op a.v b.op b.v))) := rfl
theorem known_ops {op : Int} (h : known op = true) (h8 : op ≠ 8) : op = 1 ∨ op = 2 ∨ op = 3 ∨ op = 4 ∨ op = 5 ∨ op = 6 ∨ op = 7 := by
  unfold known at h; have := of_decide_eq_true h; omega
theorem pairV_2 (a : Vl) (op' : Int) (b : Vl) : pairV 2 a op' b = false := rfl
set_option maxRecDepth 100000 in
set_option maxHeartbeats 2000000 in
theorem implies_any (a b : T) (w : World) : Calls Try.prog 19 #[.agg #[.string a.nm, .int .i64 a.op, .int .i64 a.k, .int .i64 a.n, .string a.s], .agg #[.string b.nm, .int .i64 b.op, .int .i64 b.k, .int .i64 b.n, .string b.s]] w fun e w' => e = .returned (.bool (impT a.ts b.ts)) ∧ Ext w w' := by
  have HI := hid (imp_eq a b)
  have heq := run_eqT a b
  by_cases hn : a.nm.toList = b.nm.toList
  · cases hka : known a.op with
    | false =>
      go_enter Try.func19, Try.ntmps19
      go_wp2_with (go_at_call 41; refine (known_any _ _).mono ?_; rintro e w' ⟨rfl, rfl⟩)
      go_ret
      refine ⟨ret_bool (by rw [HI.out, hka]; simp), ?_⟩
      (repeat (first | exact Ext.refl _ | refine Ext.alloc ?_ _ | refine Ext.drewN ?_ _ | refine Ext.drew ?_ | refine Ext.trans ?_ (Hid.out (by assumption))))
    | true =>
      cases hkb : known b.op with
      | false =>
        go_enter Try.func19, Try.ntmps19
        go_wp2_with (go_at_call 41; refine (known_any _ _).mono ?_; rintro e w' ⟨rfl, rfl⟩)
        go_ret
        refine ⟨ret_bool (by rw [HI.out, hkb]; simp), ?_⟩
        (repeat (first | exact Ext.refl _ | refine Ext.alloc ?_ _ | refine Ext.drewN ?_ _ | refine Ext.drew ?_ | refine Ext.trans ?_ (Hid.out (by assumption))))
      | true =>
        have hkb' : (!known b.op) = false := by rw [hkb]; rfl
        cases hE : decide (a.ts = b.ts) with
        | true =>
          go_enter Try.func19, Try.ntmps19
          go_wp2_with (go_at_call 41; refine (known_any _ _).mono ?_; rintro e w' ⟨rfl, rfl⟩)
          go_ret
          refine ⟨ret_bool (by rw [HI.out, hka, hkb, hE]; simp [hn]), ?_⟩
          (repeat (first | exact Ext.refl _ | refine Ext.alloc ?_ _ | refine Ext.drewN ?_ _ | refine Ext.drew ?_ | refine Ext.trans ?_ (Hid.out (by assumption))))
        | false =>
          by_cases hb8 : b.op = 8
          · have hb8b : (b.op == 8) = true := by simp [hb8]
            have HB8 := hid hb8
            clear hb8
            go_enter Try.func19, Try.ntmps19
            go_wp2_with (go_at_call 41; refine (known_any _ _).mono ?_; rintro e w' ⟨rfl, rfl⟩)
            go_ret
            refine ⟨ret_bool (by rw [HI.out, hka, hkb, hE]; simp [hn, HB8.out]), ?_⟩
            (repeat (first | exact Ext.refl _ | refine Ext.alloc ?_ _ | refine Ext.drewN ?_ _ | refine Ext.drew ?_ | refine Ext.trans ?_ (Hid.out (by assumption))))
          · have hb8b : (b.op == 8) = false := by simp [hb8]
            have HB8 := hid hb8
            clear hb8
            by_cases ha8 : a.op = 8
            · have ha8b : (a.op == 8) = true := by simp [ha8]
              have HA8 := hid ha8
              clear ha8
              go_enter Try.func19, Try.ntmps19
              go_wp2_with (go_at_call 41; refine (known_any _ _).mono ?_; rintro e w' ⟨rfl, rfl⟩)
              go_ret
              refine ⟨ret_bool (by rw [HI.out, hka, hkb, hE]; simp [HB8.out, HA8.out]), ?_⟩
              (repeat (first | exact Ext.refl _ | refine Ext.alloc ?_ _ | refine Ext.drewN ?_ _ | refine Ext.drew ?_ | refine Ext.trans ?_ (Hid.out (by assumption))))
            · have ha8b : (a.op == 8) = false := by simp [ha8]
              have HA8 := hid ha8
              have hops := known_ops hka ha8
              clear ha8
              by_cases hkk : a.k = b.k
              · have hkkb : (a.k != b.k) = false := by simp [hkk]
                have HKK := hid hkk
                have HV := hid (show impT a.ts b.ts = pairV a.op a.v b.op b.v from by rw [HI.out, hka, hkb, hE]; simp [hn, HB8.out, HA8.out, hkk])
                clear hkk
                have HOPS := hid hops
                clear hops
                go_enter Try.func19, Try.ntmps19
                go_upto_region 8 with (first | (go_at_call 41; refine (known_any _ _).mono ?_; rintro e w' ⟨rfl, rfl⟩) | (go_at_call 42; refine (asked_any _ _).mono ?_; rintro e w' ⟨rfl, rfl⟩))
                have BA : ((w.alloc (Obj.cells #[.string a.nm, .int .i64 a.op, .int .i64 a.k, .int .i64 a.n, .string a.s] 25)).alloc (Obj.cells #[.string b.nm, .int .i64 b.op, .int .i64 b.k, .int .i64 b.n, .string b.s] 25)).heap[w.heap.size]? = some (Obj.cells #[.string a.nm, .int .i64 a.op, .int .i64 a.k, .int .i64 a.n, .string a.s] 25) := by (repeat (first | (refine heap_new ?_; (simp; done)) | refine heap_old (by first | (simp; done) | (simp; omega)) ?_))
                have BB : ((w.alloc (Obj.cells #[.string a.nm, .int .i64 a.op, .int .i64 a.k, .int .i64 a.n, .string a.s] 25)).alloc (Obj.cells #[.string b.nm, .int .i64 b.op, .int .i64 b.k, .int .i64 b.n, .string b.s] 25)).heap[w.heap.size + 1]? = some (Obj.cells #[.string b.nm, .int .i64 b.op, .int .i64 b.k, .int .i64 b.n, .string b.s] 25) := by (repeat (first | (refine heap_new ?_; (simp; done)) | refine heap_old (by first | (simp; done) | (simp; omega)) ?_))
                have HBA := hid BA
                have HBB := hid BB
                clear BA BB heq
                rcases HOPS.out with h | h | h | h | h | h | h
                · have H := hid h
                  have ha : askF a.op = 65 := by rw [h]; rfl
                  rw [ha]
                  clear h ha
                  go_region_held3 (fun w' => w'.cell? ⟨w.heap.size, 0, none⟩ = some (.string a.nm) ∧ w'.cell? ⟨w.heap.size, 1, none⟩ = some (.int .i64 a.op) ∧ w'.cell? ⟨w.heap.size, 2, none⟩ = some (.int .i64 a.k) ∧ w'.cell? ⟨w.heap.size, 3, none⟩ = some (.int .i64 a.n) ∧ w'.cell? ⟨w.heap.size, 4, none⟩ = some (.string a.s) ∧ w'.cell? ⟨w.heap.size + 1, 0, none⟩ = some (.string b.nm) ∧ w'.cell? ⟨w.heap.size + 1, 1, none⟩ = some (.int .i64 b.op) ∧ w'.cell? ⟨w.heap.size + 1, 2, none⟩ = some (.int .i64 b.k) ∧ w'.cell? ⟨w.heap.size + 1, 3, none⟩ = some (.int .i64 b.n) ∧ w'.cell? ⟨w.heap.size + 1, 4, none⟩ = some (.string b.s))
                    (first | (go_split_ands; refine ⟨?_, ?_, ?_, ?_, ?_, ?_, ?_, ?_, ?_, ?_⟩ <;> exact (Hid.out hy).keep (by assumption)) | go_keep)
                    (first | (go_at_call 43; refine (order_any _ _ _ _ _ _ _).mono ?_; rintro e wq ⟨rfl, hb⟩; have hy := hid hb; clear hb) | (go_at_call 65; refine (same_m a b _).mono ?_; rintro e wq ⟨rfl, hb⟩; have hy := hid hb; clear hb))
                  all_goals
                    go_wp2
                    go_ret
                    refine ⟨ret_bool (by rw [HV.out, H.out]), ?_⟩
                    (repeat (first | exact Ext.refl _ | refine Ext.alloc ?_ _ | refine Ext.drewN ?_ _ | refine Ext.drew ?_ | refine Ext.trans ?_ (Hid.out (by assumption))))
                · have H := hid h
                  have ha : askF a.op = 71 := by rw [h]; rfl
                  rw [ha]
                  clear h ha
                  go_region_held3 (fun w' => w'.cell? ⟨w.heap.size, 0, none⟩ = some (.string a.nm) ∧ w'.cell? ⟨w.heap.size, 1, none⟩ = some (.int .i64 a.op) ∧ w'.cell? ⟨w.heap.size, 2, none⟩ = some (.int .i64 a.k) ∧ w'.cell? ⟨w.heap.size, 3, none⟩ = some (.int .i64 a.n) ∧ w'.cell? ⟨w.heap.size, 4, none⟩ = some (.string a.s) ∧ w'.cell? ⟨w.heap.size + 1, 0, none⟩ = some (.string b.nm) ∧ w'.cell? ⟨w.heap.size + 1, 1, none⟩ = some (.int .i64 b.op) ∧ w'.cell? ⟨w.heap.size + 1, 2, none⟩ = some (.int .i64 b.k) ∧ w'.cell? ⟨w.heap.size + 1, 3, none⟩ = some (.int .i64 b.n) ∧ w'.cell? ⟨w.heap.size + 1, 4, none⟩ = some (.string b.s))
                    (first | (go_split_ands; refine ⟨?_, ?_, ?_, ?_, ?_, ?_, ?_, ?_, ?_, ?_⟩ <;> exact (Hid.out hy).keep (by assumption)) | go_keep)
                    (first | (go_at_call 43; refine (order_any _ _ _ _ _ _ _).mono ?_; rintro e wq ⟨rfl, hb⟩; have hy := hid hb; clear hb) | (go_at_call 71; refine (other_m a b _).mono ?_; rintro e wq ⟨rfl, hb⟩; have hy := hid hb; clear hb))
                  all_goals
                    go_wp2
                    go_ret
                    refine ⟨ret_bool (by rw [HV.out, H.out]; rfl), ?_⟩
                    (repeat (first | exact Ext.refl _ | refine Ext.alloc ?_ _ | refine Ext.drewN ?_ _ | refine Ext.drew ?_ | refine Ext.trans ?_ (Hid.out (by assumption))))
                · have H := hid h
                  have ha : askF a.op = 66 := by rw [h]; rfl
                  rw [ha]
                  clear h ha
                  go_region_held3 (fun w' => w'.cell? ⟨w.heap.size, 0, none⟩ = some (.string a.nm) ∧ w'.cell? ⟨w.heap.size, 1, none⟩ = some (.int .i64 a.op) ∧ w'.cell? ⟨w.heap.size, 2, none⟩ = some (.int .i64 a.k) ∧ w'.cell? ⟨w.heap.size, 3, none⟩ = some (.int .i64 a.n) ∧ w'.cell? ⟨w.heap.size, 4, none⟩ = some (.string a.s) ∧ w'.cell? ⟨w.heap.size + 1, 0, none⟩ = some (.string b.nm) ∧ w'.cell? ⟨w.heap.size + 1, 1, none⟩ = some (.int .i64 b.op) ∧ w'.cell? ⟨w.heap.size + 1, 2, none⟩ = some (.int .i64 b.k) ∧ w'.cell? ⟨w.heap.size + 1, 3, none⟩ = some (.int .i64 b.n) ∧ w'.cell? ⟨w.heap.size + 1, 4, none⟩ = some (.string b.s))
                    (first | (go_split_ands; refine ⟨?_, ?_, ?_, ?_, ?_, ?_, ?_, ?_, ?_, ?_⟩ <;> exact (Hid.out hy).keep (by assumption)) | go_keep)
                    (first | (go_at_call 43; refine (order_any _ _ _ _ _ _ _).mono ?_; rintro e wq ⟨rfl, hb⟩; have hy := hid hb; clear hb) | (go_at_call 66; refine (less_m a b _).mono ?_; rintro e wq ⟨rfl, hb⟩; have hy := hid hb; clear hb))
                  all_goals
                    go_wp2
                    go_ret
                    refine ⟨ret_bool (by rw [HV.out, H.out]), ?_⟩
                    (repeat (first | exact Ext.refl _ | refine Ext.alloc ?_ _ | refine Ext.drewN ?_ _ | refine Ext.drew ?_ | refine Ext.trans ?_ (Hid.out (by assumption))))
                · have H := hid h
                  have ha : askF a.op = 67 := by rw [h]; rfl
                  rw [ha]
                  clear h ha
                  go_region_held3 (fun w' => w'.cell? ⟨w.heap.size, 0, none⟩ = some (.string a.nm) ∧ w'.cell? ⟨w.heap.size, 1, none⟩ = some (.int .i64 a.op) ∧ w'.cell? ⟨w.heap.size, 2, none⟩ = some (.int .i64 a.k) ∧ w'.cell? ⟨w.heap.size, 3, none⟩ = some (.int .i64 a.n) ∧ w'.cell? ⟨w.heap.size, 4, none⟩ = some (.string a.s) ∧ w'.cell? ⟨w.heap.size + 1, 0, none⟩ = some (.string b.nm) ∧ w'.cell? ⟨w.heap.size + 1, 1, none⟩ = some (.int .i64 b.op) ∧ w'.cell? ⟨w.heap.size + 1, 2, none⟩ = some (.int .i64 b.k) ∧ w'.cell? ⟨w.heap.size + 1, 3, none⟩ = some (.int .i64 b.n) ∧ w'.cell? ⟨w.heap.size + 1, 4, none⟩ = some (.string b.s))
                    (first | (go_split_ands; refine ⟨?_, ?_, ?_, ?_, ?_, ?_, ?_, ?_, ?_, ?_⟩ <;> exact (Hid.out hy).keep (by assumption)) | go_keep)
                    (first | (go_at_call 43; refine (order_any _ _ _ _ _ _ _).mono ?_; rintro e wq ⟨rfl, hb⟩; have hy := hid hb; clear hb) | (go_at_call 67; refine (most_m a b _).mono ?_; rintro e wq ⟨rfl, hb⟩; have hy := hid hb; clear hb))
                  all_goals
                    go_wp2
                    go_ret
                    refine ⟨ret_bool (by rw [HV.out, H.out]), ?_⟩
                    (repeat (first | exact Ext.refl _ | refine Ext.alloc ?_ _ | refine Ext.drewN ?_ _ | refine Ext.drew ?_ | refine Ext.trans ?_ (Hid.out (by assumption))))
                · have H := hid h
                  have ha : askF a.op = 68 := by rw [h]; rfl
                  rw [ha]
                  clear h ha
                  go_region_held3 (fun w' => w'.cell? ⟨w.heap.size, 0, none⟩ = some (.string a.nm) ∧ w'.cell? ⟨w.heap.size, 1, none⟩ = some (.int .i64 a.op) ∧ w'.cell? ⟨w.heap.size, 2, none⟩ = some (.int .i64 a.k) ∧ w'.cell? ⟨w.heap.size, 3, none⟩ = some (.int .i64 a.n) ∧ w'.cell? ⟨w.heap.size, 4, none⟩ = some (.string a.s) ∧ w'.cell? ⟨w.heap.size + 1, 0, none⟩ = some (.string b.nm) ∧ w'.cell? ⟨w.heap.size + 1, 1, none⟩ = some (.int .i64 b.op) ∧ w'.cell? ⟨w.heap.size + 1, 2, none⟩ = some (.int .i64 b.k) ∧ w'.cell? ⟨w.heap.size + 1, 3, none⟩ = some (.int .i64 b.n) ∧ w'.cell? ⟨w.heap.size + 1, 4, none⟩ = some (.string b.s))
                    (first | (go_split_ands; refine ⟨?_, ?_, ?_, ?_, ?_, ?_, ?_, ?_, ?_, ?_⟩ <;> exact (Hid.out hy).keep (by assumption)) | go_keep)
                    (first | (go_at_call 43; refine (order_any _ _ _ _ _ _ _).mono ?_; rintro e wq ⟨rfl, hb⟩; have hy := hid hb; clear hb) | (go_at_call 68; refine (more_m a b _).mono ?_; rintro e wq ⟨rfl, hb⟩; have hy := hid hb; clear hb))
                  all_goals
                    go_wp2
                    go_ret
                    refine ⟨ret_bool (by rw [HV.out, H.out]), ?_⟩
                    (repeat (first | exact Ext.refl _ | refine Ext.alloc ?_ _ | refine Ext.drewN ?_ _ | refine Ext.drew ?_ | refine Ext.trans ?_ (Hid.out (by assumption))))
                · have H := hid h
                  have ha : askF a.op = 69 := by rw [h]; rfl
                  rw [ha]
                  clear h ha
                  go_region_held3 (fun w' => w'.cell? ⟨w.heap.size, 0, none⟩ = some (.string a.nm) ∧ w'.cell? ⟨w.heap.size, 1, none⟩ = some (.int .i64 a.op) ∧ w'.cell? ⟨w.heap.size, 2, none⟩ = some (.int .i64 a.k) ∧ w'.cell? ⟨w.heap.size, 3, none⟩ = some (.int .i64 a.n) ∧ w'.cell? ⟨w.heap.size, 4, none⟩ = some (.string a.s) ∧ w'.cell? ⟨w.heap.size + 1, 0, none⟩ = some (.string b.nm) ∧ w'.cell? ⟨w.heap.size + 1, 1, none⟩ = some (.int .i64 b.op) ∧ w'.cell? ⟨w.heap.size + 1, 2, none⟩ = some (.int .i64 b.k) ∧ w'.cell? ⟨w.heap.size + 1, 3, none⟩ = some (.int .i64 b.n) ∧ w'.cell? ⟨w.heap.size + 1, 4, none⟩ = some (.string b.s))
                    (first | (go_split_ands; refine ⟨?_, ?_, ?_, ?_, ?_, ?_, ?_, ?_, ?_, ?_⟩ <;> exact (Hid.out hy).keep (by assumption)) | go_keep)
                    (first | (go_at_call 43; refine (order_any _ _ _ _ _ _ _).mono ?_; rintro e wq ⟨rfl, hb⟩; have hy := hid hb; clear hb) | (go_at_call 69; refine (least_m a b _).mono ?_; rintro e wq ⟨rfl, hb⟩; have hy := hid hb; clear hb))
                  all_goals
                    go_wp2
                    go_ret
                    refine ⟨ret_bool (by rw [HV.out, H.out]), ?_⟩
                    (repeat (first | exact Ext.refl _ | refine Ext.alloc ?_ _ | refine Ext.drewN ?_ _ | refine Ext.drew ?_ | refine Ext.trans ?_ (Hid.out (by assumption))))
                · have H := hid h
                  have ha : askF a.op = 70 := by rw [h]; rfl
                  rw [ha]
                  clear h ha
                  go_region_held3 (fun w' => w'.cell? ⟨w.heap.size, 0, none⟩ = some (.string a.nm) ∧ w'.cell? ⟨w.heap.size, 1, none⟩ = some (.int .i64 a.op) ∧ w'.cell? ⟨w.heap.size, 2, none⟩ = some (.int .i64 a.k) ∧ w'.cell? ⟨w.heap.size, 3, none⟩ = some (.int .i64 a.n) ∧ w'.cell? ⟨w.heap.size, 4, none⟩ = some (.string a.s) ∧ w'.cell? ⟨w.heap.size + 1, 0, none⟩ = some (.string b.nm) ∧ w'.cell? ⟨w.heap.size + 1, 1, none⟩ = some (.int .i64 b.op) ∧ w'.cell? ⟨w.heap.size + 1, 2, none⟩ = some (.int .i64 b.k) ∧ w'.cell? ⟨w.heap.size + 1, 3, none⟩ = some (.int .i64 b.n) ∧ w'.cell? ⟨w.heap.size + 1, 4, none⟩ = some (.string b.s))
                    (first | (go_split_ands; refine ⟨?_, ?_, ?_, ?_, ?_, ?_, ?_, ?_, ?_, ?_⟩ <;> exact (Hid.out hy).keep (by assumption)) | go_keep)
                    (first | (go_at_call 43; refine (order_any _ _ _ _ _ _ _).mono ?_; rintro e wq ⟨rfl, hb⟩; have hy := hid hb; clear hb) | (go_at_call 70; refine (begins_m a b _).mono ?_; rintro e wq ⟨rfl, hb⟩; have hy := hid hb; clear hb))
                  all_goals
                    go_wp2
                    go_ret
                    refine ⟨ret_bool (by rw [HV.out, H.out]), ?_⟩
                    (repeat (first | exact Ext.refl _ | refine Ext.alloc ?_ _ | refine Ext.drewN ?_ _ | refine Ext.drew ?_ | refine Ext.trans ?_ (Hid.out (by assumption))))
              · have hkkb : (a.k != b.k) = true := by simp [hkk]
                have HKK := hid hkk
                clear hkk
                go_enter Try.func19, Try.ntmps19
                go_wp2_with (go_at_call 41; refine (known_any _ _).mono ?_; rintro e w' ⟨rfl, rfl⟩)
                go_ret
                refine ⟨ret_bool (by rw [HI.out, hka, hkb, hE]; simp [HB8.out, HKK.out]), ?_⟩
                (repeat (first | exact Ext.refl _ | refine Ext.alloc ?_ _ | refine Ext.drewN ?_ _ | refine Ext.drew ?_ | refine Ext.trans ?_ (Hid.out (by assumption))))
  · go_enter Try.func19, Try.ntmps19
    go_wp2_with (go_at_call 41; refine (known_any _ _).mono ?_; rintro e w' ⟨rfl, rfl⟩)
    go_ret
    refine ⟨ret_bool (by rw [HI.out]; simp [hn]), ?_⟩
    (repeat (first | exact Ext.refl _ | refine Ext.alloc ?_ _ | refine Ext.drewN ?_ _ | refine Ext.drew ?_ | refine Ext.trans ?_ (Hid.out (by assumption))))
end Go.Proofs.Ytclmbonippjhoaa
