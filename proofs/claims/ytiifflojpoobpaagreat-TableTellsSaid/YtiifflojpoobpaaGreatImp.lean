/- Whether a test implies another one: the walk of the program's Implies. -/
import Derived.Test.YtiifflojpoobpaaGreatIs
import Derived.Deep.RegionHeld3
set_option linter.unusedVariables false
set_option linter.unusedSimpArgs false
namespace Go.Proofs.YtiifflojpoobpaaGreat
open Go.RowKit

theorem less_m (a b : T) (w : World) : Calls Tryz.prog 90 #[.agg #[.string a.nm, .int .i64 a.op, .int .i64 a.k, .int .i64 a.n, .string a.s, .string b.nm, .int .i64 b.op, .int .i64 b.k, .int .i64 b.n, .string b.s, .int .i64 (vOrd a.k a.n a.s.toList b.k b.n b.s.toList)]] w fun e w' => e = .returned (.bool (pairV 3 a.v b.op b.v)) ∧ Ext w w' := by
  have H := hid (show a.v.ord b.v = vOrd a.k a.n a.s.toList b.k b.n b.s.toList from rfl)
  go_enter Tryz.func90, Tryz.ntmps90
  go_wp2
  all_goals
    go_ret
    refine ⟨ret_bool (by unfold pairV; rw [H.out]; simp_all), ?_⟩
    (repeat (first | exact Ext.refl _ | refine Ext.alloc ?_ _ | refine Ext.drewN ?_ _ | refine Ext.drew ?_ | refine Ext.trans ?_ (Hid.out (by assumption))))

theorem most_m (a b : T) (w : World) : Calls Tryz.prog 91 #[.agg #[.string a.nm, .int .i64 a.op, .int .i64 a.k, .int .i64 a.n, .string a.s, .string b.nm, .int .i64 b.op, .int .i64 b.k, .int .i64 b.n, .string b.s, .int .i64 (vOrd a.k a.n a.s.toList b.k b.n b.s.toList)]] w fun e w' => e = .returned (.bool (pairV 4 a.v b.op b.v)) ∧ Ext w w' := by
  have H := hid (show a.v.ord b.v = vOrd a.k a.n a.s.toList b.k b.n b.s.toList from rfl)
  go_enter Tryz.func91, Tryz.ntmps91
  go_wp2
  all_goals
    go_ret
    refine ⟨ret_bool (by unfold pairV; rw [H.out]; simp_all), ?_⟩
    (repeat (first | exact Ext.refl _ | refine Ext.alloc ?_ _ | refine Ext.drewN ?_ _ | refine Ext.drew ?_ | refine Ext.trans ?_ (Hid.out (by assumption))))

theorem more_m (a b : T) (w : World) : Calls Tryz.prog 92 #[.agg #[.string a.nm, .int .i64 a.op, .int .i64 a.k, .int .i64 a.n, .string a.s, .string b.nm, .int .i64 b.op, .int .i64 b.k, .int .i64 b.n, .string b.s, .int .i64 (vOrd a.k a.n a.s.toList b.k b.n b.s.toList)]] w fun e w' => e = .returned (.bool (pairV 5 a.v b.op b.v)) ∧ Ext w w' := by
  have H := hid (show a.v.ord b.v = vOrd a.k a.n a.s.toList b.k b.n b.s.toList from rfl)
  go_enter Tryz.func92, Tryz.ntmps92
  go_wp2
  all_goals
    go_ret
    refine ⟨ret_bool (by unfold pairV; rw [H.out]; simp_all), ?_⟩
    (repeat (first | exact Ext.refl _ | refine Ext.alloc ?_ _ | refine Ext.drewN ?_ _ | refine Ext.drew ?_ | refine Ext.trans ?_ (Hid.out (by assumption))))

theorem least_m (a b : T) (w : World) : Calls Tryz.prog 93 #[.agg #[.string a.nm, .int .i64 a.op, .int .i64 a.k, .int .i64 a.n, .string a.s, .string b.nm, .int .i64 b.op, .int .i64 b.k, .int .i64 b.n, .string b.s, .int .i64 (vOrd a.k a.n a.s.toList b.k b.n b.s.toList)]] w fun e w' => e = .returned (.bool (pairV 6 a.v b.op b.v)) ∧ Ext w w' := by
  have H := hid (show a.v.ord b.v = vOrd a.k a.n a.s.toList b.k b.n b.s.toList from rfl)
  go_enter Tryz.func93, Tryz.ntmps93
  go_wp2
  all_goals
    go_ret
    refine ⟨ret_bool (by unfold pairV; rw [H.out]; simp_all), ?_⟩
    (repeat (first | exact Ext.refl _ | refine Ext.alloc ?_ _ | refine Ext.drewN ?_ _ | refine Ext.drew ?_ | refine Ext.trans ?_ (Hid.out (by assumption))))

theorem other_m (a b : T) (w : World) : Calls Tryz.prog 95 #[.agg #[.string a.nm, .int .i64 a.op, .int .i64 a.k, .int .i64 a.n, .string a.s, .string b.nm, .int .i64 b.op, .int .i64 b.k, .int .i64 b.n, .string b.s, .int .i64 (vOrd a.k a.n a.s.toList b.k b.n b.s.toList)]] w fun e w' => e = .returned (.bool false) ∧ Ext w w' := by
  go_enter Tryz.func95, Tryz.ntmps95
  go_wp2
  go_ret
  refine ⟨rfl, ?_⟩
  (repeat (first | exact Ext.refl _ | refine Ext.alloc ?_ _ | refine Ext.drewN ?_ _ | refine Ext.drew ?_ | refine Ext.trans ?_ (Hid.out (by assumption))))
theorem same_m (a b : T) (w : World) : Calls Tryz.prog 89 #[.agg #[.string a.nm, .int .i64 a.op, .int .i64 a.k, .int .i64 a.n, .string a.s, .string b.nm, .int .i64 b.op, .int .i64 b.k, .int .i64 b.n, .string b.s, .int .i64 (vOrd a.k a.n a.s.toList b.k b.n b.s.toList)]] w fun e w' => e = .returned (.bool (pairV 1 a.v b.op b.v)) ∧ Ext w w' := by
  go_enter Tryz.func89, Tryz.ntmps89
  go_wp2_with (go_at_call 73; refine (is_any b a.k a.n a.s _).mono ?_; rintro e w' ⟨rfl, hb⟩; have hx := hid hb; clear hb)
  go_ret
  refine ⟨rfl, ?_⟩
  (repeat (first | exact Ext.refl _ | refine Ext.alloc ?_ _ | refine Ext.drewN ?_ _ | refine Ext.drew ?_ | refine Ext.trans ?_ (Hid.out (by assumption))))
theorem begins_m (a b : T) (w : World) : Calls Tryz.prog 94 #[.agg #[.string a.nm, .int .i64 a.op, .int .i64 a.k, .int .i64 a.n, .string a.s, .string b.nm, .int .i64 b.op, .int .i64 b.k, .int .i64 b.n, .string b.s, .int .i64 (vOrd a.k a.n a.s.toList b.k b.n b.s.toList)]] w fun e w' => e = .returned (.bool (pairV 7 a.v b.op b.v)) ∧ Ext w w' := by
  have H := hid (show a.v.ord b.v = vOrd a.k a.n a.s.toList b.k b.n b.s.toList from rfl)
  go_enter Tryz.func94, Tryz.ntmps94
  go_wp2_with (go_at_call 88; refine (beg_any _ _ _ _ _ _ _).mono ?_; rintro e w' ⟨rfl, hb⟩; have hx := hid hb; clear hb)
  all_goals
    go_ret
    refine ⟨ret_bool (by unfold pairV; rw [H.out]; simp_all [Vl.beg, T.v]), ?_⟩
    (repeat (first | exact Ext.refl _ | refine Ext.alloc ?_ _ | refine Ext.drewN ?_ _ | refine Ext.drew ?_ | refine Ext.trans ?_ (Hid.out (by assumption))))
theorem known_any (op : Int) (w : World) : Calls Tryz.prog 74 #[.int .i64 op] w fun e w' => e = .returned (.bool (known op)) ∧ w = w' := by
  go_enter Tryz.func74, Tryz.ntmps74
  go_wp2
  all_goals
    go_ret
    refine ⟨ret_bool (by unfold known; simp_all <;> omega), rfl⟩
/-- what asks a pair -/
def askF (op : Int) : Nat := if op = 1 then 89 else if op = 3 then 90 else if op = 4 then 91 else if op = 5 then 92 else if op = 6 then 93 else if op = 7 then 94 else 95
theorem asked_any (op : Int) (w : World) : Calls Tryz.prog 75 #[.int .i64 op] w fun e w' => e = .returned (.func (.func (askF op)) #[] #[]) ∧ w = w' := by
  go_enter Tryz.func75, Tryz.ntmps75
  go_wp2
  all_goals
    go_ret
    refine ⟨?_, rfl⟩
    unfold askF
    simp_all
theorem run_eqT (a b : T) (w : World) :
    (binOp .eql 50 (.agg #[.string a.nm, .int .i64 a.op, .int .i64 a.k, .int .i64 a.n, .string a.s]) (.agg #[.string b.nm, .int .i64 b.op, .int .i64 b.k, .int .i64 b.n, .string b.s])).run Tryz.prog w = .ok (.bool (decide (a.ts = b.ts))) w := by
  have e : (a.ts = b.ts) ↔ (a.nm.toList = b.nm.toList ∧ a.op = b.op ∧ a.k = b.k ∧ a.n = b.n ∧ a.s.toList = b.s.toList) := by simp [T.ts, T.v]
  have e' : decide (a.ts = b.ts) = decide (a.nm.toList = b.nm.toList ∧ a.op = b.op ∧ a.k = b.k ∧ a.n = b.n ∧ a.s.toList = b.s.toList) := decide_eq_decide.2 e
  rw [e']
  clear e e'
  by_cases h1 : a.nm.toList = b.nm.toList
  · by_cases h2 : a.op = b.op
    · by_cases h3 : a.k = b.k
      · by_cases h4 : a.n = b.n
        · by_cases h5 : a.s.toList = b.s.toList
          · simp [h1, h2, h3, h4, h5, go_sem]
          · simp [h1, h2, h3, h4, h5, go_sem]
        · simp [h1, h2, h3, h4, go_sem]
      · simp [h1, h2, h3, go_sem]
    · simp [h1, h2, go_sem]
  · simp [h1, go_sem]
theorem imp_eq (a b : T) : impT a.ts b.ts = (decide (a.nm.toList = b.nm.toList) && known a.op && known b.op && (decide (a.ts = b.ts) || decide (b.op = 8) || (!decide (a.op = 8) && decide (a.k = b.k) && pairV a.op a.v b.op b.v))) := rfl
theorem known_ops {op : Int} (h : known op = true) (h8 : op ≠ 8) : op = 1 ∨ op = 2 ∨ op = 3 ∨ op = 4 ∨ op = 5 ∨ op = 6 ∨ op = 7 := by
  unfold known at h; have := of_decide_eq_true h; omega
theorem pairV_2 (a : Vl) (op' : Int) (b : Vl) : pairV 2 a op' b = false := rfl
set_option maxRecDepth 100000 in
set_option maxHeartbeats 2000000 in
theorem implies_any (a b : T) (w : World) : Calls Tryz.prog 69 #[.agg #[.string a.nm, .int .i64 a.op, .int .i64 a.k, .int .i64 a.n, .string a.s], .agg #[.string b.nm, .int .i64 b.op, .int .i64 b.k, .int .i64 b.n, .string b.s]] w fun e w' => e = .returned (.bool (impT a.ts b.ts)) ∧ Ext w w' := by
  have HI := hid (imp_eq a b)
  have heq := run_eqT a b
  by_cases hn : a.nm.toList = b.nm.toList
  · cases hka : known a.op with
    | false =>
      go_enter Tryz.func69, Tryz.ntmps69
      go_wp2_with (go_at_call 74; refine (known_any _ _).mono ?_; rintro e w' ⟨rfl, rfl⟩)
      go_ret
      refine ⟨ret_bool (by rw [HI.out, hka]; simp), ?_⟩
      (repeat (first | exact Ext.refl _ | refine Ext.alloc ?_ _ | refine Ext.drewN ?_ _ | refine Ext.drew ?_ | refine Ext.trans ?_ (Hid.out (by assumption))))
    | true =>
      cases hkb : known b.op with
      | false =>
        go_enter Tryz.func69, Tryz.ntmps69
        go_wp2_with (go_at_call 74; refine (known_any _ _).mono ?_; rintro e w' ⟨rfl, rfl⟩)
        go_ret
        refine ⟨ret_bool (by rw [HI.out, hkb]; simp), ?_⟩
        (repeat (first | exact Ext.refl _ | refine Ext.alloc ?_ _ | refine Ext.drewN ?_ _ | refine Ext.drew ?_ | refine Ext.trans ?_ (Hid.out (by assumption))))
      | true =>
        have hkb' : (!known b.op) = false := by rw [hkb]; rfl
        cases hE : decide (a.ts = b.ts) with
        | true =>
          go_enter Tryz.func69, Tryz.ntmps69
          go_wp2_with (go_at_call 74; refine (known_any _ _).mono ?_; rintro e w' ⟨rfl, rfl⟩)
          go_ret
          refine ⟨ret_bool (by rw [HI.out, hka, hkb, hE]; simp [hn]), ?_⟩
          (repeat (first | exact Ext.refl _ | refine Ext.alloc ?_ _ | refine Ext.drewN ?_ _ | refine Ext.drew ?_ | refine Ext.trans ?_ (Hid.out (by assumption))))
        | false =>
          by_cases hb8 : b.op = 8
          · have hb8b : (b.op == 8) = true := by simp [hb8]
            have HB8 := hid hb8
            clear hb8
            go_enter Tryz.func69, Tryz.ntmps69
            go_wp2_with (go_at_call 74; refine (known_any _ _).mono ?_; rintro e w' ⟨rfl, rfl⟩)
            go_ret
            refine ⟨ret_bool (by rw [HI.out, hka, hkb, hE]; simp [hn, HB8.out]), ?_⟩
            (repeat (first | exact Ext.refl _ | refine Ext.alloc ?_ _ | refine Ext.drewN ?_ _ | refine Ext.drew ?_ | refine Ext.trans ?_ (Hid.out (by assumption))))
          · have hb8b : (b.op == 8) = false := by simp [hb8]
            have HB8 := hid hb8
            clear hb8
            by_cases ha8 : a.op = 8
            · have ha8b : (a.op == 8) = true := by simp [ha8]
              have HA8 := hid ha8
              clear ha8
              go_enter Tryz.func69, Tryz.ntmps69
              go_wp2_with (go_at_call 74; refine (known_any _ _).mono ?_; rintro e w' ⟨rfl, rfl⟩)
              go_ret
              refine ⟨ret_bool (by rw [HI.out, hka, hkb, hE]; simp [HB8.out, HA8.out]), ?_⟩
              (repeat (first | exact Ext.refl _ | refine Ext.alloc ?_ _ | refine Ext.drewN ?_ _ | refine Ext.drew ?_ | refine Ext.trans ?_ (Hid.out (by assumption))))
            · have ha8b : (a.op == 8) = false := by simp [ha8]
              have HA8 := hid ha8
              have hops := known_ops hka ha8
              clear ha8
              by_cases hkk : a.k = b.k
              · have hkkb : (a.k != b.k) = false := by simp [hkk]
                have HKK := hid hkk
                have HV := hid (show impT a.ts b.ts = pairV a.op a.v b.op b.v from by rw [HI.out, hka, hkb, hE]; simp [hn, HB8.out, HA8.out, hkk])
                clear hkk
                have HOPS := hid hops
                clear hops
                go_enter Tryz.func69, Tryz.ntmps69
                go_upto_region 8 with (first | (go_at_call 74; refine (known_any _ _).mono ?_; rintro e w' ⟨rfl, rfl⟩) | (go_at_call 75; refine (asked_any _ _).mono ?_; rintro e w' ⟨rfl, rfl⟩))
                have BA : ((w.alloc (Obj.cells #[.string a.nm, .int .i64 a.op, .int .i64 a.k, .int .i64 a.n, .string a.s] 50)).alloc (Obj.cells #[.string b.nm, .int .i64 b.op, .int .i64 b.k, .int .i64 b.n, .string b.s] 50)).heap[w.heap.size]? = some (Obj.cells #[.string a.nm, .int .i64 a.op, .int .i64 a.k, .int .i64 a.n, .string a.s] 50) := by (repeat (first | (refine heap_new ?_; (simp; done)) | refine heap_old (by first | (simp; done) | (simp; omega)) ?_))
                have BB : ((w.alloc (Obj.cells #[.string a.nm, .int .i64 a.op, .int .i64 a.k, .int .i64 a.n, .string a.s] 50)).alloc (Obj.cells #[.string b.nm, .int .i64 b.op, .int .i64 b.k, .int .i64 b.n, .string b.s] 50)).heap[w.heap.size + 1]? = some (Obj.cells #[.string b.nm, .int .i64 b.op, .int .i64 b.k, .int .i64 b.n, .string b.s] 50) := by (repeat (first | (refine heap_new ?_; (simp; done)) | refine heap_old (by first | (simp; done) | (simp; omega)) ?_))
                have HBA := hid BA
                have HBB := hid BB
                clear BA BB heq
                rcases HOPS.out with h | h | h | h | h | h | h
                · have H := hid h
                  have ha : askF a.op = 89 := by rw [h]; rfl
                  rw [ha]
                  clear h ha
                  go_region_held3 (fun w' => w'.cell? ⟨w.heap.size, 0, none⟩ = some (.string a.nm) ∧ w'.cell? ⟨w.heap.size, 1, none⟩ = some (.int .i64 a.op) ∧ w'.cell? ⟨w.heap.size, 2, none⟩ = some (.int .i64 a.k) ∧ w'.cell? ⟨w.heap.size, 3, none⟩ = some (.int .i64 a.n) ∧ w'.cell? ⟨w.heap.size, 4, none⟩ = some (.string a.s) ∧ w'.cell? ⟨w.heap.size + 1, 0, none⟩ = some (.string b.nm) ∧ w'.cell? ⟨w.heap.size + 1, 1, none⟩ = some (.int .i64 b.op) ∧ w'.cell? ⟨w.heap.size + 1, 2, none⟩ = some (.int .i64 b.k) ∧ w'.cell? ⟨w.heap.size + 1, 3, none⟩ = some (.int .i64 b.n) ∧ w'.cell? ⟨w.heap.size + 1, 4, none⟩ = some (.string b.s))
                    (first | (go_split_ands; refine ⟨?_, ?_, ?_, ?_, ?_, ?_, ?_, ?_, ?_, ?_⟩ <;> exact (Hid.out hy).keep (by assumption)) | go_keep)
                    (first | (go_at_call 76; refine (order_any _ _ _ _ _ _ _).mono ?_; rintro e wq ⟨rfl, hb⟩; have hy := hid hb; clear hb) | (go_at_call 89; refine (same_m a b _).mono ?_; rintro e wq ⟨rfl, hb⟩; have hy := hid hb; clear hb))
                  all_goals
                    go_wp2
                    go_ret
                    refine ⟨ret_bool (by rw [HV.out, H.out]), ?_⟩
                    (repeat (first | exact Ext.refl _ | refine Ext.alloc ?_ _ | refine Ext.drewN ?_ _ | refine Ext.drew ?_ | refine Ext.trans ?_ (Hid.out (by assumption))))
                · have H := hid h
                  have ha : askF a.op = 95 := by rw [h]; rfl
                  rw [ha]
                  clear h ha
                  go_region_held3 (fun w' => w'.cell? ⟨w.heap.size, 0, none⟩ = some (.string a.nm) ∧ w'.cell? ⟨w.heap.size, 1, none⟩ = some (.int .i64 a.op) ∧ w'.cell? ⟨w.heap.size, 2, none⟩ = some (.int .i64 a.k) ∧ w'.cell? ⟨w.heap.size, 3, none⟩ = some (.int .i64 a.n) ∧ w'.cell? ⟨w.heap.size, 4, none⟩ = some (.string a.s) ∧ w'.cell? ⟨w.heap.size + 1, 0, none⟩ = some (.string b.nm) ∧ w'.cell? ⟨w.heap.size + 1, 1, none⟩ = some (.int .i64 b.op) ∧ w'.cell? ⟨w.heap.size + 1, 2, none⟩ = some (.int .i64 b.k) ∧ w'.cell? ⟨w.heap.size + 1, 3, none⟩ = some (.int .i64 b.n) ∧ w'.cell? ⟨w.heap.size + 1, 4, none⟩ = some (.string b.s))
                    (first | (go_split_ands; refine ⟨?_, ?_, ?_, ?_, ?_, ?_, ?_, ?_, ?_, ?_⟩ <;> exact (Hid.out hy).keep (by assumption)) | go_keep)
                    (first | (go_at_call 76; refine (order_any _ _ _ _ _ _ _).mono ?_; rintro e wq ⟨rfl, hb⟩; have hy := hid hb; clear hb) | (go_at_call 95; refine (other_m a b _).mono ?_; rintro e wq ⟨rfl, hb⟩; have hy := hid hb; clear hb))
                  all_goals
                    go_wp2
                    go_ret
                    refine ⟨ret_bool (by rw [HV.out, H.out]; rfl), ?_⟩
                    (repeat (first | exact Ext.refl _ | refine Ext.alloc ?_ _ | refine Ext.drewN ?_ _ | refine Ext.drew ?_ | refine Ext.trans ?_ (Hid.out (by assumption))))
                · have H := hid h
                  have ha : askF a.op = 90 := by rw [h]; rfl
                  rw [ha]
                  clear h ha
                  go_region_held3 (fun w' => w'.cell? ⟨w.heap.size, 0, none⟩ = some (.string a.nm) ∧ w'.cell? ⟨w.heap.size, 1, none⟩ = some (.int .i64 a.op) ∧ w'.cell? ⟨w.heap.size, 2, none⟩ = some (.int .i64 a.k) ∧ w'.cell? ⟨w.heap.size, 3, none⟩ = some (.int .i64 a.n) ∧ w'.cell? ⟨w.heap.size, 4, none⟩ = some (.string a.s) ∧ w'.cell? ⟨w.heap.size + 1, 0, none⟩ = some (.string b.nm) ∧ w'.cell? ⟨w.heap.size + 1, 1, none⟩ = some (.int .i64 b.op) ∧ w'.cell? ⟨w.heap.size + 1, 2, none⟩ = some (.int .i64 b.k) ∧ w'.cell? ⟨w.heap.size + 1, 3, none⟩ = some (.int .i64 b.n) ∧ w'.cell? ⟨w.heap.size + 1, 4, none⟩ = some (.string b.s))
                    (first | (go_split_ands; refine ⟨?_, ?_, ?_, ?_, ?_, ?_, ?_, ?_, ?_, ?_⟩ <;> exact (Hid.out hy).keep (by assumption)) | go_keep)
                    (first | (go_at_call 76; refine (order_any _ _ _ _ _ _ _).mono ?_; rintro e wq ⟨rfl, hb⟩; have hy := hid hb; clear hb) | (go_at_call 90; refine (less_m a b _).mono ?_; rintro e wq ⟨rfl, hb⟩; have hy := hid hb; clear hb))
                  all_goals
                    go_wp2
                    go_ret
                    refine ⟨ret_bool (by rw [HV.out, H.out]), ?_⟩
                    (repeat (first | exact Ext.refl _ | refine Ext.alloc ?_ _ | refine Ext.drewN ?_ _ | refine Ext.drew ?_ | refine Ext.trans ?_ (Hid.out (by assumption))))
                · have H := hid h
                  have ha : askF a.op = 91 := by rw [h]; rfl
                  rw [ha]
                  clear h ha
                  go_region_held3 (fun w' => w'.cell? ⟨w.heap.size, 0, none⟩ = some (.string a.nm) ∧ w'.cell? ⟨w.heap.size, 1, none⟩ = some (.int .i64 a.op) ∧ w'.cell? ⟨w.heap.size, 2, none⟩ = some (.int .i64 a.k) ∧ w'.cell? ⟨w.heap.size, 3, none⟩ = some (.int .i64 a.n) ∧ w'.cell? ⟨w.heap.size, 4, none⟩ = some (.string a.s) ∧ w'.cell? ⟨w.heap.size + 1, 0, none⟩ = some (.string b.nm) ∧ w'.cell? ⟨w.heap.size + 1, 1, none⟩ = some (.int .i64 b.op) ∧ w'.cell? ⟨w.heap.size + 1, 2, none⟩ = some (.int .i64 b.k) ∧ w'.cell? ⟨w.heap.size + 1, 3, none⟩ = some (.int .i64 b.n) ∧ w'.cell? ⟨w.heap.size + 1, 4, none⟩ = some (.string b.s))
                    (first | (go_split_ands; refine ⟨?_, ?_, ?_, ?_, ?_, ?_, ?_, ?_, ?_, ?_⟩ <;> exact (Hid.out hy).keep (by assumption)) | go_keep)
                    (first | (go_at_call 76; refine (order_any _ _ _ _ _ _ _).mono ?_; rintro e wq ⟨rfl, hb⟩; have hy := hid hb; clear hb) | (go_at_call 91; refine (most_m a b _).mono ?_; rintro e wq ⟨rfl, hb⟩; have hy := hid hb; clear hb))
                  all_goals
                    go_wp2
                    go_ret
                    refine ⟨ret_bool (by rw [HV.out, H.out]), ?_⟩
                    (repeat (first | exact Ext.refl _ | refine Ext.alloc ?_ _ | refine Ext.drewN ?_ _ | refine Ext.drew ?_ | refine Ext.trans ?_ (Hid.out (by assumption))))
                · have H := hid h
                  have ha : askF a.op = 92 := by rw [h]; rfl
                  rw [ha]
                  clear h ha
                  go_region_held3 (fun w' => w'.cell? ⟨w.heap.size, 0, none⟩ = some (.string a.nm) ∧ w'.cell? ⟨w.heap.size, 1, none⟩ = some (.int .i64 a.op) ∧ w'.cell? ⟨w.heap.size, 2, none⟩ = some (.int .i64 a.k) ∧ w'.cell? ⟨w.heap.size, 3, none⟩ = some (.int .i64 a.n) ∧ w'.cell? ⟨w.heap.size, 4, none⟩ = some (.string a.s) ∧ w'.cell? ⟨w.heap.size + 1, 0, none⟩ = some (.string b.nm) ∧ w'.cell? ⟨w.heap.size + 1, 1, none⟩ = some (.int .i64 b.op) ∧ w'.cell? ⟨w.heap.size + 1, 2, none⟩ = some (.int .i64 b.k) ∧ w'.cell? ⟨w.heap.size + 1, 3, none⟩ = some (.int .i64 b.n) ∧ w'.cell? ⟨w.heap.size + 1, 4, none⟩ = some (.string b.s))
                    (first | (go_split_ands; refine ⟨?_, ?_, ?_, ?_, ?_, ?_, ?_, ?_, ?_, ?_⟩ <;> exact (Hid.out hy).keep (by assumption)) | go_keep)
                    (first | (go_at_call 76; refine (order_any _ _ _ _ _ _ _).mono ?_; rintro e wq ⟨rfl, hb⟩; have hy := hid hb; clear hb) | (go_at_call 92; refine (more_m a b _).mono ?_; rintro e wq ⟨rfl, hb⟩; have hy := hid hb; clear hb))
                  all_goals
                    go_wp2
                    go_ret
                    refine ⟨ret_bool (by rw [HV.out, H.out]), ?_⟩
                    (repeat (first | exact Ext.refl _ | refine Ext.alloc ?_ _ | refine Ext.drewN ?_ _ | refine Ext.drew ?_ | refine Ext.trans ?_ (Hid.out (by assumption))))
                · have H := hid h
                  have ha : askF a.op = 93 := by rw [h]; rfl
                  rw [ha]
                  clear h ha
                  go_region_held3 (fun w' => w'.cell? ⟨w.heap.size, 0, none⟩ = some (.string a.nm) ∧ w'.cell? ⟨w.heap.size, 1, none⟩ = some (.int .i64 a.op) ∧ w'.cell? ⟨w.heap.size, 2, none⟩ = some (.int .i64 a.k) ∧ w'.cell? ⟨w.heap.size, 3, none⟩ = some (.int .i64 a.n) ∧ w'.cell? ⟨w.heap.size, 4, none⟩ = some (.string a.s) ∧ w'.cell? ⟨w.heap.size + 1, 0, none⟩ = some (.string b.nm) ∧ w'.cell? ⟨w.heap.size + 1, 1, none⟩ = some (.int .i64 b.op) ∧ w'.cell? ⟨w.heap.size + 1, 2, none⟩ = some (.int .i64 b.k) ∧ w'.cell? ⟨w.heap.size + 1, 3, none⟩ = some (.int .i64 b.n) ∧ w'.cell? ⟨w.heap.size + 1, 4, none⟩ = some (.string b.s))
                    (first | (go_split_ands; refine ⟨?_, ?_, ?_, ?_, ?_, ?_, ?_, ?_, ?_, ?_⟩ <;> exact (Hid.out hy).keep (by assumption)) | go_keep)
                    (first | (go_at_call 76; refine (order_any _ _ _ _ _ _ _).mono ?_; rintro e wq ⟨rfl, hb⟩; have hy := hid hb; clear hb) | (go_at_call 93; refine (least_m a b _).mono ?_; rintro e wq ⟨rfl, hb⟩; have hy := hid hb; clear hb))
                  all_goals
                    go_wp2
                    go_ret
                    refine ⟨ret_bool (by rw [HV.out, H.out]), ?_⟩
                    (repeat (first | exact Ext.refl _ | refine Ext.alloc ?_ _ | refine Ext.drewN ?_ _ | refine Ext.drew ?_ | refine Ext.trans ?_ (Hid.out (by assumption))))
                · have H := hid h
                  have ha : askF a.op = 94 := by rw [h]; rfl
                  rw [ha]
                  clear h ha
                  go_region_held3 (fun w' => w'.cell? ⟨w.heap.size, 0, none⟩ = some (.string a.nm) ∧ w'.cell? ⟨w.heap.size, 1, none⟩ = some (.int .i64 a.op) ∧ w'.cell? ⟨w.heap.size, 2, none⟩ = some (.int .i64 a.k) ∧ w'.cell? ⟨w.heap.size, 3, none⟩ = some (.int .i64 a.n) ∧ w'.cell? ⟨w.heap.size, 4, none⟩ = some (.string a.s) ∧ w'.cell? ⟨w.heap.size + 1, 0, none⟩ = some (.string b.nm) ∧ w'.cell? ⟨w.heap.size + 1, 1, none⟩ = some (.int .i64 b.op) ∧ w'.cell? ⟨w.heap.size + 1, 2, none⟩ = some (.int .i64 b.k) ∧ w'.cell? ⟨w.heap.size + 1, 3, none⟩ = some (.int .i64 b.n) ∧ w'.cell? ⟨w.heap.size + 1, 4, none⟩ = some (.string b.s))
                    (first | (go_split_ands; refine ⟨?_, ?_, ?_, ?_, ?_, ?_, ?_, ?_, ?_, ?_⟩ <;> exact (Hid.out hy).keep (by assumption)) | go_keep)
                    (first | (go_at_call 76; refine (order_any _ _ _ _ _ _ _).mono ?_; rintro e wq ⟨rfl, hb⟩; have hy := hid hb; clear hb) | (go_at_call 94; refine (begins_m a b _).mono ?_; rintro e wq ⟨rfl, hb⟩; have hy := hid hb; clear hb))
                  all_goals
                    go_wp2
                    go_ret
                    refine ⟨ret_bool (by rw [HV.out, H.out]), ?_⟩
                    (repeat (first | exact Ext.refl _ | refine Ext.alloc ?_ _ | refine Ext.drewN ?_ _ | refine Ext.drew ?_ | refine Ext.trans ?_ (Hid.out (by assumption))))
              · have hkkb : (a.k != b.k) = true := by simp [hkk]
                have HKK := hid hkk
                clear hkk
                go_enter Tryz.func69, Tryz.ntmps69
                go_wp2_with (go_at_call 74; refine (known_any _ _).mono ?_; rintro e w' ⟨rfl, rfl⟩)
                go_ret
                refine ⟨ret_bool (by rw [HI.out, hka, hkb, hE]; simp [HB8.out, HKK.out]), ?_⟩
                (repeat (first | exact Ext.refl _ | refine Ext.alloc ?_ _ | refine Ext.drewN ?_ _ | refine Ext.drew ?_ | refine Ext.trans ?_ (Hid.out (by assumption))))
  · go_enter Tryz.func69, Tryz.ntmps69
    go_wp2_with (go_at_call 74; refine (known_any _ _).mono ?_; rintro e w' ⟨rfl, rfl⟩)
    go_ret
    refine ⟨ret_bool (by rw [HI.out]; simp [hn]), ?_⟩
    (repeat (first | exact Ext.refl _ | refine Ext.alloc ?_ _ | refine Ext.drewN ?_ _ | refine Ext.drew ?_ | refine Ext.trans ?_ (Hid.out (by assumption))))
end Go.Proofs.YtiifflojpoobpaaGreat
