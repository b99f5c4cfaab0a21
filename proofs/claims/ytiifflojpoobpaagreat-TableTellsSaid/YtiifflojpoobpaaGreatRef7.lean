/- The document's answer for filters: the walks of its Find, Holds, Matches, Any, Covers, covered. -/
import Derived.Test.YtiifflojpoobpaaGreatRImp
import Derived.Test.YtiifflojpoobpaaGreatChk
import Derived.Deep.RegionHeld3
set_option linter.unusedVariables false
set_option linter.unusedSimpArgs false
namespace Go.Proofs.YtiifflojpoobpaaGreat
open Go.RowKit

theorem find_take {xs : List AT} {nm : List UInt8} {k : Nat} (hk : k < xs.length) (h : (xs.take k).any (fun x => decide (x.nm.toList = nm)) = false) (he : decide (xs[k].nm.toList = nm) = true) : findA xs nm = some xs[k] := by
  unfold findA
  rw [List.find?_eq_some_iff_getElem]
  refine ⟨he, k, hk, rfl, fun j hj => ?_⟩
  rw [List.any_eq_false] at h
  have := h xs[j] (List.mem_take_iff_getElem.2 ⟨j, by omega, rfl⟩)
  simpa using this
theorem find_none' {xs : List AT} {nm : List UInt8} (h : xs.any (fun x => decide (x.nm.toList = nm)) = false) : findA xs nm = none := by
  unfold findA
  rw [List.find?_eq_none]
  intro x hx
  exact List.any_eq_false.1 h x hx
set_option maxHeartbeats 2000000 in
theorem rfind_any (a : Option Addr) (n cap : Nat) (xs : List AT) (nm : ByteArray) (w : World) (hS : Sl w 4 AT.cs a n cap xs) :
    Calls Tryz.prog 104 #[.slice a n cap, .string nm] w fun e w' => e = .returned (findR (findA xs nm.toList)) ∧ Ext w w' := by
  obtain rfl := hS.neq
  have hm := hS.max
  have hl := hS.len
  unfold maxLen at hm
  have HS := hid hS
  clear hS
  go_enter Tryz.func104, Tryz.ntmps104
  go_wp2_with fail
  go_loopg [6] (xs.length) (fun g st wr => ∃ k : Nat, g + k = xs.length ∧ st = .int .i64 k ∧ Hid ((xs.take k).any (fun x => decide (x.nm.toList = nm.toList)) = false) ∧ wr = w.alloc (Obj.cells #[.int .i64 0, .int .i64 0, .string ⟨#[]⟩] 48))
  case atStart => exact ⟨0, by omega, rfl, rfl, rfl⟩
  case round =>
    obtain ⟨k, hg, rfl, hno, rfl⟩ := hrel
    by_cases hk : k < xs.length
    · obtain ⟨b, o, rfl, hc⟩ := HS.out.get k hk
      obtain ⟨c0, c1, c2, c3⟩ := cellsA (w := w.alloc (Obj.cells #[.int .i64 0, .int .i64 0, .string ⟨#[]⟩] 48)) (b := b) (o := o + k * 4) (x := xs[k]) (fun j v hj => ((Ext.refl w).alloc _).keep (hc j v hj))
      clear hc
      have b0 : (0 : Int) ≤ (k : Int) := by omega
      have b1 : (k : Int) < (xs.length : Int) := by omega
      cases he : decide (xs[k].nm.toList = nm.toList) with
      | true =>
        have he' := of_decide_eq_true he
        have hbb : (xs[k].nm.toList == nm.toList) = true := by simp [he']
        have H2 := hid (find_take hk hno.out he)
        clear he
        go_wp2_with fail
        exact bodyPost_ret (v := .tuple #[.agg #[.int .i64 xs[k].k, .int .i64 xs[k].n, .string xs[k].s], .bool true]) (by simp [results, Tryz.results104, go_sem]) rfl ⟨by rw [H2.out]; rfl, by repeat (first | exact Ext.refl _ | refine Ext.alloc ?_ _ | refine Ext.setCell ?_ (by simp) _)⟩
      | false =>
        have he' : ¬ xs[k].nm.toList = nm.toList := of_decide_eq_false he
        have hbb : (xs[k].nm.toList == nm.toList) = false := by simp [he']
        have He := hid he
        clear he
        go_wp2_with fail
        go_roundg (gk - 1)
        case measure => omega
        case rel => exact ⟨k + 1, by omega, by go_num, any_take (p := fun x : AT => decide (x.nm.toList = nm.toList)) hk hno.out He.out, rfl⟩
    · have hk' : xs.take k = xs := List.take_of_length_le (by omega)
      rw [hk'] at hno
      have H2 := hid (find_none' hno.out)
      clear hk'
      go_wp2
      exact bodyPost_ret (v := .tuple #[.agg #[.int .i64 0, .int .i64 0, .string ⟨#[]⟩], .bool false]) (by simp [results, Tryz.results104, go_sem]) rfl ⟨by rw [H2.out]; rfl, by repeat (first | exact Ext.refl _ | refine Ext.alloc ?_ _ | refine Ext.setCell ?_ (by simp) _)⟩
set_option maxHeartbeats 1000000 in
theorem rholds_any (t : T) (a : Option Addr) (n cap : Nat) (xs : List AT) (w : World) (hS : Sl w 4 AT.cs a n cap xs) :
    Calls Tryz.prog 78 #[.agg #[.string t.nm, .int .i64 t.op, .int .i64 t.k, .int .i64 t.n, .string t.s], .slice a n cap] w fun e w' => e = .returned (.bool (holdsT t xs)) ∧ Ext w w' := by
  have HS := hid hS
  clear hS
  cases hf : findA xs t.nm.toList with
  | none =>
    have HF := hid hf
    have HH := hid (show holdsT t xs = false from by unfold holdsT; rw [hf])
    clear hf
    go_enter Tryz.func78, Tryz.ntmps78
    go_wp2_with (go_at_call 104; refine (rfind_any _ _ _ xs t.nm _ (HS.out.ext (by (repeat (first | exact Ext.refl _ | refine Ext.alloc ?_ _ | refine Ext.drewN ?_ _ | refine Ext.drew ?_ | refine Ext.trans ?_ (Hid.out (by assumption))))))).mono ?_; rintro e w' ⟨he, hb⟩; rw [HF.out] at he; unfold findR at he; subst he; have t0 : w'.cell? ⟨w.heap.size, 0, none⟩ = some (.string t.nm) := hb.keep (by simp); have t1 : w'.cell? ⟨w.heap.size, 1, none⟩ = some (.int .i64 t.op) := hb.keep (by simp); have t2 : w'.cell? ⟨w.heap.size, 2, none⟩ = some (.int .i64 t.k) := hb.keep (by simp); have t3 : w'.cell? ⟨w.heap.size, 3, none⟩ = some (.int .i64 t.n) := hb.keep (by simp); have t4 : w'.cell? ⟨w.heap.size, 4, none⟩ = some (.string t.s) := hb.keep (by simp); have hz : w.heap.size < w'.heap.size := (by have := hb.size; simp at this; omega); have hx := hid hb; clear hb)
    go_ret
    refine ⟨ret_bool HH.out.symm, ?_⟩
    (repeat (first | exact Ext.refl _ | refine Ext.alloc ?_ _ | refine Ext.drewN ?_ _ | refine Ext.drew ?_ | refine Ext.trans ?_ (Hid.out (by assumption))))
  | some x =>
    have HF := hid hf
    have HH := hid (show holdsT t xs = isV t.op t.v x.v from by unfold holdsT; rw [hf])
    clear hf
    go_enter Tryz.func78, Tryz.ntmps78
    go_wp2_with (first | (go_at_call 104; refine (rfind_any _ _ _ xs t.nm _ (HS.out.ext (by (repeat (first | exact Ext.refl _ | refine Ext.alloc ?_ _ | refine Ext.drewN ?_ _ | refine Ext.drew ?_ | refine Ext.trans ?_ (Hid.out (by assumption))))))).mono ?_; rintro e w' ⟨he, hb⟩; rw [HF.out] at he; unfold findR at he; subst he; have t0 : w'.cell? ⟨w.heap.size, 0, none⟩ = some (.string t.nm) := hb.keep (by simp); have t1 : w'.cell? ⟨w.heap.size, 1, none⟩ = some (.int .i64 t.op) := hb.keep (by simp); have t2 : w'.cell? ⟨w.heap.size, 2, none⟩ = some (.int .i64 t.k) := hb.keep (by simp); have t3 : w'.cell? ⟨w.heap.size, 3, none⟩ = some (.int .i64 t.n) := hb.keep (by simp); have t4 : w'.cell? ⟨w.heap.size, 4, none⟩ = some (.string t.s) := hb.keep (by simp); have hz : w.heap.size < w'.heap.size := (by have := hb.size; simp at this; omega); have hx := hid hb; clear hb) | (go_at_call 100; refine (ris_any t x.k x.n x.s _).mono ?_; rintro e w2 ⟨rfl, hb⟩; have hy := hid hb; clear hb))
    go_ret
    refine ⟨ret_bool HH.out.symm, ?_⟩
    (repeat (first | exact Ext.refl _ | refine Ext.alloc ?_ _ | refine Ext.drewN ?_ _ | refine Ext.drew ?_ | refine Ext.trans ?_ (Hid.out (by assumption))))
set_option maxHeartbeats 1000000 in
theorem rmatches_any (fa : Option Addr) (fn fc : Nat) (fs : List T) (a : Option Addr) (n cap : Nat) (xs : List AT) (w : World) (hF : Sl w 5 T.cs fa fn fc fs) (hS : Sl w 4 AT.cs a n cap xs) :
    Calls Tryz.prog 71 #[.slice fa fn fc, .slice a n cap] w fun e w' => e = .returned (.bool (matchesT fs xs)) ∧ Ext w w' := by
  obtain rfl := hF.neq
  have hm := hF.max
  have hl := hF.len
  unfold maxLen at hm
  have HF := hid hF
  have HS := hid hS
  clear hF hS
  go_enter Tryz.func71, Tryz.ntmps71
  go_wp2_with fail
  go_loopg [5, 6] (fs.length) (fun g st _ wr => ∃ k : Nat, g + k = fs.length ∧ st = .int .i64 k ∧ Hid ((fs.take k).all (fun t => holdsT t xs) = true) ∧ Hid (Ext w wr))
  case atStart => exact ⟨0, by omega, rfl, rfl, Ext.refl _⟩
  case round =>
    obtain ⟨k, hg, rfl, hok, hx⟩ := hrel
    by_cases hk : k < fs.length
    · obtain ⟨b, o, rfl, hc⟩ := HF.out.get k hk
      obtain ⟨c0, c1, c2, c3, c4⟩ := cellsT (w := wr) (b := b) (o := o + k * 5) (x := fs[k]) (fun j v hj => hx.out.keep (hc j v hj))
      clear hc
      have b0 : (0 : Int) ≤ (k : Int) := by omega
      have b1 : (k : Int) < (fs.length : Int) := by omega
      cases he : holdsT fs[k] xs with
      | false =>
        have He := hid he
        clear he
        go_wp2_with (go_at_call 78; refine (rholds_any fs[k] _ _ _ xs _ (HS.out.ext (by (repeat (first | exact Ext.refl _ | refine Ext.alloc ?_ _ | refine Ext.drewN ?_ _ | refine Ext.drew ?_ | refine Ext.trans ?_ (Hid.out (by assumption))))))).mono ?_; rintro e w' ⟨he, hb⟩; rw [He.out] at he; subst he; have hy := hid hb; clear hb)
        go_ret
        refine ⟨ret_bool (all_no (p := fun t => holdsT t xs) hk He.out), ?_⟩
        (repeat (first | exact Ext.refl _ | refine Ext.alloc ?_ _ | refine Ext.drewN ?_ _ | refine Ext.drew ?_ | refine Ext.trans ?_ (Hid.out (by assumption))))
      | true =>
        have He := hid he
        clear he
        go_wp2_with (go_at_call 78; refine (rholds_any fs[k] _ _ _ xs _ (HS.out.ext (by (repeat (first | exact Ext.refl _ | refine Ext.alloc ?_ _ | refine Ext.drewN ?_ _ | refine Ext.drew ?_ | refine Ext.trans ?_ (Hid.out (by assumption))))))).mono ?_; rintro e w' ⟨he, hb⟩; rw [He.out] at he; subst he; have hy := hid hb; clear hb)
        go_roundg (gk - 1)
        case measure => omega
        case rel => exact ⟨k + 1, by omega, by go_num, all_take (p := fun t => holdsT t xs) hk hok.out He.out, (by (repeat (first | exact Ext.refl _ | refine Ext.alloc ?_ _ | refine Ext.drewN ?_ _ | refine Ext.drew ?_ | refine Ext.trans ?_ (Hid.out (by assumption)))))⟩
    · have hk' : fs.take k = fs := List.take_of_length_le (by omega)
      rw [hk'] at hok
      clear hk'
      go_wp2
      go_ret
      refine ⟨ret_bool hok.out.symm, ?_⟩
      (repeat (first | exact Ext.refl _ | refine Ext.alloc ?_ _ | refine Ext.drewN ?_ _ | refine Ext.drew ?_ | refine Ext.trans ?_ (Hid.out (by assumption))))
set_option maxHeartbeats 1000000 in
theorem rany_any (a : Option Addr) (n cap : Nat) (xs : List FV) (ea : Option Addr) (en ec : Nat) (es : List AT) (w : World) (hS : Flts w a n cap xs) (hE : Sl w 4 AT.cs ea en ec es) :
    Calls Tryz.prog 64 #[.slice a n cap, .slice ea en ec] w fun e w' => e = .returned (.bool (xs.any fun x => matchesT x.ts es)) ∧ Ext w w' := by
  obtain rfl := hS.sl.neq
  have hm := hS.sl.max
  have hl := hS.sl.len
  unfold maxLen at hm
  have HS := hid hS
  have HE := hid hE
  clear hS hE
  go_enter Tryz.func64, Tryz.ntmps64
  go_wp2_with fail
  go_loopg [5, 6] (xs.length) (fun g st _ wr => ∃ k : Nat, g + k = xs.length ∧ st = .int .i64 k ∧ Hid ((xs.take k).any (fun x => matchesT x.ts es) = false) ∧ Hid (Ext w wr))
  case atStart => exact ⟨0, by omega, rfl, rfl, Ext.refl _⟩
  case round =>
    obtain ⟨k, hg, rfl, hno, hx⟩ := hrel
    by_cases hk : k < xs.length
    · obtain ⟨b, o, rfl, hc⟩ := HS.out.sl.get k hk
      have c0 := cellsF (w := wr) (b := b) (o := o + k * 1) (x := xs[k]) (fun j v hj => hx.out.keep (hc j v hj))
      rw [Nat.mul_one] at c0
      clear hc
      have b0 : (0 : Int) ≤ (k : Int) := by omega
      have b1 : (k : Int) < (xs.length : Int) := by omega
      cases he : matchesT xs[k].ts es with
      | true =>
        have He := hid he
        clear he
        go_wp2_with (go_at_call 71; refine (rmatches_any _ _ _ xs[k].ts _ _ _ es _ ((HS.out.ts _ (List.getElem_mem hk)).ext (by (repeat (first | exact Ext.refl _ | refine Ext.alloc ?_ _ | refine Ext.drewN ?_ _ | refine Ext.drew ?_ | refine Ext.trans ?_ (Hid.out (by assumption)))))) (HE.out.ext (by (repeat (first | exact Ext.refl _ | refine Ext.alloc ?_ _ | refine Ext.drewN ?_ _ | refine Ext.drew ?_ | refine Ext.trans ?_ (Hid.out (by assumption))))))).mono ?_; rintro e w' ⟨he, hb⟩; rw [He.out] at he; subst he; have hy := hid hb; clear hb)
        go_ret
        refine ⟨ret_bool (any_found (p := fun x : FV => matchesT x.ts es) hk He.out), ?_⟩
        (repeat (first | exact Ext.refl _ | refine Ext.alloc ?_ _ | refine Ext.drewN ?_ _ | refine Ext.drew ?_ | refine Ext.trans ?_ (Hid.out (by assumption))))
      | false =>
        have He := hid he
        clear he
        go_wp2_with (go_at_call 71; refine (rmatches_any _ _ _ xs[k].ts _ _ _ es _ ((HS.out.ts _ (List.getElem_mem hk)).ext (by (repeat (first | exact Ext.refl _ | refine Ext.alloc ?_ _ | refine Ext.drewN ?_ _ | refine Ext.drew ?_ | refine Ext.trans ?_ (Hid.out (by assumption)))))) (HE.out.ext (by (repeat (first | exact Ext.refl _ | refine Ext.alloc ?_ _ | refine Ext.drewN ?_ _ | refine Ext.drew ?_ | refine Ext.trans ?_ (Hid.out (by assumption))))))).mono ?_; rintro e w' ⟨he, hb⟩; rw [He.out] at he; subst he; have hy := hid hb; clear hb)
        go_roundg (gk - 1)
        case measure => omega
        case rel => exact ⟨k + 1, by omega, by go_num, any_take (p := fun x : FV => matchesT x.ts es) hk hno.out He.out, (by (repeat (first | exact Ext.refl _ | refine Ext.alloc ?_ _ | refine Ext.drewN ?_ _ | refine Ext.drew ?_ | refine Ext.trans ?_ (Hid.out (by assumption)))))⟩
    · go_wp2
      go_ret
      refine ⟨ret_bool (any_none (p := fun x : FV => matchesT x.ts es) hno.out hk), ?_⟩
      (repeat (first | exact Ext.refl _ | refine Ext.alloc ?_ _ | refine Ext.drewN ?_ _ | refine Ext.drew ?_ | refine Ext.trans ?_ (Hid.out (by assumption))))
theorem any_true_take {ys : List T} {p : T → Bool} {j : Nat} (h : (ys.take j).any p = true) : ys.any p = true := by
  obtain ⟨x, hx, hp⟩ := List.any_eq_true.1 h
  exact List.any_eq_true.2 ⟨x, List.mem_of_mem_take hx, hp⟩
theorem any_succ {ys : List T} {p : T → Bool} {j : Nat} (hj : j < ys.length) : (ys.take (j + 1)).any p = ((ys.take j).any p || p ys[j]) := by
  rw [List.take_succ_eq_append_getElem hj, List.any_append]; simp
set_option maxHeartbeats 2000000 in
theorem rcovers_any (fa ga : Option Addr) (fl gl fc gc : Nat) (xs ys : List T) (w : World) (hF : Sl w 5 T.cs fa fl fc xs) (hG : Sl w 5 T.cs ga gl gc ys) :
    Calls Tryz.prog 70 #[.slice fa fl fc, .slice ga gl gc] w fun e w' => e = .returned (.bool (cov xs ys)) ∧ Ext w w' := by
  obtain rfl := hF.neq
  obtain rfl := hG.neq
  have hm := hF.max
  have hl := hF.len
  have hm2 := hG.max
  have hl2 := hG.len
  unfold maxLen at hm hm2
  have HF := hid hF
  have HG := hid hG
  clear hF hG
  go_enter Tryz.func70, Tryz.ntmps70
  go_wp2_with fail
  go_loopg [5, 6, 7] (xs.length) (fun g st _ _ wr => ∃ k : Nat, g + k = xs.length ∧ st = .int .i64 k ∧ Hid (cov (xs.take k) ys = true) ∧ Hid (Ext w wr))
  case atStart => exact ⟨0, by omega, rfl, rfl, Ext.refl _⟩
  case round =>
    obtain ⟨k, hg, rfl, hok, hx⟩ := hrel
    obtain ⟨G, hG⟩ : ∃ G, G = gk := ⟨_, rfl⟩
    by_cases hk : k < xs.length
    · obtain ⟨b, o, rfl, hc⟩ := HF.out.get k hk
      have HC := hid hc
      clear hc
      have b0 : (0 : Int) ≤ (k : Int) := by omega
      have b1 : (k : Int) < (xs.length : Int) := by omega
      go_wp2_with fail
      go_loopg [6, 7] (ys.length) (fun g fv st wl => ∃ (j : Nat) (v : Bool), g + j = ys.length ∧ st = .int .i64 j ∧ fv = .bool v ∧ Hid (v = (ys.take j).any (fun b => impT b.ts xs[k].ts)) ∧ Hid (Ext wr wl))
      case atStart => exact ⟨0, false, by omega, rfl, rfl, rfl, Ext.refl _⟩
      case round =>
        obtain ⟨j, v, hg2, rfl, rfl, hv, hy⟩ := hrel
        rename World => wl
        by_cases hj : j < ys.length
        · obtain ⟨b2, o2, rfl, hc'⟩ := HG.out.get j hj
          have hE : Ext w wl := (by (repeat (first | exact Ext.refl _ | refine Ext.alloc ?_ _ | refine Ext.drewN ?_ _ | refine Ext.drew ?_ | refine Ext.trans ?_ (Hid.out (by assumption)))))
          obtain ⟨c0, c1, c2, c3, c4⟩ := cellsT (w := wl) (b := b) (o := o + k * 5) (x := xs[k]) (fun q v hq => hE.keep (HC.out q v hq))
          obtain ⟨d0, d1, d2, d3, d4⟩ := cellsT (w := wl) (b := b2) (o := o2 + j * 5) (x := ys[j]) (fun q v hq => hE.keep (hc' q v hq))
          clear hc' hE
          have e0 : (0 : Int) ≤ (j : Int) := by omega
          have e1 : (j : Int) < (ys.length : Int) := by omega
          cases v with
          | true =>
            go_wp2_with fail
            go_quiet (fail)
            go_wp2
            go_roundg (gk - 1)
            case measure => omega
            case rel => exact ⟨j + 1, true, by omega, by go_num, rfl, by rw [any_succ hj, ← hv.out]; rfl, (by (repeat (first | exact Ext.refl _ | refine Ext.alloc ?_ _ | refine Ext.drewN ?_ _ | refine Ext.drew ?_ | refine Ext.trans ?_ (Hid.out (by assumption)))))⟩
          | false =>
            cases he : impT ys[j].ts xs[k].ts with
            | true =>
              have He := hid he
              clear he
              go_wp2_with fail
              go_region_held3 (fun w' => w'.cell? ⟨b2, o2 + j * 5, none⟩ = some (.string ys[j].nm) ∧ w'.cell? ⟨b2, o2 + j * 5 + 1, none⟩ = some (.int .i64 ys[j].op) ∧ w'.cell? ⟨b2, o2 + j * 5 + 2, none⟩ = some (.int .i64 ys[j].k) ∧ w'.cell? ⟨b2, o2 + j * 5 + 3, none⟩ = some (.int .i64 ys[j].n) ∧ w'.cell? ⟨b2, o2 + j * 5 + 4, none⟩ = some (.string ys[j].s) ∧ w'.cell? ⟨b, o + k * 5, none⟩ = some (.string xs[k].nm) ∧ w'.cell? ⟨b, o + k * 5 + 1, none⟩ = some (.int .i64 xs[k].op) ∧ w'.cell? ⟨b, o + k * 5 + 2, none⟩ = some (.int .i64 xs[k].k) ∧ w'.cell? ⟨b, o + k * 5 + 3, none⟩ = some (.int .i64 xs[k].n) ∧ w'.cell? ⟨b, o + k * 5 + 4, none⟩ = some (.string xs[k].s)) (first | (go_split_ands; refine ⟨?_, ?_, ?_, ?_, ?_, ?_, ?_, ?_, ?_, ?_⟩ <;> exact (Hid.out hy).keep (by assumption)) | go_keep) ((go_at_call 77; refine (rimplies_any ys[j] xs[k] _).mono ?_; rintro e w' ⟨he, hb⟩; rw [He.out] at he; subst he; have hy := hid hb; clear hb))
              all_goals
                go_wp2
                go_roundg (gk - 1)
                case measure => omega
                case rel => exact ⟨j + 1, true, by omega, by go_num, rfl, by rw [any_succ hj, He.out, Bool.or_true]; rfl, (by (repeat (first | exact Ext.refl _ | refine Ext.alloc ?_ _ | refine Ext.drewN ?_ _ | refine Ext.drew ?_ | refine Ext.trans ?_ (Hid.out (by assumption)))))⟩
            | false =>
              have He := hid he
              clear he
              go_wp2_with fail
              go_region_held3 (fun w' => w'.cell? ⟨b2, o2 + j * 5, none⟩ = some (.string ys[j].nm) ∧ w'.cell? ⟨b2, o2 + j * 5 + 1, none⟩ = some (.int .i64 ys[j].op) ∧ w'.cell? ⟨b2, o2 + j * 5 + 2, none⟩ = some (.int .i64 ys[j].k) ∧ w'.cell? ⟨b2, o2 + j * 5 + 3, none⟩ = some (.int .i64 ys[j].n) ∧ w'.cell? ⟨b2, o2 + j * 5 + 4, none⟩ = some (.string ys[j].s) ∧ w'.cell? ⟨b, o + k * 5, none⟩ = some (.string xs[k].nm) ∧ w'.cell? ⟨b, o + k * 5 + 1, none⟩ = some (.int .i64 xs[k].op) ∧ w'.cell? ⟨b, o + k * 5 + 2, none⟩ = some (.int .i64 xs[k].k) ∧ w'.cell? ⟨b, o + k * 5 + 3, none⟩ = some (.int .i64 xs[k].n) ∧ w'.cell? ⟨b, o + k * 5 + 4, none⟩ = some (.string xs[k].s)) (first | (go_split_ands; refine ⟨?_, ?_, ?_, ?_, ?_, ?_, ?_, ?_, ?_, ?_⟩ <;> exact (Hid.out hy).keep (by assumption)) | go_keep) ((go_at_call 77; refine (rimplies_any ys[j] xs[k] _).mono ?_; rintro e w' ⟨he, hb⟩; rw [He.out] at he; subst he; have hy := hid hb; clear hb))
              all_goals
                go_wp2
                go_roundg (gk - 1)
                case measure => omega
                case rel => exact ⟨j + 1, false, by omega, by go_num, rfl, by rw [any_succ hj, He.out, ← hv.out]; rfl, (by (repeat (first | exact Ext.refl _ | refine Ext.alloc ?_ _ | refine Ext.drewN ?_ _ | refine Ext.drew ?_ | refine Ext.trans ?_ (Hid.out (by assumption)))))⟩
        · have hjy : ys.take j = ys := List.take_of_length_le (by omega)
          rw [hjy] at hv
          clear hjy
          cases v with
          | true =>
            go_wp2_with fail
            go_roundg (G - 1)
            case measure => omega
            case rel => exact ⟨k + 1, by omega, by go_num, cov_take hk hok.out hv.out.symm, (by (repeat (first | exact Ext.refl _ | refine Ext.alloc ?_ _ | refine Ext.drewN ?_ _ | refine Ext.drew ?_ | refine Ext.trans ?_ (Hid.out (by assumption)))))⟩
          | false =>
            go_wp2_with fail
            go_ret
            refine ⟨ret_bool (cov_no hk hv.out.symm), ?_⟩
            (repeat (first | exact Ext.refl _ | refine Ext.alloc ?_ _ | refine Ext.drewN ?_ _ | refine Ext.drew ?_ | refine Ext.trans ?_ (Hid.out (by assumption))))
    · have hk' : xs.take k = xs := List.take_of_length_le (by omega)
      rw [hk'] at hok
      clear hk'
      go_wp2
      go_ret
      refine ⟨ret_bool hok.out.symm, ?_⟩
      (repeat (first | exact Ext.refl _ | refine Ext.alloc ?_ _ | refine Ext.drewN ?_ _ | refine Ext.drew ?_ | refine Ext.trans ?_ (Hid.out (by assumption))))
set_option maxHeartbeats 1000000 in
theorem rcovered_any (a : Option Addr) (n cap : Nat) (xs : List FV) (fa : Option Addr) (fn fc : Nat) (fs : List T) (w : World) (hS : Flts w a n cap xs) (hE : Sl w 5 T.cs fa fn fc fs) :
    Calls Tryz.prog 60 #[.slice a n cap, .slice fa fn fc] w fun e w' => e = .returned (.bool (xs.any fun x => cov x.ts fs)) ∧ Ext w w' := by
  obtain rfl := hS.sl.neq
  have hm := hS.sl.max
  have hl := hS.sl.len
  unfold maxLen at hm
  have HS := hid hS
  have HE := hid hE
  clear hS hE
  go_enter Tryz.func60, Tryz.ntmps60
  go_wp2_with fail
  go_loopg [5, 6] (xs.length) (fun g st _ wr => ∃ k : Nat, g + k = xs.length ∧ st = .int .i64 k ∧ Hid ((xs.take k).any (fun x => cov x.ts fs) = false) ∧ Hid (Ext w wr))
  case atStart => exact ⟨0, by omega, rfl, rfl, Ext.refl _⟩
  case round =>
    obtain ⟨k, hg, rfl, hno, hx⟩ := hrel
    by_cases hk : k < xs.length
    · obtain ⟨b, o, rfl, hc⟩ := HS.out.sl.get k hk
      have c0 := cellsF (w := wr) (b := b) (o := o + k * 1) (x := xs[k]) (fun j v hj => hx.out.keep (hc j v hj))
      rw [Nat.mul_one] at c0
      clear hc
      have b0 : (0 : Int) ≤ (k : Int) := by omega
      have b1 : (k : Int) < (xs.length : Int) := by omega
      cases he : cov xs[k].ts fs with
      | true =>
        have He := hid he
        clear he
        go_wp2_with (go_at_call 70; refine (rcovers_any _ _ _ _ _ _ xs[k].ts fs _ ((HS.out.ts _ (List.getElem_mem hk)).ext (by (repeat (first | exact Ext.refl _ | refine Ext.alloc ?_ _ | refine Ext.drewN ?_ _ | refine Ext.drew ?_ | refine Ext.trans ?_ (Hid.out (by assumption)))))) (HE.out.ext (by (repeat (first | exact Ext.refl _ | refine Ext.alloc ?_ _ | refine Ext.drewN ?_ _ | refine Ext.drew ?_ | refine Ext.trans ?_ (Hid.out (by assumption))))))).mono ?_; rintro e w' ⟨he, hb⟩; rw [He.out] at he; subst he; have hy := hid hb; clear hb)
        go_ret
        refine ⟨ret_bool (any_found (p := fun x : FV => cov x.ts fs) hk He.out), ?_⟩
        (repeat (first | exact Ext.refl _ | refine Ext.alloc ?_ _ | refine Ext.drewN ?_ _ | refine Ext.drew ?_ | refine Ext.trans ?_ (Hid.out (by assumption))))
      | false =>
        have He := hid he
        clear he
        go_wp2_with (go_at_call 70; refine (rcovers_any _ _ _ _ _ _ xs[k].ts fs _ ((HS.out.ts _ (List.getElem_mem hk)).ext (by (repeat (first | exact Ext.refl _ | refine Ext.alloc ?_ _ | refine Ext.drewN ?_ _ | refine Ext.drew ?_ | refine Ext.trans ?_ (Hid.out (by assumption)))))) (HE.out.ext (by (repeat (first | exact Ext.refl _ | refine Ext.alloc ?_ _ | refine Ext.drewN ?_ _ | refine Ext.drew ?_ | refine Ext.trans ?_ (Hid.out (by assumption))))))).mono ?_; rintro e w' ⟨he, hb⟩; rw [He.out] at he; subst he; have hy := hid hb; clear hb)
        go_roundg (gk - 1)
        case measure => omega
        case rel => exact ⟨k + 1, by omega, by go_num, any_take (p := fun x : FV => cov x.ts fs) hk hno.out He.out, (by (repeat (first | exact Ext.refl _ | refine Ext.alloc ?_ _ | refine Ext.drewN ?_ _ | refine Ext.drew ?_ | refine Ext.trans ?_ (Hid.out (by assumption)))))⟩
    · go_wp2
      go_ret
      refine ⟨ret_bool (any_none (p := fun x : FV => cov x.ts fs) hno.out hk), ?_⟩
      (repeat (first | exact Ext.refl _ | refine Ext.alloc ?_ _ | refine Ext.drewN ?_ _ | refine Ext.drew ?_ | refine Ext.trans ?_ (Hid.out (by assumption))))
end Go.Proofs.YtiifflojpoobpaaGreat
