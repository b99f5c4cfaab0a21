/- The document's answer for tests: the walks of its Is, below, above, begins, Implies. -/
import Derived.Test.YtjggjkmafcokjaaRedM8
import Derived.Test.YtjggjkmafcokjaaChk
import Derived.Deep.RegionHeld3
set_option linter.unusedVariables false
set_option linter.unusedSimpArgs false
namespace Go.Proofs.Ytjggjkmafcokjaa
open Go.RowKit

set_option maxRecDepth 100000 in
set_option maxHeartbeats 2000000 in
theorem ris_any (t : T) (k n : Int) (s : ByteArray) (w : World) :
    Calls Try.prog 61 #[.agg #[.string t.nm, .int .i64 t.op, .int .i64 t.k, .int .i64 t.n, .string t.s], .agg #[.int .i64 k, .int .i64 n, .string s]] w fun e w' => e = .returned (.bool (isV t.op t.v ⟨k, n, s.toList⟩)) ∧ Ext w w' := by
  have HO := hid (show (⟨k, n, s.toList⟩ : Vl).ord t.v = vOrd k n s.toList t.k t.n t.s.toList from rfl)
  have HB := hid (show (⟨k, n, s.toList⟩ : Vl).beg t.v = vBeg k s.toList t.k t.s.toList from rfl)
  have HK := hid (show t.v.k = t.k from rfl)
  go_enter Try.func61, Try.ntmps61
  go_wp2_with (first | (go_at_call 79; refine (rorder_any _ _ _ _ _ _ _).mono ?_; rintro e w' ⟨rfl, hb⟩; have hc := hb.cell; have hz := hb.size; have hx := hid hb; clear hb) | (go_at_call 80; refine (rbeg_any _ _ _ _ _ _ _).mono ?_; rintro e w2 ⟨rfl, hb⟩; have hy := hid hb; clear hb))
  all_goals
    go_ret
    refine ⟨ret_bool ?_, (by (repeat (first | exact Ext.refl _ | refine Ext.alloc ?_ _ | refine Ext.drewN ?_ _ | refine Ext.drew ?_ | refine Ext.trans ?_ (Hid.out (by assumption)))))⟩
    unfold isV asks
    rw [HO.out, HB.out, HK.out]
    simp_all
    try rfl
theorem known_no {op : Int} (h : known op = false) : op < 1 ∨ 8 < op := by unfold known at h; have := of_decide_eq_false h; omega
theorem known_yes {op : Int} (h : known op = true) : 1 ≤ op ∧ op ≤ 8 := by unfold known at h; exact of_decide_eq_true h
end Go.Proofs.Ytjggjkmafcokjaa

namespace Go.Proofs.Ytjggjkmafcokjaa
open Go.RowKit

theorem find_take {xs : List AT} {nm : List UInt8} {k : Nat} (hk : k < xs.length) (h : (xs.take k).any (fun x => decide (x.nm.toList = nm)) = false) (he : decide (xs[k].nm.toList = nm) = true) : findA xs nm = some xs[k] := by
  unfold findA
  rw [List.find?_eq_some_iff_getElem]
  refine ⟨he, k, hk, rfl, fun j hj => ?_⟩
  rw [List.any_eq_false] at h
  have := h xs[j] (List.mem_take_iff_getElem.2 ⟨j, by omega, rfl⟩)
  simpa using this
theorem find_none' {xs : List AT} {nm : List UInt8} (h : xs.any (fun x => decide (x.nm.toList = nm)) = false) : findA xs nm = none := by
  unfold findA
  rw [List.find?_eq_none]
  intro x hx
  exact List.any_eq_false.1 h x hx
set_option maxHeartbeats 2000000 in
theorem rfind_any (a : Option Addr) (n cap : Nat) (xs : List AT) (nm : ByteArray) (w : World) (hS : Sl w 4 AT.cs a n cap xs) :
    Calls Try.prog 60 #[.slice a n cap, .string nm] w fun e w' => e = .returned (findR (findA xs nm.toList)) ∧ Ext w w' := by
  obtain rfl := hS.neq
  have hm := hS.max
  have hl := hS.len
  unfold maxLen at hm
  have HS := hid hS
  clear hS
  go_enter Try.func60, Try.ntmps60
  go_wp2_with fail
  go_loopg [6] (xs.length) (fun g st wr => ∃ k : Nat, g + k = xs.length ∧ st = .int .i64 k ∧ Hid ((xs.take k).any (fun x => decide (x.nm.toList = nm.toList)) = false) ∧ wr = w.alloc (Obj.cells #[.int .i64 0, .int .i64 0, .string ⟨#[]⟩] 52))
  case atStart => exact ⟨0, by omega, rfl, rfl, rfl⟩
  case round =>
    obtain ⟨k, hg, rfl, hno, rfl⟩ := hrel
    by_cases hk : k < xs.length
    · obtain ⟨b, o, rfl, hc⟩ := HS.out.get k hk
      obtain ⟨c0, c1, c2, c3⟩ := cellsA (w := w.alloc (Obj.cells #[.int .i64 0, .int .i64 0, .string ⟨#[]⟩] 52)) (b := b) (o := o + k * 4) (x := xs[k]) (fun j v hj => ((Ext.refl w).alloc _).keep (hc j v hj))
      clear hc
      have b0 : (0 : Int) ≤ (k : Int) := by omega
      have b1 : (k : Int) < (xs.length : Int) := by omega
      cases he : decide (xs[k].nm.toList = nm.toList) with
      | true =>
        have he' := of_decide_eq_true he
        have hbb : (xs[k].nm.toList == nm.toList) = true := by simp [he']
        have H2 := hid (find_take hk hno.out he)
        clear he
        go_wp2_with fail
        exact bodyPost_ret (v := .tuple #[.agg #[.int .i64 xs[k].k, .int .i64 xs[k].n, .string xs[k].s], .bool true]) (by simp [results, Try.results60, go_sem]) rfl ⟨by rw [H2.out]; rfl, by repeat (first | exact Ext.refl _ | refine Ext.alloc ?_ _ | refine Ext.setCell ?_ (by simp) _)⟩
      | false =>
        have he' : ¬ xs[k].nm.toList = nm.toList := of_decide_eq_false he
        have hbb : (xs[k].nm.toList == nm.toList) = false := by simp [he']
        have He := hid he
        clear he
        go_wp2_with fail
        go_roundg (gk - 1)
        case measure => omega
        case rel => exact ⟨k + 1, by omega, by go_num, any_take (p := fun x : AT => decide (x.nm.toList = nm.toList)) hk hno.out He.out, rfl⟩
    · have hk' : xs.take k = xs := List.take_of_length_le (by omega)
      rw [hk'] at hno
      have H2 := hid (find_none' hno.out)
      clear hk'
      go_wp2
      exact bodyPost_ret (v := .tuple #[.agg #[.int .i64 0, .int .i64 0, .string ⟨#[]⟩], .bool false]) (by simp [results, Try.results60, go_sem]) rfl ⟨by rw [H2.out]; rfl, by repeat (first | exact Ext.refl _ | refine Ext.alloc ?_ _ | refine Ext.setCell ?_ (by simp) _)⟩
set_option maxHeartbeats 1000000 in
theorem rholds_any (t : T) (a : Option Addr) (n cap : Nat) (xs : List AT) (w : World) (hS : Sl w 4 AT.cs a n cap xs) :
    Calls Try.prog 42 #[.agg #[.string t.nm, .int .i64 t.op, .int .i64 t.k, .int .i64 t.n, .string t.s], .slice a n cap] w fun e w' => e = .returned (.bool (holdsT t xs)) ∧ Ext w w' := by
  have HS := hid hS
  clear hS
  cases hf : findA xs t.nm.toList with
  | none =>
    have HF := hid hf
    have HH := hid (show holdsT t xs = false from by unfold holdsT; rw [hf])
    clear hf
    go_enter Try.func42, Try.ntmps42
    go_wp2_with (go_at_call 60; refine (rfind_any _ _ _ xs t.nm _ (HS.out.ext (by (repeat (first | exact Ext.refl _ | refine Ext.alloc ?_ _ | refine Ext.drewN ?_ _ | refine Ext.drew ?_ | refine Ext.trans ?_ (Hid.out (by assumption))))))).mono ?_; rintro e w' ⟨he, hb⟩; rw [HF.out] at he; unfold findR at he; subst he; have t0 : w'.cell? ⟨w.heap.size, 0, none⟩ = some (.string t.nm) := hb.keep (by simp); have t1 : w'.cell? ⟨w.heap.size, 1, none⟩ = some (.int .i64 t.op) := hb.keep (by simp); have t2 : w'.cell? ⟨w.heap.size, 2, none⟩ = some (.int .i64 t.k) := hb.keep (by simp); have t3 : w'.cell? ⟨w.heap.size, 3, none⟩ = some (.int .i64 t.n) := hb.keep (by simp); have t4 : w'.cell? ⟨w.heap.size, 4, none⟩ = some (.string t.s) := hb.keep (by simp); have hz : w.heap.size < w'.heap.size := (by have := hb.size; simp at this; omega); have hx := hid hb; clear hb)
    go_ret
    refine ⟨ret_bool HH.out.symm, ?_⟩
    (repeat (first | exact Ext.refl _ | refine Ext.alloc ?_ _ | refine Ext.drewN ?_ _ | refine Ext.drew ?_ | refine Ext.trans ?_ (Hid.out (by assumption))))
  | some x =>
    have HF := hid hf
    have HH := hid (show holdsT t xs = isV t.op t.v x.v from by unfold holdsT; rw [hf])
    clear hf
    go_enter Try.func42, Try.ntmps42
    go_wp2_with (first | (go_at_call 60; refine (rfind_any _ _ _ xs t.nm _ (HS.out.ext (by (repeat (first | exact Ext.refl _ | refine Ext.alloc ?_ _ | refine Ext.drewN ?_ _ | refine Ext.drew ?_ | refine Ext.trans ?_ (Hid.out (by assumption))))))).mono ?_; rintro e w' ⟨he, hb⟩; rw [HF.out] at he; unfold findR at he; subst he; have t0 : w'.cell? ⟨w.heap.size, 0, none⟩ = some (.string t.nm) := hb.keep (by simp); have t1 : w'.cell? ⟨w.heap.size, 1, none⟩ = some (.int .i64 t.op) := hb.keep (by simp); have t2 : w'.cell? ⟨w.heap.size, 2, none⟩ = some (.int .i64 t.k) := hb.keep (by simp); have t3 : w'.cell? ⟨w.heap.size, 3, none⟩ = some (.int .i64 t.n) := hb.keep (by simp); have t4 : w'.cell? ⟨w.heap.size, 4, none⟩ = some (.string t.s) := hb.keep (by simp); have hz : w.heap.size < w'.heap.size := (by have := hb.size; simp at this; omega); have hx := hid hb; clear hb) | (go_at_call 61; refine (ris_any t x.k x.n x.s _).mono ?_; rintro e w2 ⟨rfl, hb⟩; have hy := hid hb; clear hb))
    go_ret
    refine ⟨ret_bool HH.out.symm, ?_⟩
    (repeat (first | exact Ext.refl _ | refine Ext.alloc ?_ _ | refine Ext.drewN ?_ _ | refine Ext.drew ?_ | refine Ext.trans ?_ (Hid.out (by assumption))))
set_option maxHeartbeats 1000000 in
theorem rmatches_any (fa : Option Addr) (fn fc : Nat) (fs : List T) (a : Option Addr) (n cap : Nat) (xs : List AT) (w : World) (hF : Sl w 5 T.cs fa fn fc fs) (hS : Sl w 4 AT.cs a n cap xs) :
    Calls Try.prog 34 #[.slice fa fn fc, .slice a n cap] w fun e w' => e = .returned (.bool (matchesT fs xs)) ∧ Ext w w' := by
  obtain rfl := hF.neq
  have hm := hF.max
  have hl := hF.len
  unfold maxLen at hm
  have HF := hid hF
  have HS := hid hS
  clear hF hS
  go_enter Try.func34, Try.ntmps34
  go_wp2_with fail
  go_loopg [5, 6] (fs.length) (fun g st _ wr => ∃ k : Nat, g + k = fs.length ∧ st = .int .i64 k ∧ Hid ((fs.take k).all (fun t => holdsT t xs) = true) ∧ Hid (Ext w wr))
  case atStart => exact ⟨0, by omega, rfl, rfl, Ext.refl _⟩
  case round =>
    obtain ⟨k, hg, rfl, hok, hx⟩ := hrel
    by_cases hk : k < fs.length
    · obtain ⟨b, o, rfl, hc⟩ := HF.out.get k hk
      obtain ⟨c0, c1, c2, c3, c4⟩ := cellsT (w := wr) (b := b) (o := o + k * 5) (x := fs[k]) (fun j v hj => hx.out.keep (hc j v hj))
      clear hc
      have b0 : (0 : Int) ≤ (k : Int) := by omega
      have b1 : (k : Int) < (fs.length : Int) := by omega
      cases he : holdsT fs[k] xs with
      | false =>
        have He := hid he
        clear he
        go_wp2_with (go_at_call 42; refine (rholds_any fs[k] _ _ _ xs _ (HS.out.ext (by (repeat (first | exact Ext.refl _ | refine Ext.alloc ?_ _ | refine Ext.drewN ?_ _ | refine Ext.drew ?_ | refine Ext.trans ?_ (Hid.out (by assumption))))))).mono ?_; rintro e w' ⟨he, hb⟩; rw [He.out] at he; subst he; have hy := hid hb; clear hb)
        go_ret
        refine ⟨ret_bool (all_no (p := fun t => holdsT t xs) hk He.out), ?_⟩
        (repeat (first | exact Ext.refl _ | refine Ext.alloc ?_ _ | refine Ext.drewN ?_ _ | refine Ext.drew ?_ | refine Ext.trans ?_ (Hid.out (by assumption))))
      | true =>
        have He := hid he
        clear he
        go_wp2_with (go_at_call 42; refine (rholds_any fs[k] _ _ _ xs _ (HS.out.ext (by (repeat (first | exact Ext.refl _ | refine Ext.alloc ?_ _ | refine Ext.drewN ?_ _ | refine Ext.drew ?_ | refine Ext.trans ?_ (Hid.out (by assumption))))))).mono ?_; rintro e w' ⟨he, hb⟩; rw [He.out] at he; subst he; have hy := hid hb; clear hb)
        go_roundg (gk - 1)
        case measure => omega
        case rel => exact ⟨k + 1, by omega, by go_num, all_take (p := fun t => holdsT t xs) hk hok.out He.out, (by (repeat (first | exact Ext.refl _ | refine Ext.alloc ?_ _ | refine Ext.drewN ?_ _ | refine Ext.drew ?_ | refine Ext.trans ?_ (Hid.out (by assumption)))))⟩
    · have hk' : fs.take k = fs := List.take_of_length_le (by omega)
      rw [hk'] at hok
      clear hk'
      go_wp2
      go_ret
      refine ⟨ret_bool hok.out.symm, ?_⟩
      (repeat (first | exact Ext.refl _ | refine Ext.alloc ?_ _ | refine Ext.drewN ?_ _ | refine Ext.drew ?_ | refine Ext.trans ?_ (Hid.out (by assumption))))
theorem any_true_take {ys : List T} {p : T → Bool} {j : Nat} (h : (ys.take j).any p = true) : ys.any p = true := by
  obtain ⟨x, hx, hp⟩ := List.any_eq_true.1 h
  exact List.any_eq_true.2 ⟨x, List.mem_of_mem_take hx, hp⟩
theorem any_succ {ys : List T} {p : T → Bool} {j : Nat} (hj : j < ys.length) : (ys.take (j + 1)).any p = ((ys.take j).any p || p ys[j]) := by
  rw [List.take_succ_eq_append_getElem hj, List.any_append]; simp
end Go.Proofs.Ytjggjkmafcokjaa

namespace Go.Proofs.Ytjggjkmafcokjaa
open Go.RowKit

set_option maxHeartbeats 2000000 in
theorem rname_any (s : ByteArray) (w : World) (hmx : s.size ≤ 1000) : Calls Try.prog 46 #[.string s] w fun e w' => e = .returned (.bool (nameB s.toList)) ∧ w = w' := by
  have i0 : (s.size : Int) ≤ 1000 := by omega
  go_enter Try.func46, Try.ntmps46
  go_wp2_with fail
  go_loopg [3] (s.size) (fun g st wr => ∃ k : Nat, g + k = s.size ∧ st = .int .i64 k ∧ Hid ((s.data.toList.take k).all chrOk = true) ∧ w = wr)
  case atStart => exact ⟨0, by omega, rfl, rfl, rfl⟩
  case round =>
    obtain ⟨k, hg, rfl, hok, rfl⟩ := hrel
    by_cases hk : k < s.size
    · have b0 : (0 : Int) ≤ (k : Int) := by omega
      have b1 : (k : Int) < (s.size : Int) := by omega
      obtain ⟨c, hc⟩ : ∃ c : Int, c = (s[k].toNat : Int) := ⟨_, rfl⟩
      by_cases hL : 97 ≤ (s[k].toNat : Int) <;> by_cases hM : (s[k].toNat : Int) ≤ 122 <;> by_cases hD : 48 ≤ (s[k].toNat : Int) <;> by_cases hE : (s[k].toNat : Int) ≤ 57
      all_goals try (exfalso; omega)
      all_goals
        go_wp2
        first
          | (go_ret; exact ⟨ret_bool (nm_no hk (by unfold chrOk; simp; omega)), rfl⟩)
          | (go_roundg (gk - 1); (case measure => omega); (case rel => exact ⟨k + 1, by omega, by go_num, nm_take hk hok.out (by unfold chrOk; simp; omega), rfl⟩))
    · have hk' : s.data.toList.take k = s.data.toList := List.take_of_length_le (by simp; omega)
      rw [hk'] at hok
      clear hk'
      by_cases h1 : 1 ≤ s.size
      · by_cases h2 : s.size ≤ 16
        · have i1 : (1 : Int) ≤ (s.size : Int) := by omega
          have i2 : (s.size : Int) ≤ 16 := by omega
          have H := hid (nm_yes h1 h2 hok.out)
          go_wp2
          go_ret
          exact ⟨ret_bool H.out, rfl⟩
        · have H := hid (nm_len (s := s) (by omega))
          have i1 : (1 : Int) ≤ (s.size : Int) := by omega
          have i2 : ¬ ((s.size : Int) ≤ 16) := by omega
          go_wp2
          go_ret
          exact ⟨ret_bool H.out, rfl⟩
      · have H := hid (nm_len (s := s) (by omega))
        have i1 : ¬ ((1 : Int) ≤ (s.size : Int)) := by omega
        go_wp2
        go_ret
        exact ⟨ret_bool H.out, rfl⟩
set_option maxHeartbeats 2000000 in
theorem rvchk_any (k n : Int) (s : ByteArray) (w : World) :
    Calls Try.prog 47 #[.agg #[.int .i64 k, .int .i64 n, .string s]] w fun e w' => e = .returned (.int .i64 (vChk k n s.toList)) ∧ Ext w w' := by
  go_enter Try.func47, Try.ntmps47
  go_wp2
  all_goals (go_ret; refine ⟨ret_int ?_, (Ext.refl _).alloc _⟩; unfold vChk; rw [len_toList]; simp_all <;> omega)
set_option maxRecDepth 100000 in
set_option maxHeartbeats 2000000 in
theorem rone_any (t : T) (w : World) (hnm : t.nm.size ≤ 1000) : Calls Try.prog 37 #[.agg #[.string t.nm, .int .i64 t.op, .int .i64 t.k, .int .i64 t.n, .string t.s]] w fun e w' => e = .returned (.int .i64 (errF (oneB t))) ∧ Ext w w' := by
  obtain ⟨Z, hZ⟩ : ∃ Z, Z = decide (t.v = ⟨0, 0, []⟩) := ⟨_, rfl⟩
  have heq : ∀ w : World, (binOp .eql 52 (.agg #[.int .i64 t.k, .int .i64 t.n, .string t.s]) (.agg #[.int .i64 0, .int .i64 0, .string ⟨#[]⟩])).run Try.prog w = .ok (.bool Z) w := fun w => by
    rw [hZ]; exact run_eqV t.k t.n t.s w
  obtain ⟨C, hC⟩ : ∃ C, C = vChk t.k t.n t.s.toList := ⟨_, rfl⟩
  have hck : ∀ w, Calls Try.prog 47 #[.agg #[.int .i64 t.k, .int .i64 t.n, .string t.s]] w fun e w' => e = .returned (.int .i64 C) ∧ Ext w w' := fun w => by
    rw [hC]; exact rvchk_any _ _ _ w
  obtain ⟨M, hM⟩ : ∃ M, M = nameB t.nm.toList := ⟨_, rfl⟩
  have hnn : ∀ w, Calls Try.prog 46 #[.string t.nm] w fun e w' => e = .returned (.bool M) ∧ w = w' := fun w => by
    rw [hM]; exact rname_any _ w hnm
  have HG : Hid (oneB t = (M && known t.op && (if t.op = 8 then Z else decide (C = 0) && (!decide (t.op = 7) || decide (t.k = 2))))) := hid (by unfold oneB; rw [hM, hZ, hC])
  clear hZ hC hM
  cases Z
  all_goals
    go_enter Try.func37, Try.ntmps37
    go_wp2_with (first | (go_at_call 46; refine (hnn _).mono ?_; rintro e w' ⟨rfl, rfl⟩) | (go_at_call 47; refine (hck _).mono ?_; rintro e w' ⟨rfl, hb⟩; have hc := hb.cell; have hz := hb.size; have hx := hid hb; clear hb))
  all_goals
    go_ret
    refine ⟨ret_int ?_, (by (repeat (first | exact Ext.refl _ | refine Ext.alloc ?_ _ | refine Ext.drewN ?_ _ | refine Ext.drew ?_ | refine Ext.trans ?_ (Hid.out (by assumption)))))⟩
    have g := HG.out
    clear heq hck hnn HG
    rw [g]
    unfold errF known
    simp_all
    try omega
    try (intros; simp_all)
set_option maxHeartbeats 1000000 in
theorem rchkF_any (a : Option Addr) (n cap : Nat) (xs : List T) (w : World) (hS : Sl w 5 T.cs a n cap xs) (hnms : ∀ t, t ∈ xs → t.nm.size ≤ 1000) :
    Calls Try.prog 30 #[.slice a n cap] w fun e w' => e = .returned (.int .i64 (errF (chkB xs))) ∧ Ext w w' := by
  obtain rfl := hS.neq
  have hm := hS.max
  have hl := hS.len
  unfold maxLen at hm
  have HS := hid hS
  have HN := hid hnms
  clear hS hnms
  by_cases h8 : xs.length ≤ 8
  · have hi8 : (xs.length : Int) ≤ 8 := by omega
    go_enter Try.func30, Try.ntmps30
    go_wp2_with fail
    go_loopg [3] (xs.length) (fun g st wr => ∃ k : Nat, g + k = xs.length ∧ st = .int .i64 k ∧ Hid ((xs.take k).all oneB = true) ∧ Hid (Ext w wr))
    case atStart => exact ⟨0, by omega, rfl, rfl, Ext.refl _⟩
    case round =>
      obtain ⟨k, hg, rfl, hok, hx⟩ := hrel
      by_cases hk : k < xs.length
      · obtain ⟨b, o, rfl, hc⟩ := HS.out.get k hk
        obtain ⟨c0, c1, c2, c3, c4⟩ := cellsT (w := wr) (b := b) (o := o + k * 5) (x := xs[k]) (fun j v hj => hx.out.keep (hc j v hj))
        have hnm := HN.out _ (List.getElem_mem hk)
        clear hc
        have b0 : (0 : Int) ≤ (k : Int) := by omega
        have b1 : (k : Int) < (xs.length : Int) := by omega
        cases he : oneB xs[k] with
        | false =>
          have He := hid (show errF (oneB xs[k]) = 50 from by rw [he]; rfl)
          have He' := hid he
          clear he
          go_wp2_with (go_at_call 37; refine (rone_any xs[k] _ hnm).mono ?_; rintro e w' ⟨he, hb⟩; rw [He.out] at he; subst he; have hy := hid hb; clear hb)
          go_ret
          refine ⟨ret_int (chk_no hk He'.out), ?_⟩
          (repeat (first | exact Ext.refl _ | refine Ext.alloc ?_ _ | refine Ext.drewN ?_ _ | refine Ext.drew ?_ | refine Ext.trans ?_ (Hid.out (by assumption))))
        | true =>
          have He := hid (show errF (oneB xs[k]) = 0 from by rw [he]; rfl)
          have He' := hid he
          clear he
          go_wp2_with (go_at_call 37; refine (rone_any xs[k] _ hnm).mono ?_; rintro e w' ⟨he, hb⟩; rw [He.out] at he; subst he; have hy := hid hb; clear hb)
          go_roundg (gk - 1)
          case measure => omega
          case rel => exact ⟨k + 1, by omega, by go_num, all_take (p := oneB) hk hok.out He'.out, (by (repeat (first | exact Ext.refl _ | refine Ext.alloc ?_ _ | refine Ext.drewN ?_ _ | refine Ext.drew ?_ | refine Ext.trans ?_ (Hid.out (by assumption)))))⟩
      · have hk' : xs.take k = xs := List.take_of_length_le (by omega)
        rw [hk'] at hok
        clear hk'
        go_wp2
        go_ret
        refine ⟨ret_int (chk_yes h8 hok.out), ?_⟩
        (repeat (first | exact Ext.refl _ | refine Ext.alloc ?_ _ | refine Ext.drewN ?_ _ | refine Ext.drew ?_ | refine Ext.trans ?_ (Hid.out (by assumption))))
  · have hi8 : (8 : Int) < (xs.length : Int) := by omega
    have H := hid (chk_len h8)
    clear h8
    go_enter Try.func30, Try.ntmps30
    go_wp2_with fail
    go_ret
    refine ⟨ret_int H.out, ?_⟩
    (repeat (first | exact Ext.refl _ | refine Ext.alloc ?_ _ | refine Ext.drewN ?_ _ | refine Ext.drew ?_ | refine Ext.trans ?_ (Hid.out (by assumption))))
set_option maxHeartbeats 1000000 in
theorem few05n_any (a : Option Addr) (n cap : Nat) (xs : List T) (w : World) (hS : Sl w 5 T.cs a n cap xs) :
    Calls Try.prog 23 #[.slice a n cap] w (FewR (xs.length ≤ 10 ∧ ∀ x, x ∈ xs → x.nm.size ≤ 100) w) := by
  obtain rfl := hS.neq
  have hm := hS.max
  have hl := hS.len
  unfold maxLen at hm
  have HS := hid hS
  clear hS
  by_cases hb : xs.length ≤ 10
  · have hbi : (xs.length : Int) ≤ 10 := by omega
    go_enter Try.func23, Try.ntmps23
    go_wp2_with fail
    go_loopg [3] (xs.length) (fun g st wr => ∃ k : Nat, g + k = xs.length ∧ st = .int .i64 k ∧ Hid (∀ x, x ∈ xs.take k → x.nm.size ≤ 100) ∧ Hid (Ext w wr))
    case atStart => exact ⟨0, by omega, rfl, hid (fun x h => by simp at h), Ext.refl _⟩
    case round =>
      obtain ⟨k, hg, rfl, hN, hx⟩ := hrel
      by_cases hk : k < xs.length
      · obtain ⟨b, o, rfl, hc⟩ := HS.out.get k hk
        obtain ⟨c0, c1, c2, c3, c4⟩ := cellsT (w := wr) (b := b) (o := o + k * 5) (x := xs[k]) (fun j v hj => hx.out.keep (hc j v hj))
        clear hc
        have b0 : (0 : Int) ≤ (k : Int) := by omega
        have b1 : (k : Int) < (xs.length : Int) := by omega
        by_cases h1 : xs[k].nm.size ≤ 100
        · have HN := hid (show ∀ x, x ∈ xs.take (k + 1) → x.nm.size ≤ 100 from fun x hx => by
            rw [List.take_succ_eq_append_getElem hk, List.mem_append, List.mem_singleton] at hx
            rcases hx with hx | rfl
            · exact hN.out x hx
            · exact h1)
          go_wp2
          all_goals first
            | (go_ret; exact ⟨false, rfl, (fun h => by cases h), (by (repeat (first | exact Ext.refl _ | refine Ext.alloc ?_ _ | refine Ext.drewN ?_ _ | refine Ext.drew ?_ | refine Ext.trans ?_ (Hid.out (by assumption)))))⟩)
            | (go_roundg (gk - 1); (case measure => omega); (case rel => exact ⟨k + 1, by omega, by go_num, HN, (by (repeat (first | exact Ext.refl _ | refine Ext.alloc ?_ _ | refine Ext.drewN ?_ _ | refine Ext.drew ?_ | refine Ext.trans ?_ (Hid.out (by assumption)))))⟩))
        · have h1i : 100 < (xs[k].nm.size : Int) := by omega
          go_wp2
          go_ret
          exact ⟨false, rfl, (fun h => by cases h), (by (repeat (first | exact Ext.refl _ | refine Ext.alloc ?_ _ | refine Ext.drewN ?_ _ | refine Ext.drew ?_ | refine Ext.trans ?_ (Hid.out (by assumption)))))⟩
      · have HA := hid (show ∀ x, x ∈ xs → x.nm.size ≤ 100 from fun x h => hN.out x (by rw [List.take_of_length_le (by omega)]; exact h))
        go_wp2
        go_ret
        exact ⟨true, rfl, fun _ => ⟨hb, HA.out⟩, (by (repeat (first | exact Ext.refl _ | refine Ext.alloc ?_ _ | refine Ext.drewN ?_ _ | refine Ext.drew ?_ | refine Ext.trans ?_ (Hid.out (by assumption)))))⟩
  · have hbi : 10 < (xs.length : Int) := by omega
    go_enter Try.func23, Try.ntmps23
    go_wp2_with fail
    (go_ret; exact ⟨false, rfl, (fun h => by cases h), (by (repeat (first | exact Ext.refl _ | refine Ext.alloc ?_ _ | refine Ext.drewN ?_ _ | refine Ext.drew ?_ | refine Ext.trans ?_ (Hid.out (by assumption)))))⟩)
end Go.Proofs.Ytjggjkmafcokjaa

