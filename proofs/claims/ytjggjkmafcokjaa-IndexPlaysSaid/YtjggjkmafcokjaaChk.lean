/- Which names, tests, filters and events may be: the walks of the program's Name, One, Check. -/
import Derived.Test.YtjggjkmafcokjaaFewD
import Derived.Test.YtjggjkmafcokjaaRedQ
set_option linter.unusedVariables false
set_option linter.unusedSimpArgs false
namespace Go.Proofs.Ytjggjkmafcokjaa
open Go.RowKit

/-- a letter, or a digit -/
def chrOk (c : UInt8) : Bool := decide ((97 ≤ (c.toNat : Int) ∧ (c.toNat : Int) ≤ 122) ∨ (48 ≤ (c.toNat : Int) ∧ (c.toNat : Int) ≤ 57))
/-- whether a name may be -/
def nameB (s : List UInt8) : Bool := decide (1 ≤ s.length ∧ s.length ≤ 16) && s.all chrOk
theorem take_str (s : ByteArray) (k : Nat) (h : k < s.size) : s.data.toList.take (k + 1) = s.data.toList.take k ++ [s[k]] := by
  rw [List.take_succ_eq_append_getElem (by simpa using h)]; rfl
theorem nm_take {s : ByteArray} {k : Nat} (hk : k < s.size) (h : (s.data.toList.take k).all chrOk = true) (he : chrOk s[k] = true) : (s.data.toList.take (k + 1)).all chrOk = true := by
  rw [take_str s k hk, List.all_append, h]; simp [he]
theorem nm_no {s : ByteArray} {k : Nat} (hk : k < s.size) (he : chrOk s[k] = false) : false = nameB s.toList := by
  have hm : s[k] ∈ s.toList := by rw [Lib.toList_data]; exact List.getElem_mem (by simpa using hk)
  have : s.toList.all chrOk = false := List.all_eq_false.2 ⟨s[k], hm, by rw [he]; decide⟩
  unfold nameB; rw [this, Bool.and_false]
theorem nm_yes {s : ByteArray} (h1 : 1 ≤ s.size) (h2 : s.size ≤ 16) (h : s.data.toList.all chrOk = true) : true = nameB s.toList := by
  unfold nameB; rw [len_toList, Lib.toList_data, h]; simp [h1, h2]
theorem nm_len {s : ByteArray} (h : ¬ (1 ≤ s.size ∧ s.size ≤ 16)) : false = nameB s.toList := by
  unfold nameB; rw [len_toList]; simp only [decide_eq_false h, Bool.false_and]
set_option maxHeartbeats 1000000 in
theorem name_any (s : ByteArray) (w : World) : Calls Try.prog 43 #[.string s] w fun e w' => e = .returned (.bool (nameB s.toList)) ∧ w = w' := by
  by_cases h1 : 1 ≤ s.size
  · by_cases h2 : s.size ≤ 16
    · have i1 : (1 : Int) ≤ (s.size : Int) := by omega
      have i2 : (s.size : Int) ≤ 16 := by omega
      go_enter Try.func43, Try.ntmps43
      go_wp2_with fail
      go_loopg [15] (s.size) (fun g st wr => ∃ k : Nat, g + k = s.size ∧ st = .int .i64 k ∧ Hid ((s.data.toList.take k).all chrOk = true) ∧ w = wr)
      case atStart => exact ⟨0, by omega, rfl, rfl, rfl⟩
      case round =>
        obtain ⟨k, hg, rfl, hok, rfl⟩ := hrel
        by_cases hk : k < s.size
        · have b0 : (0 : Int) ≤ (k : Int) := by omega
          have b1 : (k : Int) < (s.size : Int) := by omega
          go_wp2_with fail
          all_goals first
            | (go_ret; exact ⟨ret_bool (nm_no hk (by unfold chrOk; simp; omega)), rfl⟩)
            | (go_roundg (gk - 1); (case measure => omega); (case rel => exact ⟨k + 1, by omega, by go_num, nm_take hk hok.out (by unfold chrOk; simp; omega), rfl⟩))
        · have hk' : s.data.toList.take k = s.data.toList := List.take_of_length_le (by simp; omega)
          rw [hk'] at hok
          clear hk'
          go_wp2
          go_ret
          exact ⟨ret_bool (nm_yes h1 h2 hok.out), rfl⟩
    · have H := hid (nm_len (s := s) (by omega))
      have i2 : (16 : Int) < (s.size : Int) := by omega
      go_enter Try.func43, Try.ntmps43
      go_wp2_with fail
      all_goals (go_ret; exact ⟨ret_bool H.out, rfl⟩)
  · have H := hid (nm_len (s := s) (by omega))
    have i1 : (s.size : Int) < 1 := by omega
    go_enter Try.func43, Try.ntmps43
    go_wp2_with fail
    all_goals (go_ret; exact ⟨ret_bool H.out, rfl⟩)
/-- whether a test may be: 0, or the error's number 50 -/
def oneB (t : T) : Bool := nameB t.nm.toList && known t.op && (if t.op = 8 then decide (t.v = ⟨0, 0, []⟩) else decide (vChk t.k t.n t.s.toList = 0) && (!decide (t.op = 7) || decide (t.k = 2)))
def errF (b : Bool) : Int := if b = true then 0 else 50
theorem one_ok {t : T} (h : oneB t = true) : t.ts.ok := by
  unfold oneB known at h
  simp only [Bool.and_eq_true, decide_eq_true_eq] at h
  obtain ⟨⟨_, h2⟩, h3⟩ := h
  by_cases h8 : t.op = 8
  · exact ⟨h2, .inl h8, fun h7 => by rw [show t.ts.op = t.op from rfl] at h7; omega⟩
  · rw [if_neg h8] at h3
    simp only [Bool.and_eq_true, Bool.or_eq_true, decide_eq_true_eq, Bool.not_eq_true', decide_eq_false_iff_not] at h3
    exact ⟨h2, .inr h3.1, fun h7 => h3.2.resolve_left (fun n => n h7)⟩
theorem run_eqV (k n : Int) (s : ByteArray) (w : World) :
    (binOp .eql 52 (.agg #[.int .i64 k, .int .i64 n, .string s]) (.agg #[.int .i64 0, .int .i64 0, .string ⟨#[]⟩])).run Try.prog w = .ok (.bool (decide ((⟨k, n, s.toList⟩ : Vl) = ⟨0, 0, []⟩))) w := by
  have e' : decide ((⟨k, n, s.toList⟩ : Vl) = ⟨0, 0, []⟩) = decide (k = 0 ∧ n = 0 ∧ s.toList = []) := decide_eq_decide.2 (by simp)
  rw [e']
  clear e'
  by_cases h3 : k = 0
  · by_cases h4 : n = 0
    · by_cases h5 : s.toList = []
      · simp [h3, h4, h5, go_sem]
      · simp [h3, h4, h5, go_sem]
    · simp [h3, h4, go_sem]
  · simp [h3, go_sem]
set_option maxRecDepth 100000 in
set_option maxHeartbeats 2000000 in
theorem one_any (t : T) (w : World) : Calls Try.prog 35 #[.agg #[.string t.nm, .int .i64 t.op, .int .i64 t.k, .int .i64 t.n, .string t.s]] w fun e w' => e = .returned (.int .i64 (errF (oneB t))) ∧ Ext w w' := by
  have heq := run_eqV t.k t.n t.s
  go_enter Try.func35, Try.ntmps35
  go_wp2_with (first | (go_at_call 43; refine (name_any _ _).mono ?_; rintro e w' ⟨rfl, rfl⟩) | (go_at_call 44; refine (check_any _ _ _ _).mono ?_; rintro e w' ⟨rfl, hb⟩; have hc := hb.cell; have hz := hb.size; have hx := hid hb; clear hb))
  all_goals
    go_ret
    refine ⟨ret_int ?_, (by (repeat (first | exact Ext.refl _ | refine Ext.alloc ?_ _ | refine Ext.drewN ?_ _ | refine Ext.drew ?_ | refine Ext.trans ?_ (Hid.out (by assumption)))))⟩
    clear heq
    unfold errF oneB known
    simp_all [T.v]
    try omega
    try (intros; simp_all)
/-- whether a filter may be -/
def chkB (xs : List T) : Bool := decide (xs.length ≤ 8) && xs.all oneB
theorem chk_ok {xs : List T} (h : chkB xs = true) : xs.length ≤ 8 ∧ okF xs := by
  unfold chkB at h
  simp only [Bool.and_eq_true, decide_eq_true_eq, List.all_eq_true] at h
  exact ⟨h.1, fun t ht => one_ok (h.2 t ht)⟩
theorem chk_len {xs : List T} (h : ¬ xs.length ≤ 8) : (50 : Int) = errF (chkB xs) := by unfold chkB; rw [decide_eq_false h]; rfl
theorem chk_no {xs : List T} {k : Nat} (hk : k < xs.length) (h : oneB xs[k] = false) : (50 : Int) = errF (chkB xs) := by
  have : xs.all oneB = false := List.all_eq_false.2 ⟨xs[k], List.getElem_mem hk, by rw [h]; decide⟩
  unfold chkB; rw [this, Bool.and_false]; rfl
theorem chk_yes {xs : List T} (h : xs.length ≤ 8) (k : xs.all oneB = true) : (0 : Int) = errF (chkB xs) := by unfold chkB; rw [decide_eq_true h, k]; rfl
set_option maxHeartbeats 1000000 in
theorem chkF_any (a : Option Addr) (n cap : Nat) (xs : List T) (w : World) (hS : Sl w 5 T.cs a n cap xs) :
    Calls Try.prog 25 #[.slice a n cap] w fun e w' => e = .returned (.int .i64 (errF (chkB xs))) ∧ Ext w w' := by
  obtain rfl := hS.neq
  have hm := hS.max
  have hl := hS.len
  unfold maxLen at hm
  have HS := hid hS
  clear hS
  by_cases h8 : xs.length ≤ 8
  · have hi8 : (xs.length : Int) ≤ 8 := by omega
    go_enter Try.func25, Try.ntmps25
    go_wp2_with fail
    go_loopg [11] (xs.length) (fun g st wr => ∃ k : Nat, g + k = xs.length ∧ st = .int .i64 k ∧ Hid ((xs.take k).all oneB = true) ∧ Hid (Ext w wr))
    case atStart => exact ⟨0, by omega, rfl, rfl, Ext.refl _⟩
    case round =>
      obtain ⟨k, hg, rfl, hok, hx⟩ := hrel
      by_cases hk : k < xs.length
      · obtain ⟨b, o, rfl, hc⟩ := HS.out.get k hk
        obtain ⟨c0, c1, c2, c3, c4⟩ := cellsT (w := wr) (b := b) (o := o + k * 5) (x := xs[k]) (fun j v hj => hx.out.keep (hc j v hj))
        clear hc
        have b0 : (0 : Int) ≤ (k : Int) := by omega
        have b1 : (k : Int) < (xs.length : Int) := by omega
        cases he : oneB xs[k] with
        | false =>
          have He := hid (show errF (oneB xs[k]) = 50 from by rw [he]; rfl)
          have He' := hid he
          clear he
          go_wp2_with (go_at_call 35; refine (one_any xs[k] _).mono ?_; rintro e w' ⟨he, hb⟩; rw [He.out] at he; subst he; have hy := hid hb; clear hb)
          go_ret
          refine ⟨ret_int (chk_no hk He'.out), ?_⟩
          (repeat (first | exact Ext.refl _ | refine Ext.alloc ?_ _ | refine Ext.drewN ?_ _ | refine Ext.drew ?_ | refine Ext.trans ?_ (Hid.out (by assumption))))
        | true =>
          have He := hid (show errF (oneB xs[k]) = 0 from by rw [he]; rfl)
          have He' := hid he
          clear he
          go_wp2_with (go_at_call 35; refine (one_any xs[k] _).mono ?_; rintro e w' ⟨he, hb⟩; rw [He.out] at he; subst he; have hy := hid hb; clear hb)
          go_roundg (gk - 1)
          case measure => omega
          case rel => exact ⟨k + 1, by omega, by go_num, all_take (p := oneB) hk hok.out He'.out, (by (repeat (first | exact Ext.refl _ | refine Ext.alloc ?_ _ | refine Ext.drewN ?_ _ | refine Ext.drew ?_ | refine Ext.trans ?_ (Hid.out (by assumption)))))⟩
      · have hk' : xs.take k = xs := List.take_of_length_le (by omega)
        rw [hk'] at hok
        clear hk'
        go_wp2
        go_ret
        refine ⟨ret_int (chk_yes h8 hok.out), ?_⟩
        (repeat (first | exact Ext.refl _ | refine Ext.alloc ?_ _ | refine Ext.drewN ?_ _ | refine Ext.drew ?_ | refine Ext.trans ?_ (Hid.out (by assumption))))
  · have hi8 : (8 : Int) < (xs.length : Int) := by omega
    have H := hid (chk_len h8)
    clear h8
    go_enter Try.func25, Try.ntmps25
    go_wp2_with fail
    go_ret
    refine ⟨ret_int H.out, ?_⟩
    (repeat (first | exact Ext.refl _ | refine Ext.alloc ?_ _ | refine Ext.drewN ?_ _ | refine Ext.drew ?_ | refine Ext.trans ?_ (Hid.out (by assumption))))
/-- A number that, if 0, tells something. -/
def ChkR (p : Prop) (w : World) (e : Ending) (w' : World) : Prop := ∃ z : Int, e = .returned (.int .i64 z) ∧ (z = 0 → p) ∧ (z = 0 ∨ z = 40) ∧ Ext w w'
end Go.Proofs.Ytjggjkmafcokjaa
