/- The value of an event's attribute; whether a test holds of an event: the walks of event's Find and filter's Holds. -/
import Derived.Test.YtjggjkmafcokjaaIs
set_option linter.unusedVariables false
set_option linter.unusedSimpArgs false
namespace Go.Proofs.Ytjggjkmafcokjaa
open Go.RowKit

theorem indexA_any (a : Option Addr) (n cap : Nat) (xs : List AT) (p : AT → Bool) (fn : Nat) (cp : Addr) (w : World) (hS : Sl w 4 AT.cs a n cap xs)
    (hf : ∀ args w, (callFunc fn args).run Try.prog w = .ok (.enter fn args) w)
    (hp : ∀ x, x ∈ xs → ∀ w', Ext w w' → Calls Try.prog fn #[.agg #[.string x.nm, .int .i64 x.k, .int .i64 x.n, .string x.s], .pointer (some cp)] w' fun e w'' => e = .returned (.bool (p x)) ∧ Ext w' w'') :
    Calls Try.prog 63 #[.slice a n cap, .func (.func fn) #[] #[.pointer (some cp)]] w fun e w' => e = .returned (.int .i64 (idxBy p xs)) ∧ Ext w w' := by
  obtain rfl := hS.neq
  have hm := hS.max
  have hl := hS.len
  unfold maxLen at hm
  have HS := hid hS
  clear hS
  have HP := hid hp
  clear hp
  go_enter Try.func63, Try.ntmps63
  go_wp2_with fail
  go_loopg [5, 8] (xs.length) (fun g _ st wr => ∃ k : Nat, g + k = xs.length ∧ st = .int .i64 k ∧ Hid ((xs.take k).any p = false) ∧ Hid (Ext w wr))
  case atStart => exact ⟨0, by omega, rfl, rfl, Ext.refl _⟩
  case round =>
    obtain ⟨k, hg, rfl, hno, hx⟩ := hrel
    by_cases hk : k < xs.length
    · obtain ⟨b, o, rfl, hc⟩ := HS.out.get k hk
      obtain ⟨c0, c1, c2, c3⟩ := cellsA (w := wr) (b := b) (o := o + k * 4) (x := xs[k]) (fun j v hj => hx.out.keep (hc j v hj))
      clear hc
      have b0 : (0 : Int) ≤ (k : Int) := by omega
      have b1 : (k : Int) < (xs.length : Int) := by omega
      cases he : p xs[k] with
      | true =>
        have He := hid he
        clear he
        go_wp2_with fail
        refine (HP.out xs[k] (List.getElem_mem hk) _ hx.out).mono ?_
        rintro e w1 ⟨rfl, hb⟩
        have hy := hid hb
        clear hb
        rw [He.out]
        go_wp2
        go_ret
        refine ⟨ret_int (idx_found (p := p) hk hno.out He.out), ?_⟩
        (repeat (first | exact Ext.refl _ | refine Ext.alloc ?_ _ | refine Ext.drewN ?_ _ | refine Ext.drew ?_ | refine Ext.trans ?_ (Hid.out (by assumption))))
      | false =>
        have He := hid he
        clear he
        go_wp2_with fail
        refine (HP.out xs[k] (List.getElem_mem hk) _ hx.out).mono ?_
        rintro e w1 ⟨rfl, hb⟩
        have hy := hid hb
        clear hb
        rw [He.out]
        go_wp2
        go_roundg (gk - 1)
        case measure => omega
        case rel => exact ⟨k + 1, by omega, by go_num, any_take (p := p) hk hno.out He.out, (by (repeat (first | exact Ext.refl _ | refine Ext.alloc ?_ _ | refine Ext.drewN ?_ _ | refine Ext.drew ?_ | refine Ext.trans ?_ (Hid.out (by assumption)))))⟩
    · go_wp2
      go_ret
      refine ⟨ret_int (idx_none (any_none (p := p) hno.out hk)), ?_⟩
      (repeat (first | exact Ext.refl _ | refine Ext.alloc ?_ _ | refine Ext.drewN ?_ _ | refine Ext.drew ?_ | refine Ext.trans ?_ (Hid.out (by assumption))))
theorem find1_any (x : AT) (nm : ByteArray) (cp : Nat) (w : World) (h0 : w.cell? ⟨cp, 0, none⟩ = some (.string nm)) :
    Calls Try.prog 62 #[.agg #[.string x.nm, .int .i64 x.k, .int .i64 x.n, .string x.s], .pointer (some ⟨cp, 0, none⟩)] w fun e w' => e = .returned (.bool (decide (x.nm.toList = nm.toList))) ∧ Ext w w' := by
  have k0 := ((Ext.refl w).alloc (Obj.cells #[.string x.nm, .int .i64 x.k, .int .i64 x.n, .string x.s] 64)).keep h0
  go_enter Try.func62, Try.ntmps62
  go_wp2
  all_goals
    go_ret
    refine ⟨ret_bool (by rw [Bool.eq_iff_iff]; simp), ?_⟩
    (repeat (first | exact Ext.refl _ | refine Ext.alloc ?_ _ | refine Ext.drewN ?_ _ | refine Ext.drew ?_ | refine Ext.trans ?_ (Hid.out (by assumption))))
def findA (xs : List AT) (nm : List UInt8) : Option AT := xs.find? fun x => decide (x.nm.toList = nm)
theorem find_idx {xs : List AT} {nm : List UInt8} : (∃ (i : Nat) (hi : i < xs.length), idxBy (fun x : AT => decide (x.nm.toList = nm)) xs = (i : Int) ∧ findA xs nm = some xs[i]) ∨ (idxBy (fun x : AT => decide (x.nm.toList = nm)) xs = -1 ∧ findA xs nm = none) := by
  unfold idxBy findA
  cases h : xs.findIdx? (fun x : AT => decide (x.nm.toList = nm)) with
  | none =>
    refine .inr ⟨rfl, ?_⟩
    rw [List.find?_eq_none]
    intro x hx
    rw [List.findIdx?_eq_none_iff] at h
    rw [h x hx]; decide
  | some i =>
    rw [List.findIdx?_eq_some_iff_getElem] at h
    obtain ⟨hi, h1, h2⟩ := h
    refine .inl ⟨i, hi, rfl, ?_⟩
    rw [List.find?_eq_some_iff_getElem]
    refine ⟨h1, i, hi, rfl, fun j hj => ?_⟩
    have := h2 j hj
    simpa using this
def findR (o : Option AT) : Value := match o with
  | some x => .tuple #[.agg #[.int .i64 x.k, .int .i64 x.n, .string x.s], .bool true]
  | none => .tuple #[.agg #[.int .i64 0, .int .i64 0, .string ⟨#[]⟩], .bool false]
set_option maxHeartbeats 1000000 in
theorem find_any (a : Option Addr) (n cap : Nat) (xs : List AT) (nm : ByteArray) (w : World) (hS : Sl w 4 AT.cs a n cap xs) :
    Calls Try.prog 45 #[.slice a n cap, .string nm] w fun e w' => e = .returned (findR (findA xs nm.toList)) ∧ Ext w w' := by
  obtain rfl := hS.neq
  have hm := hS.max
  have hl := hS.len
  unfold maxLen at hm
  have HS := hid hS
  clear hS
  rcases find_idx (xs := xs) (nm := nm.toList) with ⟨i, hi, h1, h2⟩ | ⟨h1, h2⟩
  · obtain ⟨b, o, rfl, hc⟩ := HS.out.get i hi
    have HC := hid hc
    have H1 := hid h1
    have H2 := hid h2
    clear hc h1 h2
    have b0 : (0 : Int) ≤ (i : Int) := by omega
    have b1 : (i : Int) < (xs.length : Int) := by omega
    go_enter Try.func45, Try.ntmps45
    go_wp2_with (go_at_call 63; refine (indexA_any _ _ _ xs (fun x : AT => decide (x.nm.toList = nm.toList)) _ _ _ (HS.out.ext (by (repeat (first | exact Ext.refl _ | refine Ext.alloc ?_ _ | refine Ext.drewN ?_ _ | refine Ext.drew ?_ | refine Ext.trans ?_ (Hid.out (by assumption)))))) (fun _ _ => by kernel_rfl) (fun x _ w' hw => find1_any x nm _ w' (hw.keep (by simp)))).mono ?_; rintro e w' ⟨he, hb⟩; rw [H1.out] at he; subst he; have hE : Ext w w' := Ext.trans (by (repeat (first | exact Ext.refl _ | refine Ext.alloc ?_ _ | refine Ext.drewN ?_ _ | refine Ext.drew ?_ | refine Ext.trans ?_ (Hid.out (by assumption))))) hb; obtain ⟨c0, c1, c2, c3⟩ := cellsA (w := w') (b := b) (o := o + i * 4) (x := xs[i]) (fun j v hj => hE.keep (HC.out j v hj)); have z0 := hb.keep (a := ⟨w.heap.size + 1, 0, none⟩) (v := .int .i64 0) (by simp); have z1 := hb.keep (a := ⟨w.heap.size + 1, 1, none⟩) (v := .int .i64 0) (by simp); have z2 := hb.keep (a := ⟨w.heap.size + 1, 2, none⟩) (v := .string ⟨#[]⟩) (by simp); have hz := hb.size; have hq := hb.cell; have hfz := hb.frozen; clear hE; have hx := hid hb; clear hb)
    exact bodyPost_ret (v := .tuple #[.agg #[.int .i64 xs[i].k, .int .i64 xs[i].n, .string xs[i].s], .bool true]) (by simp [results, Try.results45, go_sem, z0, z1, z2]) rfl ⟨by rw [H2.out]; rfl, Ext.setCell (Ext.setCell (Ext.setCell (by (repeat (first | exact Ext.refl _ | refine Ext.alloc ?_ _ | refine Ext.drewN ?_ _ | refine Ext.drew ?_ | refine Ext.trans ?_ (Hid.out (by assumption))))) (Nat.le_succ _) _) (Nat.le_succ _) _) (Nat.le_succ _) _⟩
  · have H1 := hid h1
    have H2 := hid h2
    clear h1 h2
    go_enter Try.func45, Try.ntmps45
    go_wp2_with (go_at_call 63; refine (indexA_any _ _ _ xs (fun x : AT => decide (x.nm.toList = nm.toList)) _ _ _ (HS.out.ext (by (repeat (first | exact Ext.refl _ | refine Ext.alloc ?_ _ | refine Ext.drewN ?_ _ | refine Ext.drew ?_ | refine Ext.trans ?_ (Hid.out (by assumption)))))) (fun _ _ => by kernel_rfl) (fun x _ w' hw => find1_any x nm _ w' (hw.keep (by simp)))).mono ?_; rintro e w' ⟨he, hb⟩; rw [H1.out] at he; subst he; have z0 := hb.keep (a := ⟨w.heap.size + 1, 0, none⟩) (v := .int .i64 0) (by simp); have z1 := hb.keep (a := ⟨w.heap.size + 1, 1, none⟩) (v := .int .i64 0) (by simp); have z2 := hb.keep (a := ⟨w.heap.size + 1, 2, none⟩) (v := .string ⟨#[]⟩) (by simp); have hz := hb.size; have hq := hb.cell; have hfz := hb.frozen; have hx := hid hb; clear hb)
    exact bodyPost_ret (v := .tuple #[.agg #[.int .i64 0, .int .i64 0, .string ⟨#[]⟩], .bool false]) (by simp [results, Try.results45, go_sem, z0, z1, z2]) rfl ⟨by rw [H2.out]; rfl, Ext.setCell (Ext.setCell (Ext.setCell (by (repeat (first | exact Ext.refl _ | refine Ext.alloc ?_ _ | refine Ext.drewN ?_ _ | refine Ext.drew ?_ | refine Ext.trans ?_ (Hid.out (by assumption))))) (Nat.le_succ _) _) (Nat.le_succ _) _) (Nat.le_succ _) _⟩
end Go.Proofs.Ytjggjkmafcokjaa

namespace Go.Proofs.Ytjggjkmafcokjaa
open Go.RowKit

def holdsT (t : T) (xs : List AT) : Bool := match findA xs t.nm.toList with
  | some x => isV t.op t.v x.v
  | none => false
set_option maxHeartbeats 1000000 in
theorem holds_any (t : T) (a : Option Addr) (n cap : Nat) (xs : List AT) (w : World) (hS : Sl w 4 AT.cs a n cap xs) :
    Calls Try.prog 36 #[.agg #[.string t.nm, .int .i64 t.op, .int .i64 t.k, .int .i64 t.n, .string t.s], .slice a n cap] w fun e w' => e = .returned (.bool (holdsT t xs)) ∧ Ext w w' := by
  have HS := hid hS
  clear hS
  cases hf : findA xs t.nm.toList with
  | none =>
    have HF := hid hf
    have HH := hid (show holdsT t xs = false from by unfold holdsT; rw [hf])
    clear hf
    go_enter Try.func36, Try.ntmps36
    go_wp2_with (go_at_call 45; refine (find_any _ _ _ xs t.nm _ (HS.out.ext (by (repeat (first | exact Ext.refl _ | refine Ext.alloc ?_ _ | refine Ext.drewN ?_ _ | refine Ext.drew ?_ | refine Ext.trans ?_ (Hid.out (by assumption))))))).mono ?_; rintro e w' ⟨he, hb⟩; rw [HF.out] at he; unfold findR at he; subst he; have t0 : w'.cell? ⟨w.heap.size, 0, none⟩ = some (.string t.nm) := hb.keep (by simp); have t1 : w'.cell? ⟨w.heap.size, 1, none⟩ = some (.int .i64 t.op) := hb.keep (by simp); have t2 : w'.cell? ⟨w.heap.size, 2, none⟩ = some (.int .i64 t.k) := hb.keep (by simp); have t3 : w'.cell? ⟨w.heap.size, 3, none⟩ = some (.int .i64 t.n) := hb.keep (by simp); have t4 : w'.cell? ⟨w.heap.size, 4, none⟩ = some (.string t.s) := hb.keep (by simp); have hz : w.heap.size < w'.heap.size := (by have := hb.size; simp at this; omega); have hx := hid hb; clear hb)
    go_ret
    refine ⟨ret_bool HH.out.symm, ?_⟩
    (repeat (first | exact Ext.refl _ | refine Ext.alloc ?_ _ | refine Ext.drewN ?_ _ | refine Ext.drew ?_ | refine Ext.trans ?_ (Hid.out (by assumption))))
  | some x =>
    have HF := hid hf
    have HH := hid (show holdsT t xs = isV t.op t.v x.v from by unfold holdsT; rw [hf])
    clear hf
    go_enter Try.func36, Try.ntmps36
    go_wp2_with (first | (go_at_call 45; refine (find_any _ _ _ xs t.nm _ (HS.out.ext (by (repeat (first | exact Ext.refl _ | refine Ext.alloc ?_ _ | refine Ext.drewN ?_ _ | refine Ext.drew ?_ | refine Ext.trans ?_ (Hid.out (by assumption))))))).mono ?_; rintro e w' ⟨he, hb⟩; rw [HF.out] at he; unfold findR at he; subst he; have t0 : w'.cell? ⟨w.heap.size, 0, none⟩ = some (.string t.nm) := hb.keep (by simp); have t1 : w'.cell? ⟨w.heap.size, 1, none⟩ = some (.int .i64 t.op) := hb.keep (by simp); have t2 : w'.cell? ⟨w.heap.size, 2, none⟩ = some (.int .i64 t.k) := hb.keep (by simp); have t3 : w'.cell? ⟨w.heap.size, 3, none⟩ = some (.int .i64 t.n) := hb.keep (by simp); have t4 : w'.cell? ⟨w.heap.size, 4, none⟩ = some (.string t.s) := hb.keep (by simp); have hz : w.heap.size < w'.heap.size := (by have := hb.size; simp at this; omega); have hx := hid hb; clear hb) | (go_at_call 38; refine (is_any t x.k x.n x.s _).mono ?_; rintro e w2 ⟨rfl, hb⟩; have hy := hid hb; clear hb))
    go_ret
    refine ⟨ret_bool HH.out.symm, ?_⟩
    (repeat (first | exact Ext.refl _ | refine Ext.alloc ?_ _ | refine Ext.drewN ?_ _ | refine Ext.drew ?_ | refine Ext.trans ?_ (Hid.out (by assumption))))
end Go.Proofs.Ytjggjkmafcokjaa

namespace Go.Proofs.Ytjggjkmafcokjaa
open Go.RowKit

def matchesT (f : List T) (xs : List AT) : Bool := f.all fun t => holdsT t xs
theorem all_take {α : Type} {p : α → Bool} {xs : List α} {k : Nat} (hk : k < xs.length) (h : (xs.take k).all p = true) (he : p xs[k] = true) : (xs.take (k + 1)).all p = true := by
  rw [List.take_succ_eq_append_getElem hk, List.all_append, h]; simp [he]
theorem all_no {α : Type} {p : α → Bool} {xs : List α} {k : Nat} (hk : k < xs.length) (he : p xs[k] = false) : false = xs.all p := by
  rw [eq_comm, List.all_eq_false]; exact ⟨xs[k], List.getElem_mem hk, by rw [he]; decide⟩
set_option maxHeartbeats 1000000 in
theorem matches_any (fa : Option Addr) (fn fc : Nat) (fs : List T) (a : Option Addr) (n cap : Nat) (xs : List AT) (w : World) (hF : Sl w 5 T.cs fa fn fc fs) (hS : Sl w 4 AT.cs a n cap xs) :
    Calls Try.prog 26 #[.slice fa fn fc, .slice a n cap] w fun e w' => e = .returned (.bool (matchesT fs xs)) ∧ Ext w w' := by
  obtain rfl := hF.neq
  have hm := hF.max
  have hl := hF.len
  unfold maxLen at hm
  have HF := hid hF
  have HS := hid hS
  clear hF hS
  go_enter Try.func26, Try.ntmps26
  go_wp2_with fail
  go_step3
  go_wp2_with fail
  go_step3
  go_wp2_with fail
  go_loopg [5, 10] (fs.length) (fun g al st wr => ∃ k : Nat, g + k = fs.length ∧ st = .int .i64 k ∧ al = .bool true ∧ Hid ((fs.take k).all (fun t => holdsT t xs) = true) ∧ Hid (Ext w wr))
  case atStart => exact ⟨0, by omega, rfl, rfl, rfl, Ext.refl _⟩
  case round =>
    obtain ⟨k, hg, rfl, rfl, hok, hx⟩ := hrel
    by_cases hk : k < fs.length
    · obtain ⟨b, o, rfl, hc⟩ := HF.out.get k hk
      obtain ⟨c0, c1, c2, c3, c4⟩ := cellsT (w := wr) (b := b) (o := o + k * 5) (x := fs[k]) (fun j v hj => hx.out.keep (hc j v hj))
      clear hc
      have b0 : (0 : Int) ≤ (k : Int) := by omega
      have b1 : (k : Int) < (fs.length : Int) := by omega
      cases he : holdsT fs[k] xs with
      | false =>
        have He := hid he
        clear he
        go_wp2_with (go_at_call 36; refine (holds_any fs[k] _ _ _ xs _ (HS.out.ext (by (repeat (first | exact Ext.refl _ | refine Ext.alloc ?_ _ | refine Ext.drewN ?_ _ | refine Ext.drew ?_ | refine Ext.trans ?_ (Hid.out (by assumption))))))).mono ?_; rintro e w' ⟨he, hb⟩; rw [He.out] at he; subst he; have hy := hid hb; clear hb)
        first | rw [Exit.noGoto_ret] | skip
        go_ret
        refine ⟨ret_bool (all_no (p := fun t => holdsT t xs) hk He.out), ?_⟩
        (repeat (first | exact Ext.refl _ | refine Ext.alloc ?_ _ | refine Ext.drewN ?_ _ | refine Ext.drew ?_ | refine Ext.trans ?_ (Hid.out (by assumption))))
      | true =>
        have He := hid he
        clear he
        go_wp2_with (go_at_call 36; refine (holds_any fs[k] _ _ _ xs _ (HS.out.ext (by (repeat (first | exact Ext.refl _ | refine Ext.alloc ?_ _ | refine Ext.drewN ?_ _ | refine Ext.drew ?_ | refine Ext.trans ?_ (Hid.out (by assumption))))))).mono ?_; rintro e w' ⟨he, hb⟩; rw [He.out] at he; subst he; have hy := hid hb; clear hb)
        go_roundg (gk - 1)
        case measure => omega
        case rel => exact ⟨k + 1, by omega, by go_num, rfl, all_take (p := fun t => holdsT t xs) hk hok.out He.out, (by (repeat (first | exact Ext.refl _ | refine Ext.alloc ?_ _ | refine Ext.drewN ?_ _ | refine Ext.drew ?_ | refine Ext.trans ?_ (Hid.out (by assumption)))))⟩
    · have hk' : fs.take k = fs := List.take_of_length_le (by omega)
      rw [hk'] at hok
      clear hk'
      go_wp2
      first | rw [Exit.noGoto_ret] | skip
      go_ret
      refine ⟨ret_bool hok.out.symm, ?_⟩
      (repeat (first | exact Ext.refl _ | refine Ext.alloc ?_ _ | refine Ext.drewN ?_ _ | refine Ext.drew ?_ | refine Ext.trans ?_ (Hid.out (by assumption))))
end Go.Proofs.Ytjggjkmafcokjaa

