/- Chapter 08: the statements' head: plain laws. -/
import Derived.Test.YtjggjkmafcokjaaMatch8
import Derived.Test.YtjggjkmafcokjaaGet8
import Derived.Test.YtjggjkmafcokjaaVal
set_option linter.unusedVariables false
set_option linter.unusedSimpArgs false
namespace Go.Proofs.Ytjggjkmafcokjaa
open Go.RowKit

/-- A slice that was laid just now, whole. -/
theorem sl_ofBlock8 {α : Type} {w : World} {sz : Nat} {c : α → List Value} {B n : Nat} {t : TypeId} {fr : Nat × Nat} (xs : List α) (hw : ∀ x, (c x).length = sz) (hn : n = xs.length) (hm : xs.length ≤ 1000)
    {cs : Array Value} (h : w.heap[B]? = some (.cells cs t fr)) (hcs : cs.toList = xs.flatMap c) : Sl w sz c (some ⟨B, 0, none⟩) n n xs :=
  ⟨hn, Nat.le_refl _, by rw [hn]; simp only [maxLen]; omega, (fun h => by cases h), hw, fun k x hk => ⟨B, 0, rfl, fun j v hj => by
    have := flatMap_at hw xs k x hk j v hj
    rw [← hcs] at this
    rw [Nat.zero_add]
    simp only [World.cell?, h]
    simpa using this⟩⟩
def tP8 : T := ⟨⟨#[112]⟩, 5, 1, 3, ⟨#[]⟩⟩
def aP8 : AT := ⟨⟨#[112]⟩, 1, 4, ⟨#[]⟩⟩
def aQ8 : AT := ⟨⟨#[113]⟩, 1, 4, ⟨#[]⟩⟩
theorem tP8_nm : tP8.nm.toList = [112] := by simp [tP8, Lib.toList_data]
theorem aP8_nm : aP8.nm.toList = [112] := by simp [aP8, Lib.toList_data]
theorem aQ8_nm : aQ8.nm.toList = [113] := by simp [aQ8, Lib.toList_data]
theorem tP8_v : tP8.v = ⟨1, 3, []⟩ := by simp [tP8, T.v, Lib.toList_data]
theorem aP8_v : aP8.v = ⟨1, 4, []⟩ := by simp [aP8, AT.v, Lib.toList_data]
theorem matchP8 : matchesT [tP8] [aP8] = true := by
  simp only [matchesT, holdsT, findA, List.all_cons, List.all_nil, List.find?_cons, aP8_nm, tP8_nm, tP8_v, decide_true, aP8_v, show tP8.op = 5 from rfl]; decide
theorem matchQ8 : matchesT [tP8] [aQ8] = false := by
  simp only [matchesT, holdsT, findA, List.all_cons, List.all_nil, List.find?_cons, List.find?_nil, aQ8_nm, tP8_nm]; decide
theorem chkP8 : chkB [tP8] = true := by
  simp only [chkB, oneB, nameB, List.all_cons, List.all_nil, tP8_nm, show tP8.op = 5 from rfl, show tP8.k = 1 from rfl, show tP8.n = 3 from rfl, show tP8.s = ⟨#[]⟩ from rfl, Lib.toList_data]; decide
theorem chk0 : chkB [] = true := by decide
def fdA : Int → Option (List T) := fun k => if k = 5 then some [] else (fun k => if k = 7 then some [tP8] else (fun _ => none) k) k
theorem fdA_5 : fdA 5 = some [] := rfl
theorem fdA_7 : fdA 7 = some [tP8] := rfl
theorem fdA_9 : fdA 9 = none := rfl
theorem fdA_ts : ∀ id ts, fdA id = some ts → ts.length ≤ 1000 := fun id ts h => by
  unfold fdA at h
  split at h
  · cases h; decide
  · dsimp only at h
    split at h
    · cases h; decide
    · cases h
theorem fdA_P (x : Int) : (∃ ts, fdA x = some ts ∧ matchesT ts [aP8] = true) ↔ (x = 5 ∨ x = 7) := by
  unfold fdA
  by_cases h5 : x = 5
  · subst h5; simp [matchesT]
  · by_cases h7 : x = 7
    · subst h7; simp [matchP8]
    · simp [h5, h7]
theorem fdA_Q (x : Int) : (∃ ts, fdA x = some ts ∧ matchesT ts [aQ8] = true) ↔ x = 5 := by
  unfold fdA
  by_cases h5 : x = 5
  · subst h5; simp [matchesT]
  · by_cases h7 : x = 7
    · subst h7; simp [matchQ8]
    · simp [h5, h7]
theorem one_of {zs : List Int} {a : Int} (hn : zs.Nodup) (h : ∀ x, x ∈ zs ↔ x = a) : zs = [a] := by
  match zs, hn, h with
  | [], _, h => have := (h a).2 rfl; cases this
  | [x], _, h => rw [(h x).1 (by simp)]
  | x :: y :: l, hn, h =>
    have h1 := (h x).1 (by simp)
    have h2 := (h y).1 (by simp)
    rw [h1, h2] at hn
    simp at hn
theorem two_of {zs : List Int} {a b n : Nat} (hab : a < b) (hn : zs.Nodup) (hr : Rise zs 0 n) (hl : n = zs.length) (h : ∀ x : Int, x ∈ zs ↔ x = a ∨ x = b) : zs = [(a : Int), (b : Int)] := by
  match zs, hn, hr, hl, h with
  | [], _, _, _, h => have := (h a).2 (.inl rfl); cases this
  | [x], _, _, _, h =>
    have h1 := (h a).2 (.inl rfl)
    have h2 := (h b).2 (.inr rfl)
    simp at h1 h2
    omega
  | [x, y], hn, hr, hl, h =>
    have h1 := (h x).1 (by simp)
    have h2 := (h y).1 (by simp)
    have h3 := hr 0 1 (by omega) (by omega) (by rw [hl]; simp)
    simp [gN] at h3
    simp at hn
    have hx : x = a := by omega
    have hy : y = b := by omega
    rw [hx, hy]
  | x :: y :: z :: l, hn, _, _, h =>
    have h1 := (h x).1 (by simp)
    have h2 := (h y).1 (by simp)
    have h3 := (h z).1 (by simp)
    simp at hn
    omega
end Go.Proofs.Ytjggjkmafcokjaa

namespace Go.Proofs.Ytjggjkmafcokjaa
open Go.RowKit

theorem ix_ext {w w' : World} {base p m s : Nat} {fd : Int → Option (List T)} {own : Nat → Option Lab} (h : Ix w base p m fd s own) (hx : Ext w w') : Ix w' base p m fd s own := by
  obtain ⟨bF, bT, sT, fF, fT, h⟩ := h
  exact ⟨bF, bT, sT, fF, fT, h.ext hx⟩
theorem ix_lab {w : World} {base p m s : Nat} {fd : Int → Option (List T)} {own : Nat → Option Lab} (h : Ix w base p m fd s own) {b : Nat} (hb : w.heap.size ≤ b) : own b = none := by
  obtain ⟨bF, bT, sT, fF, fT, h⟩ := h
  cases e : own b with
  | none => rfl
  | some l => have := (h.lab b l e).2; omega
theorem ix_base {w : World} {base p m s : Nat} {fd : Int → Option (List T)} {own : Nat → Option Lab} (h : Ix w base p m fd s own) : ∀ b l, own b = some l → base ≤ b := by
  obtain ⟨bF, bT, sT, fF, fT, h⟩ := h
  exact fun b l e => (h.lab b l e).1
theorem ext_chg {w wa w3 : World} {own : Nat → Option Lab} (hx : Ext w wa) (hC : Chg own wa w3) (hl : ∀ b l, own b = some l → w.heap.size ≤ b) : Ext w w3 := Below.trans hx (hC.below hl hx.size)
theorem add_dup8 {base p m s : Nat} {fd : Int → Option (List T)} {own : Nat → Option Lab} (id : Int) (a : Option Addr) (n c : Nat) (ts : List T) (w : World) (hU : U64 id) (hS : Sl w 5 T.cs a n c ts) (hc : chkB ts = true)
    (h : Ix w base p m fd s own) (hd : (fd id).isSome = true ∨ 500 ≤ s) :
    Calls Try.prog 12 #[.pointer (some ⟨p, 0, none⟩), .int .u64 id, .slice a n c] w fun e w' => e = .returned (.int .i64 80) ∧ Ext w w' := by
  obtain ⟨bF, bT, sT, fF, fT, h⟩ := h
  exact add_dup id a n c ts w hU hS hc h hd
set_option maxRecDepth 100000 in
set_option maxHeartbeats 8000000 in
theorem awake8_any (w : World) : Calls Try.prog 9 #[] w fun e w' => e = .returned (.bool true) ∧ Ext w w' := by
  go_enter Try.func9, Try.ntmps9
  go_wp2_with fail
  refine (new8_any _).mono ?_
  rintro e w1 ⟨p, own0, rfl, hI, hx⟩
  have HI1 := hid hI
  have HX1 := hid hx
  clear hI hx
  go_wp2_with fail
  refine (int_any _ _).mono ?_
  rintro e w2 ⟨rfl, hb⟩
  have hx2 := hid hb
  clear hb
  go_wp2_with fail
  refine (add_ok (own := own0) (fd := fun _ => none) (base := w.heap.size) (m := 0) (s := 0) 7 _ _ _ [tP8] _ (show (Lit.int .u64 7).wf = true by decide) (sl_ofBlock8 (B := w2.heap.size) [tP8] T.wid rfl (by decide) (t := 54) (fr := (0, 0)) (by (repeat (first | (refine heap_new ?_; (simp; done)) | refine heap_old (by first | (simp; done) | (simp; omega)) ?_))) rfl) (fun ad e _ => by cases e; exact ix_lab HI1.out hx2.out.size) chkP8 (ix_ext HI1.out (by (repeat (first | exact Ext.refl _ | refine Ext.alloc ?_ _ | refine Ext.drewN ?_ _ | refine Ext.drew ?_ | refine Ext.trans ?_ (Hid.out (by assumption)))))) (Ext.size (Ext.trans HX1.out (by (repeat (first | exact Ext.refl _ | refine Ext.alloc ?_ _ | refine Ext.drewN ?_ _ | refine Ext.drew ?_ | refine Ext.trans ?_ (Hid.out (by assumption))))))) rfl (by decide) (by decide)).mono ?_
  rintro e w3 ⟨own1, rfl, hI, hC, hF⟩
  have HI3 := hid hI
  have HX3 := hid (ext_chg (w := w) (by (repeat (first | exact Ext.refl _ | refine Ext.alloc ?_ _ | refine Ext.drewN ?_ _ | refine Ext.drew ?_ | refine Ext.trans ?_ (Hid.out (by assumption))))) hC (ix_base HI1.out))
  clear hI hC hF HI1 hx2
  go_wp2_with fail
  refine (add_ok (own := own1) (base := w.heap.size) (m := 17) (s := 1) 5 none 0 0 [] w3 (show (Lit.int .u64 5).wf = true by decide) (Sl.nil _ T.wid) (fun ad e _ => by cases e) chk0 HI3.out HX3.out.size (by decide) (by decide) (by decide)).mono ?_
  rintro e w4 ⟨own2, rfl, hI, hC, hF⟩
  have HI4 := hid (show Ix w4 w.heap.size p 34 fdA 2 own2 from hI)
  have HX4 := hid (ext_chg (w := w) (by (repeat (first | exact Ext.refl _ | refine Ext.alloc ?_ _ | refine Ext.drewN ?_ _ | refine Ext.drew ?_ | refine Ext.trans ?_ (Hid.out (by assumption))))) hC (ix_base HI3.out))
  clear hI hC hF HI3
  go_wp2_with fail
  refine (int_any _ _).mono ?_
  rintro e w5 ⟨rfl, hb⟩
  have hx5 := hid hb
  clear hb
  go_wp2_with fail
  refine (match_any sortedTo12 _ _ _ [aP8] _ (ix_ext HI4.out (by (repeat (first | exact Ext.refl _ | refine Ext.alloc ?_ _ | refine Ext.drewN ?_ _ | refine Ext.drew ?_ | refine Ext.trans ?_ (Hid.out (by assumption)))))) (by decide) (by decide) fdA_ts (sl_ofBlock8 (B := w5.heap.size) [aP8] AT.wid rfl (by decide) (t := 64) (fr := (0, 0)) (by (repeat (first | (refine heap_new ?_; (simp; done)) | refine heap_old (by first | (simp; done) | (simp; omega)) ?_))) rfl) (by decide) (fun e he => by simp at he; subst he; decide)).mono ?_
  rintro e w6 ⟨la, ln, lc, zs, rfl, hown, ⟨hz1, hz2, hz3⟩, hb⟩
  have hzn := hown.neq
  obtain rfl : zs = [((5 : Nat) : Int), ((7 : Nat) : Int)] := two_of (by decide) hz1 hz2 hzn (fun x => (hz3 x).trans (fdA_P x))
  have hx6 := hid (show Ext w4 w6 from Ext.trans (Ext.trans hx5.out ((Ext.refl _).alloc _)) hb)
  have HO6 := hid hown
  clear hz1 hz2 hz3 hb hown hx5
  go_wp2_with fail
  refine (int_any _ _).mono ?_
  rintro e w7 ⟨rfl, hb⟩
  have hx7 := hid hb
  clear hb
  go_wp2_with fail
  refine (match_any sortedTo12 _ _ _ [aQ8] _ (ix_ext HI4.out (by (repeat (first | exact Ext.refl _ | refine Ext.alloc ?_ _ | refine Ext.drewN ?_ _ | refine Ext.drew ?_ | refine Ext.trans ?_ (Hid.out (by assumption)))))) (by decide) (by decide) fdA_ts (sl_ofBlock8 (B := w7.heap.size) [aQ8] AT.wid rfl (by decide) (t := 64) (fr := (0, 0)) (by (repeat (first | (refine heap_new ?_; (simp; done)) | refine heap_old (by first | (simp; done) | (simp; omega)) ?_))) rfl) (by decide) (fun e he => by simp at he; subst he; decide)).mono ?_
  rintro e w8 ⟨ka, kn, kc, ks, rfl, hown, ⟨hz1, hz2, hz3⟩, hb⟩
  have hkn := hown.neq
  obtain rfl : ks = [5] := one_of hz1 (fun x => (hz3 x).trans (fdA_Q x))
  have hx8 := hid (show Ext w6 w8 from Ext.trans (Ext.trans hx7.out ((Ext.refl _).alloc _)) hb)
  clear hz1 hz2 hz3 hb hown hx7
  go_wp2_with fail
  refine (filter_any 7 _ (show (Lit.int .u64 7).wf = true by decide) (ix_ext HI4.out (by (repeat (first | exact Ext.refl _ | refine Ext.alloc ?_ _ | refine Ext.drewN ?_ _ | refine Ext.drew ?_ | refine Ext.trans ?_ (Hid.out (by assumption)))))) (by decide)).mono ?_
  rintro e w9 ⟨fa, fn, fc, rfl, hown, hb⟩
  have hfn := hown.neq
  have hx9 := hid hb
  clear hb hown
  obtain ⟨b, o, rfl, hc0⟩ := HO6.out.sl.get 0 (by decide)
  obtain ⟨b', o', he, hc1⟩ := HO6.out.sl.get 1 (by decide)
  obtain ⟨rfl, rfl⟩ : b = b' ∧ o = o' := by simpa using he
  have d0 : w9.cell? ⟨b, o, none⟩ = some (.int .u64 5) := Ext.keep (W := w6) (by (repeat (first | exact Ext.refl _ | refine Ext.alloc ?_ _ | refine Ext.drewN ?_ _ | refine Ext.drew ?_ | refine Ext.trans ?_ (Hid.out (by assumption))))) (by have := hc0 0 _ rfl; simpa using this)
  have d1 : w9.cell? ⟨b, o + 1, none⟩ = some (.int .u64 7) := Ext.keep (W := w6) (by (repeat (first | exact Ext.refl _ | refine Ext.alloc ?_ _ | refine Ext.drewN ?_ _ | refine Ext.drew ?_ | refine Ext.trans ?_ (Hid.out (by assumption))))) (by have := hc1 0 _ rfl; simpa using this)
  clear hc0 hc1 he HO6
  obtain rfl : fn = 1 := hfn
  have h7 : (fdA 7).isSome = true := rfl
  go_wp2_with (first | (go_at_call 12; refine (add_dup8 7 none 0 0 [] _ (show (Lit.int .u64 7).wf = true by decide) (Sl.nil _ T.wid) chk0 (ix_ext HI4.out (by (repeat (first | exact Ext.refl _ | refine Ext.alloc ?_ _ | refine Ext.drewN ?_ _ | refine Ext.drew ?_ | refine Ext.trans ?_ (Hid.out (by assumption)))))) (.inl rfl)).mono ?_; rintro e wa ⟨rfl, hb⟩; have hxa := hid hb; clear hb) | (go_at_call 14; refine (drop_unknown 9 _ (show (Lit.int .u64 9).wf = true by decide) (ix_ext HI4.out (by (repeat (first | exact Ext.refl _ | refine Ext.alloc ?_ _ | refine Ext.drewN ?_ _ | refine Ext.drew ?_ | refine Ext.trans ?_ (Hid.out (by assumption)))))) rfl).mono ?_; rintro e wb ⟨rfl, hb⟩; have hxb := hid hb; clear hb) | (go_at_call 22; refine (count_any _ (ix_ext HI4.out (by (repeat (first | exact Ext.refl _ | refine Ext.alloc ?_ _ | refine Ext.drewN ?_ _ | refine Ext.drew ?_ | refine Ext.trans ?_ (Hid.out (by assumption))))))).mono ?_; rintro e wc ⟨rfl, hb⟩; have hxc := hid hb; clear hb) | go_in)
  go_ret
  refine ⟨rfl, ?_⟩
  (repeat (first | exact Ext.refl _ | refine Ext.alloc ?_ _ | refine Ext.drewN ?_ _ | refine Ext.drew ?_ | refine Ext.trans ?_ (Hid.out (by assumption))))
end Go.Proofs.Ytjggjkmafcokjaa

