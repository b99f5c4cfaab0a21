/- A filter by two numbers matches by both, or by none: the statement's walk. -/
import Derived.Test.YtjggjkmafcokjaaAwake8
import Derived.Test.YtjggjkmafcokjaaFew8
import Derived.IntWalk
set_option linter.unusedVariables false
set_option linter.unusedSimpArgs false
namespace Go.Proofs.Ytjggjkmafcokjaa
open Go.RowKit

/-- three filters by three numbers -/
def fd3 (a b c : Int) (ts : List T) : Int → Option (List T) := fun k => if k = c then some [] else (fun k => if k = b then some ts else (fun k => if k = a then some ts else (fun _ => none) k) k) k
theorem fd3_mem (a b c : Int) (ts : List T) (es : List AT) (x : Int) : (∃ us, fd3 a b c ts x = some us ∧ matchesT us es = true) ↔ (x = c ∨ ((x = a ∨ x = b) ∧ matchesT ts es = true)) := by
  unfold fd3
  by_cases hc : x = c
  · subst hc; simp [matchesT]
  · by_cases hb : x = b
    · subst hb; simp [hc]
    · by_cases ha : x = a
      · subst ha; simp [hc, hb]
      · simp [ha, hb, hc]
theorem fd3_ts {a b c : Int} {ts : List T} (h : ts.length ≤ 10) : ∀ id us, fd3 a b c ts id = some us → us.length ≤ 1000 := fun id us hu => by
  unfold fd3 at hu
  dsimp only at hu
  split at hu
  · cases hu; decide
  · split at hu
    · cases hu; omega
    · split at hu
      · cases hu; omega
      · cases hu
/-- is a number among the first k? -/
def inK (zs : List Int) (k : Nat) (a : Int) : Bool := (zs.take k).any (fun z => decide (z = a))
theorem inK_step {zs : List Int} {k : Nat} (hk : k < zs.length) (a : Int) : inK zs (k + 1) a = (inK zs k a || decide (zs[k] = a)) := by
  unfold inK
  rw [List.take_succ_eq_append_getElem hk, List.any_append]
  simp
theorem inK_all {zs : List Int} {k : Nat} (hk : ¬ k < zs.length) (a : Int) : inK zs k a = decide (a ∈ zs) := by
  unfold inK
  rw [List.take_of_length_le (by omega), Bool.eq_iff_iff]
  simp
theorem sl_lt8 {α : Type} {w : World} {sz : Nat} {c : α → List Value} {a : Option Addr} {n cap : Nat} {xs : List α} (h : Sl w sz c a n cap xs) (h0 : 0 < sz) {ad : Addr} (ha : a = some ad) (hne : xs ≠ []) : ad.block < w.heap.size := by
  obtain ⟨x, l, rfl⟩ := List.exists_cons_of_ne_nil hne
  obtain ⟨b, o, hab, hcs⟩ := h.get 0 (by simp)
  have hw := h.wid x
  have hlt := lt_of_cell (hcs 0 ((c x)[0]'(by omega)) (by simp))
  obtain rfl : ad = ⟨b, o, .none⟩ := Option.some.inj (ha.symm.trans hab)
  exact hlt
theorem ix_free {w : World} {base p m s : Nat} {fd : Int → Option (List T)} {own : Nat → Option Lab} (h : Ix w base p m fd s own) {b : Nat} (hb : b < base) : own b = none := by
  cases e : own b with
  | none => rfl
  | some l => have := ix_base h b l e; omega
set_option maxRecDepth 100000 in
set_option maxHeartbeats 8000000 in
theorem twice8_any (a0 : Option Addr) (n0 c0 : Nat) (ts : List T) (a1 : Option Addr) (n1 c1 : Nat) (es : List AT) (a b c : Int) (w : World) (hS : Sl w 5 T.cs a0 n0 c0 ts) (hE : Sl w 4 AT.cs a1 n1 c1 es) (ha : U64 a) (hb : U64 b) (hc : U64 c) :
    Calls Try.prog 8 #[.slice a0 n0 c0, .slice a1 n1 c1, .int .u64 a, .int .u64 b, .int .u64 c] w fun e w' => e = .returned (.bool true) ∧ Ext w w' := by
  obtain rfl := hS.neq
  obtain rfl := hE.neq
  have HS := hid hS
  have HE := hid hE
  have HA := hid ha
  have HB := hid hb
  have HC := hid hc
  clear hS hE ha hb hc
  go_enter Try.func8, Try.ntmps8
  go_wp2_with fail
  refine (awake8_any _).mono ?_
  rintro e w1 ⟨rfl, hb⟩
  have hx1 := hid hb
  clear hb
  go_wp2_with fail
  refine (few05_any _ _ _ ts _ (HS.out.ext (by (repeat (first | exact Ext.refl _ | refine Ext.alloc ?_ _ | refine Ext.drewN ?_ _ | refine Ext.drew ?_ | refine Ext.trans ?_ (Hid.out (by assumption))))))).mono ?_
  rintro e w2 ⟨f5, rfl, hf5, hb⟩
  have H5 := hid hf5
  have hx2 := hid (hx1.out.trans hb)
  clear hb hf5 hx1
  cases f5 with
  | false => (go_wp2; go_ret; refine ⟨rfl, ?_⟩; (repeat (first | exact Ext.refl _ | refine Ext.alloc ?_ _ | refine Ext.drewN ?_ _ | refine Ext.drew ?_ | refine Ext.trans ?_ (Hid.out (by assumption)))))
  | true =>
  have hl5 := H5.out rfl
  go_wp2_with fail
  refine (few04n_any _ _ _ es _ (HE.out.ext (by (repeat (first | exact Ext.refl _ | refine Ext.alloc ?_ _ | refine Ext.drewN ?_ _ | refine Ext.drew ?_ | refine Ext.trans ?_ (Hid.out (by assumption))))))).mono ?_
  rintro e w3 ⟨f4, rfl, hf4, hb⟩
  have H4 := hid hf4
  have hx3 := hid (hx2.out.trans hb)
  clear hb hf4 hx2 H5
  cases f4 with
  | false => (go_wp2; go_ret; refine ⟨rfl, ?_⟩; (repeat (first | exact Ext.refl _ | refine Ext.alloc ?_ _ | refine Ext.drewN ?_ _ | refine Ext.drew ?_ | refine Ext.trans ?_ (Hid.out (by assumption)))))
  | true =>
  have hl4 := hid (H4.out rfl)
  clear H4
  by_cases hab : a = b
  · have q1 : (a == b) = true := by simpa using hab
    have hab := hid hab
    (go_wp2; go_ret; refine ⟨rfl, ?_⟩; (repeat (first | exact Ext.refl _ | refine Ext.alloc ?_ _ | refine Ext.drewN ?_ _ | refine Ext.drew ?_ | refine Ext.trans ?_ (Hid.out (by assumption)))))
  have q1 : (a == b) = false := by simpa using hab
  by_cases hbc : b = c
  · have q2 : (b == c) = true := by simpa using hbc
    have hbc := hid hbc
    (go_wp2; go_ret; refine ⟨rfl, ?_⟩; (repeat (first | exact Ext.refl _ | refine Ext.alloc ?_ _ | refine Ext.drewN ?_ _ | refine Ext.drew ?_ | refine Ext.trans ?_ (Hid.out (by assumption)))))
  have q2 : (b == c) = false := by simpa using hbc
  by_cases hac : a = c
  · have q3 : (a == c) = true := by simpa using hac
    have hac := hid hac
    (go_wp2; go_ret; refine ⟨rfl, ?_⟩; (repeat (first | exact Ext.refl _ | refine Ext.alloc ?_ _ | refine Ext.drewN ?_ _ | refine Ext.drew ?_ | refine Ext.trans ?_ (Hid.out (by assumption)))))
  have q3 : (a == c) = false := by simpa using hac
  go_wp2_with fail
  refine (chkF_any _ _ _ ts _ (HS.out.ext (by (repeat (first | exact Ext.refl _ | refine Ext.alloc ?_ _ | refine Ext.drewN ?_ _ | refine Ext.drew ?_ | refine Ext.trans ?_ (Hid.out (by assumption))))))).mono ?_
  rintro e w4 ⟨rfl, hb⟩
  have hx4 := hid (hx3.out.trans hb)
  clear hb hx3
  cases hk : chkB ts with
  | false =>
    rw [show errF false = 50 from rfl]
    have hk := hid hk
    (go_wp2; go_ret; refine ⟨rfl, ?_⟩; (repeat (first | exact Ext.refl _ | refine Ext.alloc ?_ _ | refine Ext.drewN ?_ _ | refine Ext.drew ?_ | refine Ext.trans ?_ (Hid.out (by assumption)))))
  | true =>
  rw [show errF true = 0 from rfl]
  have HK := hid hk
  have HAB := hid hab
  have HBC := hid hbc
  have HAC := hid hac
  clear hk hab hbc hac
  have hfree : ∀ ad, a0 = some ad → ts ≠ [] → ad.block < w4.heap.size := fun ad e hne => sl_lt8 (HS.out.ext hx4.out) (by decide) e hne
  have HFR := hid hfree
  clear hfree
  have hsz := hx4.out.size
  go_wp2_with fail
  refine (new8_any _).mono ?_
  rintro e w5 ⟨p, own0, rfl, hI, hx⟩
  have HI5 := hid hI
  have hx5 := hid (hx4.out.trans hx)
  have hz5 := hx.size
  clear hI hx
  go_wp2_with fail
  refine (add_ok (own := own0) (fd := fun _ => none) (base := w4.heap.size) (m := 0) (s := 0) a _ _ _ ts _ HA.out (HS.out.ext (by (repeat (first | exact Ext.refl _ | refine Ext.alloc ?_ _ | refine Ext.drewN ?_ _ | refine Ext.drew ?_ | refine Ext.trans ?_ (Hid.out (by assumption)))))) (fun ad e hne => ix_free HI5.out (HFR.out ad e hne)) HK.out HI5.out hz5 rfl (by decide) (by decide)).mono ?_
  rintro e w6 ⟨own1, rfl, hI, hC, hF⟩
  have HI6 := hid hI
  have hx6 := hid (ext_chg (w := w) hx5.out hC (fun b l e => Nat.le_trans hsz (ix_base HI5.out b l e)))
  have hz6 := Nat.le_trans hz5 hC.size
  clear hI hC hF HI5 hx5
  go_wp2_with fail
  refine (add_ok (own := own1) (base := w4.heap.size) (m := 17) (s := 1) b _ _ _ ts _ HB.out (HS.out.ext (by (repeat (first | exact Ext.refl _ | refine Ext.alloc ?_ _ | refine Ext.drewN ?_ _ | refine Ext.drew ?_ | refine Ext.trans ?_ (Hid.out (by assumption)))))) (fun ad e hne => ix_free HI6.out (HFR.out ad e hne)) HK.out HI6.out hz6 (if_neg (fun e => HAB.out e.symm)) (by decide) (by decide)).mono ?_
  rintro e w7 ⟨own2, rfl, hI, hC, hF⟩
  have HI7 := hid hI
  have hx7 := hid (ext_chg (w := w) hx6.out hC (fun b l e => Nat.le_trans hsz (ix_base HI6.out b l e)))
  have hz7 := Nat.le_trans hz6 hC.size
  clear hI hC hF HI6 hx6
  go_wp2_with fail
  refine (add_ok (own := own2) (base := w4.heap.size) (m := 34) (s := 2) c none 0 0 [] _ HC.out (Sl.nil _ T.wid) (fun ad e _ => by cases e) chk0 HI7.out hz7 ((if_neg (fun e => HBC.out e.symm)).trans (if_neg (fun e => HAC.out e.symm))) (by decide) (by decide)).mono ?_
  rintro e w8 ⟨own3, rfl, hI, hC, hF⟩
  have HI8 := hid (show Ix w8 w4.heap.size p 51 (fd3 a b c ts) 3 own3 from hI)
  have hx8 := hid (ext_chg (w := w) hx7.out hC (fun b l e => Nat.le_trans hsz (ix_base HI7.out b l e)))
  clear hI hC hF HI7 hx7
  go_wp2_with fail
  refine (match_any sortedTo12 _ _ _ es _ HI8.out (by decide) (by decide) (fd3_ts hl5) (HE.out.ext (by (repeat (first | exact Ext.refl _ | refine Ext.alloc ?_ _ | refine Ext.drewN ?_ _ | refine Ext.drew ?_ | refine Ext.trans ?_ (Hid.out (by assumption)))))) (by have := hl4.out.1; omega) (fun e he => by have := hl4.out.2 e he; unfold maxLen; omega)).mono ?_
  rintro e w9 ⟨la, ln, lc, zs, rfl, hown, ⟨hz1, hz2, hz3⟩, hb⟩
  have hx9 := hid (hx8.out.trans hb)
  have HO := hid hown.sl
  have hmem : ∀ x, x ∈ zs ↔ (x = c ∨ ((x = a ∨ x = b) ∧ matchesT ts es = true)) := fun x => (hz3 x).trans (fd3_mem a b c ts es x)
  have va : decide (a ∈ zs) = matchesT ts es := by rw [Bool.eq_iff_iff, decide_eq_true_eq, hmem]; simp [HAC.out]
  have vb : decide (b ∈ zs) = matchesT ts es := by rw [Bool.eq_iff_iff, decide_eq_true_eq, hmem]; simp [HBC.out]
  have vc : decide (c ∈ zs) = true := by rw [decide_eq_true_eq, hmem]; exact .inl rfl
  have VA := hid va
  have VB := hid vb
  have VC := hid vc
  obtain rfl := hown.neq
  have hlz := HO.out.len
  have hmz := HO.out.max
  unfold maxLen at hmz
  clear hz1 hz2 hz3 hb hown hmem va vb vc hx8 HI8 HA HB HC hz5 hz6 hz7 HFR
  go_wp2_with fail
  go_loopg [17, 18, 19, 20] (zs.length) (fun g o1 o2 o3 st wr => ∃ k : Nat, g + k = zs.length ∧ st = .int .i64 k ∧ o1 = .bool (inK zs k a) ∧ o2 = .bool (inK zs k b) ∧ o3 = .bool (inK zs k c) ∧ Hid (Ext w9 wr))
  case atStart => exact ⟨0, by omega, rfl, rfl, rfl, rfl, Ext.refl _⟩
  case round =>
    obtain ⟨k, hg, rfl, rfl, rfl, rfl, hx⟩ := hrel
    by_cases hk : k < zs.length
    · obtain ⟨b1, o1, rfl, hcs⟩ := HO.out.get k hk
      have d0 : wr.cell? ⟨b1, o1 + k, none⟩ = some (.int .u64 zs[k]) := hx.out.keep (by have := hcs 0 _ rfl; simpa using this)
      clear hcs
      have b0 : (0 : Int) ≤ (k : Int) := by omega
      have b2 : (k : Int) < (zs.length : Int) := by omega
      have s1 := hid (inK_step hk a)
      have s2 := hid (inK_step hk b)
      have s3 := hid (inK_step hk c)
      generalize inK zs k a = i1 at *
      generalize inK zs k b = i2 at *
      generalize inK zs k c = i3 at *
      cases i1 <;> cases i2 <;> cases i3
      all_goals
        go_wp2
        go_roundg (gk - 1)
        case measure => omega
        case rel => exact ⟨k + 1, by omega, by go_num, by rw [s1.out]; rfl, by rw [s2.out]; rfl, by rw [s3.out]; rfl, (by (repeat (first | exact Ext.refl _ | refine Ext.alloc ?_ _ | refine Ext.drewN ?_ _ | refine Ext.drew ?_ | refine Ext.trans ?_ (Hid.out (by assumption)))))⟩
    · rw [inK_all hk a, inK_all hk b, inK_all hk c, VA.out, VB.out, VC.out]
      cases hm : matchesT ts es with
      | false =>
        have HM := hid hm
        clear hm
        go_wp2_with (first | (go_at_call 26; refine (matches_any _ _ _ ts _ _ _ es _ (HS.out.ext (Ext.trans hx9.out (by (repeat (first | exact Ext.refl _ | refine Ext.alloc ?_ _ | refine Ext.drewN ?_ _ | refine Ext.drew ?_ | refine Ext.trans ?_ (Hid.out (by assumption))))))) (HE.out.ext (Ext.trans hx9.out (by (repeat (first | exact Ext.refl _ | refine Ext.alloc ?_ _ | refine Ext.drewN ?_ _ | refine Ext.drew ?_ | refine Ext.trans ?_ (Hid.out (by assumption)))))))).mono ?_; rintro e wz ⟨rfl, hb⟩; rw [HM.out]; have hz := hid hb; clear hb) | go_in)
        go_ret
        refine ⟨rfl, Ext.trans hx9.out ?_⟩
        (repeat (first | exact Ext.refl _ | refine Ext.alloc ?_ _ | refine Ext.drewN ?_ _ | refine Ext.drew ?_ | refine Ext.trans ?_ (Hid.out (by assumption))))
      | true =>
        have HM := hid hm
        clear hm
        go_wp2_with (first | (go_at_call 26; refine (matches_any _ _ _ ts _ _ _ es _ (HS.out.ext (Ext.trans hx9.out (by (repeat (first | exact Ext.refl _ | refine Ext.alloc ?_ _ | refine Ext.drewN ?_ _ | refine Ext.drew ?_ | refine Ext.trans ?_ (Hid.out (by assumption))))))) (HE.out.ext (Ext.trans hx9.out (by (repeat (first | exact Ext.refl _ | refine Ext.alloc ?_ _ | refine Ext.drewN ?_ _ | refine Ext.drew ?_ | refine Ext.trans ?_ (Hid.out (by assumption)))))))).mono ?_; rintro e wz ⟨rfl, hb⟩; rw [HM.out]; have hz := hid hb; clear hb) | go_in)
        go_ret
        refine ⟨rfl, Ext.trans hx9.out ?_⟩
        (repeat (first | exact Ext.refl _ | refine Ext.alloc ?_ _ | refine Ext.drewN ?_ _ | refine Ext.drew ?_ | refine Ext.trans ?_ (Hid.out (by assumption))))
end Go.Proofs.Ytjggjkmafcokjaa
