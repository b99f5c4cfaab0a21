/- The document's index: the walk of its Add (printed by gen_radd8.py). -/
import Derived.Test.YtjggjkmafcokjaaRDrpM8
set_option linter.unusedVariables false
set_option linter.unusedSimpArgs false
namespace Go.Proofs.Ytjggjkmafcokjaa
open Go.RowKit

theorem radd_bad (q : Nat) (a : Option Addr) (n c : Nat) (ys : List ItemV) (id : Int) (fa : Option Addr) (fn fc : Nat) (ts : List T) (w : World) (h : RIx w q a n c ys) (hS : Sl w 5 T.cs fa fn fc ts) (hnm : ∀ t, t ∈ ts → t.nm.size ≤ 1000) (hc : chkB ts = false) :
    Calls Try.prog 13 #[.pointer (some ⟨q, 0, none⟩), .int .u64 id, .slice fa fn fc] w fun e w' => e = .returned (.int .i64 50) ∧ Ext w w' := by
  have hat := rat_any q a n c ys id w h
  have HS := hid hS
  have HN := hid hnm
  have HC := hid hc
  clear h hS hnm hc
  go_enter Try.func13, Try.ntmps13
  go_wp2_with fail
  refine hat.mono ?_
  rintro e w1 ⟨k, K, rfl, ha, hK, hb⟩
  have hx := hid hb
  clear ha hK hb hat
  go_wp2_with fail
  refine (rchkF_any _ _ _ ts _ (HS.out.ext (by (repeat (first | exact Ext.refl _ | refine Ext.alloc ?_ _ | refine Ext.drewN ?_ _ | refine Ext.drew ?_ | refine Ext.trans ?_ (Hid.out (by assumption)))))) HN.out).mono ?_
  rintro e w2 ⟨rfl, hb⟩
  rw [HC.out, show errF false = 50 from rfl]
  have hx2 := hid hb
  clear hb
  go_wp2
  go_ret
  refine ⟨rfl, ?_⟩
  (repeat (first | exact Ext.refl _ | refine Ext.alloc ?_ _ | refine Ext.drewN ?_ _ | refine Ext.drew ?_ | refine Ext.trans ?_ (Hid.out (by assumption))))
set_option maxRecDepth 100000 in
set_option maxHeartbeats 2000000 in
theorem radd_dup (q : Nat) (a : Option Addr) (n c : Nat) (ys : List ItemV) (fd : Int → Option (List T)) (id : Int) (fa : Option Addr) (fn fc : Nat) (ts : List T) (w : World) (h : RIx w q a n c ys) (hr : RelF ys fd) (hS : Sl w 5 T.cs fa fn fc ts) (hnm : ∀ t, t ∈ ts → t.nm.size ≤ 1000) (hc : chkB ts = true) (hd : (fd id).isSome = true) :
    Calls Try.prog 13 #[.pointer (some ⟨q, 0, none⟩), .int .u64 id, .slice fa fn fc] w fun e w' => e = .returned (.int .i64 80) ∧ Ext w w' := by
  have hat := rat_any q a n c ys id w h
  have HR := hid hr
  have HD := hid hd
  have HS := hid hS
  have HN := hid hnm
  have HC := hid hc
  clear h hS hnm hc hr hd
  go_enter Try.func13, Try.ntmps13
  go_wp2_with fail
  refine hat.mono ?_
  rintro e w1 ⟨k, K, rfl, ha, hK, hb⟩
  have hK2 : K = true := by
    cases K with
    | true => rfl
    | false =>
      have := HR.out.miss ha (fun h => by have := hK.2 h; cases this)
      have h2 := HD.out
      rw [this] at h2
      cases h2
  subst hK2
  have hx := hid hb
  clear ha hK hb hat
  go_wp2_with fail
  refine (rchkF_any _ _ _ ts _ (HS.out.ext (by (repeat (first | exact Ext.refl _ | refine Ext.alloc ?_ _ | refine Ext.drewN ?_ _ | refine Ext.drew ?_ | refine Ext.trans ?_ (Hid.out (by assumption)))))) HN.out).mono ?_
  rintro e w2 ⟨rfl, hb⟩
  rw [HC.out, show errF true = 0 from rfl]
  have hx2 := hid hb
  clear hb
  go_wp2
  go_ret
  refine ⟨rfl, ?_⟩
  (repeat (first | exact Ext.refl _ | refine Ext.alloc ?_ _ | refine Ext.drewN ?_ _ | refine Ext.drew ?_ | refine Ext.trans ?_ (Hid.out (by assumption))))
/-- what the document's Add makes of its index -/
def RetRAdd (q : Nat) (ys : List ItemV) (k : Nat) (id : Int) (ts : List T) (w : World) (e : Ending) (w' : World) : Prop :=
  e = .returned (.int .i64 0) ∧ ∃ a n c y, y.id = id ∧ y.ts = ts ∧ RIx w' q a n c (ys.take k ++ [y] ++ ys.drop k) ∧ Chg (only q) w w' ∧ (∀ ad, a = some ad → w.heap.size ≤ ad.block) ∧ (∀ ad, y.f.a = some ad → w.heap.size ≤ ad.block)
set_option maxRecDepth 100000 in
set_option maxHeartbeats 16000000 in
theorem radd_ok (q : Nat) (a : Option Addr) (n c : Nat) (ys : List ItemV) (fd : Int → Option (List T)) (id : Int) (fa : Option Addr) (fn fc : Nat) (ts : List T) (w : World) (h : RIx w q a n c ys) (hr : RelF ys fd) (hS : Sl w 5 T.cs fa fn fc ts) (hnm : ∀ t, t ∈ ts → t.nm.size ≤ 1000) (hc : chkB ts = true) (hd : fd id = none) (hn : n ≤ 400) :
    Calls Try.prog 13 #[.pointer (some ⟨q, 0, none⟩), .int .u64 id, .slice fa fn fc] w fun e w' => ∃ k, AtIs ys id k ∧ (¬ ∃ hk : k < ys.length, ys[k].id = id) ∧ RetRAdd q ys k id ts w e w' := by
  have hat := rat_any q a n c ys id w h
  obtain ⟨i0, hi, hz0, hz1, hz2⟩ := info_parts infoI
  have I1 := hid hi
  have I2 := hid hz0
  have I3 := hid hz1
  have I4 := hid hz2
  clear hi hz0 hz1 hz2
  obtain ⟨j0, hi, hz0, hz1, hz2⟩ := info_parts infoT
  have J1 := hid hi
  have J2 := hid hz0
  have J3 := hid hz1
  have J4 := hid hz2
  clear hi hz0 hz1 hz2
  obtain rfl := h.sl.neq
  obtain rfl := hS.neq
  have h8 := (chk_ok hc).1
  have H := hid h
  have HR := hid hr
  have HD := hid hd
  have HS := hid hS
  have HN := hid hnm
  have HC := hid hc
  clear h hr hd hS hnm hc
  go_enter Try.func13, Try.ntmps13
  go_wp2_with fail
  refine hat.mono ?_
  rintro e w1 ⟨k, K, rfl, ha, hK, hb⟩
  have HA := hid ha
  have HKN := hid (show ¬ ∃ hk : k < ys.length, ys[k].id = id from fun hh => by
    obtain ⟨hk, he⟩ := hh
    have := HR.out.hit hk he
    rw [HD.out] at this
    cases this)
  have hK2 : K = false := by
    cases K with
    | false => rfl
    | true => exact absurd (hK.1 rfl) HKN.out
  subst hK2
  have hx1 := hid hb
  have hkn := ha.le
  clear ha hK hb hat
  go_wp2_with fail
  refine (rchkF_any _ _ _ ts _ (HS.out.ext (by (repeat (first | exact Ext.refl _ | refine Ext.alloc ?_ _ | refine Ext.drewN ?_ _ | refine Ext.drew ?_ | refine Ext.trans ?_ (Hid.out (by assumption)))))) HN.out).mono ?_
  rintro e w2 ⟨rfl, hb⟩
  rw [HC.out, show errF true = 0 from rfl]
  have hx2 := hid (hx1.out.trans hb)
  have H2 := hid (H.out.ext hx2.out)
  clear hb hx1
  have c0 := H2.out.cell
  have hlc := H.out.sl.len
  have hmc := H.out.sl.max
  unfold maxLen at hmc
  have b0 : (0 : Int) ≤ (k : Int) := by omega
  have bn : (ys.length : Int) < 500 := by omega
  have bw : IntKind.i64.wrap (k : Int) = (k : Int) := IntWalk.i64_in _ (by omega)
  cases a with
  | none =>
    have hc0 : c = 0 := H.out.sl.none rfl
    subst hc0
    have hl0 : ys.length = 0 := by omega
    obtain rfl : ys = [] := List.eq_nil_of_length_eq_zero hl0
    obtain rfl : k = 0 := by have : k ≤ 0 := hkn; omega
    go_wp2_with fail
    refine wp_region_heldX 25 (S := (fun w' => w'.cell? ⟨q, 0, none⟩ = some (.slice none 0 0))) (by kernel_rfl) ?_ (fun hHeld => ?_)
    · ((try dsimp only); exact Ext.keep (W := w2) (by (repeat (first | exact Ext.refl _ | refine Ext.alloc ?_ _ | refine Ext.drewN ?_ _ | refine Ext.drew ?_ | refine Ext.trans ?_ (Hid.out (by assumption))))) c0)
    (refine hTakeX 0 (some 27) (v := ?_) (by kernel_rfl) (by kernel_rfl) (by kernel_rfl) (by kernel_rfl) (fun _ _ _ h => h) ⟨_, rfl, rfl, Or.inl ⟨by rfl, ?_⟩⟩ hHeld ?_; rotate_left; (focus (intro w hSw; (try dsimp only at hSw); go_simp; (first | done | with_reducible rfl))); (try simp only [Act.put, List.setIfInBounds_toArray, List.set_cons_zero, List.set_cons_succ]))
    (refine hTakeX 2 (some 29) (v := ?_) (by kernel_rfl) (by kernel_rfl) (by kernel_rfl) (by kernel_rfl) (fun _ _ _ h => h) ⟨_, rfl, rfl, Or.inl ⟨by rfl, ?_⟩⟩ hHeld ?_; rotate_left; (focus (intro w hSw; (try dsimp only at hSw); go_simp; (first | done | with_reducible rfl))); (try simp only [Act.put, List.setIfInBounds_toArray, List.set_cons_zero, List.set_cons_succ]))
    (refine hTakeX 3 (some 30) (v := ?_) (by kernel_rfl) (by kernel_rfl) (by kernel_rfl) (by kernel_rfl) (fun _ _ _ h => h) ⟨_, rfl, rfl, Or.inl ⟨by rfl, ?_⟩⟩ hHeld ?_; rotate_left; (focus (intro w hSw; (try dsimp only at hSw); go_simp; (first | done | with_reducible rfl))); (try simp only [Act.put, List.setIfInBounds_toArray, List.set_cons_zero, List.set_cons_succ]))
    (refine hTakeX 4 (some 31) (v := ?_) (by kernel_rfl) (by kernel_rfl) (by kernel_rfl) (by kernel_rfl) (fun _ _ _ h => h) ⟨_, rfl, rfl, Or.inl ⟨by rfl, ?_⟩⟩ hHeld ?_; rotate_left; (focus (intro w hSw; (try dsimp only at hSw); go_simp; (first | done | with_reducible rfl))); (try simp only [Act.put, List.setIfInBounds_toArray, List.set_cons_zero, List.set_cons_succ]))
    (refine hTakeX 5 (some 32) (v := ?_) (by kernel_rfl) (by kernel_rfl) (by kernel_rfl) (by kernel_rfl) (fun _ _ _ h => h) ⟨_, rfl, rfl, Or.inl ⟨by rfl, ?_⟩⟩ hHeld ?_; rotate_left; (focus (intro w hSw; (try dsimp only at hSw); go_simp; (first | done | with_reducible rfl))); (try simp only [Act.put, List.setIfInBounds_toArray, List.set_cons_zero, List.set_cons_succ]))
    (refine hTakeX 6 (some 33) (v := ?_) (by kernel_rfl) (by kernel_rfl) (by kernel_rfl) (by kernel_rfl) (fun _ _ _ h => h) ⟨_, rfl, rfl, Or.inl ⟨by rfl, ?_⟩⟩ hHeld ?_; rotate_left; (focus (intro w hSw; (try dsimp only at hSw); go_simp; (first | done | with_reducible rfl))); (try simp only [Act.put, List.setIfInBounds_toArray, List.set_cons_zero, List.set_cons_succ]))
    (refine hTakeX 7 (some 34) (v := ?_) (by kernel_rfl) (by kernel_rfl) (by kernel_rfl) (by kernel_rfl) (fun _ _ _ h => h) ⟨_, rfl, rfl, Or.inl ⟨by rfl, ?_⟩⟩ hHeld ?_; rotate_left; (focus (intro w hSw; (try dsimp only at hSw); go_simp; (first | done | with_reducible rfl))); (try simp only [Act.put, List.setIfInBounds_toArray, List.set_cons_zero, List.set_cons_succ]))
    (refine hTakeX 9 (some 36) (v := ?_) (by kernel_rfl) (by kernel_rfl) (by kernel_rfl) (by kernel_rfl) (fun _ _ _ h => h) ⟨_, rfl, rfl, Or.inl ⟨by rfl, ?_⟩⟩ hHeld ?_; rotate_left; (focus (intro w hSw; (try dsimp only at hSw); go_simp; (first | done | with_reducible rfl))); (try simp only [Act.put, List.setIfInBounds_toArray, List.set_cons_zero, List.set_cons_succ]))
    (refine hTakeX 11 (some 38) (v := ?_) (by kernel_rfl) (by kernel_rfl) (by kernel_rfl) (by kernel_rfl) (fun _ _ _ h => h) ⟨_, rfl, rfl, Or.inl ⟨by rfl, ?_⟩⟩ hHeld ?_; rotate_left; (focus (intro w hSw; (try dsimp only at hSw); go_simp; (first | done | with_reducible rfl))); (try simp only [Act.put, List.setIfInBounds_toArray, List.set_cons_zero, List.set_cons_succ]))
    (refine hTakeX 16 (some 43) (v := ?_) (by kernel_rfl) (by kernel_rfl) (by kernel_rfl) (by kernel_rfl) (fun _ _ _ h => h) ⟨_, rfl, rfl, Or.inl ⟨by rfl, ?_⟩⟩ hHeld ?_; rotate_left; (focus (intro w hSw; (try dsimp only at hSw); go_simp; (first | done | with_reducible rfl))); (try simp only [Act.put, List.setIfInBounds_toArray, List.set_cons_zero, List.set_cons_succ]))
    (refine hTakeX 17 (some 44) (v := ?_) (by kernel_rfl) (by kernel_rfl) (by kernel_rfl) (by kernel_rfl) (fun _ _ _ h => h) ⟨_, rfl, rfl, Or.inl ⟨by rfl, ?_⟩⟩ hHeld ?_; rotate_left; (focus (intro w hSw; (try dsimp only at hSw); go_simp; (first | done | with_reducible rfl))); (try simp only [Act.put, List.setIfInBounds_toArray, List.set_cons_zero, List.set_cons_succ]))
    (refine hTakeX 18 (some 45) (v := ?_) (by kernel_rfl) (by kernel_rfl) (by kernel_rfl) (by kernel_rfl) (fun _ _ _ h => h) ⟨_, rfl, rfl, Or.inl ⟨by rfl, ?_⟩⟩ hHeld ?_; rotate_left; (focus (intro w hSw; (try dsimp only at hSw); go_simp; (first | done | with_reducible rfl))); (try simp only [Act.put, List.setIfInBounds_toArray, List.set_cons_zero, List.set_cons_succ]))
    (refine hTakeX 19 (some 46) (v := ?_) (by kernel_rfl) (by kernel_rfl) (by kernel_rfl) (by kernel_rfl) (fun _ _ _ h => h) ⟨_, rfl, rfl, Or.inl ⟨by rfl, ?_⟩⟩ hHeld ?_; rotate_left; (focus (intro w hSw; (try dsimp only at hSw); go_simp; (first | done | with_reducible rfl))); (try simp only [Act.put, List.setIfInBounds_toArray, List.set_cons_zero, List.set_cons_succ]))
    (refine hTakeX 20 (some 47) (v := ?_) (by kernel_rfl) (by kernel_rfl) (by kernel_rfl) (by kernel_rfl) (fun _ _ _ h => h) ⟨_, rfl, rfl, Or.inl ⟨by rfl, ?_⟩⟩ hHeld ?_; rotate_left; (focus (intro w hSw; (try dsimp only at hSw); go_simp; (first | done | with_reducible rfl))); (try simp only [Act.put, List.setIfInBounds_toArray, List.set_cons_zero, List.set_cons_succ]))
    (refine hTakeX 21 (some 48) (v := ?_) (by kernel_rfl) (by kernel_rfl) (by kernel_rfl) (by kernel_rfl) (fun _ _ _ h => h) ⟨_, rfl, rfl, Or.inl ⟨by rfl, ?_⟩⟩ hHeld ?_; rotate_left; (focus (intro w hSw; (try dsimp only at hSw); go_simp; (first | done | with_reducible rfl))); (try simp only [Act.put, List.setIfInBounds_toArray, List.set_cons_zero, List.set_cons_succ]))
    refine heldX_ready (rs := [1, 10]) (by kernel_rfl) (by simp) ?_
    refine eachX_cons rfl (fun K hK => ?_) (eachX_cons rfl (fun K hK => ?_) eachX_nil)
    · go_simp
      refine hK.out _ _ ?_ (fun hH => ?_)
      focus (intro _; (try dsimp only); exact Ext.keep (W := w2) (by (repeat (first | exact Ext.refl _ | refine Ext.alloc ?_ _ | refine Ext.drewN ?_ _ | refine Ext.drew ?_ | refine Ext.trans ?_ (Hid.out (by assumption))))) c0)
      clear hK K hHeld
      have hHeld := hH (by decide)
      clear hH
      (try dsimp only) <;> (try simp only [Act.put, List.setIfInBounds_toArray, List.set_cons_zero, List.set_cons_succ])
      refine heldX_ready (rs := [8, 10]) (by kernel_rfl) (by simp) ?_
      refine eachX_cons rfl (fun K hK => ?_) (eachX_cons rfl (fun K hK => ?_) eachX_nil)
      · skip
        (refine stepOn (c := ItemV.cs) (ys0 := []) (ys := (([] : List ItemV).take 0)) rfl (.tmp 28) (.tmp 34) 27 74 rfl i0 _ 32 Try.underlying27 I1.out I2.out I3.out I4.out rfl (by decide) rfl w2 (by (repeat (first | exact Ext.refl _ | refine Ext.alloc ?_ _ | refine Ext.drewN ?_ _ | refine Ext.drew ?_ | refine Ext.trans ?_ (Hid.out (by assumption))))) (Own.empty (by (repeat (first | (refine heap_new ?_; (simp; done)) | refine heap_old (by first | (simp; done) | (simp; omega)) ?_))) (by first | (simp; done) | (simp; omega)) ItemV.wid) rfl ((H2.out.sl.take 0 (by omega)).ext (by (repeat (first | exact Ext.refl _ | refine Ext.alloc ?_ _ | refine Ext.drewN ?_ _ | refine Ext.drew ?_ | refine Ext.trans ?_ (Hid.out (by assumption)))))) ItemV.one (by omega) (by decide) ?_; intro bb5 nn5 cap5 v5 hn5 hown5 hy5 hg5; have HN5 := hid hn5; have HO5 := hid hown5; have HY5 := hid hy5; have HG5 := hid hg5; clear hn5 hown5 hy5 hg5)
        refine put_to (d := some 35) rfl ?_
        refine hK.out _ _ ?_ (fun hH => ?_)
        focus (intro _; (try dsimp only); exact Ext.keep (W := w2) (by (repeat (first | exact Ext.refl _ | refine Ext.alloc ?_ _ | refine Ext.drewN ?_ _ | refine Ext.drew ?_ | refine Ext.trans ?_ (Hid.out (by assumption))))) c0)
        clear hK K hHeld
        have hHeld := hH (by decide)
        clear hH
        (try dsimp only) <;> (try simp only [Act.put, List.setIfInBounds_toArray, List.set_cons_zero, List.set_cons_succ])
        refine heldX_ready (rs := [10]) (by kernel_rfl) (by simp) ?_
        refine eachX_cons rfl (fun K hK => ?_) eachX_nil
        go_simp
        refine hK.out _ _ ?_ (fun hH => ?_)
        focus (intro _; (try dsimp only); exact Ext.keep (W := w2) (by (repeat (first | exact Ext.refl _ | refine Ext.alloc ?_ _ | refine Ext.drewN ?_ _ | refine Ext.drew ?_ | refine Ext.trans ?_ (Hid.out (by assumption))))) c0)
        clear hK K hHeld
        have hHeld := hH (by decide)
        clear hH
        (try dsimp only) <;> (try simp only [Act.put, List.setIfInBounds_toArray, List.set_cons_zero, List.set_cons_succ])
        refine heldX_ready (rs := [12]) (by kernel_rfl) (by simp) ?_
        refine eachX_cons rfl (fun K hK => ?_) eachX_nil
        (refine stepOn (c := T.cs) (ys0 := []) (ys := ts) rfl (.tmp 37) (.tmp 38) 32 54 rfl j0 _ 56 Try.underlying32 J1.out J2.out J3.out J4.out rfl (by decide) rfl w2 (by (repeat (first | exact Ext.refl _ | refine Ext.alloc ?_ _ | refine Ext.drewN ?_ _ | refine Ext.drew ?_ | refine Ext.trans ?_ (Hid.out (by assumption))))) ((Own.empty (by (repeat (first | (refine heap_new ?_; (simp; done)) | refine heap_old (by first | (simp; done) | (simp; omega)) ?_))) (by first | (simp; done) | (simp; omega) | exact Ext.size (W := w2) (by (repeat (first | exact Ext.refl _ | refine Ext.alloc ?_ _ | refine Ext.drewN ?_ _ | refine Ext.drew ?_ | refine Ext.trans ?_ (Hid.out (by assumption)))))) T.wid)) rfl (HS.out.ext (Ext.trans hx2.out (by (repeat (first | exact Ext.refl _ | refine Ext.alloc ?_ _ | refine Ext.drewN ?_ _ | refine Ext.drew ?_ | refine Ext.trans ?_ (Hid.out (by assumption))))))) T.one (by omega) (by decide) ?_; intro bbf nnf capf vf hnf hownf hyf hgf; have HNf := hid hnf; have HOf := hid hownf; have HYf := hid hyf; have HGf := hid hgf; clear hnf hownf hyf hgf)
        have OIf := hid (own_grown (HO5.out.ext (by (repeat (first | exact Ext.refl _ | refine Ext.alloc ?_ _ | refine Ext.drewN ?_ _ | refine Ext.drew ?_ | refine Ext.trans ?_ (Hid.out (by assumption)))))) ((Own.empty (by (repeat (first | (refine heap_new ?_; (simp; done)) | refine heap_old (by first | (simp; done) | (simp; omega)) ?_))) (by first | (simp; done) | (simp; omega) | exact Ext.size (W := w2) (by (repeat (first | exact Ext.refl _ | refine Ext.alloc ?_ _ | refine Ext.drewN ?_ _ | refine Ext.drew ?_ | refine Ext.trans ?_ (Hid.out (by assumption)))))) T.wid)) (by decide) HGf.out)
        refine put_to (d := some 39) rfl ?_
        refine hK.out _ _ ?_ (fun hH => ?_)
        focus (intro _; (try dsimp only); exact Ext.keep (W := w2) (by (repeat (first | exact Ext.refl _ | refine Ext.alloc ?_ _ | refine Ext.drewN ?_ _ | refine Ext.drew ?_ | refine Ext.trans ?_ (Hid.out (by assumption))))) c0)
        clear hK K hHeld
        have hHeld := hH (by decide)
        clear hH
        (try dsimp only) <;> (try simp only [Act.put, List.setIfInBounds_toArray, List.set_cons_zero, List.set_cons_succ])
        (refine hTakeX 13 (some 40) (v := ?_) (by kernel_rfl) (by kernel_rfl) (by kernel_rfl) (by kernel_rfl) (fun _ _ _ h => h) ⟨_, rfl, rfl, Or.inl ⟨by rfl, ?_⟩⟩ hHeld ?_; rotate_left; (focus (intro w hSw; (try dsimp only at hSw); go_simp; (first | done | with_reducible rfl))); (try simp only [Act.put, List.setIfInBounds_toArray, List.set_cons_zero, List.set_cons_succ]))
        refine heldX_ready (rs := [14]) (by kernel_rfl) (by simp) ?_
        refine eachX_cons rfl (fun K hK => ?_) eachX_nil
        go_simp
        refine hK.out _ _ ?_ (fun hH => ?_)
        focus (intro _; (try dsimp only); exact Ext.keep (W := w2) (by (repeat (first | exact Ext.refl _ | refine Ext.alloc ?_ _ | refine Ext.drewN ?_ _ | refine Ext.drew ?_ | refine Ext.trans ?_ (Hid.out (by assumption))))) c0)
        clear hK K hHeld
        have hHeld := hH (by decide)
        clear hH
        (try dsimp only) <;> (try simp only [Act.put, List.setIfInBounds_toArray, List.set_cons_zero, List.set_cons_succ])
        refine heldX_ready (rs := [15]) (by kernel_rfl) (by simp) ?_
        refine eachX_cons rfl (fun K hK => ?_) eachX_nil
        (refine stepOn (c := ItemV.cs) (ys0 := [] ++ (([] : List ItemV).take 0)) (ys := [⟨id, ⟨bbf, nnf, capf⟩, ts⟩]) rfl (.tmp 35) (.tmp 41) 27 74 rfl i0 _ 32 Try.underlying27 I1.out I2.out I3.out I4.out rfl (by decide) rfl w2 (by (repeat (first | exact Ext.refl _ | refine Ext.alloc ?_ _ | refine Ext.drewN ?_ _ | refine Ext.drew ?_ | refine Ext.trans ?_ (Hid.out (by assumption))))) (OIf.out.ext (by (repeat (first | exact Ext.refl _ | refine Ext.alloc ?_ _ | refine Ext.drewN ?_ _ | refine Ext.drew ?_ | refine Ext.trans ?_ (Hid.out (by assumption)))))) rfl (sl_ofBlock8 [⟨id, ⟨bbf, nnf, capf⟩, ts⟩] ItemV.wid rfl (by simp) (heap_alloc_new _ _) rfl) ItemV.one (by (have := HN5.out; omega)) (by decide) ?_; intro bb6 nn6 cap6 v6 hn6 hown6 hy6 hg6; have HN6 := hid hn6; have HO6 := hid hown6; have HY6 := hid hy6; have HG6 := hid hg6; clear hn6 hown6 hy6 hg6)
        have OF6 := hid (own_grown (HOf.out.ext (by (repeat (first | exact Ext.refl _ | refine Ext.alloc ?_ _ | refine Ext.drewN ?_ _ | refine Ext.drew ?_ | refine Ext.trans ?_ (Hid.out (by assumption)))))) (OIf.out.ext (by (repeat (first | exact Ext.refl _ | refine Ext.alloc ?_ _ | refine Ext.drewN ?_ _ | refine Ext.drew ?_ | refine Ext.trans ?_ (Hid.out (by assumption)))))) (by decide) HG6.out)
        refine put_to (d := some 42) rfl ?_
        refine hK.out _ _ ?_ (fun hH => ?_)
        focus (intro _; (try dsimp only); exact Ext.keep (W := w2) (by (repeat (first | exact Ext.refl _ | refine Ext.alloc ?_ _ | refine Ext.drewN ?_ _ | refine Ext.drew ?_ | refine Ext.trans ?_ (Hid.out (by assumption))))) c0)
        clear hK K hHeld
        have hHeld := hH (by decide)
        clear hH
        (try dsimp only) <;> (try simp only [Act.put, List.setIfInBounds_toArray, List.set_cons_zero, List.set_cons_succ])
        refine heldX_ready (rs := [22]) (by kernel_rfl) (by simp) ?_
        refine eachX_cons rfl (fun K hK => ?_) eachX_nil
        (refine stepOn (c := ItemV.cs) (ys0 := [] ++ (([] : List ItemV).take 0) ++ [⟨id, ⟨bbf, nnf, capf⟩, ts⟩]) (ys := (([] : List ItemV).drop 0)) rfl (.tmp 42) (.tmp 48) 27 74 rfl i0 _ 32 Try.underlying27 I1.out I2.out I3.out I4.out rfl (by decide) rfl w2 (by (repeat (first | exact Ext.refl _ | refine Ext.alloc ?_ _ | refine Ext.drewN ?_ _ | refine Ext.drew ?_ | refine Ext.trans ?_ (Hid.out (by assumption))))) (HO6.out.ext (by (repeat (first | exact Ext.refl _ | refine Ext.alloc ?_ _ | refine Ext.drewN ?_ _ | refine Ext.drew ?_ | refine Ext.trans ?_ (Hid.out (by assumption)))))) rfl (Sl.nil _ ItemV.wid) ItemV.one (by (have := HN5.out; have := HN6.out; omega)) (by decide) ?_; intro bb7 nn7 cap7 v7 hn7 hown7 hy7 hg7; have HN7 := hid hn7; have HO7 := hid hown7; have HY7 := hid hy7; have HG7 := hid hg7; clear hn7 hown7 hy7 hg7)
        have OF7 := hid (own_grown OF6.out HO6.out (by decide) HG7.out)
        refine put_to (d := some 49) rfl ?_
        refine hK.out _ _ ?_ (fun hH => ?_)
        focus (intro _; (try dsimp only); exact Ext.keep (W := w2) (by (repeat (first | exact Ext.refl _ | refine Ext.alloc ?_ _ | refine Ext.drewN ?_ _ | refine Ext.drew ?_ | refine Ext.trans ?_ (Hid.out (by assumption))))) c0)
        clear hK K hHeld
        have hHeld := hH (by decide)
        clear hH
        (try dsimp only) <;> (try simp only [Act.put, List.setIfInBounds_toArray, List.set_cons_zero, List.set_cons_succ])
        refine heldX_ready (rs := [23]) (by kernel_rfl) (by simp) ?_
        refine eachX_cons rfl (fun K hK => ?_) eachX_nil
        go_simp
        refine hK.out _ _ ?_ (fun hH => ?_)
        focus (intro _; (try dsimp only); exact Ext.keep (W := w2) (by (repeat (first | exact Ext.refl _ | refine Ext.alloc ?_ _ | refine Ext.drewN ?_ _ | refine Ext.drew ?_ | refine Ext.trans ?_ (Hid.out (by assumption))))) c0)
        clear hK K hHeld
        have hHeld := hH (by decide)
        clear hH
        (try dsimp only) <;> (try simp only [Act.put, List.setIfInBounds_toArray, List.set_cons_zero, List.set_cons_succ])
        refine heldX_ready (rs := [24]) (by kernel_rfl) (by simp) ?_
        refine eachX_cons rfl (fun K hK => ?_) eachX_nil
        go_simp
        refine hK.out _ _ ?_ (fun hH => ?_)
        focus (intro _; (try dsimp only); exact Ext.keep (W := w2) (by (repeat (first | exact Ext.refl _ | refine Ext.alloc ?_ _ | refine Ext.drewN ?_ _ | refine Ext.drew ?_ | refine Ext.trans ?_ (Hid.out (by assumption))))) c0)
        clear hK K hHeld
        have hHeld := hH (by decide)
        clear hH
        (try dsimp only) <;> (try simp only [Act.put, List.setIfInBounds_toArray, List.set_cons_zero, List.set_cons_succ])
        have c8 := HY7.out.keep c0
        have f8 := (H2.out.ext HY7.out).free
        refine heldX_ready (rs := [25]) (by kernel_rfl) (by simp) ?_
        refine eachX_cons rfl (fun K hK => ?_) eachX_nil
        go_simp
        refine hK.out _ _ (fun h => absurd rfl h) (fun _ => ?_)
        clear hK K
        (try dsimp only) <;> (try simp only [Act.put, List.setIfInBounds_toArray, List.set_cons_zero, List.set_cons_succ])
        refine heldX_done (by kernel_rfl) ?_ _
        have HFin := hid (H2.out.store HY7.out (zs := (([] : List ItemV).take 0) ++ [⟨id, ⟨bbf, nnf, capf⟩, ts⟩] ++ (([] : List ItemV).drop 0)) (by have := HO7.out; rwa [List.nil_append] at this) (fun y hy => by
          rcases List.mem_append.1 hy with hy | hy
          · rcases List.mem_append.1 hy with hy | hy
            · exact (H2.out.it y (List.mem_of_mem_take hy)).ext HY7.out
            · rw [List.mem_singleton] at hy
              subst hy
              have := OF7.out.sl
              rw [List.nil_append] at this
              exact this
          · exact (H2.out.it y (List.mem_of_mem_drop hy)).ext HY7.out))
        go_wp2
        go_ret
        exact ⟨0, HA.out, HKN.out, rfl, _, _, _, _, rfl, rfl, HFin.out.1, (Chg.of hx2.out).trans HFin.out.2 (fun _ _ h => h), (fun ad e => Nat.le_trans hx2.out.size (HO7.out.lt ad e).1), (fun ad e => Nat.le_trans hx2.out.size (HOf.out.lt ad e).1)⟩
      · skip
        go_simp
        refine hK.out _ _ ?_ (fun hH => ?_)
        focus (intro _; (try dsimp only); exact Ext.keep (W := w2) (by (repeat (first | exact Ext.refl _ | refine Ext.alloc ?_ _ | refine Ext.drewN ?_ _ | refine Ext.drew ?_ | refine Ext.trans ?_ (Hid.out (by assumption))))) c0)
        clear hK K hHeld
        have hHeld := hH (by decide)
        clear hH
        (try dsimp only) <;> (try simp only [Act.put, List.setIfInBounds_toArray, List.set_cons_zero, List.set_cons_succ])
        have OFb := hid (show Own _ w2.heap.size 54 5 T.cs (some ⟨w2.heap.size + 1, 0, none⟩) 0 0 [] from (Own.empty (w := (w2.drew.alloc (.cells #[] 74)).alloc (.cells #[] 54)) (by (repeat (first | (refine heap_new ?_; (simp; done)) | refine heap_old (by first | (simp; done) | (simp; omega)) ?_))) (by first | (simp; done) | (simp; omega)) T.wid))
        refine heldX_ready (rs := [8]) (by kernel_rfl) (by simp) ?_
        refine eachX_cons rfl (fun K hK => ?_) eachX_nil
        (refine stepOn (c := ItemV.cs) (ys0 := []) (ys := (([] : List ItemV).take 0)) rfl (.tmp 28) (.tmp 34) 27 74 rfl i0 _ 32 Try.underlying27 I1.out I2.out I3.out I4.out rfl (by decide) rfl w2 (by (repeat (first | exact Ext.refl _ | refine Ext.alloc ?_ _ | refine Ext.drewN ?_ _ | refine Ext.drew ?_ | refine Ext.trans ?_ (Hid.out (by assumption))))) (Own.empty (by (repeat (first | (refine heap_new ?_; (simp; done)) | refine heap_old (by first | (simp; done) | (simp; omega)) ?_))) (by first | (simp; done) | (simp; omega)) ItemV.wid) rfl ((H2.out.sl.take 0 (by omega)).ext (by (repeat (first | exact Ext.refl _ | refine Ext.alloc ?_ _ | refine Ext.drewN ?_ _ | refine Ext.drew ?_ | refine Ext.trans ?_ (Hid.out (by assumption)))))) ItemV.one (by omega) (by decide) ?_; intro bb5 nn5 cap5 v5 hn5 hown5 hy5 hg5; have HN5 := hid hn5; have HO5 := hid hown5; have HY5 := hid hy5; have HG5 := hid hg5; clear hn5 hown5 hy5 hg5)
        refine put_to (d := some 35) rfl ?_
        refine hK.out _ _ ?_ (fun hH => ?_)
        focus (intro _; (try dsimp only); exact Ext.keep (W := w2) (by (repeat (first | exact Ext.refl _ | refine Ext.alloc ?_ _ | refine Ext.drewN ?_ _ | refine Ext.drew ?_ | refine Ext.trans ?_ (Hid.out (by assumption))))) c0)
        clear hK K hHeld
        have hHeld := hH (by decide)
        clear hH
        (try dsimp only) <;> (try simp only [Act.put, List.setIfInBounds_toArray, List.set_cons_zero, List.set_cons_succ])
        have OF5 := hid (own_grown OFb.out (Own.empty (base := w2.heap.size) (e := 74) (by (repeat (first | (refine heap_new ?_; (simp; done)) | refine heap_old (by first | (simp; done) | (simp; omega)) ?_))) (by first | (simp; done) | (simp; omega)) ItemV.wid) (by decide) HG5.out)
        refine heldX_ready (rs := [12]) (by kernel_rfl) (by simp) ?_
        refine eachX_cons rfl (fun K hK => ?_) eachX_nil
        (refine stepOn (c := T.cs) (ys0 := []) (ys := ts) rfl (.tmp 37) (.tmp 38) 32 54 rfl j0 _ 56 Try.underlying32 J1.out J2.out J3.out J4.out rfl (by decide) rfl w2 (by (repeat (first | exact Ext.refl _ | refine Ext.alloc ?_ _ | refine Ext.drewN ?_ _ | refine Ext.drew ?_ | refine Ext.trans ?_ (Hid.out (by assumption))))) (OF5.out) rfl (HS.out.ext (Ext.trans hx2.out (by (repeat (first | exact Ext.refl _ | refine Ext.alloc ?_ _ | refine Ext.drewN ?_ _ | refine Ext.drew ?_ | refine Ext.trans ?_ (Hid.out (by assumption))))))) T.one (by omega) (by decide) ?_; intro bbf nnf capf vf hnf hownf hyf hgf; have HNf := hid hnf; have HOf := hid hownf; have HYf := hid hyf; have HGf := hid hgf; clear hnf hownf hyf hgf)
        have OIf := hid (own_grown (HO5.out) (OF5.out) (by decide) HGf.out)
        refine put_to (d := some 39) rfl ?_
        refine hK.out _ _ ?_ (fun hH => ?_)
        focus (intro _; (try dsimp only); exact Ext.keep (W := w2) (by (repeat (first | exact Ext.refl _ | refine Ext.alloc ?_ _ | refine Ext.drewN ?_ _ | refine Ext.drew ?_ | refine Ext.trans ?_ (Hid.out (by assumption))))) c0)
        clear hK K hHeld
        have hHeld := hH (by decide)
        clear hH
        (try dsimp only) <;> (try simp only [Act.put, List.setIfInBounds_toArray, List.set_cons_zero, List.set_cons_succ])
        (refine hTakeX 13 (some 40) (v := ?_) (by kernel_rfl) (by kernel_rfl) (by kernel_rfl) (by kernel_rfl) (fun _ _ _ h => h) ⟨_, rfl, rfl, Or.inl ⟨by rfl, ?_⟩⟩ hHeld ?_; rotate_left; (focus (intro w hSw; (try dsimp only at hSw); go_simp; (first | done | with_reducible rfl))); (try simp only [Act.put, List.setIfInBounds_toArray, List.set_cons_zero, List.set_cons_succ]))
        refine heldX_ready (rs := [14]) (by kernel_rfl) (by simp) ?_
        refine eachX_cons rfl (fun K hK => ?_) eachX_nil
        go_simp
        refine hK.out _ _ ?_ (fun hH => ?_)
        focus (intro _; (try dsimp only); exact Ext.keep (W := w2) (by (repeat (first | exact Ext.refl _ | refine Ext.alloc ?_ _ | refine Ext.drewN ?_ _ | refine Ext.drew ?_ | refine Ext.trans ?_ (Hid.out (by assumption))))) c0)
        clear hK K hHeld
        have hHeld := hH (by decide)
        clear hH
        (try dsimp only) <;> (try simp only [Act.put, List.setIfInBounds_toArray, List.set_cons_zero, List.set_cons_succ])
        refine heldX_ready (rs := [15]) (by kernel_rfl) (by simp) ?_
        refine eachX_cons rfl (fun K hK => ?_) eachX_nil
        (refine stepOn (c := ItemV.cs) (ys0 := [] ++ (([] : List ItemV).take 0)) (ys := [⟨id, ⟨bbf, nnf, capf⟩, ts⟩]) rfl (.tmp 35) (.tmp 41) 27 74 rfl i0 _ 32 Try.underlying27 I1.out I2.out I3.out I4.out rfl (by decide) rfl w2 (by (repeat (first | exact Ext.refl _ | refine Ext.alloc ?_ _ | refine Ext.drewN ?_ _ | refine Ext.drew ?_ | refine Ext.trans ?_ (Hid.out (by assumption))))) (OIf.out.ext (by (repeat (first | exact Ext.refl _ | refine Ext.alloc ?_ _ | refine Ext.drewN ?_ _ | refine Ext.drew ?_ | refine Ext.trans ?_ (Hid.out (by assumption)))))) rfl (sl_ofBlock8 [⟨id, ⟨bbf, nnf, capf⟩, ts⟩] ItemV.wid rfl (by simp) (heap_alloc_new _ _) rfl) ItemV.one (by (have := HN5.out; omega)) (by decide) ?_; intro bb6 nn6 cap6 v6 hn6 hown6 hy6 hg6; have HN6 := hid hn6; have HO6 := hid hown6; have HY6 := hid hy6; have HG6 := hid hg6; clear hn6 hown6 hy6 hg6)
        have OF6 := hid (own_grown (HOf.out.ext (by (repeat (first | exact Ext.refl _ | refine Ext.alloc ?_ _ | refine Ext.drewN ?_ _ | refine Ext.drew ?_ | refine Ext.trans ?_ (Hid.out (by assumption)))))) (OIf.out.ext (by (repeat (first | exact Ext.refl _ | refine Ext.alloc ?_ _ | refine Ext.drewN ?_ _ | refine Ext.drew ?_ | refine Ext.trans ?_ (Hid.out (by assumption)))))) (by decide) HG6.out)
        refine put_to (d := some 42) rfl ?_
        refine hK.out _ _ ?_ (fun hH => ?_)
        focus (intro _; (try dsimp only); exact Ext.keep (W := w2) (by (repeat (first | exact Ext.refl _ | refine Ext.alloc ?_ _ | refine Ext.drewN ?_ _ | refine Ext.drew ?_ | refine Ext.trans ?_ (Hid.out (by assumption))))) c0)
        clear hK K hHeld
        have hHeld := hH (by decide)
        clear hH
        (try dsimp only) <;> (try simp only [Act.put, List.setIfInBounds_toArray, List.set_cons_zero, List.set_cons_succ])
        refine heldX_ready (rs := [22]) (by kernel_rfl) (by simp) ?_
        refine eachX_cons rfl (fun K hK => ?_) eachX_nil
        (refine stepOn (c := ItemV.cs) (ys0 := [] ++ (([] : List ItemV).take 0) ++ [⟨id, ⟨bbf, nnf, capf⟩, ts⟩]) (ys := (([] : List ItemV).drop 0)) rfl (.tmp 42) (.tmp 48) 27 74 rfl i0 _ 32 Try.underlying27 I1.out I2.out I3.out I4.out rfl (by decide) rfl w2 (by (repeat (first | exact Ext.refl _ | refine Ext.alloc ?_ _ | refine Ext.drewN ?_ _ | refine Ext.drew ?_ | refine Ext.trans ?_ (Hid.out (by assumption))))) (HO6.out.ext (by (repeat (first | exact Ext.refl _ | refine Ext.alloc ?_ _ | refine Ext.drewN ?_ _ | refine Ext.drew ?_ | refine Ext.trans ?_ (Hid.out (by assumption)))))) rfl (Sl.nil _ ItemV.wid) ItemV.one (by (have := HN5.out; have := HN6.out; omega)) (by decide) ?_; intro bb7 nn7 cap7 v7 hn7 hown7 hy7 hg7; have HN7 := hid hn7; have HO7 := hid hown7; have HY7 := hid hy7; have HG7 := hid hg7; clear hn7 hown7 hy7 hg7)
        have OF7 := hid (own_grown OF6.out HO6.out (by decide) HG7.out)
        refine put_to (d := some 49) rfl ?_
        refine hK.out _ _ ?_ (fun hH => ?_)
        focus (intro _; (try dsimp only); exact Ext.keep (W := w2) (by (repeat (first | exact Ext.refl _ | refine Ext.alloc ?_ _ | refine Ext.drewN ?_ _ | refine Ext.drew ?_ | refine Ext.trans ?_ (Hid.out (by assumption))))) c0)
        clear hK K hHeld
        have hHeld := hH (by decide)
        clear hH
        (try dsimp only) <;> (try simp only [Act.put, List.setIfInBounds_toArray, List.set_cons_zero, List.set_cons_succ])
        refine heldX_ready (rs := [23]) (by kernel_rfl) (by simp) ?_
        refine eachX_cons rfl (fun K hK => ?_) eachX_nil
        go_simp
        refine hK.out _ _ ?_ (fun hH => ?_)
        focus (intro _; (try dsimp only); exact Ext.keep (W := w2) (by (repeat (first | exact Ext.refl _ | refine Ext.alloc ?_ _ | refine Ext.drewN ?_ _ | refine Ext.drew ?_ | refine Ext.trans ?_ (Hid.out (by assumption))))) c0)
        clear hK K hHeld
        have hHeld := hH (by decide)
        clear hH
        (try dsimp only) <;> (try simp only [Act.put, List.setIfInBounds_toArray, List.set_cons_zero, List.set_cons_succ])
        refine heldX_ready (rs := [24]) (by kernel_rfl) (by simp) ?_
        refine eachX_cons rfl (fun K hK => ?_) eachX_nil
        go_simp
        refine hK.out _ _ ?_ (fun hH => ?_)
        focus (intro _; (try dsimp only); exact Ext.keep (W := w2) (by (repeat (first | exact Ext.refl _ | refine Ext.alloc ?_ _ | refine Ext.drewN ?_ _ | refine Ext.drew ?_ | refine Ext.trans ?_ (Hid.out (by assumption))))) c0)
        clear hK K hHeld
        have hHeld := hH (by decide)
        clear hH
        (try dsimp only) <;> (try simp only [Act.put, List.setIfInBounds_toArray, List.set_cons_zero, List.set_cons_succ])
        have c8 := HY7.out.keep c0
        have f8 := (H2.out.ext HY7.out).free
        refine heldX_ready (rs := [25]) (by kernel_rfl) (by simp) ?_
        refine eachX_cons rfl (fun K hK => ?_) eachX_nil
        go_simp
        refine hK.out _ _ (fun h => absurd rfl h) (fun _ => ?_)
        clear hK K
        (try dsimp only) <;> (try simp only [Act.put, List.setIfInBounds_toArray, List.set_cons_zero, List.set_cons_succ])
        refine heldX_done (by kernel_rfl) ?_ _
        have HFin := hid (H2.out.store HY7.out (zs := (([] : List ItemV).take 0) ++ [⟨id, ⟨bbf, nnf, capf⟩, ts⟩] ++ (([] : List ItemV).drop 0)) (by have := HO7.out; rwa [List.nil_append] at this) (fun y hy => by
          rcases List.mem_append.1 hy with hy | hy
          · rcases List.mem_append.1 hy with hy | hy
            · exact (H2.out.it y (List.mem_of_mem_take hy)).ext HY7.out
            · rw [List.mem_singleton] at hy
              subst hy
              have := OF7.out.sl
              rw [List.nil_append] at this
              exact this
          · exact (H2.out.it y (List.mem_of_mem_drop hy)).ext HY7.out))
        go_wp2
        go_ret
        exact ⟨0, HA.out, HKN.out, rfl, _, _, _, _, rfl, rfl, HFin.out.1, (Chg.of hx2.out).trans HFin.out.2 (fun _ _ h => h), (fun ad e => Nat.le_trans hx2.out.size (HO7.out.lt ad e).1), (fun ad e => Nat.le_trans hx2.out.size (HOf.out.lt ad e).1)⟩
    · skip
      go_simp
      refine hK.out _ _ ?_ (fun hH => ?_)
      focus (intro _; (try dsimp only); exact Ext.keep (W := w2) (by (repeat (first | exact Ext.refl _ | refine Ext.alloc ?_ _ | refine Ext.drewN ?_ _ | refine Ext.drew ?_ | refine Ext.trans ?_ (Hid.out (by assumption))))) c0)
      clear hK K hHeld
      have hHeld := hH (by decide)
      clear hH
      (try dsimp only) <;> (try simp only [Act.put, List.setIfInBounds_toArray, List.set_cons_zero, List.set_cons_succ])
      refine heldX_ready (rs := [1]) (by kernel_rfl) (by simp) ?_
      refine eachX_cons rfl (fun K hK => ?_) eachX_nil
      go_simp
      refine hK.out _ _ ?_ (fun hH => ?_)
      focus (intro _; (try dsimp only); exact Ext.keep (W := w2) (by (repeat (first | exact Ext.refl _ | refine Ext.alloc ?_ _ | refine Ext.drewN ?_ _ | refine Ext.drew ?_ | refine Ext.trans ?_ (Hid.out (by assumption))))) c0)
      clear hK K hHeld
      have hHeld := hH (by decide)
      clear hH
      (try dsimp only) <;> (try simp only [Act.put, List.setIfInBounds_toArray, List.set_cons_zero, List.set_cons_succ])
      have OFb := hid (show Own _ w2.heap.size 54 5 T.cs (some ⟨w2.heap.size, 0, none⟩) 0 0 [] from (Own.empty (w := (w2.drew.alloc (.cells #[] 54)).alloc (.cells #[] 74)) (by (repeat (first | (refine heap_new ?_; (simp; done)) | refine heap_old (by first | (simp; done) | (simp; omega)) ?_))) (by first | (simp; done) | (simp; omega)) T.wid))
      refine heldX_ready (rs := [8]) (by kernel_rfl) (by simp) ?_
      refine eachX_cons rfl (fun K hK => ?_) eachX_nil
      (refine stepOn (c := ItemV.cs) (ys0 := []) (ys := (([] : List ItemV).take 0)) rfl (.tmp 28) (.tmp 34) 27 74 rfl i0 _ 32 Try.underlying27 I1.out I2.out I3.out I4.out rfl (by decide) rfl w2 (by (repeat (first | exact Ext.refl _ | refine Ext.alloc ?_ _ | refine Ext.drewN ?_ _ | refine Ext.drew ?_ | refine Ext.trans ?_ (Hid.out (by assumption))))) (Own.empty (by (repeat (first | (refine heap_new ?_; (simp; done)) | refine heap_old (by first | (simp; done) | (simp; omega)) ?_))) (by first | (simp; done) | (simp; omega)) ItemV.wid) rfl ((H2.out.sl.take 0 (by omega)).ext (by (repeat (first | exact Ext.refl _ | refine Ext.alloc ?_ _ | refine Ext.drewN ?_ _ | refine Ext.drew ?_ | refine Ext.trans ?_ (Hid.out (by assumption)))))) ItemV.one (by omega) (by decide) ?_; intro bb5 nn5 cap5 v5 hn5 hown5 hy5 hg5; have HN5 := hid hn5; have HO5 := hid hown5; have HY5 := hid hy5; have HG5 := hid hg5; clear hn5 hown5 hy5 hg5)
      refine put_to (d := some 35) rfl ?_
      refine hK.out _ _ ?_ (fun hH => ?_)
      focus (intro _; (try dsimp only); exact Ext.keep (W := w2) (by (repeat (first | exact Ext.refl _ | refine Ext.alloc ?_ _ | refine Ext.drewN ?_ _ | refine Ext.drew ?_ | refine Ext.trans ?_ (Hid.out (by assumption))))) c0)
      clear hK K hHeld
      have hHeld := hH (by decide)
      clear hH
      (try dsimp only) <;> (try simp only [Act.put, List.setIfInBounds_toArray, List.set_cons_zero, List.set_cons_succ])
      have OF5 := hid (own_grown OFb.out (Own.empty (base := w2.heap.size) (e := 74) (by (repeat (first | (refine heap_new ?_; (simp; done)) | refine heap_old (by first | (simp; done) | (simp; omega)) ?_))) (by first | (simp; done) | (simp; omega)) ItemV.wid) (by decide) HG5.out)
      refine heldX_ready (rs := [12]) (by kernel_rfl) (by simp) ?_
      refine eachX_cons rfl (fun K hK => ?_) eachX_nil
      (refine stepOn (c := T.cs) (ys0 := []) (ys := ts) rfl (.tmp 37) (.tmp 38) 32 54 rfl j0 _ 56 Try.underlying32 J1.out J2.out J3.out J4.out rfl (by decide) rfl w2 (by (repeat (first | exact Ext.refl _ | refine Ext.alloc ?_ _ | refine Ext.drewN ?_ _ | refine Ext.drew ?_ | refine Ext.trans ?_ (Hid.out (by assumption))))) (OF5.out) rfl (HS.out.ext (Ext.trans hx2.out (by (repeat (first | exact Ext.refl _ | refine Ext.alloc ?_ _ | refine Ext.drewN ?_ _ | refine Ext.drew ?_ | refine Ext.trans ?_ (Hid.out (by assumption))))))) T.one (by omega) (by decide) ?_; intro bbf nnf capf vf hnf hownf hyf hgf; have HNf := hid hnf; have HOf := hid hownf; have HYf := hid hyf; have HGf := hid hgf; clear hnf hownf hyf hgf)
      have OIf := hid (own_grown (HO5.out) (OF5.out) (by decide) HGf.out)
      refine put_to (d := some 39) rfl ?_
      refine hK.out _ _ ?_ (fun hH => ?_)
      focus (intro _; (try dsimp only); exact Ext.keep (W := w2) (by (repeat (first | exact Ext.refl _ | refine Ext.alloc ?_ _ | refine Ext.drewN ?_ _ | refine Ext.drew ?_ | refine Ext.trans ?_ (Hid.out (by assumption))))) c0)
      clear hK K hHeld
      have hHeld := hH (by decide)
      clear hH
      (try dsimp only) <;> (try simp only [Act.put, List.setIfInBounds_toArray, List.set_cons_zero, List.set_cons_succ])
      (refine hTakeX 13 (some 40) (v := ?_) (by kernel_rfl) (by kernel_rfl) (by kernel_rfl) (by kernel_rfl) (fun _ _ _ h => h) ⟨_, rfl, rfl, Or.inl ⟨by rfl, ?_⟩⟩ hHeld ?_; rotate_left; (focus (intro w hSw; (try dsimp only at hSw); go_simp; (first | done | with_reducible rfl))); (try simp only [Act.put, List.setIfInBounds_toArray, List.set_cons_zero, List.set_cons_succ]))
      refine heldX_ready (rs := [14]) (by kernel_rfl) (by simp) ?_
      refine eachX_cons rfl (fun K hK => ?_) eachX_nil
      go_simp
      refine hK.out _ _ ?_ (fun hH => ?_)
      focus (intro _; (try dsimp only); exact Ext.keep (W := w2) (by (repeat (first | exact Ext.refl _ | refine Ext.alloc ?_ _ | refine Ext.drewN ?_ _ | refine Ext.drew ?_ | refine Ext.trans ?_ (Hid.out (by assumption))))) c0)
      clear hK K hHeld
      have hHeld := hH (by decide)
      clear hH
      (try dsimp only) <;> (try simp only [Act.put, List.setIfInBounds_toArray, List.set_cons_zero, List.set_cons_succ])
      refine heldX_ready (rs := [15]) (by kernel_rfl) (by simp) ?_
      refine eachX_cons rfl (fun K hK => ?_) eachX_nil
      (refine stepOn (c := ItemV.cs) (ys0 := [] ++ (([] : List ItemV).take 0)) (ys := [⟨id, ⟨bbf, nnf, capf⟩, ts⟩]) rfl (.tmp 35) (.tmp 41) 27 74 rfl i0 _ 32 Try.underlying27 I1.out I2.out I3.out I4.out rfl (by decide) rfl w2 (by (repeat (first | exact Ext.refl _ | refine Ext.alloc ?_ _ | refine Ext.drewN ?_ _ | refine Ext.drew ?_ | refine Ext.trans ?_ (Hid.out (by assumption))))) (OIf.out.ext (by (repeat (first | exact Ext.refl _ | refine Ext.alloc ?_ _ | refine Ext.drewN ?_ _ | refine Ext.drew ?_ | refine Ext.trans ?_ (Hid.out (by assumption)))))) rfl (sl_ofBlock8 [⟨id, ⟨bbf, nnf, capf⟩, ts⟩] ItemV.wid rfl (by simp) (heap_alloc_new _ _) rfl) ItemV.one (by (have := HN5.out; omega)) (by decide) ?_; intro bb6 nn6 cap6 v6 hn6 hown6 hy6 hg6; have HN6 := hid hn6; have HO6 := hid hown6; have HY6 := hid hy6; have HG6 := hid hg6; clear hn6 hown6 hy6 hg6)
      have OF6 := hid (own_grown (HOf.out.ext (by (repeat (first | exact Ext.refl _ | refine Ext.alloc ?_ _ | refine Ext.drewN ?_ _ | refine Ext.drew ?_ | refine Ext.trans ?_ (Hid.out (by assumption)))))) (OIf.out.ext (by (repeat (first | exact Ext.refl _ | refine Ext.alloc ?_ _ | refine Ext.drewN ?_ _ | refine Ext.drew ?_ | refine Ext.trans ?_ (Hid.out (by assumption)))))) (by decide) HG6.out)
      refine put_to (d := some 42) rfl ?_
      refine hK.out _ _ ?_ (fun hH => ?_)
      focus (intro _; (try dsimp only); exact Ext.keep (W := w2) (by (repeat (first | exact Ext.refl _ | refine Ext.alloc ?_ _ | refine Ext.drewN ?_ _ | refine Ext.drew ?_ | refine Ext.trans ?_ (Hid.out (by assumption))))) c0)
      clear hK K hHeld
      have hHeld := hH (by decide)
      clear hH
      (try dsimp only) <;> (try simp only [Act.put, List.setIfInBounds_toArray, List.set_cons_zero, List.set_cons_succ])
      refine heldX_ready (rs := [22]) (by kernel_rfl) (by simp) ?_
      refine eachX_cons rfl (fun K hK => ?_) eachX_nil
      (refine stepOn (c := ItemV.cs) (ys0 := [] ++ (([] : List ItemV).take 0) ++ [⟨id, ⟨bbf, nnf, capf⟩, ts⟩]) (ys := (([] : List ItemV).drop 0)) rfl (.tmp 42) (.tmp 48) 27 74 rfl i0 _ 32 Try.underlying27 I1.out I2.out I3.out I4.out rfl (by decide) rfl w2 (by (repeat (first | exact Ext.refl _ | refine Ext.alloc ?_ _ | refine Ext.drewN ?_ _ | refine Ext.drew ?_ | refine Ext.trans ?_ (Hid.out (by assumption))))) (HO6.out.ext (by (repeat (first | exact Ext.refl _ | refine Ext.alloc ?_ _ | refine Ext.drewN ?_ _ | refine Ext.drew ?_ | refine Ext.trans ?_ (Hid.out (by assumption)))))) rfl (Sl.nil _ ItemV.wid) ItemV.one (by (have := HN5.out; have := HN6.out; omega)) (by decide) ?_; intro bb7 nn7 cap7 v7 hn7 hown7 hy7 hg7; have HN7 := hid hn7; have HO7 := hid hown7; have HY7 := hid hy7; have HG7 := hid hg7; clear hn7 hown7 hy7 hg7)
      have OF7 := hid (own_grown OF6.out HO6.out (by decide) HG7.out)
      refine put_to (d := some 49) rfl ?_
      refine hK.out _ _ ?_ (fun hH => ?_)
      focus (intro _; (try dsimp only); exact Ext.keep (W := w2) (by (repeat (first | exact Ext.refl _ | refine Ext.alloc ?_ _ | refine Ext.drewN ?_ _ | refine Ext.drew ?_ | refine Ext.trans ?_ (Hid.out (by assumption))))) c0)
      clear hK K hHeld
      have hHeld := hH (by decide)
      clear hH
      (try dsimp only) <;> (try simp only [Act.put, List.setIfInBounds_toArray, List.set_cons_zero, List.set_cons_succ])
      refine heldX_ready (rs := [23]) (by kernel_rfl) (by simp) ?_
      refine eachX_cons rfl (fun K hK => ?_) eachX_nil
      go_simp
      refine hK.out _ _ ?_ (fun hH => ?_)
      focus (intro _; (try dsimp only); exact Ext.keep (W := w2) (by (repeat (first | exact Ext.refl _ | refine Ext.alloc ?_ _ | refine Ext.drewN ?_ _ | refine Ext.drew ?_ | refine Ext.trans ?_ (Hid.out (by assumption))))) c0)
      clear hK K hHeld
      have hHeld := hH (by decide)
      clear hH
      (try dsimp only) <;> (try simp only [Act.put, List.setIfInBounds_toArray, List.set_cons_zero, List.set_cons_succ])
      refine heldX_ready (rs := [24]) (by kernel_rfl) (by simp) ?_
      refine eachX_cons rfl (fun K hK => ?_) eachX_nil
      go_simp
      refine hK.out _ _ ?_ (fun hH => ?_)
      focus (intro _; (try dsimp only); exact Ext.keep (W := w2) (by (repeat (first | exact Ext.refl _ | refine Ext.alloc ?_ _ | refine Ext.drewN ?_ _ | refine Ext.drew ?_ | refine Ext.trans ?_ (Hid.out (by assumption))))) c0)
      clear hK K hHeld
      have hHeld := hH (by decide)
      clear hH
      (try dsimp only) <;> (try simp only [Act.put, List.setIfInBounds_toArray, List.set_cons_zero, List.set_cons_succ])
      have c8 := HY7.out.keep c0
      have f8 := (H2.out.ext HY7.out).free
      refine heldX_ready (rs := [25]) (by kernel_rfl) (by simp) ?_
      refine eachX_cons rfl (fun K hK => ?_) eachX_nil
      go_simp
      refine hK.out _ _ (fun h => absurd rfl h) (fun _ => ?_)
      clear hK K
      (try dsimp only) <;> (try simp only [Act.put, List.setIfInBounds_toArray, List.set_cons_zero, List.set_cons_succ])
      refine heldX_done (by kernel_rfl) ?_ _
      have HFin := hid (H2.out.store HY7.out (zs := (([] : List ItemV).take 0) ++ [⟨id, ⟨bbf, nnf, capf⟩, ts⟩] ++ (([] : List ItemV).drop 0)) (by have := HO7.out; rwa [List.nil_append] at this) (fun y hy => by
        rcases List.mem_append.1 hy with hy | hy
        · rcases List.mem_append.1 hy with hy | hy
          · exact (H2.out.it y (List.mem_of_mem_take hy)).ext HY7.out
          · rw [List.mem_singleton] at hy
            subst hy
            have := OF7.out.sl
            rw [List.nil_append] at this
            exact this
        · exact (H2.out.it y (List.mem_of_mem_drop hy)).ext HY7.out))
      go_wp2
      go_ret
      exact ⟨0, HA.out, HKN.out, rfl, _, _, _, _, rfl, rfl, HFin.out.1, (Chg.of hx2.out).trans HFin.out.2 (fun _ _ h => h), (fun ad e => Nat.le_trans hx2.out.size (HO7.out.lt ad e).1), (fun ad e => Nat.le_trans hx2.out.size (HOf.out.lt ad e).1)⟩
  | some ad =>
    obtain ⟨b, o, rfl⟩ := H.out.fm ad rfl
    by_cases hc0 : c = 0
    · subst hc0
      have hl0 : ys.length = 0 := by omega
      obtain rfl : ys = [] := List.eq_nil_of_length_eq_zero hl0
      obtain rfl : k = 0 := by have : k ≤ 0 := hkn; omega
      go_wp2_with fail
      refine wp_region_heldX 25 (S := (fun w' => w'.cell? ⟨q, 0, none⟩ = some (.slice (some ⟨b, o, none⟩) 0 0))) (by kernel_rfl) ?_ (fun hHeld => ?_)
      · ((try dsimp only); exact Ext.keep (W := w2) (by (repeat (first | exact Ext.refl _ | refine Ext.alloc ?_ _ | refine Ext.drewN ?_ _ | refine Ext.drew ?_ | refine Ext.trans ?_ (Hid.out (by assumption))))) c0)
      (refine hTakeX 0 (some 27) (v := ?_) (by kernel_rfl) (by kernel_rfl) (by kernel_rfl) (by kernel_rfl) (fun _ _ _ h => h) ⟨_, rfl, rfl, Or.inl ⟨by rfl, ?_⟩⟩ hHeld ?_; rotate_left; (focus (intro w hSw; (try dsimp only at hSw); go_simp; (first | done | with_reducible rfl))); (try simp only [Act.put, List.setIfInBounds_toArray, List.set_cons_zero, List.set_cons_succ]))
      (refine hTakeX 2 (some 29) (v := ?_) (by kernel_rfl) (by kernel_rfl) (by kernel_rfl) (by kernel_rfl) (fun _ _ _ h => h) ⟨_, rfl, rfl, Or.inl ⟨by rfl, ?_⟩⟩ hHeld ?_; rotate_left; (focus (intro w hSw; (try dsimp only at hSw); go_simp; (first | done | with_reducible rfl))); (try simp only [Act.put, List.setIfInBounds_toArray, List.set_cons_zero, List.set_cons_succ]))
      (refine hTakeX 3 (some 30) (v := ?_) (by kernel_rfl) (by kernel_rfl) (by kernel_rfl) (by kernel_rfl) (fun _ _ _ h => h) ⟨_, rfl, rfl, Or.inl ⟨by rfl, ?_⟩⟩ hHeld ?_; rotate_left; (focus (intro w hSw; (try dsimp only at hSw); go_simp; (first | done | with_reducible rfl))); (try simp only [Act.put, List.setIfInBounds_toArray, List.set_cons_zero, List.set_cons_succ]))
      (refine hTakeX 4 (some 31) (v := ?_) (by kernel_rfl) (by kernel_rfl) (by kernel_rfl) (by kernel_rfl) (fun _ _ _ h => h) ⟨_, rfl, rfl, Or.inl ⟨by rfl, ?_⟩⟩ hHeld ?_; rotate_left; (focus (intro w hSw; (try dsimp only at hSw); go_simp; (first | done | with_reducible rfl))); (try simp only [Act.put, List.setIfInBounds_toArray, List.set_cons_zero, List.set_cons_succ]))
      (refine hTakeX 5 (some 32) (v := ?_) (by kernel_rfl) (by kernel_rfl) (by kernel_rfl) (by kernel_rfl) (fun _ _ _ h => h) ⟨_, rfl, rfl, Or.inl ⟨by rfl, ?_⟩⟩ hHeld ?_; rotate_left; (focus (intro w hSw; (try dsimp only at hSw); go_simp; (first | done | with_reducible rfl))); (try simp only [Act.put, List.setIfInBounds_toArray, List.set_cons_zero, List.set_cons_succ]))
      (refine hTakeX 6 (some 33) (v := ?_) (by kernel_rfl) (by kernel_rfl) (by kernel_rfl) (by kernel_rfl) (fun _ _ _ h => h) ⟨_, rfl, rfl, Or.inl ⟨by rfl, ?_⟩⟩ hHeld ?_; rotate_left; (focus (intro w hSw; (try dsimp only at hSw); go_simp; (first | done | with_reducible rfl))); (try simp only [Act.put, List.setIfInBounds_toArray, List.set_cons_zero, List.set_cons_succ]))
      (refine hTakeX 7 (some 34) (v := ?_) (by kernel_rfl) (by kernel_rfl) (by kernel_rfl) (by kernel_rfl) (fun _ _ _ h => h) ⟨_, rfl, rfl, Or.inl ⟨by rfl, ?_⟩⟩ hHeld ?_; rotate_left; (focus (intro w hSw; (try dsimp only at hSw); go_simp; (first | done | with_reducible rfl))); (try simp only [Act.put, List.setIfInBounds_toArray, List.set_cons_zero, List.set_cons_succ]))
      (refine hTakeX 9 (some 36) (v := ?_) (by kernel_rfl) (by kernel_rfl) (by kernel_rfl) (by kernel_rfl) (fun _ _ _ h => h) ⟨_, rfl, rfl, Or.inl ⟨by rfl, ?_⟩⟩ hHeld ?_; rotate_left; (focus (intro w hSw; (try dsimp only at hSw); go_simp; (first | done | with_reducible rfl))); (try simp only [Act.put, List.setIfInBounds_toArray, List.set_cons_zero, List.set_cons_succ]))
      (refine hTakeX 11 (some 38) (v := ?_) (by kernel_rfl) (by kernel_rfl) (by kernel_rfl) (by kernel_rfl) (fun _ _ _ h => h) ⟨_, rfl, rfl, Or.inl ⟨by rfl, ?_⟩⟩ hHeld ?_; rotate_left; (focus (intro w hSw; (try dsimp only at hSw); go_simp; (first | done | with_reducible rfl))); (try simp only [Act.put, List.setIfInBounds_toArray, List.set_cons_zero, List.set_cons_succ]))
      (refine hTakeX 16 (some 43) (v := ?_) (by kernel_rfl) (by kernel_rfl) (by kernel_rfl) (by kernel_rfl) (fun _ _ _ h => h) ⟨_, rfl, rfl, Or.inl ⟨by rfl, ?_⟩⟩ hHeld ?_; rotate_left; (focus (intro w hSw; (try dsimp only at hSw); go_simp; (first | done | with_reducible rfl))); (try simp only [Act.put, List.setIfInBounds_toArray, List.set_cons_zero, List.set_cons_succ]))
      (refine hTakeX 17 (some 44) (v := ?_) (by kernel_rfl) (by kernel_rfl) (by kernel_rfl) (by kernel_rfl) (fun _ _ _ h => h) ⟨_, rfl, rfl, Or.inl ⟨by rfl, ?_⟩⟩ hHeld ?_; rotate_left; (focus (intro w hSw; (try dsimp only at hSw); go_simp; (first | done | with_reducible rfl))); (try simp only [Act.put, List.setIfInBounds_toArray, List.set_cons_zero, List.set_cons_succ]))
      (refine hTakeX 18 (some 45) (v := ?_) (by kernel_rfl) (by kernel_rfl) (by kernel_rfl) (by kernel_rfl) (fun _ _ _ h => h) ⟨_, rfl, rfl, Or.inl ⟨by rfl, ?_⟩⟩ hHeld ?_; rotate_left; (focus (intro w hSw; (try dsimp only at hSw); go_simp; (first | done | with_reducible rfl))); (try simp only [Act.put, List.setIfInBounds_toArray, List.set_cons_zero, List.set_cons_succ]))
      (refine hTakeX 19 (some 46) (v := ?_) (by kernel_rfl) (by kernel_rfl) (by kernel_rfl) (by kernel_rfl) (fun _ _ _ h => h) ⟨_, rfl, rfl, Or.inl ⟨by rfl, ?_⟩⟩ hHeld ?_; rotate_left; (focus (intro w hSw; (try dsimp only at hSw); go_simp; (first | done | with_reducible rfl))); (try simp only [Act.put, List.setIfInBounds_toArray, List.set_cons_zero, List.set_cons_succ]))
      (refine hTakeX 20 (some 47) (v := ?_) (by kernel_rfl) (by kernel_rfl) (by kernel_rfl) (by kernel_rfl) (fun _ _ _ h => h) ⟨_, rfl, rfl, Or.inl ⟨by rfl, ?_⟩⟩ hHeld ?_; rotate_left; (focus (intro w hSw; (try dsimp only at hSw); go_simp; (first | done | with_reducible rfl))); (try simp only [Act.put, List.setIfInBounds_toArray, List.set_cons_zero, List.set_cons_succ]))
      (refine hTakeX 21 (some 48) (v := ?_) (by kernel_rfl) (by kernel_rfl) (by kernel_rfl) (by kernel_rfl) (fun _ _ _ h => h) ⟨_, rfl, rfl, Or.inl ⟨by rfl, ?_⟩⟩ hHeld ?_; rotate_left; (focus (intro w hSw; (try dsimp only at hSw); go_simp; (first | done | with_reducible rfl))); (try simp only [Act.put, List.setIfInBounds_toArray, List.set_cons_zero, List.set_cons_succ]))
      refine heldX_ready (rs := [1, 10]) (by kernel_rfl) (by simp) ?_
      refine eachX_cons rfl (fun K hK => ?_) (eachX_cons rfl (fun K hK => ?_) eachX_nil)
      · go_simp
        refine hK.out _ _ ?_ (fun hH => ?_)
        focus (intro _; (try dsimp only); exact Ext.keep (W := w2) (by (repeat (first | exact Ext.refl _ | refine Ext.alloc ?_ _ | refine Ext.drewN ?_ _ | refine Ext.drew ?_ | refine Ext.trans ?_ (Hid.out (by assumption))))) c0)
        clear hK K hHeld
        have hHeld := hH (by decide)
        clear hH
        (try dsimp only) <;> (try simp only [Act.put, List.setIfInBounds_toArray, List.set_cons_zero, List.set_cons_succ])
        refine heldX_ready (rs := [8, 10]) (by kernel_rfl) (by simp) ?_
        refine eachX_cons rfl (fun K hK => ?_) (eachX_cons rfl (fun K hK => ?_) eachX_nil)
        · skip
          (refine stepOn (c := ItemV.cs) (ys0 := []) (ys := (([] : List ItemV).take 0)) rfl (.tmp 28) (.tmp 34) 27 74 rfl i0 _ 32 Try.underlying27 I1.out I2.out I3.out I4.out rfl (by decide) rfl w2 (by (repeat (first | exact Ext.refl _ | refine Ext.alloc ?_ _ | refine Ext.drewN ?_ _ | refine Ext.drew ?_ | refine Ext.trans ?_ (Hid.out (by assumption))))) (Own.empty (by (repeat (first | (refine heap_new ?_; (simp; done)) | refine heap_old (by first | (simp; done) | (simp; omega)) ?_))) (by first | (simp; done) | (simp; omega)) ItemV.wid) rfl ((H2.out.sl.take 0 (by omega)).ext (by (repeat (first | exact Ext.refl _ | refine Ext.alloc ?_ _ | refine Ext.drewN ?_ _ | refine Ext.drew ?_ | refine Ext.trans ?_ (Hid.out (by assumption)))))) ItemV.one (by omega) (by decide) ?_; intro bb5 nn5 cap5 v5 hn5 hown5 hy5 hg5; have HN5 := hid hn5; have HO5 := hid hown5; have HY5 := hid hy5; have HG5 := hid hg5; clear hn5 hown5 hy5 hg5)
          refine put_to (d := some 35) rfl ?_
          refine hK.out _ _ ?_ (fun hH => ?_)
          focus (intro _; (try dsimp only); exact Ext.keep (W := w2) (by (repeat (first | exact Ext.refl _ | refine Ext.alloc ?_ _ | refine Ext.drewN ?_ _ | refine Ext.drew ?_ | refine Ext.trans ?_ (Hid.out (by assumption))))) c0)
          clear hK K hHeld
          have hHeld := hH (by decide)
          clear hH
          (try dsimp only) <;> (try simp only [Act.put, List.setIfInBounds_toArray, List.set_cons_zero, List.set_cons_succ])
          refine heldX_ready (rs := [10]) (by kernel_rfl) (by simp) ?_
          refine eachX_cons rfl (fun K hK => ?_) eachX_nil
          go_simp
          refine hK.out _ _ ?_ (fun hH => ?_)
          focus (intro _; (try dsimp only); exact Ext.keep (W := w2) (by (repeat (first | exact Ext.refl _ | refine Ext.alloc ?_ _ | refine Ext.drewN ?_ _ | refine Ext.drew ?_ | refine Ext.trans ?_ (Hid.out (by assumption))))) c0)
          clear hK K hHeld
          have hHeld := hH (by decide)
          clear hH
          (try dsimp only) <;> (try simp only [Act.put, List.setIfInBounds_toArray, List.set_cons_zero, List.set_cons_succ])
          refine heldX_ready (rs := [12]) (by kernel_rfl) (by simp) ?_
          refine eachX_cons rfl (fun K hK => ?_) eachX_nil
          (refine stepOn (c := T.cs) (ys0 := []) (ys := ts) rfl (.tmp 37) (.tmp 38) 32 54 rfl j0 _ 56 Try.underlying32 J1.out J2.out J3.out J4.out rfl (by decide) rfl w2 (by (repeat (first | exact Ext.refl _ | refine Ext.alloc ?_ _ | refine Ext.drewN ?_ _ | refine Ext.drew ?_ | refine Ext.trans ?_ (Hid.out (by assumption))))) ((Own.empty (by (repeat (first | (refine heap_new ?_; (simp; done)) | refine heap_old (by first | (simp; done) | (simp; omega)) ?_))) (by first | (simp; done) | (simp; omega) | exact Ext.size (W := w2) (by (repeat (first | exact Ext.refl _ | refine Ext.alloc ?_ _ | refine Ext.drewN ?_ _ | refine Ext.drew ?_ | refine Ext.trans ?_ (Hid.out (by assumption)))))) T.wid)) rfl (HS.out.ext (Ext.trans hx2.out (by (repeat (first | exact Ext.refl _ | refine Ext.alloc ?_ _ | refine Ext.drewN ?_ _ | refine Ext.drew ?_ | refine Ext.trans ?_ (Hid.out (by assumption))))))) T.one (by omega) (by decide) ?_; intro bbf nnf capf vf hnf hownf hyf hgf; have HNf := hid hnf; have HOf := hid hownf; have HYf := hid hyf; have HGf := hid hgf; clear hnf hownf hyf hgf)
          have OIf := hid (own_grown (HO5.out.ext (by (repeat (first | exact Ext.refl _ | refine Ext.alloc ?_ _ | refine Ext.drewN ?_ _ | refine Ext.drew ?_ | refine Ext.trans ?_ (Hid.out (by assumption)))))) ((Own.empty (by (repeat (first | (refine heap_new ?_; (simp; done)) | refine heap_old (by first | (simp; done) | (simp; omega)) ?_))) (by first | (simp; done) | (simp; omega) | exact Ext.size (W := w2) (by (repeat (first | exact Ext.refl _ | refine Ext.alloc ?_ _ | refine Ext.drewN ?_ _ | refine Ext.drew ?_ | refine Ext.trans ?_ (Hid.out (by assumption)))))) T.wid)) (by decide) HGf.out)
          refine put_to (d := some 39) rfl ?_
          refine hK.out _ _ ?_ (fun hH => ?_)
          focus (intro _; (try dsimp only); exact Ext.keep (W := w2) (by (repeat (first | exact Ext.refl _ | refine Ext.alloc ?_ _ | refine Ext.drewN ?_ _ | refine Ext.drew ?_ | refine Ext.trans ?_ (Hid.out (by assumption))))) c0)
          clear hK K hHeld
          have hHeld := hH (by decide)
          clear hH
          (try dsimp only) <;> (try simp only [Act.put, List.setIfInBounds_toArray, List.set_cons_zero, List.set_cons_succ])
          (refine hTakeX 13 (some 40) (v := ?_) (by kernel_rfl) (by kernel_rfl) (by kernel_rfl) (by kernel_rfl) (fun _ _ _ h => h) ⟨_, rfl, rfl, Or.inl ⟨by rfl, ?_⟩⟩ hHeld ?_; rotate_left; (focus (intro w hSw; (try dsimp only at hSw); go_simp; (first | done | with_reducible rfl))); (try simp only [Act.put, List.setIfInBounds_toArray, List.set_cons_zero, List.set_cons_succ]))
          refine heldX_ready (rs := [14]) (by kernel_rfl) (by simp) ?_
          refine eachX_cons rfl (fun K hK => ?_) eachX_nil
          go_simp
          refine hK.out _ _ ?_ (fun hH => ?_)
          focus (intro _; (try dsimp only); exact Ext.keep (W := w2) (by (repeat (first | exact Ext.refl _ | refine Ext.alloc ?_ _ | refine Ext.drewN ?_ _ | refine Ext.drew ?_ | refine Ext.trans ?_ (Hid.out (by assumption))))) c0)
          clear hK K hHeld
          have hHeld := hH (by decide)
          clear hH
          (try dsimp only) <;> (try simp only [Act.put, List.setIfInBounds_toArray, List.set_cons_zero, List.set_cons_succ])
          refine heldX_ready (rs := [15]) (by kernel_rfl) (by simp) ?_
          refine eachX_cons rfl (fun K hK => ?_) eachX_nil
          (refine stepOn (c := ItemV.cs) (ys0 := [] ++ (([] : List ItemV).take 0)) (ys := [⟨id, ⟨bbf, nnf, capf⟩, ts⟩]) rfl (.tmp 35) (.tmp 41) 27 74 rfl i0 _ 32 Try.underlying27 I1.out I2.out I3.out I4.out rfl (by decide) rfl w2 (by (repeat (first | exact Ext.refl _ | refine Ext.alloc ?_ _ | refine Ext.drewN ?_ _ | refine Ext.drew ?_ | refine Ext.trans ?_ (Hid.out (by assumption))))) (OIf.out.ext (by (repeat (first | exact Ext.refl _ | refine Ext.alloc ?_ _ | refine Ext.drewN ?_ _ | refine Ext.drew ?_ | refine Ext.trans ?_ (Hid.out (by assumption)))))) rfl (sl_ofBlock8 [⟨id, ⟨bbf, nnf, capf⟩, ts⟩] ItemV.wid rfl (by simp) (heap_alloc_new _ _) rfl) ItemV.one (by (have := HN5.out; omega)) (by decide) ?_; intro bb6 nn6 cap6 v6 hn6 hown6 hy6 hg6; have HN6 := hid hn6; have HO6 := hid hown6; have HY6 := hid hy6; have HG6 := hid hg6; clear hn6 hown6 hy6 hg6)
          have OF6 := hid (own_grown (HOf.out.ext (by (repeat (first | exact Ext.refl _ | refine Ext.alloc ?_ _ | refine Ext.drewN ?_ _ | refine Ext.drew ?_ | refine Ext.trans ?_ (Hid.out (by assumption)))))) (OIf.out.ext (by (repeat (first | exact Ext.refl _ | refine Ext.alloc ?_ _ | refine Ext.drewN ?_ _ | refine Ext.drew ?_ | refine Ext.trans ?_ (Hid.out (by assumption)))))) (by decide) HG6.out)
          refine put_to (d := some 42) rfl ?_
          refine hK.out _ _ ?_ (fun hH => ?_)
          focus (intro _; (try dsimp only); exact Ext.keep (W := w2) (by (repeat (first | exact Ext.refl _ | refine Ext.alloc ?_ _ | refine Ext.drewN ?_ _ | refine Ext.drew ?_ | refine Ext.trans ?_ (Hid.out (by assumption))))) c0)
          clear hK K hHeld
          have hHeld := hH (by decide)
          clear hH
          (try dsimp only) <;> (try simp only [Act.put, List.setIfInBounds_toArray, List.set_cons_zero, List.set_cons_succ])
          refine heldX_ready (rs := [22]) (by kernel_rfl) (by simp) ?_
          refine eachX_cons rfl (fun K hK => ?_) eachX_nil
          (refine stepOn (c := ItemV.cs) (ys0 := [] ++ (([] : List ItemV).take 0) ++ [⟨id, ⟨bbf, nnf, capf⟩, ts⟩]) (ys := (([] : List ItemV).drop 0)) rfl (.tmp 42) (.tmp 48) 27 74 rfl i0 _ 32 Try.underlying27 I1.out I2.out I3.out I4.out rfl (by decide) rfl w2 (by (repeat (first | exact Ext.refl _ | refine Ext.alloc ?_ _ | refine Ext.drewN ?_ _ | refine Ext.drew ?_ | refine Ext.trans ?_ (Hid.out (by assumption))))) (HO6.out.ext (by (repeat (first | exact Ext.refl _ | refine Ext.alloc ?_ _ | refine Ext.drewN ?_ _ | refine Ext.drew ?_ | refine Ext.trans ?_ (Hid.out (by assumption)))))) rfl (Sl.none_of ItemV.wid (by decide)) ItemV.one (by (have := HN5.out; have := HN6.out; omega)) (by decide) ?_; intro bb7 nn7 cap7 v7 hn7 hown7 hy7 hg7; have HN7 := hid hn7; have HO7 := hid hown7; have HY7 := hid hy7; have HG7 := hid hg7; clear hn7 hown7 hy7 hg7)
          have OF7 := hid (own_grown OF6.out HO6.out (by decide) HG7.out)
          refine put_to (d := some 49) rfl ?_
          refine hK.out _ _ ?_ (fun hH => ?_)
          focus (intro _; (try dsimp only); exact Ext.keep (W := w2) (by (repeat (first | exact Ext.refl _ | refine Ext.alloc ?_ _ | refine Ext.drewN ?_ _ | refine Ext.drew ?_ | refine Ext.trans ?_ (Hid.out (by assumption))))) c0)
          clear hK K hHeld
          have hHeld := hH (by decide)
          clear hH
          (try dsimp only) <;> (try simp only [Act.put, List.setIfInBounds_toArray, List.set_cons_zero, List.set_cons_succ])
          refine heldX_ready (rs := [23]) (by kernel_rfl) (by simp) ?_
          refine eachX_cons rfl (fun K hK => ?_) eachX_nil
          go_simp
          refine hK.out _ _ ?_ (fun hH => ?_)
          focus (intro _; (try dsimp only); exact Ext.keep (W := w2) (by (repeat (first | exact Ext.refl _ | refine Ext.alloc ?_ _ | refine Ext.drewN ?_ _ | refine Ext.drew ?_ | refine Ext.trans ?_ (Hid.out (by assumption))))) c0)
          clear hK K hHeld
          have hHeld := hH (by decide)
          clear hH
          (try dsimp only) <;> (try simp only [Act.put, List.setIfInBounds_toArray, List.set_cons_zero, List.set_cons_succ])
          refine heldX_ready (rs := [24]) (by kernel_rfl) (by simp) ?_
          refine eachX_cons rfl (fun K hK => ?_) eachX_nil
          go_simp
          refine hK.out _ _ ?_ (fun hH => ?_)
          focus (intro _; (try dsimp only); exact Ext.keep (W := w2) (by (repeat (first | exact Ext.refl _ | refine Ext.alloc ?_ _ | refine Ext.drewN ?_ _ | refine Ext.drew ?_ | refine Ext.trans ?_ (Hid.out (by assumption))))) c0)
          clear hK K hHeld
          have hHeld := hH (by decide)
          clear hH
          (try dsimp only) <;> (try simp only [Act.put, List.setIfInBounds_toArray, List.set_cons_zero, List.set_cons_succ])
          have c8 := HY7.out.keep c0
          have f8 := (H2.out.ext HY7.out).free
          refine heldX_ready (rs := [25]) (by kernel_rfl) (by simp) ?_
          refine eachX_cons rfl (fun K hK => ?_) eachX_nil
          go_simp
          refine hK.out _ _ (fun h => absurd rfl h) (fun _ => ?_)
          clear hK K
          (try dsimp only) <;> (try simp only [Act.put, List.setIfInBounds_toArray, List.set_cons_zero, List.set_cons_succ])
          refine heldX_done (by kernel_rfl) ?_ _
          have HFin := hid (H2.out.store HY7.out (zs := (([] : List ItemV).take 0) ++ [⟨id, ⟨bbf, nnf, capf⟩, ts⟩] ++ (([] : List ItemV).drop 0)) (by have := HO7.out; rwa [List.nil_append] at this) (fun y hy => by
            rcases List.mem_append.1 hy with hy | hy
            · rcases List.mem_append.1 hy with hy | hy
              · exact (H2.out.it y (List.mem_of_mem_take hy)).ext HY7.out
              · rw [List.mem_singleton] at hy
                subst hy
                have := OF7.out.sl
                rw [List.nil_append] at this
                exact this
            · exact (H2.out.it y (List.mem_of_mem_drop hy)).ext HY7.out))
          go_wp2
          go_ret
          exact ⟨0, HA.out, HKN.out, rfl, _, _, _, _, rfl, rfl, HFin.out.1, (Chg.of hx2.out).trans HFin.out.2 (fun _ _ h => h), (fun ad e => Nat.le_trans hx2.out.size (HO7.out.lt ad e).1), (fun ad e => Nat.le_trans hx2.out.size (HOf.out.lt ad e).1)⟩
        · skip
          go_simp
          refine hK.out _ _ ?_ (fun hH => ?_)
          focus (intro _; (try dsimp only); exact Ext.keep (W := w2) (by (repeat (first | exact Ext.refl _ | refine Ext.alloc ?_ _ | refine Ext.drewN ?_ _ | refine Ext.drew ?_ | refine Ext.trans ?_ (Hid.out (by assumption))))) c0)
          clear hK K hHeld
          have hHeld := hH (by decide)
          clear hH
          (try dsimp only) <;> (try simp only [Act.put, List.setIfInBounds_toArray, List.set_cons_zero, List.set_cons_succ])
          have OFb := hid (show Own _ w2.heap.size 54 5 T.cs (some ⟨w2.heap.size + 1, 0, none⟩) 0 0 [] from (Own.empty (w := (w2.drew.alloc (.cells #[] 74)).alloc (.cells #[] 54)) (by (repeat (first | (refine heap_new ?_; (simp; done)) | refine heap_old (by first | (simp; done) | (simp; omega)) ?_))) (by first | (simp; done) | (simp; omega)) T.wid))
          refine heldX_ready (rs := [8]) (by kernel_rfl) (by simp) ?_
          refine eachX_cons rfl (fun K hK => ?_) eachX_nil
          (refine stepOn (c := ItemV.cs) (ys0 := []) (ys := (([] : List ItemV).take 0)) rfl (.tmp 28) (.tmp 34) 27 74 rfl i0 _ 32 Try.underlying27 I1.out I2.out I3.out I4.out rfl (by decide) rfl w2 (by (repeat (first | exact Ext.refl _ | refine Ext.alloc ?_ _ | refine Ext.drewN ?_ _ | refine Ext.drew ?_ | refine Ext.trans ?_ (Hid.out (by assumption))))) (Own.empty (by (repeat (first | (refine heap_new ?_; (simp; done)) | refine heap_old (by first | (simp; done) | (simp; omega)) ?_))) (by first | (simp; done) | (simp; omega)) ItemV.wid) rfl ((H2.out.sl.take 0 (by omega)).ext (by (repeat (first | exact Ext.refl _ | refine Ext.alloc ?_ _ | refine Ext.drewN ?_ _ | refine Ext.drew ?_ | refine Ext.trans ?_ (Hid.out (by assumption)))))) ItemV.one (by omega) (by decide) ?_; intro bb5 nn5 cap5 v5 hn5 hown5 hy5 hg5; have HN5 := hid hn5; have HO5 := hid hown5; have HY5 := hid hy5; have HG5 := hid hg5; clear hn5 hown5 hy5 hg5)
          refine put_to (d := some 35) rfl ?_
          refine hK.out _ _ ?_ (fun hH => ?_)
          focus (intro _; (try dsimp only); exact Ext.keep (W := w2) (by (repeat (first | exact Ext.refl _ | refine Ext.alloc ?_ _ | refine Ext.drewN ?_ _ | refine Ext.drew ?_ | refine Ext.trans ?_ (Hid.out (by assumption))))) c0)
          clear hK K hHeld
          have hHeld := hH (by decide)
          clear hH
          (try dsimp only) <;> (try simp only [Act.put, List.setIfInBounds_toArray, List.set_cons_zero, List.set_cons_succ])
          have OF5 := hid (own_grown OFb.out (Own.empty (base := w2.heap.size) (e := 74) (by (repeat (first | (refine heap_new ?_; (simp; done)) | refine heap_old (by first | (simp; done) | (simp; omega)) ?_))) (by first | (simp; done) | (simp; omega)) ItemV.wid) (by decide) HG5.out)
          refine heldX_ready (rs := [12]) (by kernel_rfl) (by simp) ?_
          refine eachX_cons rfl (fun K hK => ?_) eachX_nil
          (refine stepOn (c := T.cs) (ys0 := []) (ys := ts) rfl (.tmp 37) (.tmp 38) 32 54 rfl j0 _ 56 Try.underlying32 J1.out J2.out J3.out J4.out rfl (by decide) rfl w2 (by (repeat (first | exact Ext.refl _ | refine Ext.alloc ?_ _ | refine Ext.drewN ?_ _ | refine Ext.drew ?_ | refine Ext.trans ?_ (Hid.out (by assumption))))) (OF5.out) rfl (HS.out.ext (Ext.trans hx2.out (by (repeat (first | exact Ext.refl _ | refine Ext.alloc ?_ _ | refine Ext.drewN ?_ _ | refine Ext.drew ?_ | refine Ext.trans ?_ (Hid.out (by assumption))))))) T.one (by omega) (by decide) ?_; intro bbf nnf capf vf hnf hownf hyf hgf; have HNf := hid hnf; have HOf := hid hownf; have HYf := hid hyf; have HGf := hid hgf; clear hnf hownf hyf hgf)
          have OIf := hid (own_grown (HO5.out) (OF5.out) (by decide) HGf.out)
          refine put_to (d := some 39) rfl ?_
          refine hK.out _ _ ?_ (fun hH => ?_)
          focus (intro _; (try dsimp only); exact Ext.keep (W := w2) (by (repeat (first | exact Ext.refl _ | refine Ext.alloc ?_ _ | refine Ext.drewN ?_ _ | refine Ext.drew ?_ | refine Ext.trans ?_ (Hid.out (by assumption))))) c0)
          clear hK K hHeld
          have hHeld := hH (by decide)
          clear hH
          (try dsimp only) <;> (try simp only [Act.put, List.setIfInBounds_toArray, List.set_cons_zero, List.set_cons_succ])
          (refine hTakeX 13 (some 40) (v := ?_) (by kernel_rfl) (by kernel_rfl) (by kernel_rfl) (by kernel_rfl) (fun _ _ _ h => h) ⟨_, rfl, rfl, Or.inl ⟨by rfl, ?_⟩⟩ hHeld ?_; rotate_left; (focus (intro w hSw; (try dsimp only at hSw); go_simp; (first | done | with_reducible rfl))); (try simp only [Act.put, List.setIfInBounds_toArray, List.set_cons_zero, List.set_cons_succ]))
          refine heldX_ready (rs := [14]) (by kernel_rfl) (by simp) ?_
          refine eachX_cons rfl (fun K hK => ?_) eachX_nil
          go_simp
          refine hK.out _ _ ?_ (fun hH => ?_)
          focus (intro _; (try dsimp only); exact Ext.keep (W := w2) (by (repeat (first | exact Ext.refl _ | refine Ext.alloc ?_ _ | refine Ext.drewN ?_ _ | refine Ext.drew ?_ | refine Ext.trans ?_ (Hid.out (by assumption))))) c0)
          clear hK K hHeld
          have hHeld := hH (by decide)
          clear hH
          (try dsimp only) <;> (try simp only [Act.put, List.setIfInBounds_toArray, List.set_cons_zero, List.set_cons_succ])
          refine heldX_ready (rs := [15]) (by kernel_rfl) (by simp) ?_
          refine eachX_cons rfl (fun K hK => ?_) eachX_nil
          (refine stepOn (c := ItemV.cs) (ys0 := [] ++ (([] : List ItemV).take 0)) (ys := [⟨id, ⟨bbf, nnf, capf⟩, ts⟩]) rfl (.tmp 35) (.tmp 41) 27 74 rfl i0 _ 32 Try.underlying27 I1.out I2.out I3.out I4.out rfl (by decide) rfl w2 (by (repeat (first | exact Ext.refl _ | refine Ext.alloc ?_ _ | refine Ext.drewN ?_ _ | refine Ext.drew ?_ | refine Ext.trans ?_ (Hid.out (by assumption))))) (OIf.out.ext (by (repeat (first | exact Ext.refl _ | refine Ext.alloc ?_ _ | refine Ext.drewN ?_ _ | refine Ext.drew ?_ | refine Ext.trans ?_ (Hid.out (by assumption)))))) rfl (sl_ofBlock8 [⟨id, ⟨bbf, nnf, capf⟩, ts⟩] ItemV.wid rfl (by simp) (heap_alloc_new _ _) rfl) ItemV.one (by (have := HN5.out; omega)) (by decide) ?_; intro bb6 nn6 cap6 v6 hn6 hown6 hy6 hg6; have HN6 := hid hn6; have HO6 := hid hown6; have HY6 := hid hy6; have HG6 := hid hg6; clear hn6 hown6 hy6 hg6)
          have OF6 := hid (own_grown (HOf.out.ext (by (repeat (first | exact Ext.refl _ | refine Ext.alloc ?_ _ | refine Ext.drewN ?_ _ | refine Ext.drew ?_ | refine Ext.trans ?_ (Hid.out (by assumption)))))) (OIf.out.ext (by (repeat (first | exact Ext.refl _ | refine Ext.alloc ?_ _ | refine Ext.drewN ?_ _ | refine Ext.drew ?_ | refine Ext.trans ?_ (Hid.out (by assumption)))))) (by decide) HG6.out)
          refine put_to (d := some 42) rfl ?_
          refine hK.out _ _ ?_ (fun hH => ?_)
          focus (intro _; (try dsimp only); exact Ext.keep (W := w2) (by (repeat (first | exact Ext.refl _ | refine Ext.alloc ?_ _ | refine Ext.drewN ?_ _ | refine Ext.drew ?_ | refine Ext.trans ?_ (Hid.out (by assumption))))) c0)
          clear hK K hHeld
          have hHeld := hH (by decide)
          clear hH
          (try dsimp only) <;> (try simp only [Act.put, List.setIfInBounds_toArray, List.set_cons_zero, List.set_cons_succ])
          refine heldX_ready (rs := [22]) (by kernel_rfl) (by simp) ?_
          refine eachX_cons rfl (fun K hK => ?_) eachX_nil
          (refine stepOn (c := ItemV.cs) (ys0 := [] ++ (([] : List ItemV).take 0) ++ [⟨id, ⟨bbf, nnf, capf⟩, ts⟩]) (ys := (([] : List ItemV).drop 0)) rfl (.tmp 42) (.tmp 48) 27 74 rfl i0 _ 32 Try.underlying27 I1.out I2.out I3.out I4.out rfl (by decide) rfl w2 (by (repeat (first | exact Ext.refl _ | refine Ext.alloc ?_ _ | refine Ext.drewN ?_ _ | refine Ext.drew ?_ | refine Ext.trans ?_ (Hid.out (by assumption))))) (HO6.out.ext (by (repeat (first | exact Ext.refl _ | refine Ext.alloc ?_ _ | refine Ext.drewN ?_ _ | refine Ext.drew ?_ | refine Ext.trans ?_ (Hid.out (by assumption)))))) rfl (Sl.none_of ItemV.wid (by decide)) ItemV.one (by (have := HN5.out; have := HN6.out; omega)) (by decide) ?_; intro bb7 nn7 cap7 v7 hn7 hown7 hy7 hg7; have HN7 := hid hn7; have HO7 := hid hown7; have HY7 := hid hy7; have HG7 := hid hg7; clear hn7 hown7 hy7 hg7)
          have OF7 := hid (own_grown OF6.out HO6.out (by decide) HG7.out)
          refine put_to (d := some 49) rfl ?_
          refine hK.out _ _ ?_ (fun hH => ?_)
          focus (intro _; (try dsimp only); exact Ext.keep (W := w2) (by (repeat (first | exact Ext.refl _ | refine Ext.alloc ?_ _ | refine Ext.drewN ?_ _ | refine Ext.drew ?_ | refine Ext.trans ?_ (Hid.out (by assumption))))) c0)
          clear hK K hHeld
          have hHeld := hH (by decide)
          clear hH
          (try dsimp only) <;> (try simp only [Act.put, List.setIfInBounds_toArray, List.set_cons_zero, List.set_cons_succ])
          refine heldX_ready (rs := [23]) (by kernel_rfl) (by simp) ?_
          refine eachX_cons rfl (fun K hK => ?_) eachX_nil
          go_simp
          refine hK.out _ _ ?_ (fun hH => ?_)
          focus (intro _; (try dsimp only); exact Ext.keep (W := w2) (by (repeat (first | exact Ext.refl _ | refine Ext.alloc ?_ _ | refine Ext.drewN ?_ _ | refine Ext.drew ?_ | refine Ext.trans ?_ (Hid.out (by assumption))))) c0)
          clear hK K hHeld
          have hHeld := hH (by decide)
          clear hH
          (try dsimp only) <;> (try simp only [Act.put, List.setIfInBounds_toArray, List.set_cons_zero, List.set_cons_succ])
          refine heldX_ready (rs := [24]) (by kernel_rfl) (by simp) ?_
          refine eachX_cons rfl (fun K hK => ?_) eachX_nil
          go_simp
          refine hK.out _ _ ?_ (fun hH => ?_)
          focus (intro _; (try dsimp only); exact Ext.keep (W := w2) (by (repeat (first | exact Ext.refl _ | refine Ext.alloc ?_ _ | refine Ext.drewN ?_ _ | refine Ext.drew ?_ | refine Ext.trans ?_ (Hid.out (by assumption))))) c0)
          clear hK K hHeld
          have hHeld := hH (by decide)
          clear hH
          (try dsimp only) <;> (try simp only [Act.put, List.setIfInBounds_toArray, List.set_cons_zero, List.set_cons_succ])
          have c8 := HY7.out.keep c0
          have f8 := (H2.out.ext HY7.out).free
          refine heldX_ready (rs := [25]) (by kernel_rfl) (by simp) ?_
          refine eachX_cons rfl (fun K hK => ?_) eachX_nil
          go_simp
          refine hK.out _ _ (fun h => absurd rfl h) (fun _ => ?_)
          clear hK K
          (try dsimp only) <;> (try simp only [Act.put, List.setIfInBounds_toArray, List.set_cons_zero, List.set_cons_succ])
          refine heldX_done (by kernel_rfl) ?_ _
          have HFin := hid (H2.out.store HY7.out (zs := (([] : List ItemV).take 0) ++ [⟨id, ⟨bbf, nnf, capf⟩, ts⟩] ++ (([] : List ItemV).drop 0)) (by have := HO7.out; rwa [List.nil_append] at this) (fun y hy => by
            rcases List.mem_append.1 hy with hy | hy
            · rcases List.mem_append.1 hy with hy | hy
              · exact (H2.out.it y (List.mem_of_mem_take hy)).ext HY7.out
              · rw [List.mem_singleton] at hy
                subst hy
                have := OF7.out.sl
                rw [List.nil_append] at this
                exact this
            · exact (H2.out.it y (List.mem_of_mem_drop hy)).ext HY7.out))
          go_wp2
          go_ret
          exact ⟨0, HA.out, HKN.out, rfl, _, _, _, _, rfl, rfl, HFin.out.1, (Chg.of hx2.out).trans HFin.out.2 (fun _ _ h => h), (fun ad e => Nat.le_trans hx2.out.size (HO7.out.lt ad e).1), (fun ad e => Nat.le_trans hx2.out.size (HOf.out.lt ad e).1)⟩
      · skip
        go_simp
        refine hK.out _ _ ?_ (fun hH => ?_)
        focus (intro _; (try dsimp only); exact Ext.keep (W := w2) (by (repeat (first | exact Ext.refl _ | refine Ext.alloc ?_ _ | refine Ext.drewN ?_ _ | refine Ext.drew ?_ | refine Ext.trans ?_ (Hid.out (by assumption))))) c0)
        clear hK K hHeld
        have hHeld := hH (by decide)
        clear hH
        (try dsimp only) <;> (try simp only [Act.put, List.setIfInBounds_toArray, List.set_cons_zero, List.set_cons_succ])
        refine heldX_ready (rs := [1]) (by kernel_rfl) (by simp) ?_
        refine eachX_cons rfl (fun K hK => ?_) eachX_nil
        go_simp
        refine hK.out _ _ ?_ (fun hH => ?_)
        focus (intro _; (try dsimp only); exact Ext.keep (W := w2) (by (repeat (first | exact Ext.refl _ | refine Ext.alloc ?_ _ | refine Ext.drewN ?_ _ | refine Ext.drew ?_ | refine Ext.trans ?_ (Hid.out (by assumption))))) c0)
        clear hK K hHeld
        have hHeld := hH (by decide)
        clear hH
        (try dsimp only) <;> (try simp only [Act.put, List.setIfInBounds_toArray, List.set_cons_zero, List.set_cons_succ])
        have OFb := hid (show Own _ w2.heap.size 54 5 T.cs (some ⟨w2.heap.size, 0, none⟩) 0 0 [] from (Own.empty (w := (w2.drew.alloc (.cells #[] 54)).alloc (.cells #[] 74)) (by (repeat (first | (refine heap_new ?_; (simp; done)) | refine heap_old (by first | (simp; done) | (simp; omega)) ?_))) (by first | (simp; done) | (simp; omega)) T.wid))
        refine heldX_ready (rs := [8]) (by kernel_rfl) (by simp) ?_
        refine eachX_cons rfl (fun K hK => ?_) eachX_nil
        (refine stepOn (c := ItemV.cs) (ys0 := []) (ys := (([] : List ItemV).take 0)) rfl (.tmp 28) (.tmp 34) 27 74 rfl i0 _ 32 Try.underlying27 I1.out I2.out I3.out I4.out rfl (by decide) rfl w2 (by (repeat (first | exact Ext.refl _ | refine Ext.alloc ?_ _ | refine Ext.drewN ?_ _ | refine Ext.drew ?_ | refine Ext.trans ?_ (Hid.out (by assumption))))) (Own.empty (by (repeat (first | (refine heap_new ?_; (simp; done)) | refine heap_old (by first | (simp; done) | (simp; omega)) ?_))) (by first | (simp; done) | (simp; omega)) ItemV.wid) rfl ((H2.out.sl.take 0 (by omega)).ext (by (repeat (first | exact Ext.refl _ | refine Ext.alloc ?_ _ | refine Ext.drewN ?_ _ | refine Ext.drew ?_ | refine Ext.trans ?_ (Hid.out (by assumption)))))) ItemV.one (by omega) (by decide) ?_; intro bb5 nn5 cap5 v5 hn5 hown5 hy5 hg5; have HN5 := hid hn5; have HO5 := hid hown5; have HY5 := hid hy5; have HG5 := hid hg5; clear hn5 hown5 hy5 hg5)
        refine put_to (d := some 35) rfl ?_
        refine hK.out _ _ ?_ (fun hH => ?_)
        focus (intro _; (try dsimp only); exact Ext.keep (W := w2) (by (repeat (first | exact Ext.refl _ | refine Ext.alloc ?_ _ | refine Ext.drewN ?_ _ | refine Ext.drew ?_ | refine Ext.trans ?_ (Hid.out (by assumption))))) c0)
        clear hK K hHeld
        have hHeld := hH (by decide)
        clear hH
        (try dsimp only) <;> (try simp only [Act.put, List.setIfInBounds_toArray, List.set_cons_zero, List.set_cons_succ])
        have OF5 := hid (own_grown OFb.out (Own.empty (base := w2.heap.size) (e := 74) (by (repeat (first | (refine heap_new ?_; (simp; done)) | refine heap_old (by first | (simp; done) | (simp; omega)) ?_))) (by first | (simp; done) | (simp; omega)) ItemV.wid) (by decide) HG5.out)
        refine heldX_ready (rs := [12]) (by kernel_rfl) (by simp) ?_
        refine eachX_cons rfl (fun K hK => ?_) eachX_nil
        (refine stepOn (c := T.cs) (ys0 := []) (ys := ts) rfl (.tmp 37) (.tmp 38) 32 54 rfl j0 _ 56 Try.underlying32 J1.out J2.out J3.out J4.out rfl (by decide) rfl w2 (by (repeat (first | exact Ext.refl _ | refine Ext.alloc ?_ _ | refine Ext.drewN ?_ _ | refine Ext.drew ?_ | refine Ext.trans ?_ (Hid.out (by assumption))))) (OF5.out) rfl (HS.out.ext (Ext.trans hx2.out (by (repeat (first | exact Ext.refl _ | refine Ext.alloc ?_ _ | refine Ext.drewN ?_ _ | refine Ext.drew ?_ | refine Ext.trans ?_ (Hid.out (by assumption))))))) T.one (by omega) (by decide) ?_; intro bbf nnf capf vf hnf hownf hyf hgf; have HNf := hid hnf; have HOf := hid hownf; have HYf := hid hyf; have HGf := hid hgf; clear hnf hownf hyf hgf)
        have OIf := hid (own_grown (HO5.out) (OF5.out) (by decide) HGf.out)
        refine put_to (d := some 39) rfl ?_
        refine hK.out _ _ ?_ (fun hH => ?_)
        focus (intro _; (try dsimp only); exact Ext.keep (W := w2) (by (repeat (first | exact Ext.refl _ | refine Ext.alloc ?_ _ | refine Ext.drewN ?_ _ | refine Ext.drew ?_ | refine Ext.trans ?_ (Hid.out (by assumption))))) c0)
        clear hK K hHeld
        have hHeld := hH (by decide)
        clear hH
        (try dsimp only) <;> (try simp only [Act.put, List.setIfInBounds_toArray, List.set_cons_zero, List.set_cons_succ])
        (refine hTakeX 13 (some 40) (v := ?_) (by kernel_rfl) (by kernel_rfl) (by kernel_rfl) (by kernel_rfl) (fun _ _ _ h => h) ⟨_, rfl, rfl, Or.inl ⟨by rfl, ?_⟩⟩ hHeld ?_; rotate_left; (focus (intro w hSw; (try dsimp only at hSw); go_simp; (first | done | with_reducible rfl))); (try simp only [Act.put, List.setIfInBounds_toArray, List.set_cons_zero, List.set_cons_succ]))
        refine heldX_ready (rs := [14]) (by kernel_rfl) (by simp) ?_
        refine eachX_cons rfl (fun K hK => ?_) eachX_nil
        go_simp
        refine hK.out _ _ ?_ (fun hH => ?_)
        focus (intro _; (try dsimp only); exact Ext.keep (W := w2) (by (repeat (first | exact Ext.refl _ | refine Ext.alloc ?_ _ | refine Ext.drewN ?_ _ | refine Ext.drew ?_ | refine Ext.trans ?_ (Hid.out (by assumption))))) c0)
        clear hK K hHeld
        have hHeld := hH (by decide)
        clear hH
        (try dsimp only) <;> (try simp only [Act.put, List.setIfInBounds_toArray, List.set_cons_zero, List.set_cons_succ])
        refine heldX_ready (rs := [15]) (by kernel_rfl) (by simp) ?_
        refine eachX_cons rfl (fun K hK => ?_) eachX_nil
        (refine stepOn (c := ItemV.cs) (ys0 := [] ++ (([] : List ItemV).take 0)) (ys := [⟨id, ⟨bbf, nnf, capf⟩, ts⟩]) rfl (.tmp 35) (.tmp 41) 27 74 rfl i0 _ 32 Try.underlying27 I1.out I2.out I3.out I4.out rfl (by decide) rfl w2 (by (repeat (first | exact Ext.refl _ | refine Ext.alloc ?_ _ | refine Ext.drewN ?_ _ | refine Ext.drew ?_ | refine Ext.trans ?_ (Hid.out (by assumption))))) (OIf.out.ext (by (repeat (first | exact Ext.refl _ | refine Ext.alloc ?_ _ | refine Ext.drewN ?_ _ | refine Ext.drew ?_ | refine Ext.trans ?_ (Hid.out (by assumption)))))) rfl (sl_ofBlock8 [⟨id, ⟨bbf, nnf, capf⟩, ts⟩] ItemV.wid rfl (by simp) (heap_alloc_new _ _) rfl) ItemV.one (by (have := HN5.out; omega)) (by decide) ?_; intro bb6 nn6 cap6 v6 hn6 hown6 hy6 hg6; have HN6 := hid hn6; have HO6 := hid hown6; have HY6 := hid hy6; have HG6 := hid hg6; clear hn6 hown6 hy6 hg6)
        have OF6 := hid (own_grown (HOf.out.ext (by (repeat (first | exact Ext.refl _ | refine Ext.alloc ?_ _ | refine Ext.drewN ?_ _ | refine Ext.drew ?_ | refine Ext.trans ?_ (Hid.out (by assumption)))))) (OIf.out.ext (by (repeat (first | exact Ext.refl _ | refine Ext.alloc ?_ _ | refine Ext.drewN ?_ _ | refine Ext.drew ?_ | refine Ext.trans ?_ (Hid.out (by assumption)))))) (by decide) HG6.out)
        refine put_to (d := some 42) rfl ?_
        refine hK.out _ _ ?_ (fun hH => ?_)
        focus (intro _; (try dsimp only); exact Ext.keep (W := w2) (by (repeat (first | exact Ext.refl _ | refine Ext.alloc ?_ _ | refine Ext.drewN ?_ _ | refine Ext.drew ?_ | refine Ext.trans ?_ (Hid.out (by assumption))))) c0)
        clear hK K hHeld
        have hHeld := hH (by decide)
        clear hH
        (try dsimp only) <;> (try simp only [Act.put, List.setIfInBounds_toArray, List.set_cons_zero, List.set_cons_succ])
        refine heldX_ready (rs := [22]) (by kernel_rfl) (by simp) ?_
        refine eachX_cons rfl (fun K hK => ?_) eachX_nil
        (refine stepOn (c := ItemV.cs) (ys0 := [] ++ (([] : List ItemV).take 0) ++ [⟨id, ⟨bbf, nnf, capf⟩, ts⟩]) (ys := (([] : List ItemV).drop 0)) rfl (.tmp 42) (.tmp 48) 27 74 rfl i0 _ 32 Try.underlying27 I1.out I2.out I3.out I4.out rfl (by decide) rfl w2 (by (repeat (first | exact Ext.refl _ | refine Ext.alloc ?_ _ | refine Ext.drewN ?_ _ | refine Ext.drew ?_ | refine Ext.trans ?_ (Hid.out (by assumption))))) (HO6.out.ext (by (repeat (first | exact Ext.refl _ | refine Ext.alloc ?_ _ | refine Ext.drewN ?_ _ | refine Ext.drew ?_ | refine Ext.trans ?_ (Hid.out (by assumption)))))) rfl (Sl.none_of ItemV.wid (by decide)) ItemV.one (by (have := HN5.out; have := HN6.out; omega)) (by decide) ?_; intro bb7 nn7 cap7 v7 hn7 hown7 hy7 hg7; have HN7 := hid hn7; have HO7 := hid hown7; have HY7 := hid hy7; have HG7 := hid hg7; clear hn7 hown7 hy7 hg7)
        have OF7 := hid (own_grown OF6.out HO6.out (by decide) HG7.out)
        refine put_to (d := some 49) rfl ?_
        refine hK.out _ _ ?_ (fun hH => ?_)
        focus (intro _; (try dsimp only); exact Ext.keep (W := w2) (by (repeat (first | exact Ext.refl _ | refine Ext.alloc ?_ _ | refine Ext.drewN ?_ _ | refine Ext.drew ?_ | refine Ext.trans ?_ (Hid.out (by assumption))))) c0)
        clear hK K hHeld
        have hHeld := hH (by decide)
        clear hH
        (try dsimp only) <;> (try simp only [Act.put, List.setIfInBounds_toArray, List.set_cons_zero, List.set_cons_succ])
        refine heldX_ready (rs := [23]) (by kernel_rfl) (by simp) ?_
        refine eachX_cons rfl (fun K hK => ?_) eachX_nil
        go_simp
        refine hK.out _ _ ?_ (fun hH => ?_)
        focus (intro _; (try dsimp only); exact Ext.keep (W := w2) (by (repeat (first | exact Ext.refl _ | refine Ext.alloc ?_ _ | refine Ext.drewN ?_ _ | refine Ext.drew ?_ | refine Ext.trans ?_ (Hid.out (by assumption))))) c0)
        clear hK K hHeld
        have hHeld := hH (by decide)
        clear hH
        (try dsimp only) <;> (try simp only [Act.put, List.setIfInBounds_toArray, List.set_cons_zero, List.set_cons_succ])
        refine heldX_ready (rs := [24]) (by kernel_rfl) (by simp) ?_
        refine eachX_cons rfl (fun K hK => ?_) eachX_nil
        go_simp
        refine hK.out _ _ ?_ (fun hH => ?_)
        focus (intro _; (try dsimp only); exact Ext.keep (W := w2) (by (repeat (first | exact Ext.refl _ | refine Ext.alloc ?_ _ | refine Ext.drewN ?_ _ | refine Ext.drew ?_ | refine Ext.trans ?_ (Hid.out (by assumption))))) c0)
        clear hK K hHeld
        have hHeld := hH (by decide)
        clear hH
        (try dsimp only) <;> (try simp only [Act.put, List.setIfInBounds_toArray, List.set_cons_zero, List.set_cons_succ])
        have c8 := HY7.out.keep c0
        have f8 := (H2.out.ext HY7.out).free
        refine heldX_ready (rs := [25]) (by kernel_rfl) (by simp) ?_
        refine eachX_cons rfl (fun K hK => ?_) eachX_nil
        go_simp
        refine hK.out _ _ (fun h => absurd rfl h) (fun _ => ?_)
        clear hK K
        (try dsimp only) <;> (try simp only [Act.put, List.setIfInBounds_toArray, List.set_cons_zero, List.set_cons_succ])
        refine heldX_done (by kernel_rfl) ?_ _
        have HFin := hid (H2.out.store HY7.out (zs := (([] : List ItemV).take 0) ++ [⟨id, ⟨bbf, nnf, capf⟩, ts⟩] ++ (([] : List ItemV).drop 0)) (by have := HO7.out; rwa [List.nil_append] at this) (fun y hy => by
          rcases List.mem_append.1 hy with hy | hy
          · rcases List.mem_append.1 hy with hy | hy
            · exact (H2.out.it y (List.mem_of_mem_take hy)).ext HY7.out
            · rw [List.mem_singleton] at hy
              subst hy
              have := OF7.out.sl
              rw [List.nil_append] at this
              exact this
          · exact (H2.out.it y (List.mem_of_mem_drop hy)).ext HY7.out))
        go_wp2
        go_ret
        exact ⟨0, HA.out, HKN.out, rfl, _, _, _, _, rfl, rfl, HFin.out.1, (Chg.of hx2.out).trans HFin.out.2 (fun _ _ h => h), (fun ad e => Nat.le_trans hx2.out.size (HO7.out.lt ad e).1), (fun ad e => Nat.le_trans hx2.out.size (HOf.out.lt ad e).1)⟩
    · have b1 : (k : Int) ≤ (c : Int) := by omega
      have b2 : (k : Int) ≤ (ys.length : Int) := by omega
      have b3 : (ys.length : Int) ≤ (c : Int) := by omega
      have b6 : 0 < c := by omega
      by_cases hkc : k = c
      · subst hkc
        have hkl := hid (show k = ys.length from by omega)
        have HDR := hid (show ys.drop k = [] from List.drop_eq_nil_of_le (by have := hkl.out; omega))
        go_wp2_with fail
        refine wp_region_heldX 25 (S := (fun w' => w'.cell? ⟨q, 0, none⟩ = some (.slice (some ⟨b, o, none⟩) ys.length k))) (by kernel_rfl) ?_ (fun hHeld => ?_)
        · ((try dsimp only); exact Ext.keep (W := w2) (by (repeat (first | exact Ext.refl _ | refine Ext.alloc ?_ _ | refine Ext.drewN ?_ _ | refine Ext.drew ?_ | refine Ext.trans ?_ (Hid.out (by assumption))))) c0)
        (refine hTakeX 0 (some 27) (v := ?_) (by kernel_rfl) (by kernel_rfl) (by kernel_rfl) (by kernel_rfl) (fun _ _ _ h => h) ⟨_, rfl, rfl, Or.inl ⟨by rfl, ?_⟩⟩ hHeld ?_; rotate_left; (focus (intro w hSw; (try dsimp only at hSw); go_simp; (first | done | with_reducible rfl))); (try simp only [Act.put, List.setIfInBounds_toArray, List.set_cons_zero, List.set_cons_succ]))
        (refine hTakeX 2 (some 29) (v := ?_) (by kernel_rfl) (by kernel_rfl) (by kernel_rfl) (by kernel_rfl) (fun _ _ _ h => h) ⟨_, rfl, rfl, Or.inl ⟨by rfl, ?_⟩⟩ hHeld ?_; rotate_left; (focus (intro w hSw; (try dsimp only at hSw); go_simp; (first | done | with_reducible rfl))); (try simp only [Act.put, List.setIfInBounds_toArray, List.set_cons_zero, List.set_cons_succ]))
        (refine hTakeX 3 (some 30) (v := ?_) (by kernel_rfl) (by kernel_rfl) (by kernel_rfl) (by kernel_rfl) (fun _ _ _ h => h) ⟨_, rfl, rfl, Or.inl ⟨by rfl, ?_⟩⟩ hHeld ?_; rotate_left; (focus (intro w hSw; (try dsimp only at hSw); go_simp; (first | done | with_reducible rfl))); (try simp only [Act.put, List.setIfInBounds_toArray, List.set_cons_zero, List.set_cons_succ]))
        (refine hTakeX 4 (some 31) (v := ?_) (by kernel_rfl) (by kernel_rfl) (by kernel_rfl) (by kernel_rfl) (fun _ _ _ h => h) ⟨_, rfl, rfl, Or.inl ⟨by rfl, ?_⟩⟩ hHeld ?_; rotate_left; (focus (intro w hSw; (try dsimp only at hSw); go_simp; (first | done | with_reducible rfl))); (try simp only [Act.put, List.setIfInBounds_toArray, List.set_cons_zero, List.set_cons_succ]))
        (refine hTakeX 5 (some 32) (v := ?_) (by kernel_rfl) (by kernel_rfl) (by kernel_rfl) (by kernel_rfl) (fun _ _ _ h => h) ⟨_, rfl, rfl, Or.inl ⟨by rfl, ?_⟩⟩ hHeld ?_; rotate_left; (focus (intro w hSw; (try dsimp only at hSw); go_simp; (first | done | with_reducible rfl))); (try simp only [Act.put, List.setIfInBounds_toArray, List.set_cons_zero, List.set_cons_succ]))
        (refine hTakeX 6 (some 33) (v := ?_) (by kernel_rfl) (by kernel_rfl) (by kernel_rfl) (by kernel_rfl) (fun _ _ _ h => h) ⟨_, rfl, rfl, Or.inl ⟨by rfl, ?_⟩⟩ hHeld ?_; rotate_left; (focus (intro w hSw; (try dsimp only at hSw); go_simp; (first | done | with_reducible rfl))); (try simp only [Act.put, List.setIfInBounds_toArray, List.set_cons_zero, List.set_cons_succ]))
        (refine hTakeX 7 (some 34) (v := ?_) (by kernel_rfl) (by kernel_rfl) (by kernel_rfl) (by kernel_rfl) (fun _ _ _ h => h) ⟨_, rfl, rfl, Or.inl ⟨by rfl, ?_⟩⟩ hHeld ?_; rotate_left; (focus (intro w hSw; (try dsimp only at hSw); go_simp; (first | done | with_reducible rfl))); (try simp only [Act.put, List.setIfInBounds_toArray, List.set_cons_zero, List.set_cons_succ]))
        (refine hTakeX 9 (some 36) (v := ?_) (by kernel_rfl) (by kernel_rfl) (by kernel_rfl) (by kernel_rfl) (fun _ _ _ h => h) ⟨_, rfl, rfl, Or.inl ⟨by rfl, ?_⟩⟩ hHeld ?_; rotate_left; (focus (intro w hSw; (try dsimp only at hSw); go_simp; (first | done | with_reducible rfl))); (try simp only [Act.put, List.setIfInBounds_toArray, List.set_cons_zero, List.set_cons_succ]))
        (refine hTakeX 11 (some 38) (v := ?_) (by kernel_rfl) (by kernel_rfl) (by kernel_rfl) (by kernel_rfl) (fun _ _ _ h => h) ⟨_, rfl, rfl, Or.inl ⟨by rfl, ?_⟩⟩ hHeld ?_; rotate_left; (focus (intro w hSw; (try dsimp only at hSw); go_simp; (first | done | with_reducible rfl))); (try simp only [Act.put, List.setIfInBounds_toArray, List.set_cons_zero, List.set_cons_succ]))
        (refine hTakeX 16 (some 43) (v := ?_) (by kernel_rfl) (by kernel_rfl) (by kernel_rfl) (by kernel_rfl) (fun _ _ _ h => h) ⟨_, rfl, rfl, Or.inl ⟨by rfl, ?_⟩⟩ hHeld ?_; rotate_left; (focus (intro w hSw; (try dsimp only at hSw); go_simp; (first | done | with_reducible rfl))); (try simp only [Act.put, List.setIfInBounds_toArray, List.set_cons_zero, List.set_cons_succ]))
        (refine hTakeX 17 (some 44) (v := ?_) (by kernel_rfl) (by kernel_rfl) (by kernel_rfl) (by kernel_rfl) (fun _ _ _ h => h) ⟨_, rfl, rfl, Or.inl ⟨by rfl, ?_⟩⟩ hHeld ?_; rotate_left; (focus (intro w hSw; (try dsimp only at hSw); go_simp; (first | done | with_reducible rfl))); (try simp only [Act.put, List.setIfInBounds_toArray, List.set_cons_zero, List.set_cons_succ]))
        (refine hTakeX 18 (some 45) (v := ?_) (by kernel_rfl) (by kernel_rfl) (by kernel_rfl) (by kernel_rfl) (fun _ _ _ h => h) ⟨_, rfl, rfl, Or.inl ⟨by rfl, ?_⟩⟩ hHeld ?_; rotate_left; (focus (intro w hSw; (try dsimp only at hSw); go_simp; (first | done | with_reducible rfl))); (try simp only [Act.put, List.setIfInBounds_toArray, List.set_cons_zero, List.set_cons_succ]))
        (refine hTakeX 19 (some 46) (v := ?_) (by kernel_rfl) (by kernel_rfl) (by kernel_rfl) (by kernel_rfl) (fun _ _ _ h => h) ⟨_, rfl, rfl, Or.inl ⟨by rfl, ?_⟩⟩ hHeld ?_; rotate_left; (focus (intro w hSw; (try dsimp only at hSw); go_simp; (first | done | with_reducible rfl))); (try simp only [Act.put, List.setIfInBounds_toArray, List.set_cons_zero, List.set_cons_succ]))
        (refine hTakeX 20 (some 47) (v := ?_) (by kernel_rfl) (by kernel_rfl) (by kernel_rfl) (by kernel_rfl) (fun _ _ _ h => h) ⟨_, rfl, rfl, Or.inl ⟨by rfl, ?_⟩⟩ hHeld ?_; rotate_left; (focus (intro w hSw; (try dsimp only at hSw); go_simp; (first | done | with_reducible rfl))); (try simp only [Act.put, List.setIfInBounds_toArray, List.set_cons_zero, List.set_cons_succ]))
        (refine hTakeX 21 (some 48) (v := ?_) (by kernel_rfl) (by kernel_rfl) (by kernel_rfl) (by kernel_rfl) (fun _ _ _ h => h) ⟨_, rfl, rfl, Or.inl ⟨by rfl, ?_⟩⟩ hHeld ?_; rotate_left; (focus (intro w hSw; (try dsimp only at hSw); go_simp; (first | done | with_reducible rfl))); (try simp only [Act.put, List.setIfInBounds_toArray, List.set_cons_zero, List.set_cons_succ]))
        refine heldX_ready (rs := [1, 10]) (by kernel_rfl) (by simp) ?_
        refine eachX_cons rfl (fun K hK => ?_) (eachX_cons rfl (fun K hK => ?_) eachX_nil)
        · go_simp
          refine hK.out _ _ ?_ (fun hH => ?_)
          focus (intro _; (try dsimp only); exact Ext.keep (W := w2) (by (repeat (first | exact Ext.refl _ | refine Ext.alloc ?_ _ | refine Ext.drewN ?_ _ | refine Ext.drew ?_ | refine Ext.trans ?_ (Hid.out (by assumption))))) c0)
          clear hK K hHeld
          have hHeld := hH (by decide)
          clear hH
          (try dsimp only) <;> (try simp only [Act.put, List.setIfInBounds_toArray, List.set_cons_zero, List.set_cons_succ])
          refine heldX_ready (rs := [8, 10]) (by kernel_rfl) (by simp) ?_
          refine eachX_cons rfl (fun K hK => ?_) (eachX_cons rfl (fun K hK => ?_) eachX_nil)
          · skip
            (refine stepOn (c := ItemV.cs) (ys0 := []) (ys := ys.take k) rfl (.tmp 28) (.tmp 34) 27 74 rfl i0 _ 32 Try.underlying27 I1.out I2.out I3.out I4.out rfl (by decide) rfl w2 (by (repeat (first | exact Ext.refl _ | refine Ext.alloc ?_ _ | refine Ext.drewN ?_ _ | refine Ext.drew ?_ | refine Ext.trans ?_ (Hid.out (by assumption))))) (Own.empty (by (repeat (first | (refine heap_new ?_; (simp; done)) | refine heap_old (by first | (simp; done) | (simp; omega)) ?_))) (by first | (simp; done) | (simp; omega)) ItemV.wid) rfl ((H2.out.sl.take k (by omega)).ext (by (repeat (first | exact Ext.refl _ | refine Ext.alloc ?_ _ | refine Ext.drewN ?_ _ | refine Ext.drew ?_ | refine Ext.trans ?_ (Hid.out (by assumption)))))) ItemV.one (by omega) (by decide) ?_; intro bb5 nn5 cap5 v5 hn5 hown5 hy5 hg5; have HN5 := hid hn5; have HO5 := hid hown5; have HY5 := hid hy5; have HG5 := hid hg5; clear hn5 hown5 hy5 hg5)
            refine put_to (d := some 35) rfl ?_
            refine hK.out _ _ ?_ (fun hH => ?_)
            focus (intro _; (try dsimp only); exact Ext.keep (W := w2) (by (repeat (first | exact Ext.refl _ | refine Ext.alloc ?_ _ | refine Ext.drewN ?_ _ | refine Ext.drew ?_ | refine Ext.trans ?_ (Hid.out (by assumption))))) c0)
            clear hK K hHeld
            have hHeld := hH (by decide)
            clear hH
            (try dsimp only) <;> (try simp only [Act.put, List.setIfInBounds_toArray, List.set_cons_zero, List.set_cons_succ])
            refine heldX_ready (rs := [10]) (by kernel_rfl) (by simp) ?_
            refine eachX_cons rfl (fun K hK => ?_) eachX_nil
            go_simp
            refine hK.out _ _ ?_ (fun hH => ?_)
            focus (intro _; (try dsimp only); exact Ext.keep (W := w2) (by (repeat (first | exact Ext.refl _ | refine Ext.alloc ?_ _ | refine Ext.drewN ?_ _ | refine Ext.drew ?_ | refine Ext.trans ?_ (Hid.out (by assumption))))) c0)
            clear hK K hHeld
            have hHeld := hH (by decide)
            clear hH
            (try dsimp only) <;> (try simp only [Act.put, List.setIfInBounds_toArray, List.set_cons_zero, List.set_cons_succ])
            refine heldX_ready (rs := [12]) (by kernel_rfl) (by simp) ?_
            refine eachX_cons rfl (fun K hK => ?_) eachX_nil
            (refine stepOn (c := T.cs) (ys0 := []) (ys := ts) rfl (.tmp 37) (.tmp 38) 32 54 rfl j0 _ 56 Try.underlying32 J1.out J2.out J3.out J4.out rfl (by decide) rfl w2 (by (repeat (first | exact Ext.refl _ | refine Ext.alloc ?_ _ | refine Ext.drewN ?_ _ | refine Ext.drew ?_ | refine Ext.trans ?_ (Hid.out (by assumption))))) ((Own.empty (by (repeat (first | (refine heap_new ?_; (simp; done)) | refine heap_old (by first | (simp; done) | (simp; omega)) ?_))) (by first | (simp; done) | (simp; omega) | exact Ext.size (W := w2) (by (repeat (first | exact Ext.refl _ | refine Ext.alloc ?_ _ | refine Ext.drewN ?_ _ | refine Ext.drew ?_ | refine Ext.trans ?_ (Hid.out (by assumption)))))) T.wid)) rfl (HS.out.ext (Ext.trans hx2.out (by (repeat (first | exact Ext.refl _ | refine Ext.alloc ?_ _ | refine Ext.drewN ?_ _ | refine Ext.drew ?_ | refine Ext.trans ?_ (Hid.out (by assumption))))))) T.one (by omega) (by decide) ?_; intro bbf nnf capf vf hnf hownf hyf hgf; have HNf := hid hnf; have HOf := hid hownf; have HYf := hid hyf; have HGf := hid hgf; clear hnf hownf hyf hgf)
            have OIf := hid (own_grown (HO5.out.ext (by (repeat (first | exact Ext.refl _ | refine Ext.alloc ?_ _ | refine Ext.drewN ?_ _ | refine Ext.drew ?_ | refine Ext.trans ?_ (Hid.out (by assumption)))))) ((Own.empty (by (repeat (first | (refine heap_new ?_; (simp; done)) | refine heap_old (by first | (simp; done) | (simp; omega)) ?_))) (by first | (simp; done) | (simp; omega) | exact Ext.size (W := w2) (by (repeat (first | exact Ext.refl _ | refine Ext.alloc ?_ _ | refine Ext.drewN ?_ _ | refine Ext.drew ?_ | refine Ext.trans ?_ (Hid.out (by assumption)))))) T.wid)) (by decide) HGf.out)
            refine put_to (d := some 39) rfl ?_
            refine hK.out _ _ ?_ (fun hH => ?_)
            focus (intro _; (try dsimp only); exact Ext.keep (W := w2) (by (repeat (first | exact Ext.refl _ | refine Ext.alloc ?_ _ | refine Ext.drewN ?_ _ | refine Ext.drew ?_ | refine Ext.trans ?_ (Hid.out (by assumption))))) c0)
            clear hK K hHeld
            have hHeld := hH (by decide)
            clear hH
            (try dsimp only) <;> (try simp only [Act.put, List.setIfInBounds_toArray, List.set_cons_zero, List.set_cons_succ])
            (refine hTakeX 13 (some 40) (v := ?_) (by kernel_rfl) (by kernel_rfl) (by kernel_rfl) (by kernel_rfl) (fun _ _ _ h => h) ⟨_, rfl, rfl, Or.inl ⟨by rfl, ?_⟩⟩ hHeld ?_; rotate_left; (focus (intro w hSw; (try dsimp only at hSw); go_simp; (first | done | with_reducible rfl))); (try simp only [Act.put, List.setIfInBounds_toArray, List.set_cons_zero, List.set_cons_succ]))
            refine heldX_ready (rs := [14]) (by kernel_rfl) (by simp) ?_
            refine eachX_cons rfl (fun K hK => ?_) eachX_nil
            go_simp
            refine hK.out _ _ ?_ (fun hH => ?_)
            focus (intro _; (try dsimp only); exact Ext.keep (W := w2) (by (repeat (first | exact Ext.refl _ | refine Ext.alloc ?_ _ | refine Ext.drewN ?_ _ | refine Ext.drew ?_ | refine Ext.trans ?_ (Hid.out (by assumption))))) c0)
            clear hK K hHeld
            have hHeld := hH (by decide)
            clear hH
            (try dsimp only) <;> (try simp only [Act.put, List.setIfInBounds_toArray, List.set_cons_zero, List.set_cons_succ])
            refine heldX_ready (rs := [15]) (by kernel_rfl) (by simp) ?_
            refine eachX_cons rfl (fun K hK => ?_) eachX_nil
            (refine stepOn (c := ItemV.cs) (ys0 := [] ++ ys.take k) (ys := [⟨id, ⟨bbf, nnf, capf⟩, ts⟩]) rfl (.tmp 35) (.tmp 41) 27 74 rfl i0 _ 32 Try.underlying27 I1.out I2.out I3.out I4.out rfl (by decide) rfl w2 (by (repeat (first | exact Ext.refl _ | refine Ext.alloc ?_ _ | refine Ext.drewN ?_ _ | refine Ext.drew ?_ | refine Ext.trans ?_ (Hid.out (by assumption))))) (OIf.out.ext (by (repeat (first | exact Ext.refl _ | refine Ext.alloc ?_ _ | refine Ext.drewN ?_ _ | refine Ext.drew ?_ | refine Ext.trans ?_ (Hid.out (by assumption)))))) rfl (sl_ofBlock8 [⟨id, ⟨bbf, nnf, capf⟩, ts⟩] ItemV.wid rfl (by simp) (heap_alloc_new _ _) rfl) ItemV.one (by (have := HN5.out; omega)) (by decide) ?_; intro bb6 nn6 cap6 v6 hn6 hown6 hy6 hg6; have HN6 := hid hn6; have HO6 := hid hown6; have HY6 := hid hy6; have HG6 := hid hg6; clear hn6 hown6 hy6 hg6)
            have OF6 := hid (own_grown (HOf.out.ext (by (repeat (first | exact Ext.refl _ | refine Ext.alloc ?_ _ | refine Ext.drewN ?_ _ | refine Ext.drew ?_ | refine Ext.trans ?_ (Hid.out (by assumption)))))) (OIf.out.ext (by (repeat (first | exact Ext.refl _ | refine Ext.alloc ?_ _ | refine Ext.drewN ?_ _ | refine Ext.drew ?_ | refine Ext.trans ?_ (Hid.out (by assumption)))))) (by decide) HG6.out)
            refine put_to (d := some 42) rfl ?_
            refine hK.out _ _ ?_ (fun hH => ?_)
            focus (intro _; (try dsimp only); exact Ext.keep (W := w2) (by (repeat (first | exact Ext.refl _ | refine Ext.alloc ?_ _ | refine Ext.drewN ?_ _ | refine Ext.drew ?_ | refine Ext.trans ?_ (Hid.out (by assumption))))) c0)
            clear hK K hHeld
            have hHeld := hH (by decide)
            clear hH
            (try dsimp only) <;> (try simp only [Act.put, List.setIfInBounds_toArray, List.set_cons_zero, List.set_cons_succ])
            refine heldX_ready (rs := [22]) (by kernel_rfl) (by simp) ?_
            refine eachX_cons rfl (fun K hK => ?_) eachX_nil
            (refine stepOn (c := ItemV.cs) (ys0 := [] ++ ys.take k ++ [⟨id, ⟨bbf, nnf, capf⟩, ts⟩]) (ys := ys.drop k) rfl (.tmp 42) (.tmp 48) 27 74 rfl i0 _ 32 Try.underlying27 I1.out I2.out I3.out I4.out rfl (by decide) rfl w2 (by (repeat (first | exact Ext.refl _ | refine Ext.alloc ?_ _ | refine Ext.drewN ?_ _ | refine Ext.drew ?_ | refine Ext.trans ?_ (Hid.out (by assumption))))) (HO6.out.ext (by (repeat (first | exact Ext.refl _ | refine Ext.alloc ?_ _ | refine Ext.drewN ?_ _ | refine Ext.drew ?_ | refine Ext.trans ?_ (Hid.out (by assumption)))))) rfl (by rw [HDR.out]; exact Sl.none_of ItemV.wid (by decide)) ItemV.one (by (have := HN5.out; have := HN6.out; omega)) (by decide) ?_; intro bb7 nn7 cap7 v7 hn7 hown7 hy7 hg7; have HN7 := hid hn7; have HO7 := hid hown7; have HY7 := hid hy7; have HG7 := hid hg7; clear hn7 hown7 hy7 hg7)
            have OF7 := hid (own_grown OF6.out HO6.out (by decide) HG7.out)
            refine put_to (d := some 49) rfl ?_
            refine hK.out _ _ ?_ (fun hH => ?_)
            focus (intro _; (try dsimp only); exact Ext.keep (W := w2) (by (repeat (first | exact Ext.refl _ | refine Ext.alloc ?_ _ | refine Ext.drewN ?_ _ | refine Ext.drew ?_ | refine Ext.trans ?_ (Hid.out (by assumption))))) c0)
            clear hK K hHeld
            have hHeld := hH (by decide)
            clear hH
            (try dsimp only) <;> (try simp only [Act.put, List.setIfInBounds_toArray, List.set_cons_zero, List.set_cons_succ])
            refine heldX_ready (rs := [23]) (by kernel_rfl) (by simp) ?_
            refine eachX_cons rfl (fun K hK => ?_) eachX_nil
            go_simp
            refine hK.out _ _ ?_ (fun hH => ?_)
            focus (intro _; (try dsimp only); exact Ext.keep (W := w2) (by (repeat (first | exact Ext.refl _ | refine Ext.alloc ?_ _ | refine Ext.drewN ?_ _ | refine Ext.drew ?_ | refine Ext.trans ?_ (Hid.out (by assumption))))) c0)
            clear hK K hHeld
            have hHeld := hH (by decide)
            clear hH
            (try dsimp only) <;> (try simp only [Act.put, List.setIfInBounds_toArray, List.set_cons_zero, List.set_cons_succ])
            refine heldX_ready (rs := [24]) (by kernel_rfl) (by simp) ?_
            refine eachX_cons rfl (fun K hK => ?_) eachX_nil
            go_simp
            refine hK.out _ _ ?_ (fun hH => ?_)
            focus (intro _; (try dsimp only); exact Ext.keep (W := w2) (by (repeat (first | exact Ext.refl _ | refine Ext.alloc ?_ _ | refine Ext.drewN ?_ _ | refine Ext.drew ?_ | refine Ext.trans ?_ (Hid.out (by assumption))))) c0)
            clear hK K hHeld
            have hHeld := hH (by decide)
            clear hH
            (try dsimp only) <;> (try simp only [Act.put, List.setIfInBounds_toArray, List.set_cons_zero, List.set_cons_succ])
            have c8 := HY7.out.keep c0
            have f8 := (H2.out.ext HY7.out).free
            refine heldX_ready (rs := [25]) (by kernel_rfl) (by simp) ?_
            refine eachX_cons rfl (fun K hK => ?_) eachX_nil
            go_simp
            refine hK.out _ _ (fun h => absurd rfl h) (fun _ => ?_)
            clear hK K
            (try dsimp only) <;> (try simp only [Act.put, List.setIfInBounds_toArray, List.set_cons_zero, List.set_cons_succ])
            refine heldX_done (by kernel_rfl) ?_ _
            have HFin := hid (H2.out.store HY7.out (zs := ys.take k ++ [⟨id, ⟨bbf, nnf, capf⟩, ts⟩] ++ ys.drop k) (by have := HO7.out; rwa [List.nil_append] at this) (fun y hy => by
              rcases List.mem_append.1 hy with hy | hy
              · rcases List.mem_append.1 hy with hy | hy
                · exact (H2.out.it y (List.mem_of_mem_take hy)).ext HY7.out
                · rw [List.mem_singleton] at hy
                  subst hy
                  have := OF7.out.sl
                  rw [List.nil_append] at this
                  exact this
              · exact (H2.out.it y (List.mem_of_mem_drop hy)).ext HY7.out))
            go_wp2
            go_ret
            exact ⟨k, HA.out, HKN.out, rfl, _, _, _, _, rfl, rfl, HFin.out.1, (Chg.of hx2.out).trans HFin.out.2 (fun _ _ h => h), (fun ad e => Nat.le_trans hx2.out.size (HO7.out.lt ad e).1), (fun ad e => Nat.le_trans hx2.out.size (HOf.out.lt ad e).1)⟩
          · skip
            go_simp
            refine hK.out _ _ ?_ (fun hH => ?_)
            focus (intro _; (try dsimp only); exact Ext.keep (W := w2) (by (repeat (first | exact Ext.refl _ | refine Ext.alloc ?_ _ | refine Ext.drewN ?_ _ | refine Ext.drew ?_ | refine Ext.trans ?_ (Hid.out (by assumption))))) c0)
            clear hK K hHeld
            have hHeld := hH (by decide)
            clear hH
            (try dsimp only) <;> (try simp only [Act.put, List.setIfInBounds_toArray, List.set_cons_zero, List.set_cons_succ])
            have OFb := hid (show Own _ w2.heap.size 54 5 T.cs (some ⟨w2.heap.size + 1, 0, none⟩) 0 0 [] from (Own.empty (w := (w2.drew.alloc (.cells #[] 74)).alloc (.cells #[] 54)) (by (repeat (first | (refine heap_new ?_; (simp; done)) | refine heap_old (by first | (simp; done) | (simp; omega)) ?_))) (by first | (simp; done) | (simp; omega)) T.wid))
            refine heldX_ready (rs := [8]) (by kernel_rfl) (by simp) ?_
            refine eachX_cons rfl (fun K hK => ?_) eachX_nil
            (refine stepOn (c := ItemV.cs) (ys0 := []) (ys := ys.take k) rfl (.tmp 28) (.tmp 34) 27 74 rfl i0 _ 32 Try.underlying27 I1.out I2.out I3.out I4.out rfl (by decide) rfl w2 (by (repeat (first | exact Ext.refl _ | refine Ext.alloc ?_ _ | refine Ext.drewN ?_ _ | refine Ext.drew ?_ | refine Ext.trans ?_ (Hid.out (by assumption))))) (Own.empty (by (repeat (first | (refine heap_new ?_; (simp; done)) | refine heap_old (by first | (simp; done) | (simp; omega)) ?_))) (by first | (simp; done) | (simp; omega)) ItemV.wid) rfl ((H2.out.sl.take k (by omega)).ext (by (repeat (first | exact Ext.refl _ | refine Ext.alloc ?_ _ | refine Ext.drewN ?_ _ | refine Ext.drew ?_ | refine Ext.trans ?_ (Hid.out (by assumption)))))) ItemV.one (by omega) (by decide) ?_; intro bb5 nn5 cap5 v5 hn5 hown5 hy5 hg5; have HN5 := hid hn5; have HO5 := hid hown5; have HY5 := hid hy5; have HG5 := hid hg5; clear hn5 hown5 hy5 hg5)
            refine put_to (d := some 35) rfl ?_
            refine hK.out _ _ ?_ (fun hH => ?_)
            focus (intro _; (try dsimp only); exact Ext.keep (W := w2) (by (repeat (first | exact Ext.refl _ | refine Ext.alloc ?_ _ | refine Ext.drewN ?_ _ | refine Ext.drew ?_ | refine Ext.trans ?_ (Hid.out (by assumption))))) c0)
            clear hK K hHeld
            have hHeld := hH (by decide)
            clear hH
            (try dsimp only) <;> (try simp only [Act.put, List.setIfInBounds_toArray, List.set_cons_zero, List.set_cons_succ])
            have OF5 := hid (own_grown OFb.out (Own.empty (base := w2.heap.size) (e := 74) (by (repeat (first | (refine heap_new ?_; (simp; done)) | refine heap_old (by first | (simp; done) | (simp; omega)) ?_))) (by first | (simp; done) | (simp; omega)) ItemV.wid) (by decide) HG5.out)
            refine heldX_ready (rs := [12]) (by kernel_rfl) (by simp) ?_
            refine eachX_cons rfl (fun K hK => ?_) eachX_nil
            (refine stepOn (c := T.cs) (ys0 := []) (ys := ts) rfl (.tmp 37) (.tmp 38) 32 54 rfl j0 _ 56 Try.underlying32 J1.out J2.out J3.out J4.out rfl (by decide) rfl w2 (by (repeat (first | exact Ext.refl _ | refine Ext.alloc ?_ _ | refine Ext.drewN ?_ _ | refine Ext.drew ?_ | refine Ext.trans ?_ (Hid.out (by assumption))))) (OF5.out) rfl (HS.out.ext (Ext.trans hx2.out (by (repeat (first | exact Ext.refl _ | refine Ext.alloc ?_ _ | refine Ext.drewN ?_ _ | refine Ext.drew ?_ | refine Ext.trans ?_ (Hid.out (by assumption))))))) T.one (by omega) (by decide) ?_; intro bbf nnf capf vf hnf hownf hyf hgf; have HNf := hid hnf; have HOf := hid hownf; have HYf := hid hyf; have HGf := hid hgf; clear hnf hownf hyf hgf)
            have OIf := hid (own_grown (HO5.out) (OF5.out) (by decide) HGf.out)
            refine put_to (d := some 39) rfl ?_
            refine hK.out _ _ ?_ (fun hH => ?_)
            focus (intro _; (try dsimp only); exact Ext.keep (W := w2) (by (repeat (first | exact Ext.refl _ | refine Ext.alloc ?_ _ | refine Ext.drewN ?_ _ | refine Ext.drew ?_ | refine Ext.trans ?_ (Hid.out (by assumption))))) c0)
            clear hK K hHeld
            have hHeld := hH (by decide)
            clear hH
            (try dsimp only) <;> (try simp only [Act.put, List.setIfInBounds_toArray, List.set_cons_zero, List.set_cons_succ])
            (refine hTakeX 13 (some 40) (v := ?_) (by kernel_rfl) (by kernel_rfl) (by kernel_rfl) (by kernel_rfl) (fun _ _ _ h => h) ⟨_, rfl, rfl, Or.inl ⟨by rfl, ?_⟩⟩ hHeld ?_; rotate_left; (focus (intro w hSw; (try dsimp only at hSw); go_simp; (first | done | with_reducible rfl))); (try simp only [Act.put, List.setIfInBounds_toArray, List.set_cons_zero, List.set_cons_succ]))
            refine heldX_ready (rs := [14]) (by kernel_rfl) (by simp) ?_
            refine eachX_cons rfl (fun K hK => ?_) eachX_nil
            go_simp
            refine hK.out _ _ ?_ (fun hH => ?_)
            focus (intro _; (try dsimp only); exact Ext.keep (W := w2) (by (repeat (first | exact Ext.refl _ | refine Ext.alloc ?_ _ | refine Ext.drewN ?_ _ | refine Ext.drew ?_ | refine Ext.trans ?_ (Hid.out (by assumption))))) c0)
            clear hK K hHeld
            have hHeld := hH (by decide)
            clear hH
            (try dsimp only) <;> (try simp only [Act.put, List.setIfInBounds_toArray, List.set_cons_zero, List.set_cons_succ])
            refine heldX_ready (rs := [15]) (by kernel_rfl) (by simp) ?_
            refine eachX_cons rfl (fun K hK => ?_) eachX_nil
            (refine stepOn (c := ItemV.cs) (ys0 := [] ++ ys.take k) (ys := [⟨id, ⟨bbf, nnf, capf⟩, ts⟩]) rfl (.tmp 35) (.tmp 41) 27 74 rfl i0 _ 32 Try.underlying27 I1.out I2.out I3.out I4.out rfl (by decide) rfl w2 (by (repeat (first | exact Ext.refl _ | refine Ext.alloc ?_ _ | refine Ext.drewN ?_ _ | refine Ext.drew ?_ | refine Ext.trans ?_ (Hid.out (by assumption))))) (OIf.out.ext (by (repeat (first | exact Ext.refl _ | refine Ext.alloc ?_ _ | refine Ext.drewN ?_ _ | refine Ext.drew ?_ | refine Ext.trans ?_ (Hid.out (by assumption)))))) rfl (sl_ofBlock8 [⟨id, ⟨bbf, nnf, capf⟩, ts⟩] ItemV.wid rfl (by simp) (heap_alloc_new _ _) rfl) ItemV.one (by (have := HN5.out; omega)) (by decide) ?_; intro bb6 nn6 cap6 v6 hn6 hown6 hy6 hg6; have HN6 := hid hn6; have HO6 := hid hown6; have HY6 := hid hy6; have HG6 := hid hg6; clear hn6 hown6 hy6 hg6)
            have OF6 := hid (own_grown (HOf.out.ext (by (repeat (first | exact Ext.refl _ | refine Ext.alloc ?_ _ | refine Ext.drewN ?_ _ | refine Ext.drew ?_ | refine Ext.trans ?_ (Hid.out (by assumption)))))) (OIf.out.ext (by (repeat (first | exact Ext.refl _ | refine Ext.alloc ?_ _ | refine Ext.drewN ?_ _ | refine Ext.drew ?_ | refine Ext.trans ?_ (Hid.out (by assumption)))))) (by decide) HG6.out)
            refine put_to (d := some 42) rfl ?_
            refine hK.out _ _ ?_ (fun hH => ?_)
            focus (intro _; (try dsimp only); exact Ext.keep (W := w2) (by (repeat (first | exact Ext.refl _ | refine Ext.alloc ?_ _ | refine Ext.drewN ?_ _ | refine Ext.drew ?_ | refine Ext.trans ?_ (Hid.out (by assumption))))) c0)
            clear hK K hHeld
            have hHeld := hH (by decide)
            clear hH
            (try dsimp only) <;> (try simp only [Act.put, List.setIfInBounds_toArray, List.set_cons_zero, List.set_cons_succ])
            refine heldX_ready (rs := [22]) (by kernel_rfl) (by simp) ?_
            refine eachX_cons rfl (fun K hK => ?_) eachX_nil
            (refine stepOn (c := ItemV.cs) (ys0 := [] ++ ys.take k ++ [⟨id, ⟨bbf, nnf, capf⟩, ts⟩]) (ys := ys.drop k) rfl (.tmp 42) (.tmp 48) 27 74 rfl i0 _ 32 Try.underlying27 I1.out I2.out I3.out I4.out rfl (by decide) rfl w2 (by (repeat (first | exact Ext.refl _ | refine Ext.alloc ?_ _ | refine Ext.drewN ?_ _ | refine Ext.drew ?_ | refine Ext.trans ?_ (Hid.out (by assumption))))) (HO6.out.ext (by (repeat (first | exact Ext.refl _ | refine Ext.alloc ?_ _ | refine Ext.drewN ?_ _ | refine Ext.drew ?_ | refine Ext.trans ?_ (Hid.out (by assumption)))))) rfl (by rw [HDR.out]; exact Sl.none_of ItemV.wid (by decide)) ItemV.one (by (have := HN5.out; have := HN6.out; omega)) (by decide) ?_; intro bb7 nn7 cap7 v7 hn7 hown7 hy7 hg7; have HN7 := hid hn7; have HO7 := hid hown7; have HY7 := hid hy7; have HG7 := hid hg7; clear hn7 hown7 hy7 hg7)
            have OF7 := hid (own_grown OF6.out HO6.out (by decide) HG7.out)
            refine put_to (d := some 49) rfl ?_
            refine hK.out _ _ ?_ (fun hH => ?_)
            focus (intro _; (try dsimp only); exact Ext.keep (W := w2) (by (repeat (first | exact Ext.refl _ | refine Ext.alloc ?_ _ | refine Ext.drewN ?_ _ | refine Ext.drew ?_ | refine Ext.trans ?_ (Hid.out (by assumption))))) c0)
            clear hK K hHeld
            have hHeld := hH (by decide)
            clear hH
            (try dsimp only) <;> (try simp only [Act.put, List.setIfInBounds_toArray, List.set_cons_zero, List.set_cons_succ])
            refine heldX_ready (rs := [23]) (by kernel_rfl) (by simp) ?_
            refine eachX_cons rfl (fun K hK => ?_) eachX_nil
            go_simp
            refine hK.out _ _ ?_ (fun hH => ?_)
            focus (intro _; (try dsimp only); exact Ext.keep (W := w2) (by (repeat (first | exact Ext.refl _ | refine Ext.alloc ?_ _ | refine Ext.drewN ?_ _ | refine Ext.drew ?_ | refine Ext.trans ?_ (Hid.out (by assumption))))) c0)
            clear hK K hHeld
            have hHeld := hH (by decide)
            clear hH
            (try dsimp only) <;> (try simp only [Act.put, List.setIfInBounds_toArray, List.set_cons_zero, List.set_cons_succ])
            refine heldX_ready (rs := [24]) (by kernel_rfl) (by simp) ?_
            refine eachX_cons rfl (fun K hK => ?_) eachX_nil
            go_simp
            refine hK.out _ _ ?_ (fun hH => ?_)
            focus (intro _; (try dsimp only); exact Ext.keep (W := w2) (by (repeat (first | exact Ext.refl _ | refine Ext.alloc ?_ _ | refine Ext.drewN ?_ _ | refine Ext.drew ?_ | refine Ext.trans ?_ (Hid.out (by assumption))))) c0)
            clear hK K hHeld
            have hHeld := hH (by decide)
            clear hH
            (try dsimp only) <;> (try simp only [Act.put, List.setIfInBounds_toArray, List.set_cons_zero, List.set_cons_succ])
            have c8 := HY7.out.keep c0
            have f8 := (H2.out.ext HY7.out).free
            refine heldX_ready (rs := [25]) (by kernel_rfl) (by simp) ?_
            refine eachX_cons rfl (fun K hK => ?_) eachX_nil
            go_simp
            refine hK.out _ _ (fun h => absurd rfl h) (fun _ => ?_)
            clear hK K
            (try dsimp only) <;> (try simp only [Act.put, List.setIfInBounds_toArray, List.set_cons_zero, List.set_cons_succ])
            refine heldX_done (by kernel_rfl) ?_ _
            have HFin := hid (H2.out.store HY7.out (zs := ys.take k ++ [⟨id, ⟨bbf, nnf, capf⟩, ts⟩] ++ ys.drop k) (by have := HO7.out; rwa [List.nil_append] at this) (fun y hy => by
              rcases List.mem_append.1 hy with hy | hy
              · rcases List.mem_append.1 hy with hy | hy
                · exact (H2.out.it y (List.mem_of_mem_take hy)).ext HY7.out
                · rw [List.mem_singleton] at hy
                  subst hy
                  have := OF7.out.sl
                  rw [List.nil_append] at this
                  exact this
              · exact (H2.out.it y (List.mem_of_mem_drop hy)).ext HY7.out))
            go_wp2
            go_ret
            exact ⟨k, HA.out, HKN.out, rfl, _, _, _, _, rfl, rfl, HFin.out.1, (Chg.of hx2.out).trans HFin.out.2 (fun _ _ h => h), (fun ad e => Nat.le_trans hx2.out.size (HO7.out.lt ad e).1), (fun ad e => Nat.le_trans hx2.out.size (HOf.out.lt ad e).1)⟩
        · skip
          go_simp
          refine hK.out _ _ ?_ (fun hH => ?_)
          focus (intro _; (try dsimp only); exact Ext.keep (W := w2) (by (repeat (first | exact Ext.refl _ | refine Ext.alloc ?_ _ | refine Ext.drewN ?_ _ | refine Ext.drew ?_ | refine Ext.trans ?_ (Hid.out (by assumption))))) c0)
          clear hK K hHeld
          have hHeld := hH (by decide)
          clear hH
          (try dsimp only) <;> (try simp only [Act.put, List.setIfInBounds_toArray, List.set_cons_zero, List.set_cons_succ])
          refine heldX_ready (rs := [1]) (by kernel_rfl) (by simp) ?_
          refine eachX_cons rfl (fun K hK => ?_) eachX_nil
          go_simp
          refine hK.out _ _ ?_ (fun hH => ?_)
          focus (intro _; (try dsimp only); exact Ext.keep (W := w2) (by (repeat (first | exact Ext.refl _ | refine Ext.alloc ?_ _ | refine Ext.drewN ?_ _ | refine Ext.drew ?_ | refine Ext.trans ?_ (Hid.out (by assumption))))) c0)
          clear hK K hHeld
          have hHeld := hH (by decide)
          clear hH
          (try dsimp only) <;> (try simp only [Act.put, List.setIfInBounds_toArray, List.set_cons_zero, List.set_cons_succ])
          have OFb := hid (show Own _ w2.heap.size 54 5 T.cs (some ⟨w2.heap.size, 0, none⟩) 0 0 [] from (Own.empty (w := (w2.drew.alloc (.cells #[] 54)).alloc (.cells #[] 74)) (by (repeat (first | (refine heap_new ?_; (simp; done)) | refine heap_old (by first | (simp; done) | (simp; omega)) ?_))) (by first | (simp; done) | (simp; omega)) T.wid))
          refine heldX_ready (rs := [8]) (by kernel_rfl) (by simp) ?_
          refine eachX_cons rfl (fun K hK => ?_) eachX_nil
          (refine stepOn (c := ItemV.cs) (ys0 := []) (ys := ys.take k) rfl (.tmp 28) (.tmp 34) 27 74 rfl i0 _ 32 Try.underlying27 I1.out I2.out I3.out I4.out rfl (by decide) rfl w2 (by (repeat (first | exact Ext.refl _ | refine Ext.alloc ?_ _ | refine Ext.drewN ?_ _ | refine Ext.drew ?_ | refine Ext.trans ?_ (Hid.out (by assumption))))) (Own.empty (by (repeat (first | (refine heap_new ?_; (simp; done)) | refine heap_old (by first | (simp; done) | (simp; omega)) ?_))) (by first | (simp; done) | (simp; omega)) ItemV.wid) rfl ((H2.out.sl.take k (by omega)).ext (by (repeat (first | exact Ext.refl _ | refine Ext.alloc ?_ _ | refine Ext.drewN ?_ _ | refine Ext.drew ?_ | refine Ext.trans ?_ (Hid.out (by assumption)))))) ItemV.one (by omega) (by decide) ?_; intro bb5 nn5 cap5 v5 hn5 hown5 hy5 hg5; have HN5 := hid hn5; have HO5 := hid hown5; have HY5 := hid hy5; have HG5 := hid hg5; clear hn5 hown5 hy5 hg5)
          refine put_to (d := some 35) rfl ?_
          refine hK.out _ _ ?_ (fun hH => ?_)
          focus (intro _; (try dsimp only); exact Ext.keep (W := w2) (by (repeat (first | exact Ext.refl _ | refine Ext.alloc ?_ _ | refine Ext.drewN ?_ _ | refine Ext.drew ?_ | refine Ext.trans ?_ (Hid.out (by assumption))))) c0)
          clear hK K hHeld
          have hHeld := hH (by decide)
          clear hH
          (try dsimp only) <;> (try simp only [Act.put, List.setIfInBounds_toArray, List.set_cons_zero, List.set_cons_succ])
          have OF5 := hid (own_grown OFb.out (Own.empty (base := w2.heap.size) (e := 74) (by (repeat (first | (refine heap_new ?_; (simp; done)) | refine heap_old (by first | (simp; done) | (simp; omega)) ?_))) (by first | (simp; done) | (simp; omega)) ItemV.wid) (by decide) HG5.out)
          refine heldX_ready (rs := [12]) (by kernel_rfl) (by simp) ?_
          refine eachX_cons rfl (fun K hK => ?_) eachX_nil
          (refine stepOn (c := T.cs) (ys0 := []) (ys := ts) rfl (.tmp 37) (.tmp 38) 32 54 rfl j0 _ 56 Try.underlying32 J1.out J2.out J3.out J4.out rfl (by decide) rfl w2 (by (repeat (first | exact Ext.refl _ | refine Ext.alloc ?_ _ | refine Ext.drewN ?_ _ | refine Ext.drew ?_ | refine Ext.trans ?_ (Hid.out (by assumption))))) (OF5.out) rfl (HS.out.ext (Ext.trans hx2.out (by (repeat (first | exact Ext.refl _ | refine Ext.alloc ?_ _ | refine Ext.drewN ?_ _ | refine Ext.drew ?_ | refine Ext.trans ?_ (Hid.out (by assumption))))))) T.one (by omega) (by decide) ?_; intro bbf nnf capf vf hnf hownf hyf hgf; have HNf := hid hnf; have HOf := hid hownf; have HYf := hid hyf; have HGf := hid hgf; clear hnf hownf hyf hgf)
          have OIf := hid (own_grown (HO5.out) (OF5.out) (by decide) HGf.out)
          refine put_to (d := some 39) rfl ?_
          refine hK.out _ _ ?_ (fun hH => ?_)
          focus (intro _; (try dsimp only); exact Ext.keep (W := w2) (by (repeat (first | exact Ext.refl _ | refine Ext.alloc ?_ _ | refine Ext.drewN ?_ _ | refine Ext.drew ?_ | refine Ext.trans ?_ (Hid.out (by assumption))))) c0)
          clear hK K hHeld
          have hHeld := hH (by decide)
          clear hH
          (try dsimp only) <;> (try simp only [Act.put, List.setIfInBounds_toArray, List.set_cons_zero, List.set_cons_succ])
          (refine hTakeX 13 (some 40) (v := ?_) (by kernel_rfl) (by kernel_rfl) (by kernel_rfl) (by kernel_rfl) (fun _ _ _ h => h) ⟨_, rfl, rfl, Or.inl ⟨by rfl, ?_⟩⟩ hHeld ?_; rotate_left; (focus (intro w hSw; (try dsimp only at hSw); go_simp; (first | done | with_reducible rfl))); (try simp only [Act.put, List.setIfInBounds_toArray, List.set_cons_zero, List.set_cons_succ]))
          refine heldX_ready (rs := [14]) (by kernel_rfl) (by simp) ?_
          refine eachX_cons rfl (fun K hK => ?_) eachX_nil
          go_simp
          refine hK.out _ _ ?_ (fun hH => ?_)
          focus (intro _; (try dsimp only); exact Ext.keep (W := w2) (by (repeat (first | exact Ext.refl _ | refine Ext.alloc ?_ _ | refine Ext.drewN ?_ _ | refine Ext.drew ?_ | refine Ext.trans ?_ (Hid.out (by assumption))))) c0)
          clear hK K hHeld
          have hHeld := hH (by decide)
          clear hH
          (try dsimp only) <;> (try simp only [Act.put, List.setIfInBounds_toArray, List.set_cons_zero, List.set_cons_succ])
          refine heldX_ready (rs := [15]) (by kernel_rfl) (by simp) ?_
          refine eachX_cons rfl (fun K hK => ?_) eachX_nil
          (refine stepOn (c := ItemV.cs) (ys0 := [] ++ ys.take k) (ys := [⟨id, ⟨bbf, nnf, capf⟩, ts⟩]) rfl (.tmp 35) (.tmp 41) 27 74 rfl i0 _ 32 Try.underlying27 I1.out I2.out I3.out I4.out rfl (by decide) rfl w2 (by (repeat (first | exact Ext.refl _ | refine Ext.alloc ?_ _ | refine Ext.drewN ?_ _ | refine Ext.drew ?_ | refine Ext.trans ?_ (Hid.out (by assumption))))) (OIf.out.ext (by (repeat (first | exact Ext.refl _ | refine Ext.alloc ?_ _ | refine Ext.drewN ?_ _ | refine Ext.drew ?_ | refine Ext.trans ?_ (Hid.out (by assumption)))))) rfl (sl_ofBlock8 [⟨id, ⟨bbf, nnf, capf⟩, ts⟩] ItemV.wid rfl (by simp) (heap_alloc_new _ _) rfl) ItemV.one (by (have := HN5.out; omega)) (by decide) ?_; intro bb6 nn6 cap6 v6 hn6 hown6 hy6 hg6; have HN6 := hid hn6; have HO6 := hid hown6; have HY6 := hid hy6; have HG6 := hid hg6; clear hn6 hown6 hy6 hg6)
          have OF6 := hid (own_grown (HOf.out.ext (by (repeat (first | exact Ext.refl _ | refine Ext.alloc ?_ _ | refine Ext.drewN ?_ _ | refine Ext.drew ?_ | refine Ext.trans ?_ (Hid.out (by assumption)))))) (OIf.out.ext (by (repeat (first | exact Ext.refl _ | refine Ext.alloc ?_ _ | refine Ext.drewN ?_ _ | refine Ext.drew ?_ | refine Ext.trans ?_ (Hid.out (by assumption)))))) (by decide) HG6.out)
          refine put_to (d := some 42) rfl ?_
          refine hK.out _ _ ?_ (fun hH => ?_)
          focus (intro _; (try dsimp only); exact Ext.keep (W := w2) (by (repeat (first | exact Ext.refl _ | refine Ext.alloc ?_ _ | refine Ext.drewN ?_ _ | refine Ext.drew ?_ | refine Ext.trans ?_ (Hid.out (by assumption))))) c0)
          clear hK K hHeld
          have hHeld := hH (by decide)
          clear hH
          (try dsimp only) <;> (try simp only [Act.put, List.setIfInBounds_toArray, List.set_cons_zero, List.set_cons_succ])
          refine heldX_ready (rs := [22]) (by kernel_rfl) (by simp) ?_
          refine eachX_cons rfl (fun K hK => ?_) eachX_nil
          (refine stepOn (c := ItemV.cs) (ys0 := [] ++ ys.take k ++ [⟨id, ⟨bbf, nnf, capf⟩, ts⟩]) (ys := ys.drop k) rfl (.tmp 42) (.tmp 48) 27 74 rfl i0 _ 32 Try.underlying27 I1.out I2.out I3.out I4.out rfl (by decide) rfl w2 (by (repeat (first | exact Ext.refl _ | refine Ext.alloc ?_ _ | refine Ext.drewN ?_ _ | refine Ext.drew ?_ | refine Ext.trans ?_ (Hid.out (by assumption))))) (HO6.out.ext (by (repeat (first | exact Ext.refl _ | refine Ext.alloc ?_ _ | refine Ext.drewN ?_ _ | refine Ext.drew ?_ | refine Ext.trans ?_ (Hid.out (by assumption)))))) rfl (by rw [HDR.out]; exact Sl.none_of ItemV.wid (by decide)) ItemV.one (by (have := HN5.out; have := HN6.out; omega)) (by decide) ?_; intro bb7 nn7 cap7 v7 hn7 hown7 hy7 hg7; have HN7 := hid hn7; have HO7 := hid hown7; have HY7 := hid hy7; have HG7 := hid hg7; clear hn7 hown7 hy7 hg7)
          have OF7 := hid (own_grown OF6.out HO6.out (by decide) HG7.out)
          refine put_to (d := some 49) rfl ?_
          refine hK.out _ _ ?_ (fun hH => ?_)
          focus (intro _; (try dsimp only); exact Ext.keep (W := w2) (by (repeat (first | exact Ext.refl _ | refine Ext.alloc ?_ _ | refine Ext.drewN ?_ _ | refine Ext.drew ?_ | refine Ext.trans ?_ (Hid.out (by assumption))))) c0)
          clear hK K hHeld
          have hHeld := hH (by decide)
          clear hH
          (try dsimp only) <;> (try simp only [Act.put, List.setIfInBounds_toArray, List.set_cons_zero, List.set_cons_succ])
          refine heldX_ready (rs := [23]) (by kernel_rfl) (by simp) ?_
          refine eachX_cons rfl (fun K hK => ?_) eachX_nil
          go_simp
          refine hK.out _ _ ?_ (fun hH => ?_)
          focus (intro _; (try dsimp only); exact Ext.keep (W := w2) (by (repeat (first | exact Ext.refl _ | refine Ext.alloc ?_ _ | refine Ext.drewN ?_ _ | refine Ext.drew ?_ | refine Ext.trans ?_ (Hid.out (by assumption))))) c0)
          clear hK K hHeld
          have hHeld := hH (by decide)
          clear hH
          (try dsimp only) <;> (try simp only [Act.put, List.setIfInBounds_toArray, List.set_cons_zero, List.set_cons_succ])
          refine heldX_ready (rs := [24]) (by kernel_rfl) (by simp) ?_
          refine eachX_cons rfl (fun K hK => ?_) eachX_nil
          go_simp
          refine hK.out _ _ ?_ (fun hH => ?_)
          focus (intro _; (try dsimp only); exact Ext.keep (W := w2) (by (repeat (first | exact Ext.refl _ | refine Ext.alloc ?_ _ | refine Ext.drewN ?_ _ | refine Ext.drew ?_ | refine Ext.trans ?_ (Hid.out (by assumption))))) c0)
          clear hK K hHeld
          have hHeld := hH (by decide)
          clear hH
          (try dsimp only) <;> (try simp only [Act.put, List.setIfInBounds_toArray, List.set_cons_zero, List.set_cons_succ])
          have c8 := HY7.out.keep c0
          have f8 := (H2.out.ext HY7.out).free
          refine heldX_ready (rs := [25]) (by kernel_rfl) (by simp) ?_
          refine eachX_cons rfl (fun K hK => ?_) eachX_nil
          go_simp
          refine hK.out _ _ (fun h => absurd rfl h) (fun _ => ?_)
          clear hK K
          (try dsimp only) <;> (try simp only [Act.put, List.setIfInBounds_toArray, List.set_cons_zero, List.set_cons_succ])
          refine heldX_done (by kernel_rfl) ?_ _
          have HFin := hid (H2.out.store HY7.out (zs := ys.take k ++ [⟨id, ⟨bbf, nnf, capf⟩, ts⟩] ++ ys.drop k) (by have := HO7.out; rwa [List.nil_append] at this) (fun y hy => by
            rcases List.mem_append.1 hy with hy | hy
            · rcases List.mem_append.1 hy with hy | hy
              · exact (H2.out.it y (List.mem_of_mem_take hy)).ext HY7.out
              · rw [List.mem_singleton] at hy
                subst hy
                have := OF7.out.sl
                rw [List.nil_append] at this
                exact this
            · exact (H2.out.it y (List.mem_of_mem_drop hy)).ext HY7.out))
          go_wp2
          go_ret
          exact ⟨k, HA.out, HKN.out, rfl, _, _, _, _, rfl, rfl, HFin.out.1, (Chg.of hx2.out).trans HFin.out.2 (fun _ _ h => h), (fun ad e => Nat.le_trans hx2.out.size (HO7.out.lt ad e).1), (fun ad e => Nat.le_trans hx2.out.size (HOf.out.lt ad e).1)⟩
      · have hne : ¬ c = k := fun e => hkc e.symm
        go_wp2_with fail
        refine wp_region_heldX 25 (S := (fun w' => w'.cell? ⟨q, 0, none⟩ = some (.slice (some ⟨b, o, none⟩) ys.length c))) (by kernel_rfl) ?_ (fun hHeld => ?_)
        · ((try dsimp only); exact Ext.keep (W := w2) (by (repeat (first | exact Ext.refl _ | refine Ext.alloc ?_ _ | refine Ext.drewN ?_ _ | refine Ext.drew ?_ | refine Ext.trans ?_ (Hid.out (by assumption))))) c0)
        (refine hTakeX 0 (some 27) (v := ?_) (by kernel_rfl) (by kernel_rfl) (by kernel_rfl) (by kernel_rfl) (fun _ _ _ h => h) ⟨_, rfl, rfl, Or.inl ⟨by rfl, ?_⟩⟩ hHeld ?_; rotate_left; (focus (intro w hSw; (try dsimp only at hSw); go_simp; (first | done | with_reducible rfl))); (try simp only [Act.put, List.setIfInBounds_toArray, List.set_cons_zero, List.set_cons_succ]))
        (refine hTakeX 2 (some 29) (v := ?_) (by kernel_rfl) (by kernel_rfl) (by kernel_rfl) (by kernel_rfl) (fun _ _ _ h => h) ⟨_, rfl, rfl, Or.inl ⟨by rfl, ?_⟩⟩ hHeld ?_; rotate_left; (focus (intro w hSw; (try dsimp only at hSw); go_simp; (first | done | with_reducible rfl))); (try simp only [Act.put, List.setIfInBounds_toArray, List.set_cons_zero, List.set_cons_succ]))
        (refine hTakeX 3 (some 30) (v := ?_) (by kernel_rfl) (by kernel_rfl) (by kernel_rfl) (by kernel_rfl) (fun _ _ _ h => h) ⟨_, rfl, rfl, Or.inl ⟨by rfl, ?_⟩⟩ hHeld ?_; rotate_left; (focus (intro w hSw; (try dsimp only at hSw); go_simp; (first | done | with_reducible rfl))); (try simp only [Act.put, List.setIfInBounds_toArray, List.set_cons_zero, List.set_cons_succ]))
        (refine hTakeX 4 (some 31) (v := ?_) (by kernel_rfl) (by kernel_rfl) (by kernel_rfl) (by kernel_rfl) (fun _ _ _ h => h) ⟨_, rfl, rfl, Or.inl ⟨by rfl, ?_⟩⟩ hHeld ?_; rotate_left; (focus (intro w hSw; (try dsimp only at hSw); go_simp; (first | done | with_reducible rfl))); (try simp only [Act.put, List.setIfInBounds_toArray, List.set_cons_zero, List.set_cons_succ]))
        (refine hTakeX 5 (some 32) (v := ?_) (by kernel_rfl) (by kernel_rfl) (by kernel_rfl) (by kernel_rfl) (fun _ _ _ h => h) ⟨_, rfl, rfl, Or.inl ⟨by rfl, ?_⟩⟩ hHeld ?_; rotate_left; (focus (intro w hSw; (try dsimp only at hSw); go_simp; (first | done | with_reducible rfl))); (try simp only [Act.put, List.setIfInBounds_toArray, List.set_cons_zero, List.set_cons_succ]))
        (refine hTakeX 6 (some 33) (v := ?_) (by kernel_rfl) (by kernel_rfl) (by kernel_rfl) (by kernel_rfl) (fun _ _ _ h => h) ⟨_, rfl, rfl, Or.inl ⟨by rfl, ?_⟩⟩ hHeld ?_; rotate_left; (focus (intro w hSw; (try dsimp only at hSw); go_simp; (first | done | with_reducible rfl))); (try simp only [Act.put, List.setIfInBounds_toArray, List.set_cons_zero, List.set_cons_succ]))
        (refine hTakeX 7 (some 34) (v := ?_) (by kernel_rfl) (by kernel_rfl) (by kernel_rfl) (by kernel_rfl) (fun _ _ _ h => h) ⟨_, rfl, rfl, Or.inl ⟨by rfl, ?_⟩⟩ hHeld ?_; rotate_left; (focus (intro w hSw; (try dsimp only at hSw); go_simp; (first | done | with_reducible rfl))); (try simp only [Act.put, List.setIfInBounds_toArray, List.set_cons_zero, List.set_cons_succ]))
        (refine hTakeX 9 (some 36) (v := ?_) (by kernel_rfl) (by kernel_rfl) (by kernel_rfl) (by kernel_rfl) (fun _ _ _ h => h) ⟨_, rfl, rfl, Or.inl ⟨by rfl, ?_⟩⟩ hHeld ?_; rotate_left; (focus (intro w hSw; (try dsimp only at hSw); go_simp; (first | done | with_reducible rfl))); (try simp only [Act.put, List.setIfInBounds_toArray, List.set_cons_zero, List.set_cons_succ]))
        (refine hTakeX 11 (some 38) (v := ?_) (by kernel_rfl) (by kernel_rfl) (by kernel_rfl) (by kernel_rfl) (fun _ _ _ h => h) ⟨_, rfl, rfl, Or.inl ⟨by rfl, ?_⟩⟩ hHeld ?_; rotate_left; (focus (intro w hSw; (try dsimp only at hSw); go_simp; (first | done | with_reducible rfl))); (try simp only [Act.put, List.setIfInBounds_toArray, List.set_cons_zero, List.set_cons_succ]))
        (refine hTakeX 16 (some 43) (v := ?_) (by kernel_rfl) (by kernel_rfl) (by kernel_rfl) (by kernel_rfl) (fun _ _ _ h => h) ⟨_, rfl, rfl, Or.inl ⟨by rfl, ?_⟩⟩ hHeld ?_; rotate_left; (focus (intro w hSw; (try dsimp only at hSw); go_simp; (first | done | with_reducible rfl))); (try simp only [Act.put, List.setIfInBounds_toArray, List.set_cons_zero, List.set_cons_succ]))
        (refine hTakeX 17 (some 44) (v := ?_) (by kernel_rfl) (by kernel_rfl) (by kernel_rfl) (by kernel_rfl) (fun _ _ _ h => h) ⟨_, rfl, rfl, Or.inl ⟨by rfl, ?_⟩⟩ hHeld ?_; rotate_left; (focus (intro w hSw; (try dsimp only at hSw); go_simp; (first | done | with_reducible rfl))); (try simp only [Act.put, List.setIfInBounds_toArray, List.set_cons_zero, List.set_cons_succ]))
        (refine hTakeX 18 (some 45) (v := ?_) (by kernel_rfl) (by kernel_rfl) (by kernel_rfl) (by kernel_rfl) (fun _ _ _ h => h) ⟨_, rfl, rfl, Or.inl ⟨by rfl, ?_⟩⟩ hHeld ?_; rotate_left; (focus (intro w hSw; (try dsimp only at hSw); go_simp; (first | done | with_reducible rfl))); (try simp only [Act.put, List.setIfInBounds_toArray, List.set_cons_zero, List.set_cons_succ]))
        (refine hTakeX 19 (some 46) (v := ?_) (by kernel_rfl) (by kernel_rfl) (by kernel_rfl) (by kernel_rfl) (fun _ _ _ h => h) ⟨_, rfl, rfl, Or.inl ⟨by rfl, ?_⟩⟩ hHeld ?_; rotate_left; (focus (intro w hSw; (try dsimp only at hSw); go_simp; (first | done | with_reducible rfl))); (try simp only [Act.put, List.setIfInBounds_toArray, List.set_cons_zero, List.set_cons_succ]))
        (refine hTakeX 20 (some 47) (v := ?_) (by kernel_rfl) (by kernel_rfl) (by kernel_rfl) (by kernel_rfl) (fun _ _ _ h => h) ⟨_, rfl, rfl, Or.inl ⟨by rfl, ?_⟩⟩ hHeld ?_; rotate_left; (focus (intro w hSw; (try dsimp only at hSw); go_simp; (first | done | with_reducible rfl))); (try simp only [Act.put, List.setIfInBounds_toArray, List.set_cons_zero, List.set_cons_succ]))
        (refine hTakeX 21 (some 48) (v := ?_) (by kernel_rfl) (by kernel_rfl) (by kernel_rfl) (by kernel_rfl) (fun _ _ _ h => h) ⟨_, rfl, rfl, Or.inl ⟨by rfl, ?_⟩⟩ hHeld ?_; rotate_left; (focus (intro w hSw; (try dsimp only at hSw); go_simp; (first | done | with_reducible rfl))); (try simp only [Act.put, List.setIfInBounds_toArray, List.set_cons_zero, List.set_cons_succ]))
        refine heldX_ready (rs := [1, 10]) (by kernel_rfl) (by simp) ?_
        refine eachX_cons rfl (fun K hK => ?_) (eachX_cons rfl (fun K hK => ?_) eachX_nil)
        · go_simp
          refine hK.out _ _ ?_ (fun hH => ?_)
          focus (intro _; (try dsimp only); exact Ext.keep (W := w2) (by (repeat (first | exact Ext.refl _ | refine Ext.alloc ?_ _ | refine Ext.drewN ?_ _ | refine Ext.drew ?_ | refine Ext.trans ?_ (Hid.out (by assumption))))) c0)
          clear hK K hHeld
          have hHeld := hH (by decide)
          clear hH
          (try dsimp only) <;> (try simp only [Act.put, List.setIfInBounds_toArray, List.set_cons_zero, List.set_cons_succ])
          refine heldX_ready (rs := [8, 10]) (by kernel_rfl) (by simp) ?_
          refine eachX_cons rfl (fun K hK => ?_) (eachX_cons rfl (fun K hK => ?_) eachX_nil)
          · skip
            (refine stepOn (c := ItemV.cs) (ys0 := []) (ys := ys.take k) rfl (.tmp 28) (.tmp 34) 27 74 rfl i0 _ 32 Try.underlying27 I1.out I2.out I3.out I4.out rfl (by decide) rfl w2 (by (repeat (first | exact Ext.refl _ | refine Ext.alloc ?_ _ | refine Ext.drewN ?_ _ | refine Ext.drew ?_ | refine Ext.trans ?_ (Hid.out (by assumption))))) (Own.empty (by (repeat (first | (refine heap_new ?_; (simp; done)) | refine heap_old (by first | (simp; done) | (simp; omega)) ?_))) (by first | (simp; done) | (simp; omega)) ItemV.wid) rfl ((H2.out.sl.take k (by omega)).ext (by (repeat (first | exact Ext.refl _ | refine Ext.alloc ?_ _ | refine Ext.drewN ?_ _ | refine Ext.drew ?_ | refine Ext.trans ?_ (Hid.out (by assumption)))))) ItemV.one (by omega) (by decide) ?_; intro bb5 nn5 cap5 v5 hn5 hown5 hy5 hg5; have HN5 := hid hn5; have HO5 := hid hown5; have HY5 := hid hy5; have HG5 := hid hg5; clear hn5 hown5 hy5 hg5)
            refine put_to (d := some 35) rfl ?_
            refine hK.out _ _ ?_ (fun hH => ?_)
            focus (intro _; (try dsimp only); exact Ext.keep (W := w2) (by (repeat (first | exact Ext.refl _ | refine Ext.alloc ?_ _ | refine Ext.drewN ?_ _ | refine Ext.drew ?_ | refine Ext.trans ?_ (Hid.out (by assumption))))) c0)
            clear hK K hHeld
            have hHeld := hH (by decide)
            clear hH
            (try dsimp only) <;> (try simp only [Act.put, List.setIfInBounds_toArray, List.set_cons_zero, List.set_cons_succ])
            refine heldX_ready (rs := [10]) (by kernel_rfl) (by simp) ?_
            refine eachX_cons rfl (fun K hK => ?_) eachX_nil
            go_simp
            refine hK.out _ _ ?_ (fun hH => ?_)
            focus (intro _; (try dsimp only); exact Ext.keep (W := w2) (by (repeat (first | exact Ext.refl _ | refine Ext.alloc ?_ _ | refine Ext.drewN ?_ _ | refine Ext.drew ?_ | refine Ext.trans ?_ (Hid.out (by assumption))))) c0)
            clear hK K hHeld
            have hHeld := hH (by decide)
            clear hH
            (try dsimp only) <;> (try simp only [Act.put, List.setIfInBounds_toArray, List.set_cons_zero, List.set_cons_succ])
            refine heldX_ready (rs := [12]) (by kernel_rfl) (by simp) ?_
            refine eachX_cons rfl (fun K hK => ?_) eachX_nil
            (refine stepOn (c := T.cs) (ys0 := []) (ys := ts) rfl (.tmp 37) (.tmp 38) 32 54 rfl j0 _ 56 Try.underlying32 J1.out J2.out J3.out J4.out rfl (by decide) rfl w2 (by (repeat (first | exact Ext.refl _ | refine Ext.alloc ?_ _ | refine Ext.drewN ?_ _ | refine Ext.drew ?_ | refine Ext.trans ?_ (Hid.out (by assumption))))) ((Own.empty (by (repeat (first | (refine heap_new ?_; (simp; done)) | refine heap_old (by first | (simp; done) | (simp; omega)) ?_))) (by first | (simp; done) | (simp; omega) | exact Ext.size (W := w2) (by (repeat (first | exact Ext.refl _ | refine Ext.alloc ?_ _ | refine Ext.drewN ?_ _ | refine Ext.drew ?_ | refine Ext.trans ?_ (Hid.out (by assumption)))))) T.wid)) rfl (HS.out.ext (Ext.trans hx2.out (by (repeat (first | exact Ext.refl _ | refine Ext.alloc ?_ _ | refine Ext.drewN ?_ _ | refine Ext.drew ?_ | refine Ext.trans ?_ (Hid.out (by assumption))))))) T.one (by omega) (by decide) ?_; intro bbf nnf capf vf hnf hownf hyf hgf; have HNf := hid hnf; have HOf := hid hownf; have HYf := hid hyf; have HGf := hid hgf; clear hnf hownf hyf hgf)
            have OIf := hid (own_grown (HO5.out.ext (by (repeat (first | exact Ext.refl _ | refine Ext.alloc ?_ _ | refine Ext.drewN ?_ _ | refine Ext.drew ?_ | refine Ext.trans ?_ (Hid.out (by assumption)))))) ((Own.empty (by (repeat (first | (refine heap_new ?_; (simp; done)) | refine heap_old (by first | (simp; done) | (simp; omega)) ?_))) (by first | (simp; done) | (simp; omega) | exact Ext.size (W := w2) (by (repeat (first | exact Ext.refl _ | refine Ext.alloc ?_ _ | refine Ext.drewN ?_ _ | refine Ext.drew ?_ | refine Ext.trans ?_ (Hid.out (by assumption)))))) T.wid)) (by decide) HGf.out)
            refine put_to (d := some 39) rfl ?_
            refine hK.out _ _ ?_ (fun hH => ?_)
            focus (intro _; (try dsimp only); exact Ext.keep (W := w2) (by (repeat (first | exact Ext.refl _ | refine Ext.alloc ?_ _ | refine Ext.drewN ?_ _ | refine Ext.drew ?_ | refine Ext.trans ?_ (Hid.out (by assumption))))) c0)
            clear hK K hHeld
            have hHeld := hH (by decide)
            clear hH
            (try dsimp only) <;> (try simp only [Act.put, List.setIfInBounds_toArray, List.set_cons_zero, List.set_cons_succ])
            (refine hTakeX 13 (some 40) (v := ?_) (by kernel_rfl) (by kernel_rfl) (by kernel_rfl) (by kernel_rfl) (fun _ _ _ h => h) ⟨_, rfl, rfl, Or.inl ⟨by rfl, ?_⟩⟩ hHeld ?_; rotate_left; (focus (intro w hSw; (try dsimp only at hSw); go_simp; (first | done | with_reducible rfl))); (try simp only [Act.put, List.setIfInBounds_toArray, List.set_cons_zero, List.set_cons_succ]))
            refine heldX_ready (rs := [14]) (by kernel_rfl) (by simp) ?_
            refine eachX_cons rfl (fun K hK => ?_) eachX_nil
            go_simp
            refine hK.out _ _ ?_ (fun hH => ?_)
            focus (intro _; (try dsimp only); exact Ext.keep (W := w2) (by (repeat (first | exact Ext.refl _ | refine Ext.alloc ?_ _ | refine Ext.drewN ?_ _ | refine Ext.drew ?_ | refine Ext.trans ?_ (Hid.out (by assumption))))) c0)
            clear hK K hHeld
            have hHeld := hH (by decide)
            clear hH
            (try dsimp only) <;> (try simp only [Act.put, List.setIfInBounds_toArray, List.set_cons_zero, List.set_cons_succ])
            refine heldX_ready (rs := [15]) (by kernel_rfl) (by simp) ?_
            refine eachX_cons rfl (fun K hK => ?_) eachX_nil
            (refine stepOn (c := ItemV.cs) (ys0 := [] ++ ys.take k) (ys := [⟨id, ⟨bbf, nnf, capf⟩, ts⟩]) rfl (.tmp 35) (.tmp 41) 27 74 rfl i0 _ 32 Try.underlying27 I1.out I2.out I3.out I4.out rfl (by decide) rfl w2 (by (repeat (first | exact Ext.refl _ | refine Ext.alloc ?_ _ | refine Ext.drewN ?_ _ | refine Ext.drew ?_ | refine Ext.trans ?_ (Hid.out (by assumption))))) (OIf.out.ext (by (repeat (first | exact Ext.refl _ | refine Ext.alloc ?_ _ | refine Ext.drewN ?_ _ | refine Ext.drew ?_ | refine Ext.trans ?_ (Hid.out (by assumption)))))) rfl (sl_ofBlock8 [⟨id, ⟨bbf, nnf, capf⟩, ts⟩] ItemV.wid rfl (by simp) (heap_alloc_new _ _) rfl) ItemV.one (by (have := HN5.out; omega)) (by decide) ?_; intro bb6 nn6 cap6 v6 hn6 hown6 hy6 hg6; have HN6 := hid hn6; have HO6 := hid hown6; have HY6 := hid hy6; have HG6 := hid hg6; clear hn6 hown6 hy6 hg6)
            have OF6 := hid (own_grown (HOf.out.ext (by (repeat (first | exact Ext.refl _ | refine Ext.alloc ?_ _ | refine Ext.drewN ?_ _ | refine Ext.drew ?_ | refine Ext.trans ?_ (Hid.out (by assumption)))))) (OIf.out.ext (by (repeat (first | exact Ext.refl _ | refine Ext.alloc ?_ _ | refine Ext.drewN ?_ _ | refine Ext.drew ?_ | refine Ext.trans ?_ (Hid.out (by assumption)))))) (by decide) HG6.out)
            refine put_to (d := some 42) rfl ?_
            refine hK.out _ _ ?_ (fun hH => ?_)
            focus (intro _; (try dsimp only); exact Ext.keep (W := w2) (by (repeat (first | exact Ext.refl _ | refine Ext.alloc ?_ _ | refine Ext.drewN ?_ _ | refine Ext.drew ?_ | refine Ext.trans ?_ (Hid.out (by assumption))))) c0)
            clear hK K hHeld
            have hHeld := hH (by decide)
            clear hH
            (try dsimp only) <;> (try simp only [Act.put, List.setIfInBounds_toArray, List.set_cons_zero, List.set_cons_succ])
            refine heldX_ready (rs := [22]) (by kernel_rfl) (by simp) ?_
            refine eachX_cons rfl (fun K hK => ?_) eachX_nil
            (refine stepOn (c := ItemV.cs) (ys0 := [] ++ ys.take k ++ [⟨id, ⟨bbf, nnf, capf⟩, ts⟩]) (ys := ys.drop k) rfl (.tmp 42) (.tmp 48) 27 74 rfl i0 _ 32 Try.underlying27 I1.out I2.out I3.out I4.out rfl (by decide) rfl w2 (by (repeat (first | exact Ext.refl _ | refine Ext.alloc ?_ _ | refine Ext.drewN ?_ _ | refine Ext.drew ?_ | refine Ext.trans ?_ (Hid.out (by assumption))))) (HO6.out.ext (by (repeat (first | exact Ext.refl _ | refine Ext.alloc ?_ _ | refine Ext.drewN ?_ _ | refine Ext.drew ?_ | refine Ext.trans ?_ (Hid.out (by assumption)))))) rfl ((H2.out.sl.drop k hkn).ext (by (repeat (first | exact Ext.refl _ | refine Ext.alloc ?_ _ | refine Ext.drewN ?_ _ | refine Ext.drew ?_ | refine Ext.trans ?_ (Hid.out (by assumption)))))) ItemV.one (by (have := HN5.out; have := HN6.out; omega)) (by decide) ?_; intro bb7 nn7 cap7 v7 hn7 hown7 hy7 hg7; have HN7 := hid hn7; have HO7 := hid hown7; have HY7 := hid hy7; have HG7 := hid hg7; clear hn7 hown7 hy7 hg7)
            have OF7 := hid (own_grown OF6.out HO6.out (by decide) HG7.out)
            refine put_to (d := some 49) rfl ?_
            refine hK.out _ _ ?_ (fun hH => ?_)
            focus (intro _; (try dsimp only); exact Ext.keep (W := w2) (by (repeat (first | exact Ext.refl _ | refine Ext.alloc ?_ _ | refine Ext.drewN ?_ _ | refine Ext.drew ?_ | refine Ext.trans ?_ (Hid.out (by assumption))))) c0)
            clear hK K hHeld
            have hHeld := hH (by decide)
            clear hH
            (try dsimp only) <;> (try simp only [Act.put, List.setIfInBounds_toArray, List.set_cons_zero, List.set_cons_succ])
            refine heldX_ready (rs := [23]) (by kernel_rfl) (by simp) ?_
            refine eachX_cons rfl (fun K hK => ?_) eachX_nil
            go_simp
            refine hK.out _ _ ?_ (fun hH => ?_)
            focus (intro _; (try dsimp only); exact Ext.keep (W := w2) (by (repeat (first | exact Ext.refl _ | refine Ext.alloc ?_ _ | refine Ext.drewN ?_ _ | refine Ext.drew ?_ | refine Ext.trans ?_ (Hid.out (by assumption))))) c0)
            clear hK K hHeld
            have hHeld := hH (by decide)
            clear hH
            (try dsimp only) <;> (try simp only [Act.put, List.setIfInBounds_toArray, List.set_cons_zero, List.set_cons_succ])
            refine heldX_ready (rs := [24]) (by kernel_rfl) (by simp) ?_
            refine eachX_cons rfl (fun K hK => ?_) eachX_nil
            go_simp
            refine hK.out _ _ ?_ (fun hH => ?_)
            focus (intro _; (try dsimp only); exact Ext.keep (W := w2) (by (repeat (first | exact Ext.refl _ | refine Ext.alloc ?_ _ | refine Ext.drewN ?_ _ | refine Ext.drew ?_ | refine Ext.trans ?_ (Hid.out (by assumption))))) c0)
            clear hK K hHeld
            have hHeld := hH (by decide)
            clear hH
            (try dsimp only) <;> (try simp only [Act.put, List.setIfInBounds_toArray, List.set_cons_zero, List.set_cons_succ])
            have c8 := HY7.out.keep c0
            have f8 := (H2.out.ext HY7.out).free
            refine heldX_ready (rs := [25]) (by kernel_rfl) (by simp) ?_
            refine eachX_cons rfl (fun K hK => ?_) eachX_nil
            go_simp
            refine hK.out _ _ (fun h => absurd rfl h) (fun _ => ?_)
            clear hK K
            (try dsimp only) <;> (try simp only [Act.put, List.setIfInBounds_toArray, List.set_cons_zero, List.set_cons_succ])
            refine heldX_done (by kernel_rfl) ?_ _
            have HFin := hid (H2.out.store HY7.out (zs := ys.take k ++ [⟨id, ⟨bbf, nnf, capf⟩, ts⟩] ++ ys.drop k) (by have := HO7.out; rwa [List.nil_append] at this) (fun y hy => by
              rcases List.mem_append.1 hy with hy | hy
              · rcases List.mem_append.1 hy with hy | hy
                · exact (H2.out.it y (List.mem_of_mem_take hy)).ext HY7.out
                · rw [List.mem_singleton] at hy
                  subst hy
                  have := OF7.out.sl
                  rw [List.nil_append] at this
                  exact this
              · exact (H2.out.it y (List.mem_of_mem_drop hy)).ext HY7.out))
            go_wp2
            go_ret
            exact ⟨k, HA.out, HKN.out, rfl, _, _, _, _, rfl, rfl, HFin.out.1, (Chg.of hx2.out).trans HFin.out.2 (fun _ _ h => h), (fun ad e => Nat.le_trans hx2.out.size (HO7.out.lt ad e).1), (fun ad e => Nat.le_trans hx2.out.size (HOf.out.lt ad e).1)⟩
          · skip
            go_simp
            refine hK.out _ _ ?_ (fun hH => ?_)
            focus (intro _; (try dsimp only); exact Ext.keep (W := w2) (by (repeat (first | exact Ext.refl _ | refine Ext.alloc ?_ _ | refine Ext.drewN ?_ _ | refine Ext.drew ?_ | refine Ext.trans ?_ (Hid.out (by assumption))))) c0)
            clear hK K hHeld
            have hHeld := hH (by decide)
            clear hH
            (try dsimp only) <;> (try simp only [Act.put, List.setIfInBounds_toArray, List.set_cons_zero, List.set_cons_succ])
            have OFb := hid (show Own _ w2.heap.size 54 5 T.cs (some ⟨w2.heap.size + 1, 0, none⟩) 0 0 [] from (Own.empty (w := (w2.drew.alloc (.cells #[] 74)).alloc (.cells #[] 54)) (by (repeat (first | (refine heap_new ?_; (simp; done)) | refine heap_old (by first | (simp; done) | (simp; omega)) ?_))) (by first | (simp; done) | (simp; omega)) T.wid))
            refine heldX_ready (rs := [8]) (by kernel_rfl) (by simp) ?_
            refine eachX_cons rfl (fun K hK => ?_) eachX_nil
            (refine stepOn (c := ItemV.cs) (ys0 := []) (ys := ys.take k) rfl (.tmp 28) (.tmp 34) 27 74 rfl i0 _ 32 Try.underlying27 I1.out I2.out I3.out I4.out rfl (by decide) rfl w2 (by (repeat (first | exact Ext.refl _ | refine Ext.alloc ?_ _ | refine Ext.drewN ?_ _ | refine Ext.drew ?_ | refine Ext.trans ?_ (Hid.out (by assumption))))) (Own.empty (by (repeat (first | (refine heap_new ?_; (simp; done)) | refine heap_old (by first | (simp; done) | (simp; omega)) ?_))) (by first | (simp; done) | (simp; omega)) ItemV.wid) rfl ((H2.out.sl.take k (by omega)).ext (by (repeat (first | exact Ext.refl _ | refine Ext.alloc ?_ _ | refine Ext.drewN ?_ _ | refine Ext.drew ?_ | refine Ext.trans ?_ (Hid.out (by assumption)))))) ItemV.one (by omega) (by decide) ?_; intro bb5 nn5 cap5 v5 hn5 hown5 hy5 hg5; have HN5 := hid hn5; have HO5 := hid hown5; have HY5 := hid hy5; have HG5 := hid hg5; clear hn5 hown5 hy5 hg5)
            refine put_to (d := some 35) rfl ?_
            refine hK.out _ _ ?_ (fun hH => ?_)
            focus (intro _; (try dsimp only); exact Ext.keep (W := w2) (by (repeat (first | exact Ext.refl _ | refine Ext.alloc ?_ _ | refine Ext.drewN ?_ _ | refine Ext.drew ?_ | refine Ext.trans ?_ (Hid.out (by assumption))))) c0)
            clear hK K hHeld
            have hHeld := hH (by decide)
            clear hH
            (try dsimp only) <;> (try simp only [Act.put, List.setIfInBounds_toArray, List.set_cons_zero, List.set_cons_succ])
            have OF5 := hid (own_grown OFb.out (Own.empty (base := w2.heap.size) (e := 74) (by (repeat (first | (refine heap_new ?_; (simp; done)) | refine heap_old (by first | (simp; done) | (simp; omega)) ?_))) (by first | (simp; done) | (simp; omega)) ItemV.wid) (by decide) HG5.out)
            refine heldX_ready (rs := [12]) (by kernel_rfl) (by simp) ?_
            refine eachX_cons rfl (fun K hK => ?_) eachX_nil
            (refine stepOn (c := T.cs) (ys0 := []) (ys := ts) rfl (.tmp 37) (.tmp 38) 32 54 rfl j0 _ 56 Try.underlying32 J1.out J2.out J3.out J4.out rfl (by decide) rfl w2 (by (repeat (first | exact Ext.refl _ | refine Ext.alloc ?_ _ | refine Ext.drewN ?_ _ | refine Ext.drew ?_ | refine Ext.trans ?_ (Hid.out (by assumption))))) (OF5.out) rfl (HS.out.ext (Ext.trans hx2.out (by (repeat (first | exact Ext.refl _ | refine Ext.alloc ?_ _ | refine Ext.drewN ?_ _ | refine Ext.drew ?_ | refine Ext.trans ?_ (Hid.out (by assumption))))))) T.one (by omega) (by decide) ?_; intro bbf nnf capf vf hnf hownf hyf hgf; have HNf := hid hnf; have HOf := hid hownf; have HYf := hid hyf; have HGf := hid hgf; clear hnf hownf hyf hgf)
            have OIf := hid (own_grown (HO5.out) (OF5.out) (by decide) HGf.out)
            refine put_to (d := some 39) rfl ?_
            refine hK.out _ _ ?_ (fun hH => ?_)
            focus (intro _; (try dsimp only); exact Ext.keep (W := w2) (by (repeat (first | exact Ext.refl _ | refine Ext.alloc ?_ _ | refine Ext.drewN ?_ _ | refine Ext.drew ?_ | refine Ext.trans ?_ (Hid.out (by assumption))))) c0)
            clear hK K hHeld
            have hHeld := hH (by decide)
            clear hH
            (try dsimp only) <;> (try simp only [Act.put, List.setIfInBounds_toArray, List.set_cons_zero, List.set_cons_succ])
            (refine hTakeX 13 (some 40) (v := ?_) (by kernel_rfl) (by kernel_rfl) (by kernel_rfl) (by kernel_rfl) (fun _ _ _ h => h) ⟨_, rfl, rfl, Or.inl ⟨by rfl, ?_⟩⟩ hHeld ?_; rotate_left; (focus (intro w hSw; (try dsimp only at hSw); go_simp; (first | done | with_reducible rfl))); (try simp only [Act.put, List.setIfInBounds_toArray, List.set_cons_zero, List.set_cons_succ]))
            refine heldX_ready (rs := [14]) (by kernel_rfl) (by simp) ?_
            refine eachX_cons rfl (fun K hK => ?_) eachX_nil
            go_simp
            refine hK.out _ _ ?_ (fun hH => ?_)
            focus (intro _; (try dsimp only); exact Ext.keep (W := w2) (by (repeat (first | exact Ext.refl _ | refine Ext.alloc ?_ _ | refine Ext.drewN ?_ _ | refine Ext.drew ?_ | refine Ext.trans ?_ (Hid.out (by assumption))))) c0)
            clear hK K hHeld
            have hHeld := hH (by decide)
            clear hH
            (try dsimp only) <;> (try simp only [Act.put, List.setIfInBounds_toArray, List.set_cons_zero, List.set_cons_succ])
            refine heldX_ready (rs := [15]) (by kernel_rfl) (by simp) ?_
            refine eachX_cons rfl (fun K hK => ?_) eachX_nil
            (refine stepOn (c := ItemV.cs) (ys0 := [] ++ ys.take k) (ys := [⟨id, ⟨bbf, nnf, capf⟩, ts⟩]) rfl (.tmp 35) (.tmp 41) 27 74 rfl i0 _ 32 Try.underlying27 I1.out I2.out I3.out I4.out rfl (by decide) rfl w2 (by (repeat (first | exact Ext.refl _ | refine Ext.alloc ?_ _ | refine Ext.drewN ?_ _ | refine Ext.drew ?_ | refine Ext.trans ?_ (Hid.out (by assumption))))) (OIf.out.ext (by (repeat (first | exact Ext.refl _ | refine Ext.alloc ?_ _ | refine Ext.drewN ?_ _ | refine Ext.drew ?_ | refine Ext.trans ?_ (Hid.out (by assumption)))))) rfl (sl_ofBlock8 [⟨id, ⟨bbf, nnf, capf⟩, ts⟩] ItemV.wid rfl (by simp) (heap_alloc_new _ _) rfl) ItemV.one (by (have := HN5.out; omega)) (by decide) ?_; intro bb6 nn6 cap6 v6 hn6 hown6 hy6 hg6; have HN6 := hid hn6; have HO6 := hid hown6; have HY6 := hid hy6; have HG6 := hid hg6; clear hn6 hown6 hy6 hg6)
            have OF6 := hid (own_grown (HOf.out.ext (by (repeat (first | exact Ext.refl _ | refine Ext.alloc ?_ _ | refine Ext.drewN ?_ _ | refine Ext.drew ?_ | refine Ext.trans ?_ (Hid.out (by assumption)))))) (OIf.out.ext (by (repeat (first | exact Ext.refl _ | refine Ext.alloc ?_ _ | refine Ext.drewN ?_ _ | refine Ext.drew ?_ | refine Ext.trans ?_ (Hid.out (by assumption)))))) (by decide) HG6.out)
            refine put_to (d := some 42) rfl ?_
            refine hK.out _ _ ?_ (fun hH => ?_)
            focus (intro _; (try dsimp only); exact Ext.keep (W := w2) (by (repeat (first | exact Ext.refl _ | refine Ext.alloc ?_ _ | refine Ext.drewN ?_ _ | refine Ext.drew ?_ | refine Ext.trans ?_ (Hid.out (by assumption))))) c0)
            clear hK K hHeld
            have hHeld := hH (by decide)
            clear hH
            (try dsimp only) <;> (try simp only [Act.put, List.setIfInBounds_toArray, List.set_cons_zero, List.set_cons_succ])
            refine heldX_ready (rs := [22]) (by kernel_rfl) (by simp) ?_
            refine eachX_cons rfl (fun K hK => ?_) eachX_nil
            (refine stepOn (c := ItemV.cs) (ys0 := [] ++ ys.take k ++ [⟨id, ⟨bbf, nnf, capf⟩, ts⟩]) (ys := ys.drop k) rfl (.tmp 42) (.tmp 48) 27 74 rfl i0 _ 32 Try.underlying27 I1.out I2.out I3.out I4.out rfl (by decide) rfl w2 (by (repeat (first | exact Ext.refl _ | refine Ext.alloc ?_ _ | refine Ext.drewN ?_ _ | refine Ext.drew ?_ | refine Ext.trans ?_ (Hid.out (by assumption))))) (HO6.out.ext (by (repeat (first | exact Ext.refl _ | refine Ext.alloc ?_ _ | refine Ext.drewN ?_ _ | refine Ext.drew ?_ | refine Ext.trans ?_ (Hid.out (by assumption)))))) rfl ((H2.out.sl.drop k hkn).ext (by (repeat (first | exact Ext.refl _ | refine Ext.alloc ?_ _ | refine Ext.drewN ?_ _ | refine Ext.drew ?_ | refine Ext.trans ?_ (Hid.out (by assumption)))))) ItemV.one (by (have := HN5.out; have := HN6.out; omega)) (by decide) ?_; intro bb7 nn7 cap7 v7 hn7 hown7 hy7 hg7; have HN7 := hid hn7; have HO7 := hid hown7; have HY7 := hid hy7; have HG7 := hid hg7; clear hn7 hown7 hy7 hg7)
            have OF7 := hid (own_grown OF6.out HO6.out (by decide) HG7.out)
            refine put_to (d := some 49) rfl ?_
            refine hK.out _ _ ?_ (fun hH => ?_)
            focus (intro _; (try dsimp only); exact Ext.keep (W := w2) (by (repeat (first | exact Ext.refl _ | refine Ext.alloc ?_ _ | refine Ext.drewN ?_ _ | refine Ext.drew ?_ | refine Ext.trans ?_ (Hid.out (by assumption))))) c0)
            clear hK K hHeld
            have hHeld := hH (by decide)
            clear hH
            (try dsimp only) <;> (try simp only [Act.put, List.setIfInBounds_toArray, List.set_cons_zero, List.set_cons_succ])
            refine heldX_ready (rs := [23]) (by kernel_rfl) (by simp) ?_
            refine eachX_cons rfl (fun K hK => ?_) eachX_nil
            go_simp
            refine hK.out _ _ ?_ (fun hH => ?_)
            focus (intro _; (try dsimp only); exact Ext.keep (W := w2) (by (repeat (first | exact Ext.refl _ | refine Ext.alloc ?_ _ | refine Ext.drewN ?_ _ | refine Ext.drew ?_ | refine Ext.trans ?_ (Hid.out (by assumption))))) c0)
            clear hK K hHeld
            have hHeld := hH (by decide)
            clear hH
            (try dsimp only) <;> (try simp only [Act.put, List.setIfInBounds_toArray, List.set_cons_zero, List.set_cons_succ])
            refine heldX_ready (rs := [24]) (by kernel_rfl) (by simp) ?_
            refine eachX_cons rfl (fun K hK => ?_) eachX_nil
            go_simp
            refine hK.out _ _ ?_ (fun hH => ?_)
            focus (intro _; (try dsimp only); exact Ext.keep (W := w2) (by (repeat (first | exact Ext.refl _ | refine Ext.alloc ?_ _ | refine Ext.drewN ?_ _ | refine Ext.drew ?_ | refine Ext.trans ?_ (Hid.out (by assumption))))) c0)
            clear hK K hHeld
            have hHeld := hH (by decide)
            clear hH
            (try dsimp only) <;> (try simp only [Act.put, List.setIfInBounds_toArray, List.set_cons_zero, List.set_cons_succ])
            have c8 := HY7.out.keep c0
            have f8 := (H2.out.ext HY7.out).free
            refine heldX_ready (rs := [25]) (by kernel_rfl) (by simp) ?_
            refine eachX_cons rfl (fun K hK => ?_) eachX_nil
            go_simp
            refine hK.out _ _ (fun h => absurd rfl h) (fun _ => ?_)
            clear hK K
            (try dsimp only) <;> (try simp only [Act.put, List.setIfInBounds_toArray, List.set_cons_zero, List.set_cons_succ])
            refine heldX_done (by kernel_rfl) ?_ _
            have HFin := hid (H2.out.store HY7.out (zs := ys.take k ++ [⟨id, ⟨bbf, nnf, capf⟩, ts⟩] ++ ys.drop k) (by have := HO7.out; rwa [List.nil_append] at this) (fun y hy => by
              rcases List.mem_append.1 hy with hy | hy
              · rcases List.mem_append.1 hy with hy | hy
                · exact (H2.out.it y (List.mem_of_mem_take hy)).ext HY7.out
                · rw [List.mem_singleton] at hy
                  subst hy
                  have := OF7.out.sl
                  rw [List.nil_append] at this
                  exact this
              · exact (H2.out.it y (List.mem_of_mem_drop hy)).ext HY7.out))
            go_wp2
            go_ret
            exact ⟨k, HA.out, HKN.out, rfl, _, _, _, _, rfl, rfl, HFin.out.1, (Chg.of hx2.out).trans HFin.out.2 (fun _ _ h => h), (fun ad e => Nat.le_trans hx2.out.size (HO7.out.lt ad e).1), (fun ad e => Nat.le_trans hx2.out.size (HOf.out.lt ad e).1)⟩
        · skip
          go_simp
          refine hK.out _ _ ?_ (fun hH => ?_)
          focus (intro _; (try dsimp only); exact Ext.keep (W := w2) (by (repeat (first | exact Ext.refl _ | refine Ext.alloc ?_ _ | refine Ext.drewN ?_ _ | refine Ext.drew ?_ | refine Ext.trans ?_ (Hid.out (by assumption))))) c0)
          clear hK K hHeld
          have hHeld := hH (by decide)
          clear hH
          (try dsimp only) <;> (try simp only [Act.put, List.setIfInBounds_toArray, List.set_cons_zero, List.set_cons_succ])
          refine heldX_ready (rs := [1]) (by kernel_rfl) (by simp) ?_
          refine eachX_cons rfl (fun K hK => ?_) eachX_nil
          go_simp
          refine hK.out _ _ ?_ (fun hH => ?_)
          focus (intro _; (try dsimp only); exact Ext.keep (W := w2) (by (repeat (first | exact Ext.refl _ | refine Ext.alloc ?_ _ | refine Ext.drewN ?_ _ | refine Ext.drew ?_ | refine Ext.trans ?_ (Hid.out (by assumption))))) c0)
          clear hK K hHeld
          have hHeld := hH (by decide)
          clear hH
          (try dsimp only) <;> (try simp only [Act.put, List.setIfInBounds_toArray, List.set_cons_zero, List.set_cons_succ])
          have OFb := hid (show Own _ w2.heap.size 54 5 T.cs (some ⟨w2.heap.size, 0, none⟩) 0 0 [] from (Own.empty (w := (w2.drew.alloc (.cells #[] 54)).alloc (.cells #[] 74)) (by (repeat (first | (refine heap_new ?_; (simp; done)) | refine heap_old (by first | (simp; done) | (simp; omega)) ?_))) (by first | (simp; done) | (simp; omega)) T.wid))
          refine heldX_ready (rs := [8]) (by kernel_rfl) (by simp) ?_
          refine eachX_cons rfl (fun K hK => ?_) eachX_nil
          (refine stepOn (c := ItemV.cs) (ys0 := []) (ys := ys.take k) rfl (.tmp 28) (.tmp 34) 27 74 rfl i0 _ 32 Try.underlying27 I1.out I2.out I3.out I4.out rfl (by decide) rfl w2 (by (repeat (first | exact Ext.refl _ | refine Ext.alloc ?_ _ | refine Ext.drewN ?_ _ | refine Ext.drew ?_ | refine Ext.trans ?_ (Hid.out (by assumption))))) (Own.empty (by (repeat (first | (refine heap_new ?_; (simp; done)) | refine heap_old (by first | (simp; done) | (simp; omega)) ?_))) (by first | (simp; done) | (simp; omega)) ItemV.wid) rfl ((H2.out.sl.take k (by omega)).ext (by (repeat (first | exact Ext.refl _ | refine Ext.alloc ?_ _ | refine Ext.drewN ?_ _ | refine Ext.drew ?_ | refine Ext.trans ?_ (Hid.out (by assumption)))))) ItemV.one (by omega) (by decide) ?_; intro bb5 nn5 cap5 v5 hn5 hown5 hy5 hg5; have HN5 := hid hn5; have HO5 := hid hown5; have HY5 := hid hy5; have HG5 := hid hg5; clear hn5 hown5 hy5 hg5)
          refine put_to (d := some 35) rfl ?_
          refine hK.out _ _ ?_ (fun hH => ?_)
          focus (intro _; (try dsimp only); exact Ext.keep (W := w2) (by (repeat (first | exact Ext.refl _ | refine Ext.alloc ?_ _ | refine Ext.drewN ?_ _ | refine Ext.drew ?_ | refine Ext.trans ?_ (Hid.out (by assumption))))) c0)
          clear hK K hHeld
          have hHeld := hH (by decide)
          clear hH
          (try dsimp only) <;> (try simp only [Act.put, List.setIfInBounds_toArray, List.set_cons_zero, List.set_cons_succ])
          have OF5 := hid (own_grown OFb.out (Own.empty (base := w2.heap.size) (e := 74) (by (repeat (first | (refine heap_new ?_; (simp; done)) | refine heap_old (by first | (simp; done) | (simp; omega)) ?_))) (by first | (simp; done) | (simp; omega)) ItemV.wid) (by decide) HG5.out)
          refine heldX_ready (rs := [12]) (by kernel_rfl) (by simp) ?_
          refine eachX_cons rfl (fun K hK => ?_) eachX_nil
          (refine stepOn (c := T.cs) (ys0 := []) (ys := ts) rfl (.tmp 37) (.tmp 38) 32 54 rfl j0 _ 56 Try.underlying32 J1.out J2.out J3.out J4.out rfl (by decide) rfl w2 (by (repeat (first | exact Ext.refl _ | refine Ext.alloc ?_ _ | refine Ext.drewN ?_ _ | refine Ext.drew ?_ | refine Ext.trans ?_ (Hid.out (by assumption))))) (OF5.out) rfl (HS.out.ext (Ext.trans hx2.out (by (repeat (first | exact Ext.refl _ | refine Ext.alloc ?_ _ | refine Ext.drewN ?_ _ | refine Ext.drew ?_ | refine Ext.trans ?_ (Hid.out (by assumption))))))) T.one (by omega) (by decide) ?_; intro bbf nnf capf vf hnf hownf hyf hgf; have HNf := hid hnf; have HOf := hid hownf; have HYf := hid hyf; have HGf := hid hgf; clear hnf hownf hyf hgf)
          have OIf := hid (own_grown (HO5.out) (OF5.out) (by decide) HGf.out)
          refine put_to (d := some 39) rfl ?_
          refine hK.out _ _ ?_ (fun hH => ?_)
          focus (intro _; (try dsimp only); exact Ext.keep (W := w2) (by (repeat (first | exact Ext.refl _ | refine Ext.alloc ?_ _ | refine Ext.drewN ?_ _ | refine Ext.drew ?_ | refine Ext.trans ?_ (Hid.out (by assumption))))) c0)
          clear hK K hHeld
          have hHeld := hH (by decide)
          clear hH
          (try dsimp only) <;> (try simp only [Act.put, List.setIfInBounds_toArray, List.set_cons_zero, List.set_cons_succ])
          (refine hTakeX 13 (some 40) (v := ?_) (by kernel_rfl) (by kernel_rfl) (by kernel_rfl) (by kernel_rfl) (fun _ _ _ h => h) ⟨_, rfl, rfl, Or.inl ⟨by rfl, ?_⟩⟩ hHeld ?_; rotate_left; (focus (intro w hSw; (try dsimp only at hSw); go_simp; (first | done | with_reducible rfl))); (try simp only [Act.put, List.setIfInBounds_toArray, List.set_cons_zero, List.set_cons_succ]))
          refine heldX_ready (rs := [14]) (by kernel_rfl) (by simp) ?_
          refine eachX_cons rfl (fun K hK => ?_) eachX_nil
          go_simp
          refine hK.out _ _ ?_ (fun hH => ?_)
          focus (intro _; (try dsimp only); exact Ext.keep (W := w2) (by (repeat (first | exact Ext.refl _ | refine Ext.alloc ?_ _ | refine Ext.drewN ?_ _ | refine Ext.drew ?_ | refine Ext.trans ?_ (Hid.out (by assumption))))) c0)
          clear hK K hHeld
          have hHeld := hH (by decide)
          clear hH
          (try dsimp only) <;> (try simp only [Act.put, List.setIfInBounds_toArray, List.set_cons_zero, List.set_cons_succ])
          refine heldX_ready (rs := [15]) (by kernel_rfl) (by simp) ?_
          refine eachX_cons rfl (fun K hK => ?_) eachX_nil
          (refine stepOn (c := ItemV.cs) (ys0 := [] ++ ys.take k) (ys := [⟨id, ⟨bbf, nnf, capf⟩, ts⟩]) rfl (.tmp 35) (.tmp 41) 27 74 rfl i0 _ 32 Try.underlying27 I1.out I2.out I3.out I4.out rfl (by decide) rfl w2 (by (repeat (first | exact Ext.refl _ | refine Ext.alloc ?_ _ | refine Ext.drewN ?_ _ | refine Ext.drew ?_ | refine Ext.trans ?_ (Hid.out (by assumption))))) (OIf.out.ext (by (repeat (first | exact Ext.refl _ | refine Ext.alloc ?_ _ | refine Ext.drewN ?_ _ | refine Ext.drew ?_ | refine Ext.trans ?_ (Hid.out (by assumption)))))) rfl (sl_ofBlock8 [⟨id, ⟨bbf, nnf, capf⟩, ts⟩] ItemV.wid rfl (by simp) (heap_alloc_new _ _) rfl) ItemV.one (by (have := HN5.out; omega)) (by decide) ?_; intro bb6 nn6 cap6 v6 hn6 hown6 hy6 hg6; have HN6 := hid hn6; have HO6 := hid hown6; have HY6 := hid hy6; have HG6 := hid hg6; clear hn6 hown6 hy6 hg6)
          have OF6 := hid (own_grown (HOf.out.ext (by (repeat (first | exact Ext.refl _ | refine Ext.alloc ?_ _ | refine Ext.drewN ?_ _ | refine Ext.drew ?_ | refine Ext.trans ?_ (Hid.out (by assumption)))))) (OIf.out.ext (by (repeat (first | exact Ext.refl _ | refine Ext.alloc ?_ _ | refine Ext.drewN ?_ _ | refine Ext.drew ?_ | refine Ext.trans ?_ (Hid.out (by assumption)))))) (by decide) HG6.out)
          refine put_to (d := some 42) rfl ?_
          refine hK.out _ _ ?_ (fun hH => ?_)
          focus (intro _; (try dsimp only); exact Ext.keep (W := w2) (by (repeat (first | exact Ext.refl _ | refine Ext.alloc ?_ _ | refine Ext.drewN ?_ _ | refine Ext.drew ?_ | refine Ext.trans ?_ (Hid.out (by assumption))))) c0)
          clear hK K hHeld
          have hHeld := hH (by decide)
          clear hH
          (try dsimp only) <;> (try simp only [Act.put, List.setIfInBounds_toArray, List.set_cons_zero, List.set_cons_succ])
          refine heldX_ready (rs := [22]) (by kernel_rfl) (by simp) ?_
          refine eachX_cons rfl (fun K hK => ?_) eachX_nil
          (refine stepOn (c := ItemV.cs) (ys0 := [] ++ ys.take k ++ [⟨id, ⟨bbf, nnf, capf⟩, ts⟩]) (ys := ys.drop k) rfl (.tmp 42) (.tmp 48) 27 74 rfl i0 _ 32 Try.underlying27 I1.out I2.out I3.out I4.out rfl (by decide) rfl w2 (by (repeat (first | exact Ext.refl _ | refine Ext.alloc ?_ _ | refine Ext.drewN ?_ _ | refine Ext.drew ?_ | refine Ext.trans ?_ (Hid.out (by assumption))))) (HO6.out.ext (by (repeat (first | exact Ext.refl _ | refine Ext.alloc ?_ _ | refine Ext.drewN ?_ _ | refine Ext.drew ?_ | refine Ext.trans ?_ (Hid.out (by assumption)))))) rfl ((H2.out.sl.drop k hkn).ext (by (repeat (first | exact Ext.refl _ | refine Ext.alloc ?_ _ | refine Ext.drewN ?_ _ | refine Ext.drew ?_ | refine Ext.trans ?_ (Hid.out (by assumption)))))) ItemV.one (by (have := HN5.out; have := HN6.out; omega)) (by decide) ?_; intro bb7 nn7 cap7 v7 hn7 hown7 hy7 hg7; have HN7 := hid hn7; have HO7 := hid hown7; have HY7 := hid hy7; have HG7 := hid hg7; clear hn7 hown7 hy7 hg7)
          have OF7 := hid (own_grown OF6.out HO6.out (by decide) HG7.out)
          refine put_to (d := some 49) rfl ?_
          refine hK.out _ _ ?_ (fun hH => ?_)
          focus (intro _; (try dsimp only); exact Ext.keep (W := w2) (by (repeat (first | exact Ext.refl _ | refine Ext.alloc ?_ _ | refine Ext.drewN ?_ _ | refine Ext.drew ?_ | refine Ext.trans ?_ (Hid.out (by assumption))))) c0)
          clear hK K hHeld
          have hHeld := hH (by decide)
          clear hH
          (try dsimp only) <;> (try simp only [Act.put, List.setIfInBounds_toArray, List.set_cons_zero, List.set_cons_succ])
          refine heldX_ready (rs := [23]) (by kernel_rfl) (by simp) ?_
          refine eachX_cons rfl (fun K hK => ?_) eachX_nil
          go_simp
          refine hK.out _ _ ?_ (fun hH => ?_)
          focus (intro _; (try dsimp only); exact Ext.keep (W := w2) (by (repeat (first | exact Ext.refl _ | refine Ext.alloc ?_ _ | refine Ext.drewN ?_ _ | refine Ext.drew ?_ | refine Ext.trans ?_ (Hid.out (by assumption))))) c0)
          clear hK K hHeld
          have hHeld := hH (by decide)
          clear hH
          (try dsimp only) <;> (try simp only [Act.put, List.setIfInBounds_toArray, List.set_cons_zero, List.set_cons_succ])
          refine heldX_ready (rs := [24]) (by kernel_rfl) (by simp) ?_
          refine eachX_cons rfl (fun K hK => ?_) eachX_nil
          go_simp
          refine hK.out _ _ ?_ (fun hH => ?_)
          focus (intro _; (try dsimp only); exact Ext.keep (W := w2) (by (repeat (first | exact Ext.refl _ | refine Ext.alloc ?_ _ | refine Ext.drewN ?_ _ | refine Ext.drew ?_ | refine Ext.trans ?_ (Hid.out (by assumption))))) c0)
          clear hK K hHeld
          have hHeld := hH (by decide)
          clear hH
          (try dsimp only) <;> (try simp only [Act.put, List.setIfInBounds_toArray, List.set_cons_zero, List.set_cons_succ])
          have c8 := HY7.out.keep c0
          have f8 := (H2.out.ext HY7.out).free
          refine heldX_ready (rs := [25]) (by kernel_rfl) (by simp) ?_
          refine eachX_cons rfl (fun K hK => ?_) eachX_nil
          go_simp
          refine hK.out _ _ (fun h => absurd rfl h) (fun _ => ?_)
          clear hK K
          (try dsimp only) <;> (try simp only [Act.put, List.setIfInBounds_toArray, List.set_cons_zero, List.set_cons_succ])
          refine heldX_done (by kernel_rfl) ?_ _
          have HFin := hid (H2.out.store HY7.out (zs := ys.take k ++ [⟨id, ⟨bbf, nnf, capf⟩, ts⟩] ++ ys.drop k) (by have := HO7.out; rwa [List.nil_append] at this) (fun y hy => by
            rcases List.mem_append.1 hy with hy | hy
            · rcases List.mem_append.1 hy with hy | hy
              · exact (H2.out.it y (List.mem_of_mem_take hy)).ext HY7.out
              · rw [List.mem_singleton] at hy
                subst hy
                have := OF7.out.sl
                rw [List.nil_append] at this
                exact this
            · exact (H2.out.it y (List.mem_of_mem_drop hy)).ext HY7.out))
          go_wp2
          go_ret
          exact ⟨k, HA.out, HKN.out, rfl, _, _, _, _, rfl, rfl, HFin.out.1, (Chg.of hx2.out).trans HFin.out.2 (fun _ _ h => h), (fun ad e => Nat.le_trans hx2.out.size (HO7.out.lt ad e).1), (fun ad e => Nat.le_trans hx2.out.size (HOf.out.lt ad e).1)⟩
end Go.Proofs.Ytjggjkmafcokjaa
