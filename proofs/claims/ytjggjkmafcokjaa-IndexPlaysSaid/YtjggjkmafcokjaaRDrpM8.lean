/- A slice of a slice. -/
import Derived.Test.YtjggjkmafcokjaaRedM8
import Derived.Test.YtjggjkmafcokjaaHeld
import Derived.Test.YtjggjkmafcokjaaRIxM8
import Derived.Test.YtjggjkmafcokjaaStep
set_option linter.unusedVariables false
set_option linter.unusedSimpArgs false
namespace Go.Proofs.Ytjggjkmafcokjaa
open Go.RowKit

theorem Sl.take {α : Type} {w : World} {sz : Nat} {c : α → List Value} {a : Option Addr} {n cap : Nat} {xs : List α} (h : Sl w sz c a n cap xs) (k : Nat) (hk : k ≤ n) : Sl w sz c a k cap (xs.take k) :=
  ⟨by rw [List.length_take]; have := h.neq; omega, Nat.le_trans hk h.len, h.max, h.none, h.wid, fun j x hj => by
    rw [List.getElem?_take] at hj
    split at hj
    · exact h.at_ j x hj
    · cases hj⟩
theorem Sl.drop {α : Type} {w : World} {sz : Nat} {c : α → List Value} {b o n cap : Nat} {xs : List α} (h : Sl w sz c (some ⟨b, o, .none⟩) n cap xs) (k : Nat) (hk : k ≤ n) : Sl w sz c (some ⟨b, o + k * sz, .none⟩) (n - k) (cap - k) (xs.drop k) :=
  ⟨by rw [List.length_drop]; have := h.neq; omega, by have := h.len; omega, by have := h.max; omega, (fun h => by cases h), h.wid, fun j x hj => by
    rw [List.getElem?_drop] at hj
    obtain ⟨b', o', he, hc⟩ := h.at_ _ x hj
    simp only [Option.some.injEq, Addr.mk.injEq, and_true] at he
    obtain ⟨rfl, rfl⟩ := he
    exact ⟨_, _, rfl, by rw [show o + k * sz + j * sz = o + (k + j) * sz from by rw [Nat.add_mul]; omega]; exact hc⟩⟩
theorem Sl.drop1 {α : Type} {w : World} {c : α → List Value} {b o n cap : Nat} {xs : List α} (h : Sl w 1 c (some ⟨b, o, .none⟩) n cap xs) (k : Nat) (hk : k ≤ n) : Sl w 1 c (some ⟨b, o + k, .none⟩) (n - k) (cap - k) (xs.drop k) := by
  have := h.drop k hk
  rw [Nat.mul_one] at this
  exact this
theorem Sl.none_of {α : Type} {w : World} {sz : Nat} {c : α → List Value} {b o cap : Nat} (hw : ∀ x, (c x).length = sz) (hm : cap ≤ maxLen) : Sl w sz c (some ⟨b, o, .none⟩) 0 cap ([] : List α) :=
  ⟨rfl, Nat.zero_le _, hm, (fun h => by cases h), hw, fun k x hk => by cases hk⟩
theorem Flts.drop {w : World} {b o n c : Nat} {xs : List FV} (h : Flts w (some ⟨b, o, none⟩) n c xs) (k : Nat) (hk : k ≤ n) : Flts w (some ⟨b, o + k, none⟩) (n - k) (c - k) (xs.drop k) :=
  ⟨by have := h.sl.drop k hk; rw [Nat.mul_one] at this; exact this, fun x hx => h.ts x (List.mem_of_mem_drop hx)⟩
theorem Flts.take {w : World} {a : Option Addr} {n c : Nat} {xs : List FV} (h : Flts w a n c xs) (k : Nat) (hk : k ≤ n) : Flts w a k c (xs.take k) := ⟨h.sl.take k hk, fun x hx => h.ts x (List.mem_of_mem_take hx)⟩
theorem Flts.nil (w : World) : Flts w none 0 0 [] := ⟨Sl.nil _ FV.wid, fun x hx => by cases hx⟩
theorem Flts.none_of {w : World} {b o cap : Nat} (hm : cap ≤ maxLen) : Flts w (some ⟨b, o, none⟩) 0 cap [] := ⟨Sl.none_of FV.wid hm, fun x hx => by cases hx⟩
end Go.Proofs.Ytjggjkmafcokjaa

namespace Go.Proofs.Ytjggjkmafcokjaa

section
variable {P : Program} {ops : Array Oper} {Q : Exit → Act → World → Prop} {md : Region.Mode} {S : World → Prop} {L : Nat}
/-- In whatever order from here on; behind each operation but number L the condition holds. -/
def heldX (P : Program) (md : Region.Mode) (ops : Array Oper) (Q : Exit → Act → World → Prop) (S : World → Prop) (L : Nat) : Nat → Array Bool → Act → World → Prop
  | 0, l, a, w => Region.ready md ops l = [] ∧ Q .normal a w
  | n + 1, l, a, w => (Region.ready md ops l = [] → Q .normal a w) ∧ ∀ i ∈ Region.ready md ops l, wpOp P ops Q i (fun a' w' => (i ≠ L → S w') ∧ heldX P md ops Q S L n (l.setIfInBounds i true) a' w') a w
theorem heldX_any : ∀ (n : Nat) (l : Array Bool) (a : Act) (w : World), heldX P md ops Q S L n l a w → wpAny P md ops Q n l a w
  | 0, _, _, _, h => h
  | n + 1, _, _, _, h => ⟨h.1, fun i hi => wpOp_mono (fun a' w' k => heldX_any n _ a' w' k.2) (h.2 i hi)⟩
/-- number L waits for number i -/
def waitsX (md : Region.Mode) (ops : Array Oper) (L i : Nat) : Bool :=
  match ops[L]? with
  | some o => o.after.any (fun e => Region.binds md e && e.on == i)
  | none => false
theorem unlisted_of {i : Nat} {l : Array Bool} (hr : i ∈ Region.ready md ops l) {e : Nat} (he : e = i) : ¬ l.getD e false = true := by
  subst he
  intro h
  have h0 := (mem_ready.1 hr).1
  rcases Nat.lt_or_ge e l.size with k | k
  · simp [k] at h h0
    rw [h0] at h; cases h
  · simp [Array.getElem?_eq_none k] at h
theorem heldX_first {i : Nat} {oi : Oper} {v : Value} (hi : ops[i]? = some oi) (hsel : ∀ (j : Nat) (o : Oper) cs b, ops[j]? = some o → o.op ≠ .select cs b)
    (hQ : ∀ c a w, Q (.panic c) (a.put oi.dst v) w → Q (.panic c) a w) (hL : waitsX md ops L i = true) :
    ∀ (n : Nat) (l : Array Bool) (a : Act) (w : World),
      (∀ j oj, ops[j]? = some oj → j ≠ i → l.getD j true = false → (∀ e ∈ oj.after, Region.binds md e = true → e.on ≠ i) → oi.apart ops oj = true) →
      i ∈ Region.ready md ops l → YieldsIf P ops S oi v a → S w →
      heldX P md ops Q S L n (l.setIfInBounds i true) (a.put oi.dst v) w → heldX P md ops Q S L (n + 1) l a w := by
  have hLi : ∀ (l : Array Bool) (j : Nat), i ∈ Region.ready md ops l → j ∈ Region.ready md ops l → j ≠ i → j ≠ L := fun l j hr hj _ e => by
    subst e
    obtain ⟨_, oj, hoj, hall⟩ := mem_ready.1 hj
    unfold waitsX at hL
    rw [hoj] at hL
    obtain ⟨e, he, hb⟩ := Array.any_eq_true'.1 hL
    rw [Bool.and_eq_true, beq_iff_eq] at hb
    exact unlisted_of hr hb.2 (hall e he hb.1)
  intro n
  induction n with
  | zero =>
    intro l a w _ hr hy hS H
    refine ⟨(fun h => by rw [h] at hr; cases hr), fun j hj => ?_⟩
    by_cases e : j = i
    · subst e; exact hy.wpOp hi hS ⟨fun _ => hS, H⟩
    · have := ready_mono hj e
      rw [H.1] at this
      cases this
  | succ n ih =>
    intro l a w hfree hr hy hS H
    refine ⟨(fun h => by rw [h] at hr; cases hr), fun j hj => ?_⟩
    by_cases e : j = i
    · subst e; exact hy.wpOp hi hS ⟨fun _ => hS, H⟩
    · obtain ⟨hun, oj, hoj, hall⟩ := mem_ready.1 hj
      have hno : ∀ e ∈ oj.after, Region.binds md e = true → e.on ≠ i := fun e he hb k => unlisted_of hr k (hall e he hb)
      have hstep := wpOp_putIf hoj (hfree j oj hoj e hun hno) (fun cs b => hsel i oi cs b hi) (fun cs b => hsel j oj cs b hoj) hQ hy (H.2 j (ready_mono hj e))
      have hjL := hLi l j hr hj e
      refine wpOp_mono (fun a' w' k => ⟨fun _ => k.2.1 hjL, ih (l.setIfInBounds j true) a' w' (fun m om hom hmi hmu hmn => ?_) (ready_mono hr (Ne.symm e)) k.1 (k.2.1 hjL) ?_⟩) hstep
      · refine hfree m om hom hmi ?_ hmn
        by_cases hjm : j = m
        · subst hjm; exact hun
        · rwa [getD_set_ne true hjm] at hmu
      · rw [Array.setIfInBounds_comm _ _ e]
        exact k.2.2
/-- Take number i first. -/
theorem hTakeX (i : Nat) (d : Option Tmp) {v : Value} {n : Nat} {l : Array Bool} {a : Act} {w : World}
    (hs : Region.noSelect ops = true) (hf : Region.free md ops l i = true) (hr : (Region.ready md ops l).contains i = true) (hL : waitsX md ops L i = true)
    (hQ : ∀ c a w, Q (.panic c) (a.put d v) w → Q (.panic c) a w) (hy : ∃ oi, ops[i]? = some oi ∧ oi.dst = d ∧ YieldsIf P ops S oi v a) (hS : S w)
    (h : heldX P md ops Q S L n (l.setIfInBounds i true) (a.put d v) w) : heldX P md ops Q S L (n + 1) l a w := by
  obtain ⟨oi, hi, rfl, hy⟩ := hy
  exact heldX_first hi (Region.noSelect_spec hs) hQ hL n l a w (Region.free_spec hi hf) (by simpa using hr) hy hS h
/-- Each of some comes up next. -/
def eachX (P : Program) (md : Region.Mode) (ops : Array Oper) (Q : Exit → Act → World → Prop) (S : World → Prop) (L n : Nat) (l : Array Bool) (a : Act) (w : World) (rs : List Nat) : Prop :=
  ∀ i ∈ rs, wpOp P ops Q i (fun a' w' => (i ≠ L → S w') ∧ heldX P md ops Q S L n (l.setIfInBounds i true) a' w') a w
theorem eachX_nil {n : Nat} {l : Array Bool} {a : Act} {w : World} : eachX P md ops Q S L n l a w [] := fun _ h => by cases h
theorem eachX_cons {n : Nat} {l : Array Bool} {a : Act} {w : World} {i : Nat} {o : Oper} {rs : List Nat} (ho : ops[i]? = some o)
    (h : ∀ K' : Act → World → Prop, Shut (∀ a w, (i ≠ L → S w) → ((i ≠ L → S w) → heldX P md ops Q S L n (l.setIfInBounds i true) a w) → K' a w) → if Region.wanted o (yielded ops a.tmps) = true then Oper.wp P o a w K' Q else K' (a.put o.dst undef) w)
    (hs : eachX P md ops Q S L n l a w rs) : eachX P md ops Q S L n l a w (i :: rs) := fun j hj => by
  rcases List.mem_cons.1 hj with rfl | hj
  · exact wpOp_step ho (fun K' hK => h K' (fun a w hS hW => hK a w ⟨hS, hW hS⟩))
  · exact hs j hj
theorem heldX_ready {rs : List Nat} {n : Nat} {l : Array Bool} {a : Act} {w : World} (hr : Region.ready md ops l = rs) (hne : rs ≠ [])
    (h : eachX P md ops Q S L n l a w rs) : heldX P md ops Q S L (n + 1) l a w := ⟨fun h0 => absurd (hr ▸ h0) hne, hr ▸ h⟩
theorem heldX_done {l : Array Bool} {a : Act} {w : World} (hr : Region.ready md ops l = []) (h : Q .normal a w) : ∀ n, heldX P md ops Q S L n l a w
  | 0 => ⟨hr, h⟩
  | _ + 1 => ⟨fun _ => h, by rw [hr]; simp⟩
theorem wp_region_heldX (L : Nat) {id : Nat} {a : Act} {w : World} (hm : P.follows .mixedOrders = true) (hS : S w.drew)
    (h : S w.drew → heldX P .any ops Q S L ops.size (Array.replicate ops.size false) a w.drew) : (Code.region id ops true).wp P Q a w :=
  wp_region_any hm (heldX_any _ _ _ _ (h hS))
end
end Go.Proofs.Ytjggjkmafcokjaa

namespace Go.Proofs.Ytjggjkmafcokjaa
open Go.RowKit

theorem infoI : (Try.prog.info? 74).map (fun i => (i.zero, i.size, i.bytes)) = some (some (.agg #[.int .u64 0, .slice none 0 0]), 2, 32) := by kernel_rfl
/-- what the document's Drop makes of its index -/
def RetRDrop (q : Nat) (ys : List ItemV) (k : Nat) (w : World) (e : Ending) (w' : World) : Prop :=
  e = .returned (.int .i64 0) ∧ ∃ a n c, RIx w' q a n c (ys.take k ++ ys.drop (k + 1)) ∧ Chg (only q) w w' ∧ (∀ ad, a = some ad → w.heap.size ≤ ad.block)
theorem row_ne {w : World} {q : Nat} {a : Option Addr} {n c : Nat} {ts : List T} {v : Option Addr} {m d : Nat} (h : Sl w 5 T.cs a n c ts) (hq : w.heap[q]? = some (.cells #[.slice v m d] 29 (0, 0))) {ad : Addr} (ha : a = some ad) (hne : ts ≠ []) : ad.block ≠ q := by
  intro e
  obtain ⟨x, l, rfl⟩ := List.exists_cons_of_ne_nil hne
  obtain ⟨b, o, hab, hcs⟩ := h.get 0 (by simp)
  obtain rfl : ad = ⟨b, o, .none⟩ := Option.some.inj (ha.symm.trans hab)
  have h0 := hcs 0 _ rfl
  dsimp only at e
  subst e
  simp only [World.cell?, hq, List.getElem_cons_zero] at h0
  rcases Nat.eq_zero_or_pos (o + 0 * 5 + 0) with k | k
  · rw [k] at h0; simp at h0
  · rw [Array.getElem?_eq_none (by simp; omega)] at h0
    cases h0
theorem own_form {α : Type} {w : World} {base : Nat} {e : TypeId} {sz : Nat} {c : α → List Value} {a : Option Addr} {n cap : Nat} {xs : List α} (h : Own w base e sz c a n cap xs) : ∀ ad, a = some ad → ∃ b o, ad = ⟨b, o, .none⟩ := fun ad ha => by
  subst ha
  rcases h.row.2 with ⟨hv, _⟩ | ⟨g, cp, cur, hv, _⟩
  · cases hv
  · simp only [Value.slice.injEq, Option.some.injEq] at hv
    exact ⟨g, 0, hv.1⟩
theorem own_type {α : Type} {w : World} {base : Nat} {e : TypeId} {sz : Nat} {c : α → List Value} {a : Option Addr} {n cap : Nat} {xs : List α} (h : Own w base e sz c a n cap xs) : ∀ ad, a = some ad → ∃ cur, w.heap[ad.block]? = some (.cells cur e (0, 0)) := fun ad ha => by
  subst ha
  rcases h.row.2 with ⟨hv, _⟩ | ⟨g, cp, cur, hv, _, hgg, _⟩
  · cases hv
  · simp only [Value.slice.injEq, Option.some.injEq] at hv
    obtain ⟨rfl, _, _⟩ := hv
    exact ⟨cur, hgg⟩
/-- a row of one's own stays where another one, of another type, grows -/
theorem own_grown {α β : Type} {w w' : World} {b1 b2 : Nat} {e1 e2 : TypeId} {s1 s2 : Nat} {c1 : α → List Value} {c2 : β → List Value} {a1 a2 : Option Addr} {n1 n2 cap1 cap2 : Nat} {xs : List α} {ys : List β}
    (h1 : Own w b1 e1 s1 c1 a1 n1 cap1 xs) (h2 : Own w b2 e2 s2 c2 a2 n2 cap2 ys) (hne : e1 ≠ e2) (hg : w.grownBy w' (Value.ownBlock (.slice a2 n2 cap2))) : Own w' b1 e1 s1 c1 a1 n1 cap1 xs :=
  h1.keep fun ad e => hg.block ad.block (h1.lt ad e).2 (fun k => by
    cases a2 with
    | none => cases k
    | some ad2 =>
      simp only [Value.ownBlock, Option.some.injEq] at k
      obtain ⟨cur1, h3⟩ := own_type h1 ad e
      obtain ⟨cur2, h4⟩ := own_type h2 ad2 rfl
      rw [k, h4] at h3
      simp only [Option.some.injEq, Obj.cells.injEq] at h3
      exact hne h3.2.1.symm)
theorem RIx.store {w1 w7 : World} {q : Nat} {a : Option Addr} {n c : Nat} {ys : List ItemV} (H : RIx w1 q a n c ys) (hx : Ext w1 w7) {b2 : Option Addr} {n2 cap2 : Nat} {zs : List ItemV} (hO : Own w7 w1.heap.size 74 2 ItemV.cs b2 n2 cap2 zs) (hit : ∀ y, y ∈ zs → Sl w7 5 T.cs y.f.a y.f.n y.f.c y.ts) :
    RIx (w7.setCell ⟨q, 0, none⟩ (.slice b2 n2 cap2)) q b2 n2 cap2 zs ∧ Chg (only q) w1 (w7.setCell ⟨q, 0, none⟩ (.slice b2 n2 cap2)) := by
  have H7 := H.ext hx
  have hq := H.lt
  refine ⟨⟨Lib.heap_setCell_same H7.hq _, (hO.keep fun ad e => ?_).sl, fun y hy => (hit y hy).blk fun ad e hne => Below.heap_setCell _ _ _ _ (row_ne (hit y hy) H7.hq e hne), fun ad e => own_form hO ad e⟩, (Chg.of hx).set 0 _⟩
  exact Below.heap_setCell _ _ _ _ (show ad.block ≠ q by have := (hO.lt ad e).1; omega)
set_option maxRecDepth 100000 in
set_option maxHeartbeats 8000000 in
theorem rdrop_ok (q : Nat) (a : Option Addr) (n c : Nat) (ys : List ItemV) (fd : Int → Option (List T)) (id : Int) (w : World) (h : RIx w q a n c ys) (hr : RelF ys fd) (hd : (fd id).isSome = true) (hn : n ≤ 1000) :
    Calls Try.prog 15 #[.pointer (some ⟨q, 0, none⟩), .int .u64 id] w fun e w' => ∃ k, AtIs ys id k ∧ (∃ hk : k < ys.length, ys[k].id = id) ∧ RetRDrop q ys k w e w' := by
  have hat := rat_any q a n c ys id w h
  obtain ⟨i0, hi, hz0, hz1, hz2⟩ := info_parts infoI
  have I1 := hid hi
  have I2 := hid hz0
  have I3 := hid hz1
  have I4 := hid hz2
  clear hi hz0 hz1 hz2
  obtain rfl := h.sl.neq
  have H := hid h
  have HR := hid hr
  have HD := hid hd
  clear h hr hd
  go_enter Try.func15, Try.ntmps15
  go_wp2_with fail
  refine hat.mono ?_
  rintro e w1 ⟨k, K, rfl, ha, hK, hb⟩
  have HA := hid ha
  have hK2 : K = true := by
    cases K with
    | true => rfl
    | false =>
      have := HR.out.miss ha (fun h => by have := hK.2 h; cases this)
      have h2 := HD.out
      rw [this] at h2
      cases h2
  subst hK2
  obtain ⟨hk, he⟩ := hK.1 rfl
  have HE := hid he
  have hx1 := hid hb
  have H1 := hid (H.out.ext hb)
  have c0 := H1.out.cell
  clear ha hK hb hat he
  obtain ⟨b, o, rfl, _⟩ := H.out.sl.get k hk
  have hlc := H.out.sl.len
  have hmc := H.out.sl.max
  unfold maxLen at hmc
  have f0 := H1.out.free
  have hq := H1.out.lt
  have b0 : (0 : Int) ≤ (k : Int) := by omega
  have b1 : (k : Int) ≤ (c : Int) := by omega
  have b2 : (0 : Int) ≤ (k : Int) + 1 := by omega
  have b3 : (k : Int) + 1 ≤ (ys.length : Int) := by omega
  have b4 : ((k : Int) + 1).toNat = k + 1 := by omega
  have b5 : (k : Int) < (ys.length : Int) := by omega
  have b6 : 0 < c := by omega
  have b7 : ¬ c = 0 := by omega
  have b8 : (ys.length : Int) ≤ (c : Int) := by omega
  have hkc : k ≤ c := by omega
  by_cases hkl : k + 1 = c
  · obtain ⟨N, hN⟩ : ∃ N, N = ys.length := ⟨_, rfl⟩
    have hkn : ys.length = k + 1 := by omega
    obtain rfl : c = ys.length := by omega
    have HKN := hid hkn
    have bk : ((k : Int) + 1) = (ys.length : Int) := by omega
    have bn : (ys.length : Int) ≤ 1000 := by omega
    have bw : IntKind.i64.wrap (ys.length : Int) = (ys.length : Int) := IntWalk.i64_in _ (by omega)
    have bo : (0 : Int) ≤ (ys.length : Int) := by omega
    clear hkn hkl hN b4 b7 b8
    go_wp2_with fail
    refine wp_region_heldX 19 (S := (fun w' => w'.cell? ⟨q, 0, none⟩ = some (.slice (some ⟨b, o, none⟩) ys.length ys.length))) (by kernel_rfl) ?_ (fun hHeld => ?_)
    · ((try dsimp only); exact Ext.keep (W := w1) (by (repeat (first | exact Ext.refl _ | refine Ext.alloc ?_ _ | refine Ext.drewN ?_ _ | refine Ext.drew ?_ | refine Ext.trans ?_ (Hid.out (by assumption))))) c0)
    (refine hTakeX 0 (some 15) (v := ?_) (by kernel_rfl) (by kernel_rfl) (by kernel_rfl) (by kernel_rfl) (fun _ _ _ h => h) ⟨_, rfl, rfl, Or.inl ⟨by rfl, ?_⟩⟩ hHeld ?_; rotate_left; (focus (intro w hSw; (try dsimp only at hSw); go_simp; (first | done | with_reducible rfl))); (try simp only [Act.put, List.setIfInBounds_toArray, List.set_cons_zero, List.set_cons_succ]))
    (refine hTakeX 2 (some 17) (v := ?_) (by kernel_rfl) (by kernel_rfl) (by kernel_rfl) (by kernel_rfl) (fun _ _ _ h => h) ⟨_, rfl, rfl, Or.inl ⟨by rfl, ?_⟩⟩ hHeld ?_; rotate_left; (focus (intro w hSw; (try dsimp only at hSw); go_simp; (first | done | with_reducible rfl))); (try simp only [Act.put, List.setIfInBounds_toArray, List.set_cons_zero, List.set_cons_succ]))
    (refine hTakeX 3 (some 18) (v := ?_) (by kernel_rfl) (by kernel_rfl) (by kernel_rfl) (by kernel_rfl) (fun _ _ _ h => h) ⟨_, rfl, rfl, Or.inl ⟨by rfl, ?_⟩⟩ hHeld ?_; rotate_left; (focus (intro w hSw; (try dsimp only at hSw); go_simp; (first | done | with_reducible rfl))); (try simp only [Act.put, List.setIfInBounds_toArray, List.set_cons_zero, List.set_cons_succ]))
    (refine hTakeX 4 (some 19) (v := ?_) (by kernel_rfl) (by kernel_rfl) (by kernel_rfl) (by kernel_rfl) (fun _ _ _ h => h) ⟨_, rfl, rfl, Or.inl ⟨by rfl, ?_⟩⟩ hHeld ?_; rotate_left; (focus (intro w hSw; (try dsimp only at hSw); go_simp; (first | done | with_reducible rfl))); (try simp only [Act.put, List.setIfInBounds_toArray, List.set_cons_zero, List.set_cons_succ]))
    (refine hTakeX 5 (some 20) (v := ?_) (by kernel_rfl) (by kernel_rfl) (by kernel_rfl) (by kernel_rfl) (fun _ _ _ h => h) ⟨_, rfl, rfl, Or.inl ⟨by rfl, ?_⟩⟩ hHeld ?_; rotate_left; (focus (intro w hSw; (try dsimp only at hSw); go_simp; (first | done | with_reducible rfl))); (try simp only [Act.put, List.setIfInBounds_toArray, List.set_cons_zero, List.set_cons_succ]))
    (refine hTakeX 6 (some 21) (v := ?_) (by kernel_rfl) (by kernel_rfl) (by kernel_rfl) (by kernel_rfl) (fun _ _ _ h => h) ⟨_, rfl, rfl, Or.inl ⟨by rfl, ?_⟩⟩ hHeld ?_; rotate_left; (focus (intro w hSw; (try dsimp only at hSw); go_simp; (first | done | with_reducible rfl))); (try simp only [Act.put, List.setIfInBounds_toArray, List.set_cons_zero, List.set_cons_succ]))
    (refine hTakeX 7 (some 22) (v := ?_) (by kernel_rfl) (by kernel_rfl) (by kernel_rfl) (by kernel_rfl) (fun _ _ _ h => h) ⟨_, rfl, rfl, Or.inl ⟨by rfl, ?_⟩⟩ hHeld ?_; rotate_left; (focus (intro w hSw; (try dsimp only at hSw); go_simp; (first | done | with_reducible rfl))); (try simp only [Act.put, List.setIfInBounds_toArray, List.set_cons_zero, List.set_cons_succ]))
    (refine hTakeX 9 (some 24) (v := ?_) (by kernel_rfl) (by kernel_rfl) (by kernel_rfl) (by kernel_rfl) (fun _ _ _ h => h) ⟨_, rfl, rfl, Or.inl ⟨by rfl, ?_⟩⟩ hHeld ?_; rotate_left; (focus (intro w hSw; (try dsimp only at hSw); go_simp; (first | done | with_reducible rfl))); (try simp only [Act.put, List.setIfInBounds_toArray, List.set_cons_zero, List.set_cons_succ]))
    (refine hTakeX 10 (some 25) (v := ?_) (by kernel_rfl) (by kernel_rfl) (by kernel_rfl) (by kernel_rfl) (fun _ _ _ h => h) ⟨_, rfl, rfl, Or.inl ⟨by rfl, ?_⟩⟩ hHeld ?_; rotate_left; (focus (intro w hSw; (try dsimp only at hSw); go_simp; (first | done | with_reducible rfl))); (try simp only [Act.put, List.setIfInBounds_toArray, List.set_cons_zero, List.set_cons_succ]))
    (refine hTakeX 11 (some 26) (v := ?_) (by kernel_rfl) (by kernel_rfl) (by kernel_rfl) (by kernel_rfl) (fun _ _ _ h => h) ⟨_, rfl, rfl, Or.inl ⟨by rfl, ?_⟩⟩ hHeld ?_; rotate_left; (focus (intro w hSw; (try dsimp only at hSw); go_simp; (first | done | with_reducible rfl))); (try simp only [Act.put, List.setIfInBounds_toArray, List.set_cons_zero, List.set_cons_succ]))
    (refine hTakeX 12 (some 27) (v := ?_) (by kernel_rfl) (by kernel_rfl) (by kernel_rfl) (by kernel_rfl) (fun _ _ _ h => h) ⟨_, rfl, rfl, Or.inl ⟨by rfl, ?_⟩⟩ hHeld ?_; rotate_left; (focus (intro w hSw; (try dsimp only at hSw); go_simp; (first | done | with_reducible rfl))); (try simp only [Act.put, List.setIfInBounds_toArray, List.set_cons_zero, List.set_cons_succ]))
    (refine hTakeX 13 (some 28) (v := ?_) (by kernel_rfl) (by kernel_rfl) (by kernel_rfl) (by kernel_rfl) (fun _ _ _ h => h) ⟨_, rfl, rfl, Or.inl ⟨by rfl, ?_⟩⟩ hHeld ?_; rotate_left; (focus (intro w hSw; (try dsimp only at hSw); go_simp; (first | done | with_reducible rfl))); (try simp only [Act.put, List.setIfInBounds_toArray, List.set_cons_zero, List.set_cons_succ]))
    (refine hTakeX 14 (some 29) (v := ?_) (by kernel_rfl) (by kernel_rfl) (by kernel_rfl) (by kernel_rfl) (fun _ _ _ h => h) ⟨_, rfl, rfl, Or.inl ⟨by rfl, ?_⟩⟩ hHeld ?_; rotate_left; (focus (intro w hSw; (try dsimp only at hSw); go_simp; (first | done | with_reducible rfl))); (try simp only [Act.put, List.setIfInBounds_toArray, List.set_cons_zero, List.set_cons_succ]))
    (refine hTakeX 15 (some 30) (v := ?_) (by kernel_rfl) (by kernel_rfl) (by kernel_rfl) (by kernel_rfl) (fun _ _ _ h => h) ⟨_, rfl, rfl, Or.inl ⟨by rfl, ?_⟩⟩ hHeld ?_; rotate_left; (focus (intro w hSw; (try dsimp only at hSw); go_simp; (first | done | with_reducible rfl))); (try simp only [Act.put, List.setIfInBounds_toArray, List.set_cons_zero, List.set_cons_succ]))
    refine heldX_ready (rs := [1]) (by kernel_rfl) (by simp) ?_
    refine eachX_cons rfl (fun K hK => ?_) eachX_nil
    go_simp
    refine hK.out _ _ ?_ (fun hH => ?_)
    focus (intro _; (try dsimp only); exact Ext.keep (W := w1) (by (repeat (first | exact Ext.refl _ | refine Ext.alloc ?_ _ | refine Ext.drewN ?_ _ | refine Ext.drew ?_ | refine Ext.trans ?_ (Hid.out (by assumption))))) c0)
    clear hK K hHeld
    have hHeld := hH (by decide)
    clear hH
    (try dsimp only) <;> (try simp only [Act.put, List.setIfInBounds_toArray, List.set_cons_zero, List.set_cons_succ])
    refine heldX_ready (rs := [8]) (by kernel_rfl) (by simp) ?_
    refine eachX_cons rfl (fun K hK => ?_) eachX_nil
    (refine stepOn (c := ItemV.cs) (ys0 := []) (ys := ys.take k) rfl (.tmp 16) (.tmp 22) 27 74 rfl i0 _ 32 Try.underlying27 I1.out I2.out I3.out I4.out rfl (by decide) rfl w1 (by (repeat (first | exact Ext.refl _ | refine Ext.alloc ?_ _ | refine Ext.drewN ?_ _ | refine Ext.drew ?_ | refine Ext.trans ?_ (Hid.out (by assumption))))) (Own.empty (by (repeat (first | (refine heap_new ?_; (simp; done)) | refine heap_old (by first | (simp; done) | (simp; omega)) ?_))) (by simp) ItemV.wid) rfl ((H1.out.sl.take k (by omega)).ext (by (repeat (first | exact Ext.refl _ | refine Ext.alloc ?_ _ | refine Ext.drewN ?_ _ | refine Ext.drew ?_ | refine Ext.trans ?_ (Hid.out (by assumption)))))) ItemV.one (by omega) (by decide) ?_; intro bb5 nn5 cap5 v5 hn5 hown5 hy5 hg5; have HN5 := hid hn5; have HO5 := hid hown5; have HY5 := hid hy5; clear hn5 hown5 hy5 hg5)
    refine put_to (d := some 23) rfl ?_
    refine hK.out _ _ ?_ (fun hH => ?_)
    focus (intro _; (try dsimp only); exact Ext.keep (W := w1) (by (repeat (first | exact Ext.refl _ | refine Ext.alloc ?_ _ | refine Ext.drewN ?_ _ | refine Ext.drew ?_ | refine Ext.trans ?_ (Hid.out (by assumption))))) c0)
    clear hK K hHeld
    have hHeld := hH (by decide)
    clear hH
    (try dsimp only) <;> (try simp only [Act.put, List.setIfInBounds_toArray, List.set_cons_zero, List.set_cons_succ])
    refine heldX_ready (rs := [16]) (by kernel_rfl) (by simp) ?_
    refine eachX_cons rfl (fun K hK => ?_) eachX_nil
    (refine stepOn (c := ItemV.cs) (ys0 := [] ++ ys.take k) (ys := ys.drop (k + 1)) rfl (.tmp 23) (.tmp 30) 27 74 rfl i0 _ 32 Try.underlying27 I1.out I2.out I3.out I4.out rfl (by decide) rfl w1 (by (repeat (first | exact Ext.refl _ | refine Ext.alloc ?_ _ | refine Ext.drewN ?_ _ | refine Ext.drew ?_ | refine Ext.trans ?_ (Hid.out (by assumption))))) (HO5.out.ext (by (repeat (first | exact Ext.refl _ | refine Ext.alloc ?_ _ | refine Ext.drewN ?_ _ | refine Ext.drew ?_ | refine Ext.trans ?_ (Hid.out (by assumption)))))) rfl (by rw [show ys.drop (k + 1) = [] from List.drop_eq_nil_of_le (by rw [HKN.out]; exact Nat.le_refl _)]; exact Sl.none_of ItemV.wid (by unfold maxLen; omega)) ItemV.one (by (have := HN5.out; omega)) (by decide) ?_; intro bb6 nn6 cap6 v6 hn6 hown6 hy6 hg6; have HN6 := hid hn6; have HO6 := hid hown6; have HY6 := hid hy6; clear hn6 hown6 hy6 hg6)
    refine put_to (d := some 31) rfl ?_
    refine hK.out _ _ ?_ (fun hH => ?_)
    focus (intro _; (try dsimp only); exact Ext.keep (W := w1) (by (repeat (first | exact Ext.refl _ | refine Ext.alloc ?_ _ | refine Ext.drewN ?_ _ | refine Ext.drew ?_ | refine Ext.trans ?_ (Hid.out (by assumption))))) c0)
    clear hK K hHeld
    have hHeld := hH (by decide)
    clear hH
    (try dsimp only) <;> (try simp only [Act.put, List.setIfInBounds_toArray, List.set_cons_zero, List.set_cons_succ])
    refine heldX_ready (rs := [17]) (by kernel_rfl) (by simp) ?_
    refine eachX_cons rfl (fun K hK => ?_) eachX_nil
    go_simp
    refine hK.out _ _ ?_ (fun hH => ?_)
    focus (intro _; (try dsimp only); exact Ext.keep (W := w1) (by (repeat (first | exact Ext.refl _ | refine Ext.alloc ?_ _ | refine Ext.drewN ?_ _ | refine Ext.drew ?_ | refine Ext.trans ?_ (Hid.out (by assumption))))) c0)
    clear hK K hHeld
    have hHeld := hH (by decide)
    clear hH
    (try dsimp only) <;> (try simp only [Act.put, List.setIfInBounds_toArray, List.set_cons_zero, List.set_cons_succ])
    refine heldX_ready (rs := [18]) (by kernel_rfl) (by simp) ?_
    refine eachX_cons rfl (fun K hK => ?_) eachX_nil
    go_simp
    refine hK.out _ _ ?_ (fun hH => ?_)
    focus (intro _; (try dsimp only); exact Ext.keep (W := w1) (by (repeat (first | exact Ext.refl _ | refine Ext.alloc ?_ _ | refine Ext.drewN ?_ _ | refine Ext.drew ?_ | refine Ext.trans ?_ (Hid.out (by assumption))))) c0)
    clear hK K hHeld
    have hHeld := hH (by decide)
    clear hH
    (try dsimp only) <;> (try simp only [Act.put, List.setIfInBounds_toArray, List.set_cons_zero, List.set_cons_succ])
    have c7 := HY6.out.keep c0
    have f7 := (H1.out.ext HY6.out).free
    refine heldX_ready (rs := [19]) (by kernel_rfl) (by simp) ?_
    refine eachX_cons rfl (fun K hK => ?_) eachX_nil
    go_simp
    refine hK.out _ _ (fun h => absurd rfl h) (fun _ => ?_)
    clear hK K
    (try dsimp only) <;> (try simp only [Act.put, List.setIfInBounds_toArray, List.set_cons_zero, List.set_cons_succ])
    refine heldX_done (by kernel_rfl) ?_ _
    have HF := hid (H1.out.store HY6.out (zs := ys.take k ++ ys.drop (k + 1)) (by have := HO6.out; rwa [List.nil_append] at this) (fun y hy => (H1.out.it y ((List.mem_append.1 hy).elim List.mem_of_mem_take List.mem_of_mem_drop)).ext HY6.out))
    go_wp2
    go_ret
    exact ⟨k, HA.out, ⟨hk, HE.out⟩, rfl, _, _, _, HF.out.1, (Chg.of hx1.out).trans HF.out.2 (fun _ _ h => h), (fun ad e => Nat.le_trans hx1.out.size (HO6.out.lt ad e).1)⟩
  · have bkc : k + 1 < c := by omega
    have bn : (ys.length : Int) ≤ 1000 := by omega
    obtain ⟨j, hj⟩ : ∃ j, j = k + 1 := ⟨_, rfl⟩
    have bw2 : IntKind.i64.wrap ((k : Int) + 1) = (j : Int) := by rw [IntWalk.i64_in _ (by omega)]; omega
    have hne : ¬ c = j := by omega
    have hj0 : (0 : Int) ≤ (j : Int) := by omega
    have hj1 : (j : Int) ≤ (ys.length : Int) := by omega
    have hj2 : j ≤ ys.length := by omega
    have HJ := hid hj
    clear hj hkl b2 b3 b4 bkc
    go_wp2_with fail
    refine wp_region_heldX 19 (S := (fun w' => w'.cell? ⟨q, 0, none⟩ = some (.slice (some ⟨b, o, none⟩) ys.length c))) (by kernel_rfl) ?_ (fun hHeld => ?_)
    · ((try dsimp only); exact Ext.keep (W := w1) (by (repeat (first | exact Ext.refl _ | refine Ext.alloc ?_ _ | refine Ext.drewN ?_ _ | refine Ext.drew ?_ | refine Ext.trans ?_ (Hid.out (by assumption))))) c0)
    (refine hTakeX 0 (some 15) (v := ?_) (by kernel_rfl) (by kernel_rfl) (by kernel_rfl) (by kernel_rfl) (fun _ _ _ h => h) ⟨_, rfl, rfl, Or.inl ⟨by rfl, ?_⟩⟩ hHeld ?_; rotate_left; (focus (intro w hSw; (try dsimp only at hSw); go_simp; (first | done | with_reducible rfl))); (try simp only [Act.put, List.setIfInBounds_toArray, List.set_cons_zero, List.set_cons_succ]))
    (refine hTakeX 2 (some 17) (v := ?_) (by kernel_rfl) (by kernel_rfl) (by kernel_rfl) (by kernel_rfl) (fun _ _ _ h => h) ⟨_, rfl, rfl, Or.inl ⟨by rfl, ?_⟩⟩ hHeld ?_; rotate_left; (focus (intro w hSw; (try dsimp only at hSw); go_simp; (first | done | with_reducible rfl))); (try simp only [Act.put, List.setIfInBounds_toArray, List.set_cons_zero, List.set_cons_succ]))
    (refine hTakeX 3 (some 18) (v := ?_) (by kernel_rfl) (by kernel_rfl) (by kernel_rfl) (by kernel_rfl) (fun _ _ _ h => h) ⟨_, rfl, rfl, Or.inl ⟨by rfl, ?_⟩⟩ hHeld ?_; rotate_left; (focus (intro w hSw; (try dsimp only at hSw); go_simp; (first | done | with_reducible rfl))); (try simp only [Act.put, List.setIfInBounds_toArray, List.set_cons_zero, List.set_cons_succ]))
    (refine hTakeX 4 (some 19) (v := ?_) (by kernel_rfl) (by kernel_rfl) (by kernel_rfl) (by kernel_rfl) (fun _ _ _ h => h) ⟨_, rfl, rfl, Or.inl ⟨by rfl, ?_⟩⟩ hHeld ?_; rotate_left; (focus (intro w hSw; (try dsimp only at hSw); go_simp; (first | done | with_reducible rfl))); (try simp only [Act.put, List.setIfInBounds_toArray, List.set_cons_zero, List.set_cons_succ]))
    (refine hTakeX 5 (some 20) (v := ?_) (by kernel_rfl) (by kernel_rfl) (by kernel_rfl) (by kernel_rfl) (fun _ _ _ h => h) ⟨_, rfl, rfl, Or.inl ⟨by rfl, ?_⟩⟩ hHeld ?_; rotate_left; (focus (intro w hSw; (try dsimp only at hSw); go_simp; (first | done | with_reducible rfl))); (try simp only [Act.put, List.setIfInBounds_toArray, List.set_cons_zero, List.set_cons_succ]))
    (refine hTakeX 6 (some 21) (v := ?_) (by kernel_rfl) (by kernel_rfl) (by kernel_rfl) (by kernel_rfl) (fun _ _ _ h => h) ⟨_, rfl, rfl, Or.inl ⟨by rfl, ?_⟩⟩ hHeld ?_; rotate_left; (focus (intro w hSw; (try dsimp only at hSw); go_simp; (first | done | with_reducible rfl))); (try simp only [Act.put, List.setIfInBounds_toArray, List.set_cons_zero, List.set_cons_succ]))
    (refine hTakeX 7 (some 22) (v := ?_) (by kernel_rfl) (by kernel_rfl) (by kernel_rfl) (by kernel_rfl) (fun _ _ _ h => h) ⟨_, rfl, rfl, Or.inl ⟨by rfl, ?_⟩⟩ hHeld ?_; rotate_left; (focus (intro w hSw; (try dsimp only at hSw); go_simp; (first | done | with_reducible rfl))); (try simp only [Act.put, List.setIfInBounds_toArray, List.set_cons_zero, List.set_cons_succ]))
    (refine hTakeX 9 (some 24) (v := ?_) (by kernel_rfl) (by kernel_rfl) (by kernel_rfl) (by kernel_rfl) (fun _ _ _ h => h) ⟨_, rfl, rfl, Or.inl ⟨by rfl, ?_⟩⟩ hHeld ?_; rotate_left; (focus (intro w hSw; (try dsimp only at hSw); go_simp; (first | done | with_reducible rfl))); (try simp only [Act.put, List.setIfInBounds_toArray, List.set_cons_zero, List.set_cons_succ]))
    (refine hTakeX 10 (some 25) (v := ?_) (by kernel_rfl) (by kernel_rfl) (by kernel_rfl) (by kernel_rfl) (fun _ _ _ h => h) ⟨_, rfl, rfl, Or.inl ⟨by rfl, ?_⟩⟩ hHeld ?_; rotate_left; (focus (intro w hSw; (try dsimp only at hSw); go_simp; (first | done | with_reducible rfl))); (try simp only [Act.put, List.setIfInBounds_toArray, List.set_cons_zero, List.set_cons_succ]))
    (refine hTakeX 11 (some 26) (v := ?_) (by kernel_rfl) (by kernel_rfl) (by kernel_rfl) (by kernel_rfl) (fun _ _ _ h => h) ⟨_, rfl, rfl, Or.inl ⟨by rfl, ?_⟩⟩ hHeld ?_; rotate_left; (focus (intro w hSw; (try dsimp only at hSw); go_simp; (first | done | with_reducible rfl))); (try simp only [Act.put, List.setIfInBounds_toArray, List.set_cons_zero, List.set_cons_succ]))
    (refine hTakeX 12 (some 27) (v := ?_) (by kernel_rfl) (by kernel_rfl) (by kernel_rfl) (by kernel_rfl) (fun _ _ _ h => h) ⟨_, rfl, rfl, Or.inl ⟨by rfl, ?_⟩⟩ hHeld ?_; rotate_left; (focus (intro w hSw; (try dsimp only at hSw); go_simp; (first | done | with_reducible rfl))); (try simp only [Act.put, List.setIfInBounds_toArray, List.set_cons_zero, List.set_cons_succ]))
    (refine hTakeX 13 (some 28) (v := ?_) (by kernel_rfl) (by kernel_rfl) (by kernel_rfl) (by kernel_rfl) (fun _ _ _ h => h) ⟨_, rfl, rfl, Or.inl ⟨by rfl, ?_⟩⟩ hHeld ?_; rotate_left; (focus (intro w hSw; (try dsimp only at hSw); go_simp; (first | done | with_reducible rfl))); (try simp only [Act.put, List.setIfInBounds_toArray, List.set_cons_zero, List.set_cons_succ]))
    (refine hTakeX 14 (some 29) (v := ?_) (by kernel_rfl) (by kernel_rfl) (by kernel_rfl) (by kernel_rfl) (fun _ _ _ h => h) ⟨_, rfl, rfl, Or.inl ⟨by rfl, ?_⟩⟩ hHeld ?_; rotate_left; (focus (intro w hSw; (try dsimp only at hSw); go_simp; (first | done | with_reducible rfl))); (try simp only [Act.put, List.setIfInBounds_toArray, List.set_cons_zero, List.set_cons_succ]))
    (refine hTakeX 15 (some 30) (v := ?_) (by kernel_rfl) (by kernel_rfl) (by kernel_rfl) (by kernel_rfl) (fun _ _ _ h => h) ⟨_, rfl, rfl, Or.inl ⟨by rfl, ?_⟩⟩ hHeld ?_; rotate_left; (focus (intro w hSw; (try dsimp only at hSw); go_simp; (first | done | with_reducible rfl))); (try simp only [Act.put, List.setIfInBounds_toArray, List.set_cons_zero, List.set_cons_succ]))
    refine heldX_ready (rs := [1]) (by kernel_rfl) (by simp) ?_
    refine eachX_cons rfl (fun K hK => ?_) eachX_nil
    go_simp
    refine hK.out _ _ ?_ (fun hH => ?_)
    focus (intro _; (try dsimp only); exact Ext.keep (W := w1) (by (repeat (first | exact Ext.refl _ | refine Ext.alloc ?_ _ | refine Ext.drewN ?_ _ | refine Ext.drew ?_ | refine Ext.trans ?_ (Hid.out (by assumption))))) c0)
    clear hK K hHeld
    have hHeld := hH (by decide)
    clear hH
    (try dsimp only) <;> (try simp only [Act.put, List.setIfInBounds_toArray, List.set_cons_zero, List.set_cons_succ])
    refine heldX_ready (rs := [8]) (by kernel_rfl) (by simp) ?_
    refine eachX_cons rfl (fun K hK => ?_) eachX_nil
    (refine stepOn (c := ItemV.cs) (ys0 := []) (ys := ys.take k) rfl (.tmp 16) (.tmp 22) 27 74 rfl i0 _ 32 Try.underlying27 I1.out I2.out I3.out I4.out rfl (by decide) rfl w1 (by (repeat (first | exact Ext.refl _ | refine Ext.alloc ?_ _ | refine Ext.drewN ?_ _ | refine Ext.drew ?_ | refine Ext.trans ?_ (Hid.out (by assumption))))) (Own.empty (by (repeat (first | (refine heap_new ?_; (simp; done)) | refine heap_old (by first | (simp; done) | (simp; omega)) ?_))) (by simp) ItemV.wid) rfl ((H1.out.sl.take k (by omega)).ext (by (repeat (first | exact Ext.refl _ | refine Ext.alloc ?_ _ | refine Ext.drewN ?_ _ | refine Ext.drew ?_ | refine Ext.trans ?_ (Hid.out (by assumption)))))) ItemV.one (by omega) (by decide) ?_; intro bb5 nn5 cap5 v5 hn5 hown5 hy5 hg5; have HN5 := hid hn5; have HO5 := hid hown5; have HY5 := hid hy5; clear hn5 hown5 hy5 hg5)
    refine put_to (d := some 23) rfl ?_
    refine hK.out _ _ ?_ (fun hH => ?_)
    focus (intro _; (try dsimp only); exact Ext.keep (W := w1) (by (repeat (first | exact Ext.refl _ | refine Ext.alloc ?_ _ | refine Ext.drewN ?_ _ | refine Ext.drew ?_ | refine Ext.trans ?_ (Hid.out (by assumption))))) c0)
    clear hK K hHeld
    have hHeld := hH (by decide)
    clear hH
    (try dsimp only) <;> (try simp only [Act.put, List.setIfInBounds_toArray, List.set_cons_zero, List.set_cons_succ])
    refine heldX_ready (rs := [16]) (by kernel_rfl) (by simp) ?_
    refine eachX_cons rfl (fun K hK => ?_) eachX_nil
    (refine stepOn (c := ItemV.cs) (ys0 := [] ++ ys.take k) (ys := ys.drop j) rfl (.tmp 23) (.tmp 30) 27 74 rfl i0 _ 32 Try.underlying27 I1.out I2.out I3.out I4.out rfl (by decide) rfl w1 (by (repeat (first | exact Ext.refl _ | refine Ext.alloc ?_ _ | refine Ext.drewN ?_ _ | refine Ext.drew ?_ | refine Ext.trans ?_ (Hid.out (by assumption))))) (HO5.out.ext (by (repeat (first | exact Ext.refl _ | refine Ext.alloc ?_ _ | refine Ext.drewN ?_ _ | refine Ext.drew ?_ | refine Ext.trans ?_ (Hid.out (by assumption)))))) rfl ((H1.out.sl.drop j hj2).ext (by (repeat (first | exact Ext.refl _ | refine Ext.alloc ?_ _ | refine Ext.drewN ?_ _ | refine Ext.drew ?_ | refine Ext.trans ?_ (Hid.out (by assumption)))))) ItemV.one (by (have := HN5.out; omega)) (by decide) ?_; intro bb6 nn6 cap6 v6 hn6 hown6 hy6 hg6; have HN6 := hid hn6; have HO6 := hid hown6; have HY6 := hid hy6; clear hn6 hown6 hy6 hg6)
    refine put_to (d := some 31) rfl ?_
    refine hK.out _ _ ?_ (fun hH => ?_)
    focus (intro _; (try dsimp only); exact Ext.keep (W := w1) (by (repeat (first | exact Ext.refl _ | refine Ext.alloc ?_ _ | refine Ext.drewN ?_ _ | refine Ext.drew ?_ | refine Ext.trans ?_ (Hid.out (by assumption))))) c0)
    clear hK K hHeld
    have hHeld := hH (by decide)
    clear hH
    (try dsimp only) <;> (try simp only [Act.put, List.setIfInBounds_toArray, List.set_cons_zero, List.set_cons_succ])
    refine heldX_ready (rs := [17]) (by kernel_rfl) (by simp) ?_
    refine eachX_cons rfl (fun K hK => ?_) eachX_nil
    go_simp
    refine hK.out _ _ ?_ (fun hH => ?_)
    focus (intro _; (try dsimp only); exact Ext.keep (W := w1) (by (repeat (first | exact Ext.refl _ | refine Ext.alloc ?_ _ | refine Ext.drewN ?_ _ | refine Ext.drew ?_ | refine Ext.trans ?_ (Hid.out (by assumption))))) c0)
    clear hK K hHeld
    have hHeld := hH (by decide)
    clear hH
    (try dsimp only) <;> (try simp only [Act.put, List.setIfInBounds_toArray, List.set_cons_zero, List.set_cons_succ])
    refine heldX_ready (rs := [18]) (by kernel_rfl) (by simp) ?_
    refine eachX_cons rfl (fun K hK => ?_) eachX_nil
    go_simp
    refine hK.out _ _ ?_ (fun hH => ?_)
    focus (intro _; (try dsimp only); exact Ext.keep (W := w1) (by (repeat (first | exact Ext.refl _ | refine Ext.alloc ?_ _ | refine Ext.drewN ?_ _ | refine Ext.drew ?_ | refine Ext.trans ?_ (Hid.out (by assumption))))) c0)
    clear hK K hHeld
    have hHeld := hH (by decide)
    clear hH
    (try dsimp only) <;> (try simp only [Act.put, List.setIfInBounds_toArray, List.set_cons_zero, List.set_cons_succ])
    have c7 := HY6.out.keep c0
    have f7 := (H1.out.ext HY6.out).free
    refine heldX_ready (rs := [19]) (by kernel_rfl) (by simp) ?_
    refine eachX_cons rfl (fun K hK => ?_) eachX_nil
    go_simp
    refine hK.out _ _ (fun h => absurd rfl h) (fun _ => ?_)
    clear hK K
    (try dsimp only) <;> (try simp only [Act.put, List.setIfInBounds_toArray, List.set_cons_zero, List.set_cons_succ])
    refine heldX_done (by kernel_rfl) ?_ _
    have HF := hid (H1.out.store HY6.out (zs := ys.take k ++ ys.drop j) (by have := HO6.out; rwa [List.nil_append] at this) (fun y hy => (H1.out.it y ((List.mem_append.1 hy).elim List.mem_of_mem_take List.mem_of_mem_drop)).ext HY6.out))
    have HF := hid (show RIx _ q _ _ _ (ys.take k ++ ys.drop (k + 1)) ∧ _ from by have := HF.out; rwa [HJ.out] at this)
    go_wp2
    go_ret
    exact ⟨k, HA.out, ⟨hk, HE.out⟩, rfl, _, _, _, HF.out.1, (Chg.of hx1.out).trans HF.out.2 (fun _ _ h => h), (fun ad e => Nat.le_trans hx1.out.size (HO6.out.lt ad e).1)⟩
set_option maxRecDepth 100000 in
set_option maxHeartbeats 1000000 in
theorem rdrop_no (q : Nat) (a : Option Addr) (n c : Nat) (ys : List ItemV) (fd : Int → Option (List T)) (id : Int) (w : World) (h : RIx w q a n c ys) (hr : RelF ys fd) (hd : fd id = none) :
    Calls Try.prog 15 #[.pointer (some ⟨q, 0, none⟩), .int .u64 id] w fun e w' => e = .returned (.int .i64 80) ∧ Ext w w' := by
  have hat := rat_any q a n c ys id w h
  have HR := hid hr
  have HD := hid hd
  clear h hr hd
  go_enter Try.func15, Try.ntmps15
  go_wp2_with fail
  refine hat.mono ?_
  rintro e w1 ⟨k, K, rfl, ha, hK, hb⟩
  have hK2 : K = false := by
    cases K with
    | false => rfl
    | true =>
      obtain ⟨hk, he⟩ := hK.1 rfl
      have := HR.out.hit hk he
      rw [HD.out] at this
      cases this
  subst hK2
  have hx := hid hb
  clear ha hK hb hat
  go_wp2
  go_ret
  refine ⟨rfl, ?_⟩
  (repeat (first | exact Ext.refl _ | refine Ext.alloc ?_ _ | refine Ext.drewN ?_ _ | refine Ext.drew ?_ | refine Ext.trans ?_ (Hid.out (by assumption))))
end Go.Proofs.Ytjggjkmafcokjaa

