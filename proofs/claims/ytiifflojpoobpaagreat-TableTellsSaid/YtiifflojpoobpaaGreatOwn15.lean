/- Subscriptions' filters in memory of their own: the walks of the program's tests and own. -/
import Derived.Test.YtiifflojpoobpaaGreatKeep
import Derived.Lib.BufferMore
set_option linter.unusedVariables false
set_option linter.unusedSimpArgs false
namespace Go.Proofs.YtiifflojpoobpaaGreat
open Go.RowKit

theorem flat_set {α : Type} {c : α → List Value} {sz : Nat} (hw : ∀ y, (c y).length = sz) (y' : α) (j : Nat) (v : Value) (hj : j < sz) : ∀ (ys : List α) (k : Nat) (y : α), ys[k]? = some y → c y' = (c y).set j v → (ys.set k y').flatMap c = (ys.flatMap c).set (k * sz + j) v
  | [], _, _, h, _ => by simp at h
  | x :: ys, 0, y, h, he => by
    simp only [List.getElem?_cons_zero, Option.some.injEq] at h
    subst h
    rw [List.set_cons_zero, List.flatMap_cons, List.flatMap_cons, he, Nat.zero_mul, Nat.zero_add, List.set_append, if_pos (by rw [hw]; exact hj)]
  | x :: ys, k + 1, y, h, he => by
    rw [List.getElem?_cons_succ] at h
    rw [List.set_cons_succ, List.flatMap_cons, List.flatMap_cons, List.set_append, if_neg (by rw [hw, Nat.add_mul]; omega), hw, show (k + 1) * sz + j - sz = k * sz + j from by rw [Nat.add_mul]; omega, flat_set hw y' j v hj ys k y h he]
section
variable {α : Type} {c : α → List Value} {w w' : World} {base : Nat} {e : TypeId} {sz g n cap : Nat} {ys : List α}
theorem Own.blk (h : Own w base e sz c (some ⟨g, 0, .none⟩) n cap ys) : ∃ cur, w.heap[g]? = some (.cells cur e (0, 0)) ∧ base ≤ g ∧ n ≤ cap ∧ cap ≤ maxLen ∧ cur.size = cap * sz ∧ cur.toList.take (n * sz) = ys.flatMap c := by
  rcases h.row.2 with ⟨hv, _⟩ | ⟨g', cp, cur, hv, hbs, hgg, h1, h2, h3, h4⟩
  · cases hv
  · simp only [Value.slice.injEq, Option.some.injEq, Addr.mk.injEq] at hv
    obtain ⟨⟨rfl, _⟩, _, rfl⟩ := hv
    exact ⟨cur, hgg, hbs, h1, h2, h3, h4⟩
theorem Own.free (h : Own w base e sz c (some ⟨g, 0, .none⟩) n cap ys) (o : Nat) : w.frozen? ⟨g, o, .none⟩ = false := by
  obtain ⟨cur, hg, _⟩ := h.blk
  simp [World.frozen?, hg]
theorem Own.form (aa : Option Addr) (h : Own w base e sz c aa n cap ys) (hk : 0 < ys.length) : ∃ g, aa = some ⟨g, 0, .none⟩ := by
  have hn := h.neq
  rcases h.row.2 with ⟨hv, h0⟩ | ⟨g', cp, cur, hv, _⟩
  · omega
  · simp only [Value.slice.injEq] at hv
    exact ⟨g', hv.1⟩
theorem Own.at0 (h : Own w base e sz c (some ⟨g, 0, .none⟩) n cap ys) (k : Nat) (hk : k < ys.length) : CellsAt w g (k * sz) (c ys[k]) := by
  obtain ⟨b, o, hab, hc⟩ := h.sl.get k hk
  simp only [Option.some.injEq, Addr.mk.injEq] at hab
  obtain ⟨rfl, rfl, _⟩ := hab
  rw [Nat.zero_add] at hc
  exact hc
theorem Own.set (h : Own w base e sz c (some ⟨g, 0, .none⟩) n cap ys) (k : Nat) (y y' : α) (hk : ys[k]? = some y) (j : Nat) (hj : j < sz) (v : Value) (hy : c y' = (c y).set j v) :
    Own (w.setCell ⟨g, k * sz + j, .none⟩ v) base e sz c (some ⟨g, 0, .none⟩) n cap (ys.set k y') := by
  obtain ⟨cur, hg, hbs, h1, h2, h3, h4⟩ := h.blk
  refine ⟨⟨?_, .inr ⟨g, cap, cur.setIfInBounds (k * sz + j) v, rfl, hbs, Lib.heap_setCell_same hg v, h1, h2, by rw [Array.size_setIfInBounds]; exact h3, ?_⟩⟩, by rw [List.length_set]; exact h.neq, h.wid⟩
  · rw [flat_set h.wid y' j v hj ys k y hk hy, List.length_set]; exact h.row.1
  · rw [flat_set h.wid y' j v hj ys k y hk hy, ← h4, Array.toList_setIfInBounds, List.take_set]
end
theorem Sl.set {α : Type} {w : World} {sz : Nat} {c : α → List Value} {a : Option Addr} {n cap : Nat} {xs : List α} (h : Sl w sz c a n cap xs) {p : Addr} (hp : ∀ ad, a = some ad → xs ≠ [] → ad.block ≠ p.block) (u : Value) : Sl (w.setCell p u) sz c a n cap xs :=
  ⟨h.neq, h.len, h.max, h.none, h.wid, fun k x hk => by
    obtain ⟨b, o, ha, hc⟩ := h.at_ k x hk
    have hb : b ≠ p.block := hp _ ha (by rintro rfl; cases hk)
    exact ⟨b, o, ha, fun j v hj => (World.cell?_of_block (a := ⟨b, o + k * sz + j, .none⟩) (Below.heap_setCell w p u b hb)).trans (hc j v hj)⟩⟩
/-- A subscription's filter lies apart from a block. -/
def Apart (w : World) (g : Option Addr) (x : SB) : Prop := Sl w 5 T.cs x.f.a x.f.n x.f.c x.ts ∧ ∀ ad gd, x.f.a = some ad → g = some gd → x.ts ≠ [] → ad.block ≠ gd.block
theorem Apart.ext {w w' : World} {g : Option Addr} {x : SB} (h : Apart w g x) (hx : Ext w w') : Apart w' g x := ⟨h.1.ext hx, h.2⟩
theorem Apart.of {W w : World} {e : TypeId} {a : Option Addr} {n cap : Nat} {ys : List SB} (hO : Own w W.heap.size e 3 SB.cs a n cap ys) (hX : Ext W w) {x : SB} (h : Sl W 5 T.cs x.f.a x.f.n x.f.c x.ts) : Apart w a x := by
  refine ⟨h.ext hX, fun ad gd ha hg hne he => ?_⟩
  have h1 := (hO.lt gd hg).1
  have hpos : 0 < x.ts.length := List.length_pos_iff.2 hne
  obtain ⟨b, o, hab, hc⟩ := h.get 0 hpos
  rw [ha] at hab
  cases hab
  have := lt_of_cell (hc 0 (.string x.ts[0].nm) rfl)
  simp only at he this
  omega
theorem own_round {W wr w1 : World} {e e' : TypeId} {g n cap : Nat} {zs : List SB} {k : Nat} {aa : Option Addr} {m cp : Nat} (hO : Own wr W.heap.size e 3 SB.cs (some ⟨g, 0, none⟩) n cap zs) (hk : k < zs.length)
    (hA : ∀ z, z ∈ zs → Apart wr (some ⟨g, 0, none⟩) z) (hx : Ext W wr) (h1 : Own w1 wr.heap.size e' 5 T.cs aa m cp zs[k].ts) (hb : Ext wr w1) :
    ∃ zs' : List SB, Own (w1.setCell ⟨g, k * 3 + 2, none⟩ (.slice aa m cp)) W.heap.size e 3 SB.cs (some ⟨g, 0, none⟩) n cap zs' ∧ zs'.map SB.d = zs.map SB.d ∧ (∀ z, z ∈ zs' → Apart (w1.setCell ⟨g, k * 3 + 2, none⟩ (.slice aa m cp)) (some ⟨g, 0, none⟩) z) ∧ Ext W (w1.setCell ⟨g, k * 3 + 2, none⟩ (.slice aa m cp)) := by
  have hgw := hO.lt _ rfl
  refine ⟨zs.set k ⟨zs[k].c, zs[k].u, ⟨aa, m, cp⟩, zs[k].ts⟩, (hO.ext hb).set k zs[k] _ (List.getElem?_eq_getElem hk) 2 (by decide) _ rfl, ?_, fun z hz => ?_, Ext.setCell (p := ⟨g, k * 3 + 2, none⟩) (hx.trans hb) hgw.1 _⟩
  · rw [List.map_set]
    apply List.ext_getElem (by simp)
    intro i h2 h3
    rw [List.getElem_set]
    split
    · next h => subst h; simp [SB.d]
    · rfl
  · rcases List.mem_or_eq_of_mem_set hz with hz | rfl
    · have h2 := (hA z hz).ext hb
      exact ⟨h2.1.set (p := ⟨g, k * 3 + 2, none⟩) (fun ad ha hne => h2.2 ad ⟨g, 0, none⟩ ha rfl hne) _, h2.2⟩
    · have h3 : ∀ ad, aa = some ad → ad.block ≠ g := fun ad ha he => by
        have := (h1.lt ad ha).1
        have := hgw.2
        simp only at this
        omega
      exact ⟨h1.sl.set (p := ⟨g, k * 3 + 2, none⟩) (fun ad ha _ => h3 ad ha) _, fun ad gd ha hg _ => by cases hg; exact h3 ad ha⟩
theorem tests_any (a : Option Addr) (n cap : Nat) (xs : List T) (w : World) (hS : Sl w 5 T.cs a n cap xs) (hn : n ≤ 1000000) :
    Calls Tryz.prog 45 #[.slice a n cap] w (RetOwn 50 5 T.cs xs w) := by
  obtain ⟨i0, hi, hz0, hz1, hz2⟩ := info_parts infoT
  have I1 := hid hi
  have I2 := hid hz0
  have I3 := hid hz1
  have I4 := hid hz2
  have hl := hS.len
  have hm := hS.max
  unfold maxLen at hm
  have HS := hid hS
  clear hS hi hz0 hz1 hz2
  go_enter Tryz.func45, Tryz.ntmps45
  go_wp2_with (at_builtin; refine wpList_plain rfl fun KK hKK => ?_; refine wpOn (c := T.cs) (ys0 := []) (ys := xs) _ _ 28 50 rfl i0 _ 56 Tryz.underlying28 I1.out I2.out I3.out I4.out rfl (by decide) rfl w (by (repeat (first | exact Ext.refl _ | refine Ext.alloc ?_ _ | refine Ext.drewN ?_ _ | refine Ext.drew ?_ | refine Ext.trans ?_ (Hid.out (by assumption))))) (Own.nil _ _ _ T.wid) rfl (HS.out.ext (by (repeat (first | exact Ext.refl _ | refine Ext.alloc ?_ _ | refine Ext.drewN ?_ _ | refine Ext.drew ?_ | refine Ext.trans ?_ (Hid.out (by assumption)))))) T.one (by omega) (by decide) ?_; intro bb n1 cap1 w6 hn1 hown1 hx hg1; refine hKK _ _ ?_; have HO1 := hid hown1; have hy := hid hx; have HN1 := hid hn1; clear hown1 hx hg1 hn1)
  go_ret
  exact ⟨bb, n1, cap1, rfl, HO1.out, hy.out⟩
set_option maxHeartbeats 1000000 in
theorem own_any (a : Option Addr) (n cap : Nat) (ys : List SB) (W w : World) (hO : Own w W.heap.size 57 3 SB.cs a n cap ys) (hX : Ext W w) (hF : ∀ y, y ∈ ys → Sl W 5 T.cs y.f.a y.f.n y.f.c y.ts) (hL : ∀ y, y ∈ ys → y.ts.length ≤ 1000000) (hn : n ≤ 1000000) :
    Calls Tryz.prog 25 #[.slice a n cap] w fun e w' => ∃ zs, e = .returned (.slice a n cap) ∧ Subs w' a n cap zs ∧ zs.map SB.d = ys.map SB.d ∧ Ext W w' := by
  have hneq := hO.neq
  obtain rfl := hneq
  have hm := hO.sl.max
  have hl := hO.sl.len
  unfold maxLen at hm
  have HA := hid (fun y hy => Apart.of hO hX (hF y hy))
  have HO := hid hO
  have HX := hid hX
  have HL := hid hL
  clear hO hX hF hL
  go_enter Tryz.func25, Tryz.ntmps25
  go_wp2_with fail
  go_loopg [3, 6] (ys.length) (fun g _ st wr => ∃ (k : Nat) (zs : List SB), g + k = ys.length ∧ st = .int .i64 k ∧ zs.length = ys.length ∧ Hid (Own wr W.heap.size 57 3 SB.cs a ys.length cap zs) ∧ Hid (zs.map SB.d = ys.map SB.d) ∧ Hid (∀ z, z ∈ zs → Apart wr a z) ∧ Hid (Ext W wr))
  case atStart => exact ⟨0, ys, by omega, rfl, rfl, HO.out, rfl, HA.out, HX.out⟩
  case round =>
    obtain ⟨k, zs, hg, rfl, hlen, hown, hmap, hA, hx⟩ := hrel
    by_cases hk : k < ys.length
    · have hkz : k < zs.length := by omega
      obtain ⟨gb, rfl⟩ := Own.form a hown.out (by omega)
      obtain ⟨c0, c1, c2⟩ := cellsSB (x := zs[k]) (hown.out.at0 k hkz)
      have b0 : (0 : Int) ≤ (k : Int) := by omega
      have b1 : (k : Int) < (ys.length : Int) := by omega
      have HF := hid (hA.out zs[k] (List.getElem_mem hkz)).1
      have hfn : zs[k].f.n ≤ 1000000 := by
        have h1 : (zs.map SB.d)[k]? = (ys.map SB.d)[k]? := by rw [hmap.out]
        rw [List.getElem?_map, List.getElem?_map, List.getElem?_eq_getElem hkz, List.getElem?_eq_getElem hk] at h1
        simp only [Option.map_some, Option.some.injEq, SB.d, SD.mk.injEq] at h1
        rw [HF.out.neq, h1.2.2]
        exact HL.out _ (List.getElem_mem hk)
      go_wp2_with (go_at_call 45; refine (tests_any _ _ _ zs[k].ts _ HF.out hfn).mono ?_; rintro e w1 ⟨aa, m, cp, rfl, hown1, hb⟩; have d2 := hb.keep c2; have fz := (hown.out.ext hb).free; have HR := hid (own_round hown.out hkz hA.out hx.out hown1 hb); clear hown1 hb)
      obtain ⟨zs', r1, r2, r3, r4⟩ := HR.out
      go_roundg (gk - 1)
      case measure => omega
      case rel => exact ⟨k + 1, zs', by omega, by go_num, by rw [← List.length_map (f := SB.d), r2, List.length_map]; exact hlen, r1, r2.trans hmap.out, r3, r4⟩
    · go_wp2
      go_ret
      exact ⟨zs, rfl, ⟨hown.out.sl, fun x hx => (hA.out x hx).1⟩, hmap.out, hx.out⟩
end Go.Proofs.YtiifflojpoobpaaGreat
