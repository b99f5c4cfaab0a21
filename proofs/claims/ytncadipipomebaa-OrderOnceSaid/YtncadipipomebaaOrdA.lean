/- Entries in memory of their own; who is told; what is handed on: the walks of order's copied, Told and From. -/
import Derived.Test.YtncadipipomebaaProm
import Derived.Test.YtncadipipomebaaEnds
import Derived.Test.YtncadipipomebaaAwake
import Derived.Deep.DeepCutAuto
namespace Go.Proofs.Ytncadipipomebaa
open Go.RowKit
attribute [local go_sem ↓] Go.wp_at_zero Go.wp_at_succ

/-- A result that is entries in memory of their own. -/
def RetEO (es : List ED) (w : World) (e : Ending) (w' : World) : Prop :=
  ∃ aa n c ps, e = .returned (.slice aa n c) ∧ Own w' w.heap.size 50 8 EP.cs aa n c ps ∧ (∀ p, p ∈ ps → EntryOwn w' w.heap.size p.x p.d) ∧ ps.map (·.d) = es ∧ Ext w w'
set_option maxRecDepth 100000 in
set_option maxHeartbeats 4000000 in
theorem copied19_any (la : Option Addr) (ln lc : Nat) (xs : List EP) (w : World) (hX : Ents w la ln lc xs) (hsm : ∀ p, p ∈ xs → Small p.d) (hn2 : ln ≤ 1000000) :
    Calls Try.prog 53 #[.slice la ln lc] w (RetEO (xs.map (·.d)) w) := by
  obtain ⟨i0, hi, hz0, hz1, hz2⟩ := info_parts infoE
  obtain rfl := hX.sl.neq
  have hm := hX.sl.max
  have hl := hX.sl.len
  unfold maxLen at hm
  have HX := hid hX
  have HSMA := hid hsm
  have I1 := hid hi
  have I2 := hid hz0
  have I3 := hid hz1
  have I4 := hid hz2
  clear hX hsm hi hz0 hz1 hz2
  go_enter Try.func53, Try.ntmps53
  go_wp2_with fail
  go_loopg [3, 8] (xs.length) (fun g ov st wr => ∃ (k : Nat) (aa : Option Addr) (m cp : Nat) (ys : List EP), g + k = xs.length ∧ st = .int .i64 k ∧ ov = .slice aa m cp ∧
    Hid (Own wr w.heap.size 50 8 EP.cs aa m cp ys ∧ ys.map (·.d) = (xs.take k).map (·.d) ∧ (∀ y, y ∈ ys → EntryOwn wr w.heap.size y.x y.d)) ∧ Hid (Ext w wr))
  case atStart => exact ⟨0, none, 0, 0, [], by omega, rfl, rfl, ⟨Own.nil _ _ _ EP.wid, rfl, (fun y hy => by cases hy)⟩, Ext.refl _⟩
  case round =>
    obtain ⟨k, aa, m, cp, ys, hg, rfl, rfl, hown, hx⟩ := hrel
    by_cases hk : k < xs.length
    · obtain ⟨b, o, rfl, hc⟩ := HX.out.sl.get k hk
      obtain ⟨c0, c1, c2, c3, c4, c5, c6, c7⟩ := cells8 (w := wr) (b := b) (o := o + k * 8) (x := xs[k].x) (fun j v hj => hx.out.keep (hc j v hj))
      have HV := hid ((HX.out.is xs[k] (List.getElem_mem hk)).ext hx.out)
      have HSM := hid (HSMA.out xs[k] (List.getElem_mem hk))
      have hmk : m = k := by
        have h1 := hown.out.1.neq
        have h2 := congrArg List.length hown.out.2.1
        rw [List.length_map, List.length_map, List.length_take] at h2
        omega
      obtain rfl : k = m := hmk.symm
      have Hs := hid (show (xs.take (k + 1)).map (·.d) = (xs.take k).map (·.d) ++ [xs[k].d] from by rw [List.take_succ_eq_append_getElem hk, List.map_append]; rfl)
      clear hc
      have b0 : (0 : Int) ≤ (k : Int) := by omega
      have b1 : (k : Int) < (xs.length : Int) := by omega
      go_wp2_with (first | (go_at_call 55; refine (owhole_any xs[k].x xs[k].d _ (HV.out.ext (by (repeat (first | exact Ext.refl _ | refine Ext.alloc ?_ _ | refine Ext.drewN ?_ _ | refine Ext.drew ?_ | refine Ext.trans ?_ (Hid.out (by assumption)))))) HSM.out).mono ?_; rintro e w' ⟨x', rfl, hEO, hb⟩; have hb0 := hb.size; have HEO := hid hEO; have hx' := hid hb; clear hb hEO) | (at_builtin; refine app1 (ys := ys) rfl _ _ 24 rfl i0 _ 96 Try.underlying24 I1.out I2.out I3.out I4.out rfl (by decide) rfl (hown.out.1.ext (by (repeat (first | exact Ext.refl _ | refine Ext.alloc ?_ _ | refine Ext.drewN ?_ _ | refine Ext.drew ?_ | refine Ext.trans ?_ (Hid.out (by assumption)))))) ⟨x', xs[k].d⟩ _ rfl (news_alloc (cs := EP.cs ⟨x', xs[k].d⟩) rfl) (EP.one _) (by omega) (by decide) (Ext.size (by (repeat (first | exact Ext.refl _ | refine Ext.alloc ?_ _ | refine Ext.drewN ?_ _ | refine Ext.drew ?_ | refine Ext.trans ?_ (Hid.out (by assumption)))))) ?_; intro g cap' w3 hown3 hgrow; have HO3 := hid hown3; have HG := hid hgrow; clear hown3 hgrow))
      go_roundg (gk - 1)
      case measure => omega
      case rel =>
        refine ⟨k + 1, _, _, _, ys ++ [⟨x', xs[k].d⟩], by omega, by go_num, rfl, ?_, HG.out.ext (hown.out.1.ext (by (repeat (first | exact Ext.refl _ | refine Ext.alloc ?_ _ | refine Ext.drewN ?_ _ | refine Ext.drew ?_ | refine Ext.trans ?_ (Hid.out (by assumption)))))) (Nat.le_refl _) (by (repeat (first | exact Ext.refl _ | refine Ext.alloc ?_ _ | refine Ext.drewN ?_ _ | refine Ext.drew ?_ | refine Ext.trans ?_ (Hid.out (by assumption)))))⟩
        rw [Hs.out]
        refine ⟨HO3.out, by rw [List.map_append, hown.out.2.1]; rfl, fun y hy => ?_⟩
        rcases List.mem_append.1 hy with hy | hy
        · exact ((hown.out.2.2 y hy).ext (by (repeat (first | exact Ext.refl _ | refine Ext.alloc ?_ _ | refine Ext.drewN ?_ _ | refine Ext.drew ?_ | refine Ext.trans ?_ (Hid.out (by assumption)))))).grow HG.out (hown.out.1.ext (by (repeat (first | exact Ext.refl _ | refine Ext.alloc ?_ _ | refine Ext.drewN ?_ _ | refine Ext.drew ?_ | refine Ext.trans ?_ (Hid.out (by assumption)))))) (by decide) (by decide) (by decide)
        · obtain rfl := List.mem_singleton.1 hy
          exact ((HEO.out.mono (Ext.size (by (repeat (first | exact Ext.refl _ | refine Ext.alloc ?_ _ | refine Ext.drewN ?_ _ | refine Ext.drew ?_ | refine Ext.trans ?_ (Hid.out (by assumption))))))).ext (by (repeat (first | exact Ext.refl _ | refine Ext.alloc ?_ _ | refine Ext.drewN ?_ _ | refine Ext.drew ?_ | refine Ext.trans ?_ (Hid.out (by assumption)))))).grow HG.out (hown.out.1.ext (by (repeat (first | exact Ext.refl _ | refine Ext.alloc ?_ _ | refine Ext.drewN ?_ _ | refine Ext.drew ?_ | refine Ext.trans ?_ (Hid.out (by assumption)))))) (by decide) (by decide) (by decide)
    · have hk' : xs.take k = xs := List.take_of_length_le (by omega)
      rw [hk'] at hown
      clear hk'
      go_wp2
      go_ret
      exact ⟨aa, m, cp, ys, rfl, hown.out.1, hown.out.2.2, hown.out.2.1, (by (repeat (first | exact Ext.refl _ | refine Ext.alloc ?_ _ | refine Ext.drewN ?_ _ | refine Ext.drew ?_ | refine Ext.trans ?_ (Hid.out (by assumption)))))⟩

/-- one that is asked for more -/
def toldStep (ab : List Id) (out : List Id) (i : Id) : List Id := if out.length < 16 ∧ ab.any (fun x => idEq x i) = true ∧ out.any (fun x => idEq x i) = false then out ++ [i] else out
def toldOf (ab : List Id) (l : List Id) : List Id := l.foldl (toldStep ab) []
theorem told_succ {ab : List Id} {l : List EV} {k : Nat} (hk : k < l.length) : toldOf ab ((l.take (k + 1)).map (·.id)) = toldStep ab (toldOf ab ((l.take k).map (·.id))) l[k].id := by
  unfold toldOf; rw [List.take_succ_eq_append_getElem hk, List.map_append, List.foldl_append]; rfl
theorem told_len (ab : List Id) : ∀ (l : List Id) (out : List Id), (l.foldl (toldStep ab) out).length ≤ out.length + l.length
  | [], _ => Nat.le_refl _
  | x :: l, out => by
    rw [List.foldl_cons]; refine Nat.le_trans (told_len ab l _) ?_
    unfold toldStep; split
    · rw [List.length_append, List.length_cons]; simp; omega
    · rw [List.length_cons]; omega
set_option maxRecDepth 100000 in
set_option maxHeartbeats 4000000 in
theorem told19_any (ba : Option Addr) (bn bc : Nat) (bs : List Id) (la : Option Addr) (ln lc : Nat) (xs : List EV) (w : World) (hB : Sl w 3 Id.cs ba bn bc bs) (hX : Sl w 8 EV.cs la ln lc xs) :
    Calls Try.prog 35 #[.slice ba bn bc, .slice la ln lc] w (RetSl 3 Id.cs (toldOf bs (xs.map (·.id))) w) := by
  obtain ⟨i0, hi, hz0, hz1, hz2⟩ := info_parts infoId
  obtain rfl := hX.neq
  obtain rfl := hB.neq
  have hm := hX.max
  have hl := hX.len
  unfold maxLen at hm
  have HX := hid hX
  have HB := hid hB
  have I1 := hid hi
  have I2 := hid hz0
  have I3 := hid hz1
  have I4 := hid hz2
  clear hX hB hi hz0 hz1 hz2
  go_enter Try.func35, Try.ntmps35
  go_wp2_with fail
  go_loopg [5, 10] (xs.length) (fun g ov st wr => ∃ (k : Nat) (aa : Option Addr) (m cp : Nat), g + k = xs.length ∧ st = .int .i64 k ∧ ov = .slice aa m cp ∧
    Hid (Own wr w.heap.size 30 3 Id.cs aa m cp (toldOf bs ((xs.take k).map (·.id)))) ∧ Hid (Ext w wr))
  case atStart => exact ⟨0, none, 0, 0, by omega, rfl, rfl, Own.nil _ _ _ Id.wid, Ext.refl _⟩
  case round =>
    obtain ⟨k, aa, m, cp, hg, rfl, rfl, hown, hx⟩ := hrel
    by_cases hk : k < xs.length
    · obtain ⟨b, o, rfl, hc⟩ := HX.out.get k hk
      obtain ⟨c0, c1, c2, c3, c4, c5, c6, c7⟩ := cells8 (w := wr) (b := b) (o := o + k * 8) (x := xs[k]) (fun j v hj => hx.out.keep (hc j v hj))
      have Hs := hid (told_succ (ab := bs) hk)
      have Hmn := hid hown.out.neq
      have j0 : (wr.alloc ((Obj.cells #[.int .i64 xs[k].k, .int .i64 xs[k].id.b, .int .u64 xs[k].id.l, .int .u64 xs[k].id.s, .int .i64 xs[k].c, .int .u64 xs[k].u, .slice xs[k].f.a xs[k].f.n xs[k].f.c, .slice xs[k].e.a xs[k].e.n xs[k].e.c] 50))).cell? ⟨wr.heap.size, 1, none⟩ = some (.int .i64 xs[k].id.b) := cellH (heap_alloc_new _ _) rfl
      have j1 : (wr.alloc ((Obj.cells #[.int .i64 xs[k].k, .int .i64 xs[k].id.b, .int .u64 xs[k].id.l, .int .u64 xs[k].id.s, .int .i64 xs[k].c, .int .u64 xs[k].u, .slice xs[k].f.a xs[k].f.n xs[k].f.c, .slice xs[k].e.a xs[k].e.n xs[k].e.c] 50))).cell? ⟨wr.heap.size, 2, none⟩ = some (.int .u64 xs[k].id.l) := cellH (heap_alloc_new _ _) rfl
      have j2 : (wr.alloc ((Obj.cells #[.int .i64 xs[k].k, .int .i64 xs[k].id.b, .int .u64 xs[k].id.l, .int .u64 xs[k].id.s, .int .i64 xs[k].c, .int .u64 xs[k].u, .slice xs[k].f.a xs[k].f.n xs[k].f.c, .slice xs[k].e.a xs[k].e.n xs[k].e.c] 50))).cell? ⟨wr.heap.size, 3, none⟩ = some (.int .u64 xs[k].id.s) := cellH (heap_alloc_new _ _) rfl
      clear hc
      have b0 : (0 : Int) ≤ (k : Int) := by omega
      have b1 : (k : Int) < (xs.length : Int) := by omega
      by_cases h16 : m < 16
      · have h16i : (m : Int) < 16 := by omega
        cases hA : bs.any (fun x => idEq x xs[k].id) with
        | false =>
          have HA := hid hA
          clear hA
          go_wp2_with (go_at_call_of 39 (Value.slice ba bs.length bc); refine (contains_any _ _ _ bs xs[k].id _ (HB.out.ext (by (repeat (first | exact Ext.refl _ | refine Ext.alloc ?_ _ | refine Ext.drewN ?_ _ | refine Ext.drew ?_ | refine Ext.trans ?_ (Hid.out (by assumption))))))).mono ?_; rintro e wq ⟨he, hb⟩; rw [HA.out] at he; subst he; have hxq := hid hb; have j0 := hb.keep j0; have j1 := hb.keep j1; have j2 := hb.keep j2; clear hb)
          go_roundg (gk - 1)
          case measure => omega
          case rel => exact ⟨k + 1, aa, m, cp, by omega, by go_num, rfl, (by rw [Hs.out]; unfold toldStep; rw [if_neg (fun c => by (rw [HA.out] at c; exact absurd c.2.1 (by decide)))]; exact hown.out.ext (by (repeat (first | exact Ext.refl _ | refine Ext.alloc ?_ _ | refine Ext.drewN ?_ _ | refine Ext.drew ?_ | refine Ext.trans ?_ (Hid.out (by assumption)))))), (by (repeat (first | exact Ext.refl _ | refine Ext.alloc ?_ _ | refine Ext.drewN ?_ _ | refine Ext.drew ?_ | refine Ext.trans ?_ (Hid.out (by assumption)))))⟩
        | true =>
          have HA := hid hA
          clear hA
          cases hC : (toldOf bs ((xs.take k).map (·.id))).any (fun x => idEq x xs[k].id) with
          | true =>
            have HC := hid hC
            clear hC
            go_wp2_with (first | (go_at_call_of 39 (Value.slice ba bs.length bc); refine (contains_any _ _ _ bs xs[k].id _ (HB.out.ext (by (repeat (first | exact Ext.refl _ | refine Ext.alloc ?_ _ | refine Ext.drewN ?_ _ | refine Ext.drew ?_ | refine Ext.trans ?_ (Hid.out (by assumption))))))).mono ?_; rintro e wq ⟨he, hb⟩; rw [HA.out] at he; subst he; have hxq := hid hb; have j0 := hb.keep j0; have j1 := hb.keep j1; have j2 := hb.keep j2; clear hb) | (go_at_call_of 39 (Value.slice aa m cp); refine (contains_any _ _ _ (toldOf bs ((xs.take k).map (·.id))) xs[k].id _ (hown.out.sl.ext (by (repeat (first | exact Ext.refl _ | refine Ext.alloc ?_ _ | refine Ext.drewN ?_ _ | refine Ext.drew ?_ | refine Ext.trans ?_ (Hid.out (by assumption))))))).mono ?_; rintro e wq ⟨he, hb⟩; rw [HC.out] at he; subst he; have hxr := hid hb; have j0 := hb.keep j0; have j1 := hb.keep j1; have j2 := hb.keep j2; clear hb))
            go_roundg (gk - 1)
            case measure => omega
            case rel => exact ⟨k + 1, aa, m, cp, by omega, by go_num, rfl, (by rw [Hs.out]; unfold toldStep; rw [if_neg (fun c => by (rw [HC.out] at c; exact absurd c.2.2 (by decide)))]; exact hown.out.ext (by (repeat (first | exact Ext.refl _ | refine Ext.alloc ?_ _ | refine Ext.drewN ?_ _ | refine Ext.drew ?_ | refine Ext.trans ?_ (Hid.out (by assumption)))))), (by (repeat (first | exact Ext.refl _ | refine Ext.alloc ?_ _ | refine Ext.drewN ?_ _ | refine Ext.drew ?_ | refine Ext.trans ?_ (Hid.out (by assumption)))))⟩
          | false =>
            have HC := hid hC
            clear hC
            go_wp2_with (first | (go_at_call_of 39 (Value.slice ba bs.length bc); refine (contains_any _ _ _ bs xs[k].id _ (HB.out.ext (by (repeat (first | exact Ext.refl _ | refine Ext.alloc ?_ _ | refine Ext.drewN ?_ _ | refine Ext.drew ?_ | refine Ext.trans ?_ (Hid.out (by assumption))))))).mono ?_; rintro e wq ⟨he, hb⟩; rw [HA.out] at he; subst he; have hxq := hid hb; have j0 := hb.keep j0; have j1 := hb.keep j1; have j2 := hb.keep j2; clear hb) | (go_at_call_of 39 (Value.slice aa m cp); refine (contains_any _ _ _ (toldOf bs ((xs.take k).map (·.id))) xs[k].id _ (hown.out.sl.ext (by (repeat (first | exact Ext.refl _ | refine Ext.alloc ?_ _ | refine Ext.drewN ?_ _ | refine Ext.drew ?_ | refine Ext.trans ?_ (Hid.out (by assumption))))))).mono ?_; rintro e wq ⟨he, hb⟩; rw [HC.out] at he; subst he; have hxr := hid hb; have j0 := hb.keep j0; have j1 := hb.keep j1; have j2 := hb.keep j2; clear hb) | (at_builtin; refine app1 (ys := toldOf bs ((xs.take k).map (·.id))) rfl _ _ 25 rfl i0 _ 24 Try.underlying25 I1.out I2.out I3.out I4.out rfl (by decide) rfl (hown.out.ext (by (repeat (first | exact Ext.refl _ | refine Ext.alloc ?_ _ | refine Ext.drewN ?_ _ | refine Ext.drew ?_ | refine Ext.trans ?_ (Hid.out (by assumption)))))) xs[k].id _ rfl (news_alloc (cs := Id.cs xs[k].id) rfl) (Id.one _) (by omega) (by decide) (Ext.size (by (repeat (first | exact Ext.refl _ | refine Ext.alloc ?_ _ | refine Ext.drewN ?_ _ | refine Ext.drew ?_ | refine Ext.trans ?_ (Hid.out (by assumption)))))) ?_; intro g cap' w1 hown1 hgrow; have HO1 := hid hown1; have HG := hid hgrow; clear hown1 hgrow))
            go_roundg (gk - 1)
            case measure => omega
            case rel => exact ⟨k + 1, _, _, _, by omega, by go_num, rfl, (by rw [Hs.out]; unfold toldStep; rw [if_pos ⟨by rw [← Hmn.out]; exact h16, HA.out, HC.out⟩]; exact HO1.out), HG.out.ext (hown.out.ext (by (repeat (first | exact Ext.refl _ | refine Ext.alloc ?_ _ | refine Ext.drewN ?_ _ | refine Ext.drew ?_ | refine Ext.trans ?_ (Hid.out (by assumption)))))) (Nat.le_refl _) (by (repeat (first | exact Ext.refl _ | refine Ext.alloc ?_ _ | refine Ext.drewN ?_ _ | refine Ext.drew ?_ | refine Ext.trans ?_ (Hid.out (by assumption)))))⟩
      · have h16i : ¬ (m : Int) < 16 := by omega
        go_wp2_with fail
        go_roundg (gk - 1)
        case measure => omega
        case rel => exact ⟨k + 1, aa, m, cp, by omega, by go_num, rfl, (by rw [Hs.out]; unfold toldStep; rw [if_neg (fun c => by (have := c.1; have := Hmn.out; omega))]; exact hown.out.ext (by (repeat (first | exact Ext.refl _ | refine Ext.alloc ?_ _ | refine Ext.drewN ?_ _ | refine Ext.drew ?_ | refine Ext.trans ?_ (Hid.out (by assumption)))))), (by (repeat (first | exact Ext.refl _ | refine Ext.alloc ?_ _ | refine Ext.drewN ?_ _ | refine Ext.drew ?_ | refine Ext.trans ?_ (Hid.out (by assumption)))))⟩
    · have hk' : xs.take k = xs := List.take_of_length_le (by omega)
      rw [hk'] at hown
      clear hk'
      go_wp2
      go_ret
      exact ⟨aa, m, cp, rfl, hown.out.sl, (by (repeat (first | exact Ext.refl _ | refine Ext.alloc ?_ _ | refine Ext.drewN ?_ _ | refine Ext.drew ?_ | refine Ext.trans ?_ (Hid.out (by assumption)))))⟩
end Go.Proofs.Ytncadipipomebaa
