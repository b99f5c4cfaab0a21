/- A list that is handed on, piece by piece, is all of it in the end: the statement's walk. -/
import Derived.Test.YtncadipipomebaaFew19
import Derived.Test.YtncadipipomebaaSame
import Derived.Test.YtncadipipomebaaStep
import Derived.Test.YtncadipipomebaaRTally
import Derived.Test.YtncadipipomebaaOpen
import Derived.Deep.DeepCutAuto
namespace Go.Proofs.Ytncadipipomebaa
open Go.RowKit
attribute [local go_sem ↓] Go.wp_at_zero Go.wp_at_succ

theorem EntryOwn.grownBy {α : Type} {w w' : World} {base base' : Nat} {x : EV} {d : ED} {e : TypeId} {sz : Nat} {c : α → List Value} {aa : Option Addr} {n cap : Nat} {zs : List α} (h : EntryOwn w base x d) (hg : w.grownBy w' (Value.ownBlock (.slice aa n cap)))
    (hr : Own w base' e sz c aa n cap zs) (h1 : e ≠ 97) (h2 : e ≠ 88) (h3 : e ≠ 99) : EntryOwn w' base x d := by
  have kp : ∀ {β : Type} {b' : Nat} {e' : TypeId} {sz' : Nat} {c' : β → List Value} {bb : Option Addr} {n' cap' : Nat} {ys : List β}, Own w b' e' sz' c' bb n' cap' ys → Dis aa bb → Own w' b' e' sz' c' bb n' cap' ys := fun o hd => o.keep fun ad ha => hg.block ad.block (o.lt ad ha).2 (fun q => by
    cases aa with
    | none => cases q
    | some x => simp only [Value.ownBlock, Option.some.injEq] at q; exact hd x ad rfl ha q.symm)
  obtain ⟨ys, q, o, a⟩ := h.e
  exact ⟨h.k, h.id, h.c, h.u, kp h.f (hr.ne h.f h1), ys, q, kp o (hr.ne o h2), fun y hy => kp (a y hy) (hr.ne (a y hy) h3)⟩

theorem take_more {α : Type} {xs : List α} {n pn : Nat} (h : pn = ((xs.drop n).take 4).length) : xs.take (n + pn) = xs.take n ++ (xs.drop n).take 4 := by
  rw [List.take_add]
  congr 1
  rw [h, List.length_take]
  rcases Nat.le_total 4 (xs.drop n).length with h4 | h4
  · rw [Nat.min_eq_left h4]
  · rw [Nat.min_eq_right h4, List.take_of_length_le (Nat.le_refl _), List.take_of_length_le h4]

set_option maxRecDepth 100000 in
set_option maxHeartbeats 4000000 in
theorem from19l_any (la : Option Addr) (ln lc : Nat) (xs : List EP) (vi : Int) (w : World) (hX : Ents w la ln lc xs) (hwf : (Lit.int .u64 vi).wf = true) :
    Calls Try.prog 12 #[.slice la ln lc, .int .u64 vi] w fun e w' => e = .returned (.bool true) ∧ Ext w w' := by
  obtain ⟨i0, hi, hz0, hz1, hz2⟩ := info_parts infoE
  obtain ⟨v, rfl⟩ : ∃ v : Nat, vi = v := ⟨vi.toNat, by simp [Lit.wf, show IntKind.u64.min = 0 from rfl] at hwf; omega⟩
  obtain rfl := hX.sl.neq
  have hm1 := hX.sl.max
  have hl1 := hX.sl.len
  unfold maxLen at hm1
  have HX := hid hX
  have I1 := hid hi
  have I2 := hid hz0
  have I3 := hid hz1
  have I4 := hid hz2
  clear hX hwf hi hz0 hz1 hz2
  go_enter Try.func12, Try.ntmps12
  go_wp2_with fail
  refine (awake19_any w).mono ?_
  rintro e w1 ⟨rfl, hb⟩
  have hx1 := hid hb
  clear hb
  go_wp2_with fail
  refine (few19_any ⟨0, ⟨la, xs.length, lc⟩, ⟨none, 0, 0⟩, ⟨none, 0, 0⟩⟩ xs none 0 0 [] none 0 0 [] none 0 0 [] _ (HX.out.ext (by (repeat (first | exact Ext.refl _ | refine Ext.alloc ?_ _ | refine Ext.drewN ?_ _ | refine Ext.drew ?_ | refine Ext.trans ?_ (Hid.out (by assumption)))))) (Ents.nil _) (Ents.nil _) ⟨Sl.nil _ (fun _ => rfl), fun m hm => by cases hm⟩).mono ?_
  rintro e w2 ⟨f1, rfl, hf1, hb⟩
  have hx2 := hid hb
  have HF1 := hid hf1
  clear hb hf1
  cases f1
  · go_wp2
    go_ret
    refine ⟨rfl, ?_⟩
    (repeat (first | exact Ext.refl _ | refine Ext.alloc ?_ _ | refine Ext.drewN ?_ _ | refine Ext.drew ?_ | refine Ext.trans ?_ (Hid.out (by assumption))))
  have h20 : xs.length ≤ 20 := (HF1.out rfl).2.1.1
  have HSM := hid (HF1.out rfl).2.1.2
  clear HF1
  obtain ⟨m, hm⟩ : ∃ m, m = min v xs.length := ⟨_, rfl⟩
  have hmle : m ≤ xs.length := by omega
  have HMIN := hid hm
  clear hm
  go_upto_region 4 with (fail)
  go_cut [6] (fun c wx => c = .int .u64 (m : Int) ∧ w2 = wx)
  case first =>
    by_cases hvl : v ≤ xs.length
    · have hvi : (v : Int) ≤ (xs.length : Int) := by omega
      obtain rfl : v = m := by (have := HMIN.out; omega)
      go_wp2_with fail
      go_meet
      exact ⟨rfl, rfl⟩
    · have hvi : ¬ (v : Int) ≤ (xs.length : Int) := by omega
      obtain rfl : xs.length = m := by (have := HMIN.out; omega)
      go_wp2_with fail
      go_meet
      exact ⟨rfl, rfl⟩
  case rest =>
    obtain ⟨rfl, rfl⟩ := hcut
    have HP := hid (Sl.take HX.out.sl m hmle)
    go_wp2_with (at_builtin; refine wpList_plain rfl fun KK hKK => ?_; refine wpOn (c := EP.cs) (ys0 := []) (ys := xs.take m) (.tmp 21) (.tmp 24) 24 50 rfl i0 _ 96 Try.underlying24 I1.out I2.out I3.out I4.out rfl (by decide) rfl w2 (by (repeat (first | exact Ext.refl _ | refine Ext.alloc ?_ _ | refine Ext.drewN ?_ _ | refine Ext.drew ?_ | refine Ext.trans ?_ (Hid.out (by assumption))))) (Own.empty (by (repeat (first | (refine heap_new ?_; (simp; done)) | refine heap_old (by first | (simp; done) | (simp; omega)) ?_))) (by simp) EP.wid) rfl (HP.out.ext (by (repeat (first | exact Ext.refl _ | refine Ext.alloc ?_ _ | refine Ext.drewN ?_ _ | refine Ext.drew ?_ | refine Ext.trans ?_ (Hid.out (by assumption)))))) EP.one (by omega) (by decide) ?_; intro bb n1 cap1 w6 hn1 hown1 hx hg1; refine hKK _ _ ?_; have HO1 := hid hown1; have hy := hid hx; have HN1 := hid hn1; clear hown1 hx hg1 hn1)
    go_loopg [7, 8, 9] 25 (fun g gv st _ wr => ∃ (i : Nat) (aa : Option Addr) (n cap : Nat) (ys : List EP), g + i = 25 ∧ st = .int .i64 i ∧ gv = .slice aa n cap ∧ n ≤ xs.length ∧ (n = xs.length ∨ 4 * i ≤ n) ∧ Hid (Own wr w2.heap.size 50 8 EP.cs aa n cap ys ∧ ys.map (·.d) = (xs.take n).map (·.d) ∧ ∀ y, y ∈ ys → y ∈ xs ∨ EntryOwn wr w2.heap.size y.x y.d) ∧ Hid (Ext w2 wr))
    case atStart =>
      refine ⟨0, bb, n1, cap1, xs.take m, by omega, rfl, rfl, by (have := HN1.out; omega), .inr (by omega), ⟨HO1.out, ?_, fun y hy => .inl (List.mem_of_mem_take hy)⟩, hy.out⟩
      have := HN1.out
      rw [show n1 = m from by omega]
    case round =>
      obtain ⟨i, aa, n, cap, ys, hg, rfl, rfl, hn, hpr, hown, hx⟩ := hrel
      have hcl := hown.out.1.sl.len
      have hcm := hown.out.1.sl.max
      unfold maxLen at hcm
      by_cases hi : i < 25
      · have hii : (i : Int) < 25 := by omega
        go_upto_region 10 with (go_at_call 34; refine (from19_any la xs.length lc xs n _ (HX.out.ext (by (repeat (first | exact Ext.refl _ | refine Ext.alloc ?_ _ | refine Ext.drewN ?_ _ | refine Ext.drew ?_ | refine Ext.trans ?_ (Hid.out (by assumption)))))) HSM.out (by omega)).mono ?_; rintro e wq ⟨pa, pn, pc, ps, rfl, hpo, hpe, hpm, hb⟩; have HPO := hid hpo; have HPE := hid hpe; have HPM := hid hpm; have hxq := hid hb; clear hpo hpe hpm hb)
        have hpn : pn = ((xs.drop n).take 4).length := by
          have h1 := HPO.out.neq
          have h2 := congrArg List.length HPM.out
          rw [List.length_map, List.length_map] at h2
          omega
        have HPN := hid hpn
        rw [List.length_take, List.length_drop] at hpn
        have hp4 : pn ≤ 4 := by omega
        have hp5 : pn = 0 → n = xs.length := by omega
        have hsum : n + pn ≤ xs.length := by omega
        have hpr2 : n + pn = xs.length ∨ 4 * (i + 1) ≤ n + pn := by omega
        have hpl := HPO.out.sl.len
        have hpm2 := HPO.out.sl.max
        unfold maxLen at hpm2
        clear hpn
        by_cases hp0 : pn = 0
        · have hne : ¬ (n : Int) < (xs.length : Int) := by have := hp5 hp0; omega
          have hnl := hid (hp5 hp0)
          clear hp5
          go_wp2_with (at_builtin; refine wpList_plain rfl fun KK hKK => ?_; refine wpOn (c := EP.cs) (ys0 := ys) (ys := ps) (.tmp 50) (.tmp 51) 24 50 rfl i0 _ 96 Try.underlying24 I1.out I2.out I3.out I4.out rfl (by decide) rfl w2 (by (repeat (first | exact Ext.refl _ | refine Ext.alloc ?_ _ | refine Ext.drewN ?_ _ | refine Ext.drew ?_ | refine Ext.trans ?_ (Hid.out (by assumption))))) (hown.out.1.ext (by (repeat (first | exact Ext.refl _ | refine Ext.alloc ?_ _ | refine Ext.drewN ?_ _ | refine Ext.drew ?_ | refine Ext.trans ?_ (Hid.out (by assumption)))))) rfl (HPO.out.sl.ext (by (repeat (first | exact Ext.refl _ | refine Ext.alloc ?_ _ | refine Ext.drewN ?_ _ | refine Ext.drew ?_ | refine Ext.trans ?_ (Hid.out (by assumption)))))) EP.one (by omega) (by decide) ?_; intro bb n1 cap1 w6 hn1 hown1 hx6 hg1; refine hKK _ _ ?_; have HO1 := hid hown1; have hy := hid hx6; have HG1 := hid hg1; have HN1 := hid hn1; clear hown1 hx6 hg1 hn1)
          go_roundg (gk - 1)
          case measure => omega
          case rel =>
            refine ⟨i + 1, bb, n1, cap1, ys ++ ps, by omega, by go_num, rfl, by (have := HN1.out; omega), by (have := HN1.out; omega), ⟨HO1.out, ?_, fun y hy => ?_⟩, (by (repeat (first | exact Ext.refl _ | refine Ext.alloc ?_ _ | refine Ext.drewN ?_ _ | refine Ext.drew ?_ | refine Ext.trans ?_ (Hid.out (by assumption)))))⟩
            · rw [List.map_append, hown.out.2.1, HPM.out, HN1.out, take_more HPN.out, List.map_append]
            · rcases List.mem_append.1 hy with hy | hy
              · rcases hown.out.2.2 y hy with h | h
                · exact .inl h
                · exact .inr ((h.ext (by (repeat (first | exact Ext.refl _ | refine Ext.alloc ?_ _ | refine Ext.drewN ?_ _ | refine Ext.drew ?_ | refine Ext.trans ?_ (Hid.out (by assumption)))))).grownBy HG1.out (hown.out.1.ext (by (repeat (first | exact Ext.refl _ | refine Ext.alloc ?_ _ | refine Ext.drewN ?_ _ | refine Ext.drew ?_ | refine Ext.trans ?_ (Hid.out (by assumption)))))) (by decide) (by decide) (by decide))
              · exact .inr ((((HPE.out y hy).mono (Ext.size (by (repeat (first | exact Ext.refl _ | refine Ext.alloc ?_ _ | refine Ext.drewN ?_ _ | refine Ext.drew ?_ | refine Ext.trans ?_ (Hid.out (by assumption))))))).ext (by (repeat (first | exact Ext.refl _ | refine Ext.alloc ?_ _ | refine Ext.drewN ?_ _ | refine Ext.drew ?_ | refine Ext.trans ?_ (Hid.out (by assumption)))))).grownBy HG1.out (hown.out.1.ext (by (repeat (first | exact Ext.refl _ | refine Ext.alloc ?_ _ | refine Ext.drewN ?_ _ | refine Ext.drew ?_ | refine Ext.trans ?_ (Hid.out (by assumption)))))) (by decide) (by decide) (by decide))
        · have hp0i : 0 < pn := by omega
          clear hp5
          go_wp2_with (at_builtin; refine wpList_plain rfl fun KK hKK => ?_; refine wpOn (c := EP.cs) (ys0 := ys) (ys := ps) (.tmp 50) (.tmp 51) 24 50 rfl i0 _ 96 Try.underlying24 I1.out I2.out I3.out I4.out rfl (by decide) rfl w2 (by (repeat (first | exact Ext.refl _ | refine Ext.alloc ?_ _ | refine Ext.drewN ?_ _ | refine Ext.drew ?_ | refine Ext.trans ?_ (Hid.out (by assumption))))) (hown.out.1.ext (by (repeat (first | exact Ext.refl _ | refine Ext.alloc ?_ _ | refine Ext.drewN ?_ _ | refine Ext.drew ?_ | refine Ext.trans ?_ (Hid.out (by assumption)))))) rfl (HPO.out.sl.ext (by (repeat (first | exact Ext.refl _ | refine Ext.alloc ?_ _ | refine Ext.drewN ?_ _ | refine Ext.drew ?_ | refine Ext.trans ?_ (Hid.out (by assumption)))))) EP.one (by omega) (by decide) ?_; intro bb n1 cap1 w6 hn1 hown1 hx6 hg1; refine hKK _ _ ?_; have HO1 := hid hown1; have hy := hid hx6; have HG1 := hid hg1; have HN1 := hid hn1; clear hown1 hx6 hg1 hn1)
          go_roundg (gk - 1)
          case measure => omega
          case rel =>
            refine ⟨i + 1, bb, n1, cap1, ys ++ ps, by omega, by go_num, rfl, by (have := HN1.out; omega), by (have := HN1.out; omega), ⟨HO1.out, ?_, fun y hy => ?_⟩, (by (repeat (first | exact Ext.refl _ | refine Ext.alloc ?_ _ | refine Ext.drewN ?_ _ | refine Ext.drew ?_ | refine Ext.trans ?_ (Hid.out (by assumption)))))⟩
            · rw [List.map_append, hown.out.2.1, HPM.out, HN1.out, take_more HPN.out, List.map_append]
            · rcases List.mem_append.1 hy with hy | hy
              · rcases hown.out.2.2 y hy with h | h
                · exact .inl h
                · exact .inr ((h.ext (by (repeat (first | exact Ext.refl _ | refine Ext.alloc ?_ _ | refine Ext.drewN ?_ _ | refine Ext.drew ?_ | refine Ext.trans ?_ (Hid.out (by assumption)))))).grownBy HG1.out (hown.out.1.ext (by (repeat (first | exact Ext.refl _ | refine Ext.alloc ?_ _ | refine Ext.drewN ?_ _ | refine Ext.drew ?_ | refine Ext.trans ?_ (Hid.out (by assumption)))))) (by decide) (by decide) (by decide))
              · exact .inr ((((HPE.out y hy).mono (Ext.size (by (repeat (first | exact Ext.refl _ | refine Ext.alloc ?_ _ | refine Ext.drewN ?_ _ | refine Ext.drew ?_ | refine Ext.trans ?_ (Hid.out (by assumption))))))).ext (by (repeat (first | exact Ext.refl _ | refine Ext.alloc ?_ _ | refine Ext.drewN ?_ _ | refine Ext.drew ?_ | refine Ext.trans ?_ (Hid.out (by assumption)))))).grownBy HG1.out (hown.out.1.ext (by (repeat (first | exact Ext.refl _ | refine Ext.alloc ?_ _ | refine Ext.drewN ?_ _ | refine Ext.drew ?_ | refine Ext.trans ?_ (Hid.out (by assumption)))))) (by decide) (by decide) (by decide))
      · have hii : ¬ (i : Int) < 25 := by omega
        have hnl : n = xs.length := by omega
        subst hnl
        go_wp2_with (go_at_call 18; refine (sameE_any aa la xs.length xs.length cap lc ys xs _ ⟨hown.out.1.sl.ext (by (repeat (first | exact Ext.refl _ | refine Ext.alloc ?_ _ | refine Ext.drewN ?_ _ | refine Ext.drew ?_ | refine Ext.trans ?_ (Hid.out (by assumption))))), fun p hp => (hown.out.2.2 p hp).elim (fun h => (HX.out.is p h).ext (by (repeat (first | exact Ext.refl _ | refine Ext.alloc ?_ _ | refine Ext.drewN ?_ _ | refine Ext.drew ?_ | refine Ext.trans ?_ (Hid.out (by assumption)))))) (fun h => h.is.ext (by (repeat (first | exact Ext.refl _ | refine Ext.alloc ?_ _ | refine Ext.drewN ?_ _ | refine Ext.drew ?_ | refine Ext.trans ?_ (Hid.out (by assumption))))))⟩ (HX.out.ext (by (repeat (first | exact Ext.refl _ | refine Ext.alloc ?_ _ | refine Ext.drewN ?_ _ | refine Ext.drew ?_ | refine Ext.trans ?_ (Hid.out (by assumption)))))) (by rw [hown.out.2.1, List.take_of_length_le (by omega)])).mono ?_; rintro e wq ⟨rfl, hb⟩; have hxq := hid hb; clear hb)
        go_ret
        refine ⟨rfl, ?_⟩
        (repeat (first | exact Ext.refl _ | refine Ext.alloc ?_ _ | refine Ext.drewN ?_ _ | refine Ext.drew ?_ | refine Ext.trans ?_ (Hid.out (by assumption))))
end Go.Proofs.Ytncadipipomebaa
