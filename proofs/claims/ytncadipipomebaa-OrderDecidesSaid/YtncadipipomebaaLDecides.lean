/- Each entry that is open is decided once, or stays: the statement's walk. -/
import Derived.Test.YtncadipipomebaaFew19
import Derived.Test.YtncadipipomebaaSame
namespace Go.Proofs.Ytncadipipomebaa
open Go.RowKit
attribute [local go_sem ↓] Go.wp_at_zero Go.wp_at_succ

theorem dec_len (f : Id → Int) (h : ∀ i, f i = 0 ∨ f i = 1 ∨ f i = 2) : ∀ ds : List ED, (decY f ds).length + (decN f ds).length + (decO f ds).length = ds.length
  | [] => rfl
  | d :: ds => by
    have ih := dec_len f h ds
    unfold decY decN decO at *
    rw [List.length_map] at *
    rcases h d.id with e | e | e
    all_goals
      rw [List.filter_cons, List.filter_cons, List.filter_cons]
      simp only [e]
      simp
      omega
theorem says_nil (i : Id) : saysOf [] i = 1 := rfl
theorem decY_nil (ds : List ED) : decY (saysOf []) ds = ds := by
  unfold decY; rw [List.filter_eq_self]; intro d _; rfl
theorem decN_nil (ds : List ED) : decN (saysOf []) ds = [] := by
  unfold decN; rw [List.map_eq_nil_iff, List.filter_eq_nil_iff]; intro d _; rw [says_nil]; decide
theorem decO_nil (ds : List ED) : decO (saysOf []) ds = [] := by
  unfold decO; rw [List.filter_eq_nil_iff]; intro d _; rw [says_nil]; decide
theorem mem_says {f : Id → Int} {l : List EP} {ds : List ED} {v : Int} (hm : l.map (·.d) = ds.filter (fun d => f d.id == v)) (h : ∀ p, p ∈ l → p.x.id = p.d.id) {k : Nat} (hk : k < l.length) : f l[k].x.id = v := by
  have : l[k].d ∈ l.map (·.d) := List.mem_map.2 ⟨l[k], List.getElem_mem hk, rfl⟩
  rw [hm, List.mem_filter] at this
  rw [h _ (List.getElem_mem hk)]
  simpa using this.2

theorem two_says {f : Id → Int} {ds : List ED} {L : List Id} (h : decN f ds = L) {i : Id} (hi : i ∈ L) : f i = 2 := by
  rw [← h] at hi
  unfold decN at hi
  obtain ⟨d, hd, rfl⟩ := List.mem_map.1 hi
  rw [List.mem_filter] at hd
  simpa using hd.2

set_option maxRecDepth 100000 in
set_option maxHeartbeats 4000000 in
theorem decides19l_any (la : Option Addr) (ln lc : Nat) (xs : List EP) (ka : Option Addr) (kn kc : Nat) (kids : List Kid) (w : World) (hX : Ents w la ln lc xs) (hK : Kids3 w ka kn kc kids) :
    Calls Try.prog 11 #[.slice la ln lc, .slice ka kn kc] w fun e w' => e = .returned (.bool true) ∧ Ext w w' := by
  obtain rfl := hX.sl.neq
  have hm1 := hX.sl.max
  have hl1 := hX.sl.len
  unfold maxLen at hm1
  have HX := hid hX
  have HK := hid hK
  clear hX hK
  go_enter Try.func11, Try.ntmps11
  go_wp2_with fail
  refine (awake19_any w).mono ?_
  rintro e w1 ⟨rfl, hb⟩
  have hx1 := hid hb
  clear hb
  go_wp2_with fail
  refine (few19_any ⟨0, ⟨none, 0, 0⟩, ⟨none, 0, 0⟩, ⟨none, 0, 0⟩⟩ [] la xs.length lc xs none 0 0 [] ka kn kc kids _ (Ents.nil _) (HX.out.ext (by (repeat (first | exact Ext.refl _ | refine Ext.alloc ?_ _ | refine Ext.drewN ?_ _ | refine Ext.drew ?_ | refine Ext.trans ?_ (Hid.out (by assumption)))))) (Ents.nil _) (HK.out.ks.ext (by (repeat (first | exact Ext.refl _ | refine Ext.alloc ?_ _ | refine Ext.drewN ?_ _ | refine Ext.drew ?_ | refine Ext.trans ?_ (Hid.out (by assumption))))))).mono ?_
  rintro e w2 ⟨f1, rfl, hf1, hb⟩
  have hx2 := hid hb
  have HF1 := hid hf1
  clear hb hf1
  cases f1
  · go_wp2
    go_ret
    refine ⟨rfl, ?_⟩
    (repeat (first | exact Ext.refl _ | refine Ext.alloc ?_ _ | refine Ext.drewN ?_ _ | refine Ext.drew ?_ | refine Ext.trans ?_ (Hid.out (by assumption))))
  have h20 : xs.length ≤ 20 := (HF1.out (by trivial)).1.1
  have HSM := hid (HF1.out (by trivial)).1.2
  clear HF1
  go_wp2_with fail
  refine (decide_any la xs.length lc xs ka kn kc kids _ (HX.out.ext (by (repeat (first | exact Ext.refl _ | refine Ext.alloc ?_ _ | refine Ext.drewN ?_ _ | refine Ext.drew ?_ | refine Ext.trans ?_ (Hid.out (by assumption)))))) HSM.out (HK.out.ks.ext (by (repeat (first | exact Ext.refl _ | refine Ext.alloc ?_ _ | refine Ext.drewN ?_ _ | refine Ext.drew ?_ | refine Ext.trans ?_ (Hid.out (by assumption)))))) (by omega)).mono ?_
  rintro e w3 ⟨ya, yn, yc, ys, na, nn, nc, oa, on, oc, os, rfl, hY, hmY, hN, hO, hmO, hb⟩
  obtain rfl := hY.sl.neq
  obtain rfl := hO.sl.neq
  have hlen : ys.length + nn + os.length = xs.length := by
    have h1 := dec_len (saysOf kids) (says_cases kids) (xs.map (·.d))
    have h2 := congrArg List.length hmY
    have h3 := congrArg List.length hmO
    have h4 := hN.neq
    rw [List.length_map] at h1 h2 h3
    omega
  have hN2 := hN.neq
  have HN2 := hid hN2
  generalize hL : decN (saysOf kids) (xs.map (·.d)) = L at hN hN2
  obtain rfl := hN.neq
  have HLL := hid hL
  have hx3 := hid hb
  have HY := hid hY
  have HN := hid hN
  have HO := hid hO
  have HMY := hid hmY
  have HMO := hid hmO
  have hy1 := hY.sl.len
  have hy2 := hY.sl.max
  have ho1 := hO.sl.len
  have ho2 := hO.sl.max
  have hn1 := hN.len
  have hn2 := hN.max
  unfold maxLen at hy2 ho2 hn2
  have hlenI : (ys.length : Int) + (L.length : Int) + (os.length : Int) = (xs.length : Int) := by omega
  have HLEN := hid hlen
  have hy20 : ys.length ≤ 20 := by omega
  have hn20 : L.length ≤ 20 := by omega
  have ho20 : os.length ≤ 20 := by omega
  have hne : (((ys.length : Int) + (L.length : Int) + (os.length : Int)) != (xs.length : Int)) = false := by rw [hlenI]; simp
  clear hb hY hN hO hmY hmO hL hN2 hlen hlenI HN2
  go_wp2_with fail
  go_loopg [9] (ys.length) (fun g st wr => ∃ k : Nat, g + k = ys.length ∧ st = .int .i64 k ∧ Hid (Ext w3 wr))
  case atStart => exact ⟨0, by omega, rfl, Ext.refl _⟩
  case round =>
    clear hne
    obtain ⟨k, hg, rfl, hx⟩ := hrel
    by_cases hk : k < ys.length
    · obtain ⟨b, o, rfl, hc⟩ := HY.out.sl.get k hk
      obtain ⟨c0, c1, c2, c3, c4, c5, c6, c7⟩ := cells8 (w := wr) (b := b) (o := o + k * 8) (x := ys[k].x) (fun j v hj => hx.out.keep (hc j v hj))
      have HS := hid (mem_says HMY.out (fun p hp => (HY.out.is p hp).id) hk)
      clear hc
      have b0 : (0 : Int) ≤ (k : Int) := by omega
      have b1 : (k : Int) < (ys.length : Int) := by omega
      go_wp2_with (go_at_call 25; refine (says_any _ _ _ kids ys[k].x.id _ (HK.out.ks.ext (by (repeat (first | exact Ext.refl _ | refine Ext.alloc ?_ _ | refine Ext.drewN ?_ _ | refine Ext.drew ?_ | refine Ext.trans ?_ (Hid.out (by assumption))))))).mono ?_; rintro e wq ⟨he, hb⟩; rw [HS.out] at he; subst he; have hyq := hid hb; clear hb)
      go_roundg (gk - 1)
      case measure => omega
      case rel => exact ⟨k + 1, by omega, by go_num, (by (repeat (first | exact Ext.refl _ | refine Ext.alloc ?_ _ | refine Ext.drewN ?_ _ | refine Ext.drew ?_ | refine Ext.trans ?_ (Hid.out (by assumption)))))⟩
    · go_wp2_with fail
      go_loopg [10] (L.length) (fun g st wv => ∃ k : Nat, g + k = L.length ∧ st = .int .i64 k ∧ Hid (Ext wr wv))
      case atStart => exact ⟨0, by omega, rfl, Ext.refl _⟩
      case round =>
        obtain ⟨k2, hg2, rfl, hy⟩ := hrel
        rename World => wv
        by_cases hk2 : k2 < L.length
        · obtain ⟨b, o, rfl, hc⟩ := HN.out.get k2 hk2
          have hE : Ext w3 wv := (by (repeat (first | exact Ext.refl _ | refine Ext.alloc ?_ _ | refine Ext.drewN ?_ _ | refine Ext.drew ?_ | refine Ext.trans ?_ (Hid.out (by assumption)))))
          obtain ⟨c0, c1, c2⟩ := cells3 (w := wv) (b := b) (o := o + k2 * 3) (x := L[k2]) (fun j v hj => hE.keep (hc j v hj))
          have HS : Hid (saysOf kids L[k2] = 2) := by
            exact two_says HLL.out (List.getElem_mem hk2)
          clear hc hE
          have b0 : (0 : Int) ≤ (k2 : Int) := by omega
          have b1 : (k2 : Int) < (L.length : Int) := by omega
          go_wp2_with (go_at_call 25; refine (says_any _ _ _ kids L[k2] _ (HK.out.ks.ext (by (repeat (first | exact Ext.refl _ | refine Ext.alloc ?_ _ | refine Ext.drewN ?_ _ | refine Ext.drew ?_ | refine Ext.trans ?_ (Hid.out (by assumption))))))).mono ?_; rintro e wq ⟨he, hb⟩; rw [HS.out] at he; subst he; have hyq := hid hb; clear hb)
          go_roundg (gk - 1)
          case measure => omega
          case rel => exact ⟨k2 + 1, by omega, by go_num, (by (repeat (first | exact Ext.refl _ | refine Ext.alloc ?_ _ | refine Ext.drewN ?_ _ | refine Ext.drew ?_ | refine Ext.trans ?_ (Hid.out (by assumption)))))⟩
        · go_wp2_with fail
          go_loopg [11] (os.length) (fun g st wu => ∃ k : Nat, g + k = os.length ∧ st = .int .i64 k ∧ Hid (Ext wv wu))
          case atStart => exact ⟨0, by omega, rfl, Ext.refl _⟩
          case round =>
            obtain ⟨k3, hg3, rfl, hz⟩ := hrel
            rename World => wu
            by_cases hk3 : k3 < os.length
            · obtain ⟨b, o, rfl, hc⟩ := HO.out.sl.get k3 hk3
              have hE : Ext w3 wu := (by (repeat (first | exact Ext.refl _ | refine Ext.alloc ?_ _ | refine Ext.drewN ?_ _ | refine Ext.drew ?_ | refine Ext.trans ?_ (Hid.out (by assumption)))))
              obtain ⟨c0, c1, c2, c3, c4, c5, c6, c7⟩ := cells8 (w := wu) (b := b) (o := o + k3 * 8) (x := os[k3].x) (fun j v hj => hE.keep (hc j v hj))
              have HS := hid (mem_says HMO.out (fun p hp => (HO.out.is p hp).id) hk3)
              clear hc hE
              have b0 : (0 : Int) ≤ (k3 : Int) := by omega
              have b1 : (k3 : Int) < (os.length : Int) := by omega
              go_wp2_with (go_at_call 25; refine (says_any _ _ _ kids os[k3].x.id _ (HK.out.ks.ext (by (repeat (first | exact Ext.refl _ | refine Ext.alloc ?_ _ | refine Ext.drewN ?_ _ | refine Ext.drew ?_ | refine Ext.trans ?_ (Hid.out (by assumption))))))).mono ?_; rintro e wq ⟨he, hb⟩; rw [HS.out] at he; subst he; have hyq := hid hb; clear hb)
              go_roundg (gk - 1)
              case measure => omega
              case rel => exact ⟨k3 + 1, by omega, by go_num, (by (repeat (first | exact Ext.refl _ | refine Ext.alloc ?_ _ | refine Ext.drewN ?_ _ | refine Ext.drew ?_ | refine Ext.trans ?_ (Hid.out (by assumption)))))⟩
            · go_wp2_with fail
              refine (decide_any la xs.length lc xs none 0 0 [] _ (HX.out.ext (by (repeat (first | exact Ext.refl _ | refine Ext.alloc ?_ _ | refine Ext.drewN ?_ _ | refine Ext.drew ?_ | refine Ext.trans ?_ (Hid.out (by assumption)))))) HSM.out ⟨Sl.nil _ (fun _ => rfl), fun m hm => by cases hm⟩ (by omega)).mono ?_
              rintro e w4 ⟨za, zn, zc, zs, pa, pn, pc, ta, tn, tc, ts, rfl, hY, hmY, hN, hO, hmO, hb⟩
              rw [decY_nil] at hmY
              rw [decN_nil] at hN
              rw [decO_nil] at hmO
              obtain rfl : pn = 0 := hN.neq
              obtain rfl := no_ent hO hmO
              have HZ := hid hY
              have HMZ := hid hmY
              have hx4 := hid hb
              clear hb hY hmY hN hO hmO
              go_wp2_with fail
              refine (sameE_any za la zn xs.length zc lc zs xs _ (HZ.out.ext (by (repeat (first | exact Ext.refl _ | refine Ext.alloc ?_ _ | refine Ext.drewN ?_ _ | refine Ext.drew ?_ | refine Ext.trans ?_ (Hid.out (by assumption)))))) (HX.out.ext (by (repeat (first | exact Ext.refl _ | refine Ext.alloc ?_ _ | refine Ext.drewN ?_ _ | refine Ext.drew ?_ | refine Ext.trans ?_ (Hid.out (by assumption)))))) HMZ.out).mono ?_
              rintro e w5 ⟨rfl, hb⟩
              have hx5 := hid hb
              clear hb
              go_wp2
              go_ret
              refine ⟨rfl, ?_⟩
              (repeat (first | exact Ext.refl _ | refine Ext.alloc ?_ _ | refine Ext.drewN ?_ _ | refine Ext.drew ?_ | refine Ext.trans ?_ (Hid.out (by assumption))))
end Go.Proofs.Ytncadipipomebaa
