/- A yes is only on what was promised and all say yes to; a no stays a no; what was refused is voted on: the statement's walk. -/
import Derived.Test.YtncadipipomebaaEnds18
import Derived.Test.YtncadipipomebaaSoundP
namespace Go.Proofs.Ytncadipipomebaa
open Go.RowKit
attribute [local go_sem ↓] Go.wp_at_zero Go.wp_at_succ

set_option maxRecDepth 100000 in
set_option maxHeartbeats 4000000 in
theorem sound18_any (pa : Option Addr) (pn pc : Nat) (ps : List EP) (ra : Option Addr) (rn rc : Nat) (rs : List Id) (ka : Option Addr) (kn kc : Nat) (kids : List Kid) (w : World)
    (hP : Ents w pa pn pc ps) (hR : Sl w 3 Id.cs ra rn rc rs) (hK : Kids3 w ka kn kc kids) :
    Calls Try.prog 5 #[.slice pa pn pc, .slice ra rn rc, .slice ka kn kc] w fun e w' => e = .returned (.bool true) ∧ Ext w w' := by
  obtain rfl := hP.sl.neq
  obtain rfl := hR.neq
  obtain rfl := hK.ks.sl.neq
  have hm1 := hP.sl.max
  have hl1 := hP.sl.len
  have hm2 := hR.max
  have hl2 := hR.len
  have hm3 := hK.ks.sl.max
  have hl3 := hK.ks.sl.len
  unfold maxLen at hm1 hm2 hm3
  have HP := hid hP
  have HR := hid hR
  have HK := hid hK
  clear hP hR hK
  go_enter Try.func5, Try.ntmps5
  go_wp2_with fail
  refine (awake18_any w).mono ?_
  rintro e w1 ⟨rfl, hb⟩
  have hx1 := hid hb
  clear hb
  go_wp2_with fail
  refine (few18_any ⟨0, ⟨none, 0, 0⟩, ⟨pa, ps.length, pc⟩, ⟨none, 0, 0⟩⟩ [] ps [] ka kids.length kc kids _ ⟨Ents.nil _, HP.out.ext (by (repeat (first | exact Ext.refl _ | refine Ext.alloc ?_ _ | refine Ext.drewN ?_ _ | refine Ext.drew ?_ | refine Ext.trans ?_ (Hid.out (by assumption))))), Sl.nil _ (fun _ => rfl)⟩ (HK.out.ext (by (repeat (first | exact Ext.refl _ | refine Ext.alloc ?_ _ | refine Ext.drewN ?_ _ | refine Ext.drew ?_ | refine Ext.trans ?_ (Hid.out (by assumption))))))).mono ?_
  rintro e w2 ⟨f1, rfl, hf1, hb⟩
  have hx2 := hid hb
  have HF1 := hid hf1
  clear hb hf1
  cases f1
  · go_wp2
    go_ret
    refine ⟨rfl, ?_⟩
    (repeat (first | exact Ext.refl _ | refine Ext.alloc ?_ _ | refine Ext.drewN ?_ _ | refine Ext.drew ?_ | refine Ext.trans ?_ (Hid.out (by assumption))))
  have hk6 : kids.length ≤ 6 := (HF1.out rfl).2.2.1
  have HF := hid (HF1.out rfl).2.2.2.2
  clear HF1
  by_cases h4 : 4 < rs.length
  · go_wp2
    go_ret
    refine ⟨rfl, ?_⟩
    (repeat (first | exact Ext.refl _ | refine Ext.alloc ?_ _ | refine Ext.drewN ?_ _ | refine Ext.drew ?_ | refine Ext.trans ?_ (Hid.out (by assumption))))
  by_cases h10 : 10 < ps.length
  · go_wp2
    go_ret
    refine ⟨rfl, ?_⟩
    (repeat (first | exact Ext.refl _ | refine Ext.alloc ?_ _ | refine Ext.drewN ?_ _ | refine Ext.drew ?_ | refine Ext.trans ?_ (Hid.out (by assumption))))
  go_wp2_with fail
  refine (tally_any pa ps.length pc (ps.map (·.x)) ra rs.length rc rs ka kids.length kc kids _ (HP.out.evs.ext (by (repeat (first | exact Ext.refl _ | refine Ext.alloc ?_ _ | refine Ext.drewN ?_ _ | refine Ext.drew ?_ | refine Ext.trans ?_ (Hid.out (by assumption)))))) (HR.out.ext (by (repeat (first | exact Ext.refl _ | refine Ext.alloc ?_ _ | refine Ext.drewN ?_ _ | refine Ext.drew ?_ | refine Ext.trans ?_ (Hid.out (by assumption)))))) (HK.out.ks.ext (by (repeat (first | exact Ext.refl _ | refine Ext.alloc ?_ _ | refine Ext.drewN ?_ _ | refine Ext.drew ?_ | refine Ext.trans ?_ (Hid.out (by assumption))))))).mono ?_
  rintro e w3 ⟨la, ln, lc, rfl, hL, hb⟩
  have hlaw := tally_law kids (ps.map (·.x)) rs
  rw [List.length_map] at hlaw
  generalize tallyOf kids (ps.map (·.x)) rs = L at hL hlaw
  obtain rfl := hL.neq
  have hx3 := hid hb
  have HL := hid hL
  have HW := hid hlaw
  have hm4 := hL.max
  have hm5 := hL.len
  unfold maxLen at hm4
  have hL14 : L.length ≤ 14 := by have := hlaw.len; omega
  clear hb hL hlaw
  go_wp2_with fail
  go_loopg [9, 10, 11] (L.length) (fun g st _ _ wr => ∃ k : Nat, g + k = L.length ∧ st = .int .i64 k ∧ Hid (Ext w3 wr))
  case atStart => exact ⟨0, by omega, rfl, Ext.refl _⟩
  case round =>
    obtain ⟨k, hg, rfl, hx⟩ := hrel
    obtain ⟨G, hG⟩ : ∃ G, G = gk := ⟨_, rfl⟩
    by_cases hk : k < L.length
    · obtain ⟨b, o, rfl, hc⟩ := HL.out.get k hk
      have HC := hid hc
      have b0 : (0 : Int) ≤ (k : Int) := by omega
      have b1 : (k : Int) < (L.length : Int) := by omega
      obtain ⟨c0, c1, c2, c3⟩ := cells4 (w := wr) (b := b) (o := o + k * 4) (x := L[k]) (fun q v hq => hx.out.keep (hc q v hq))
      clear hc
      cases hyes : L[k].yes with
      | false =>
        rw [hyes] at c3
        clear hyes
        go_wp2_with fail
        go_roundg (gk - 1)
        case measure => omega
        case rel => exact ⟨k + 1, by omega, by go_num, (by (repeat (first | exact Ext.refl _ | refine Ext.alloc ?_ _ | refine Ext.drewN ?_ _ | refine Ext.drew ?_ | refine Ext.trans ?_ (Hid.out (by assumption)))))⟩
      | true =>
        have hlw := HW.out.yes _ (List.getElem_mem hk) hyes
        have HMine := hid hlw.1
        have HSays := hid hlw.2
        rw [hyes] at c3
        clear hyes hlw
        go_wp2_with fail
        go_loopg [10, 11] (ps.length) (fun g vv st wl => ∃ j : Nat, g + j = ps.length ∧ st = .int .i64 j ∧ vv = .bool ((ps.take j).any (fun p => idEq p.x.id L[k].id)) ∧ Hid (Ext wr wl))
        case atStart => exact ⟨0, by omega, rfl, by simp, Ext.refl _⟩
        case round =>
          obtain ⟨j, hg2, rfl, rfl, hy⟩ := hrel
          rename World => wl
          have hE3 : Ext w3 wl := (by (repeat (first | exact Ext.refl _ | refine Ext.alloc ?_ _ | refine Ext.drewN ?_ _ | refine Ext.drew ?_ | refine Ext.trans ?_ (Hid.out (by assumption)))))
          obtain ⟨e0, e1, e2, e3⟩ := cells4 (w := wl) (b := b) (o := o + k * 4) (x := L[k]) (fun q v hq => hE3.keep (HC.out q v hq))
          clear hE3
          by_cases hj : j < ps.length
          · obtain ⟨b', o', rfl, hc'⟩ := HP.out.sl.get j hj
            have hE : Ext w wl := (by (repeat (first | exact Ext.refl _ | refine Ext.alloc ?_ _ | refine Ext.drewN ?_ _ | refine Ext.drew ?_ | refine Ext.trans ?_ (Hid.out (by assumption)))))
            obtain ⟨v0, v1, v2, v3, v4, v5, v6, v7⟩ := cells8 (w := wl) (b := b') (o := o' + j * 8) (x := ps[j].x) (fun q v hq => hE.keep (hc' q v hq))
            clear hc' hE
            have d0 : (0 : Int) ≤ (j : Int) := by omega
            have d1 : (j : Int) < (ps.length : Int) := by omega
            cases hv : (ps.take j).any (fun p => idEq p.x.id L[k].id) with
            | true =>
              have Hv := hid hv
              clear hv
              go_wp2_with fail
              go_quiet (fail)
              go_wp2
              go_roundg (gk - 1)
              case measure => omega
              case rel => exact ⟨j + 1, by omega, by go_num, by (rw [any_succ hj, Hv.out]; rfl), (by (repeat (first | exact Ext.refl _ | refine Ext.alloc ?_ _ | refine Ext.drewN ?_ _ | refine Ext.drew ?_ | refine Ext.trans ?_ (Hid.out (by assumption)))))⟩
            | false =>
              have Hv := hid hv
              clear hv
              have heq := run_eqId ps[j].x.id.b ps[j].x.id.l ps[j].x.id.s L[k].id.b L[k].id.l L[k].id.s
              cases he : idEq ps[j].x.id L[k].id
              all_goals
                have He := hid he
                have he' : idEq ⟨ps[j].x.id.b, ps[j].x.id.l, ps[j].x.id.s⟩ ⟨L[k].id.b, L[k].id.l, L[k].id.s⟩ = _ := he
                clear he
                go_wp2_with fail
                go_quiet (fail)
                go_wp2
                go_roundg (gk - 1)
                case measure => omega
                case rel => exact ⟨j + 1, by omega, by go_num, by (rw [any_succ hj, Hv.out, He.out]; rfl), (by (repeat (first | exact Ext.refl _ | refine Ext.alloc ?_ _ | refine Ext.drewN ?_ _ | refine Ext.drew ?_ | refine Ext.trans ?_ (Hid.out (by assumption)))))⟩
          · have ej : (ps.take j).any (fun p => idEq p.x.id L[k].id) = true := by
              rw [List.take_of_length_le (by omega)]
              have := HMine.out; rw [List.any_map] at this; exact this
            rw [ej]
            clear ej
            go_wp2_with (go_at_call 25; refine (says_any _ _ _ kids L[k].id _ (HK.out.ks.ext (by (repeat (first | exact Ext.refl _ | refine Ext.alloc ?_ _ | refine Ext.drewN ?_ _ | refine Ext.drew ?_ | refine Ext.trans ?_ (Hid.out (by assumption))))))).mono ?_; rintro e wq ⟨he, hb⟩; rw [HSays.out] at he; subst he; have hy2 := hid hb; clear hb)
            go_roundg (G - 1)
            case measure => omega
            case rel => exact ⟨k + 1, by omega, by go_num, (by (repeat (first | exact Ext.refl _ | refine Ext.alloc ?_ _ | refine Ext.drewN ?_ _ | refine Ext.drew ?_ | refine Ext.trans ?_ (Hid.out (by assumption)))))⟩
    · go_wp2_with fail
      go_loopg [12, 13, 14] (kids.length) (fun g st _ _ wq => ∃ k : Nat, g + k = kids.length ∧ st = .int .i64 k ∧ Hid (Ext wr wq))
      case atStart => exact ⟨0, by omega, rfl, Ext.refl _⟩
      case round =>
        obtain ⟨k2, hg2, rfl, hx'⟩ := hrel
        rename World => wv
        obtain ⟨G2, hG2⟩ : ∃ G2, G2 = gk := ⟨_, rfl⟩
        by_cases hk2 : k2 < kids.length
        · have hmem := hid (List.getElem_mem hk2)
          have hvn : kids[k2].m.v.n = kids[k2].vs.length := (HK.out.ks.votes _ hmem.out).neq
          have hvn := hid hvn
          have hv50 : kids[k2].m.v.n ≤ 50 := HF.out _ hmem.out
          have hcl := (HK.out.ks.votes _ hmem.out).len
          have hcm := (HK.out.ks.votes _ hmem.out).max
          unfold maxLen at hcm
          obtain ⟨b, o, rfl, hc⟩ := HK.out.ks.sl.get k2 hk2
          have HC := hid hc
          clear hc
          have b0 : (0 : Int) ≤ (k2 : Int) := by omega
          have b1 : (k2 : Int) < (kids.length : Int) := by omega
          go_wp2_with fail
          go_loopg [13, 14] (kids[k2].m.v.n) (fun g st _ wl => ∃ j : Nat, g + j = kids[k2].m.v.n ∧ st = .int .i64 j ∧ Hid (Ext wv wl))
          case atStart => exact ⟨0, by omega, rfl, Ext.refl _⟩
          case round =>
            obtain ⟨j, hg3, rfl, hy⟩ := hrel
            rename World => wl
            have hE : Ext w wl := (by (repeat (first | exact Ext.refl _ | refine Ext.alloc ?_ _ | refine Ext.drewN ?_ _ | refine Ext.drew ?_ | refine Ext.trans ?_ (Hid.out (by assumption)))))
            obtain ⟨e0, e1, e2, e3, e4, e5, e6, e7⟩ := cellsM (w := wl) (b := b) (o := o + k2 * 8) (x := kids[k2].m) (fun q v hq => hE.keep (HC.out q v hq))
            by_cases hj : j < kids[k2].m.v.n
            · have hj' : j < kids[k2].vs.length := by have := hvn.out; omega
              obtain ⟨b', o', hva, hc'⟩ := (HK.out.ks.votes _ hmem.out).get j hj'
              rw [hva] at e2
              obtain ⟨v0, v1, v2, v3⟩ := cells4 (w := wl) (b := b') (o := o' + j * 4) (x := kids[k2].vs[j]) (fun q v hq => hE.keep (hc' q v hq))
              have hva' := hid hva
              clear hc' hE hva
              have d0 : (0 : Int) ≤ (j : Int) := by omega
              have d1 : (j : Int) < (kids[k2].m.v.n : Int) := by omega
              cases hyes : kids[k2].vs[j].yes with
              | true =>
                rw [hyes] at v3
                clear hyes
                go_wp2_with fail
                go_roundg (gk - 1)
                case measure => omega
                case rel => exact ⟨j + 1, by omega, by go_num, (by (repeat (first | exact Ext.refl _ | refine Ext.alloc ?_ _ | refine Ext.drewN ?_ _ | refine Ext.drew ?_ | refine Ext.trans ?_ (Hid.out (by assumption)))))⟩
              | false =>
                have HSays := hid (says_no hmem.out (List.getElem_mem hj') hyes)
                rw [hyes] at v3
                clear hyes
                go_wp2_with (go_at_call 25; refine (says_any _ _ _ kids kids[k2].vs[j].id _ (HK.out.ks.ext (by (repeat (first | exact Ext.refl _ | refine Ext.alloc ?_ _ | refine Ext.drewN ?_ _ | refine Ext.drew ?_ | refine Ext.trans ?_ (Hid.out (by assumption))))))).mono ?_; rintro e wq ⟨he, hb⟩; rw [HSays.out] at he; subst he; have hy2 := hid hb; clear hb)
                go_roundg (gk - 1)
                case measure => omega
                case rel => exact ⟨j + 1, by omega, by go_num, (by (repeat (first | exact Ext.refl _ | refine Ext.alloc ?_ _ | refine Ext.drewN ?_ _ | refine Ext.drew ?_ | refine Ext.trans ?_ (Hid.out (by assumption)))))⟩
            · clear hE
              go_wp2_with fail
              go_roundg (G2 - 1)
              case measure => omega
              case rel => exact ⟨k2 + 1, by omega, by go_num, (by (repeat (first | exact Ext.refl _ | refine Ext.alloc ?_ _ | refine Ext.drewN ?_ _ | refine Ext.drew ?_ | refine Ext.trans ?_ (Hid.out (by assumption)))))⟩
        · go_wp2_with fail
          go_loopg [15, 16, 17] (rs.length) (fun g st _ _ wq => ∃ k : Nat, g + k = rs.length ∧ st = .int .i64 k ∧ Hid (Ext wv wq))
          case atStart => exact ⟨0, by omega, rfl, Ext.refl _⟩
          case round =>
            obtain ⟨k3, hg3, rfl, hx''⟩ := hrel
            rename World => wu
            obtain ⟨G3, hG3⟩ : ∃ G3, G3 = gk := ⟨_, rfl⟩
            by_cases hk3 : k3 < rs.length
            · obtain ⟨b, o, rfl, hc⟩ := HR.out.get k3 hk3
              have HC := hid hc
              clear hc
              have b0 : (0 : Int) ≤ (k3 : Int) := by omega
              have b1 : (k3 : Int) < (rs.length : Int) := by omega
              have HV := hid (HW.out.there (by omega) rs[k3] (List.getElem_mem hk3))
              go_wp2_with fail
              go_loopg [16, 17] (L.length) (fun g vv st wl => ∃ j : Nat, g + j = L.length ∧ st = .int .i64 j ∧ vv = .bool ((L.take j).any (fun v => idEq v.id rs[k3])) ∧ Hid (Ext wu wl))
              case atStart => exact ⟨0, by omega, rfl, by simp, Ext.refl _⟩
              case round =>
                obtain ⟨j, hg4, rfl, rfl, hy⟩ := hrel
                rename World => wl
                have hE : Ext w wl := (by (repeat (first | exact Ext.refl _ | refine Ext.alloc ?_ _ | refine Ext.drewN ?_ _ | refine Ext.drew ?_ | refine Ext.trans ?_ (Hid.out (by assumption)))))
                obtain ⟨e0, e1, e2⟩ := cells3 (w := wl) (b := b) (o := o + k3 * 3) (x := rs[k3]) (fun q v hq => hE.keep (HC.out q v hq))
                clear hE
                by_cases hj : j < L.length
                · obtain ⟨b', o', rfl, hc'⟩ := HL.out.get j hj
                  have hE3 : Ext w3 wl := (by (repeat (first | exact Ext.refl _ | refine Ext.alloc ?_ _ | refine Ext.drewN ?_ _ | refine Ext.drew ?_ | refine Ext.trans ?_ (Hid.out (by assumption)))))
                  obtain ⟨v0, v1, v2, v3⟩ := cells4 (w := wl) (b := b') (o := o' + j * 4) (x := L[j]) (fun q v hq => hE3.keep (hc' q v hq))
                  clear hc' hE3
                  have d0 : (0 : Int) ≤ (j : Int) := by omega
                  have d1 : (j : Int) < (L.length : Int) := by omega
                  cases hv : (L.take j).any (fun v => idEq v.id rs[k3]) with
                  | true =>
                    have Hv := hid hv
                    clear hv
                    go_wp2_with fail
                    go_quiet (fail)
                    go_wp2
                    go_roundg (gk - 1)
                    case measure => omega
                    case rel => exact ⟨j + 1, by omega, by go_num, by (rw [any_succ hj, Hv.out]; rfl), (by (repeat (first | exact Ext.refl _ | refine Ext.alloc ?_ _ | refine Ext.drewN ?_ _ | refine Ext.drew ?_ | refine Ext.trans ?_ (Hid.out (by assumption)))))⟩
                  | false =>
                    have Hv := hid hv
                    clear hv
                    have heq := run_eqId L[j].id.b L[j].id.l L[j].id.s rs[k3].b rs[k3].l rs[k3].s
                    cases he : idEq L[j].id rs[k3]
                    all_goals
                      have He := hid he
                      have he' : idEq ⟨L[j].id.b, L[j].id.l, L[j].id.s⟩ ⟨rs[k3].b, rs[k3].l, rs[k3].s⟩ = _ := he
                      clear he
                      go_wp2_with fail
                      go_quiet (fail)
                      go_wp2
                      go_roundg (gk - 1)
                      case measure => omega
                      case rel => exact ⟨j + 1, by omega, by go_num, by (rw [any_succ hj, Hv.out, He.out]; rfl), (by (repeat (first | exact Ext.refl _ | refine Ext.alloc ?_ _ | refine Ext.drewN ?_ _ | refine Ext.drew ?_ | refine Ext.trans ?_ (Hid.out (by assumption)))))⟩
                · have ej : (L.take j).any (fun v => idEq v.id rs[k3]) = true := by
                    rw [List.take_of_length_le (by omega)]; exact HV.out
                  rw [ej]
                  clear ej
                  go_wp2_with fail
                  go_roundg (G3 - 1)
                  case measure => omega
                  case rel => exact ⟨k3 + 1, by omega, by go_num, (by (repeat (first | exact Ext.refl _ | refine Ext.alloc ?_ _ | refine Ext.drewN ?_ _ | refine Ext.drew ?_ | refine Ext.trans ?_ (Hid.out (by assumption)))))⟩
            · go_wp2
              go_ret
              refine ⟨rfl, ?_⟩
              (repeat (first | exact Ext.refl _ | refine Ext.alloc ?_ _ | refine Ext.drewN ?_ _ | refine Ext.drew ?_ | refine Ext.trans ?_ (Hid.out (by assumption))))
end Go.Proofs.Ytncadipipomebaa
