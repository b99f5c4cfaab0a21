/- Who is told is just who is asked for, and aborted, each once: the statement's walk. -/
import Derived.Test.YtncadipipomebaaFew19
import Derived.Test.YtncadipipomebaaRoom
import Derived.Test.YtncadipipomebaaEnds18
import Derived.Deep.DeepCutAuto
namespace Go.Proofs.Ytncadipipomebaa
open Go.RowKit
attribute [local go_sem ↓] Go.wp_at_zero Go.wp_at_succ

/-- what stands at each step -/
structure Td (ab : List Id) (l : List Id) (out : List Id) : Prop where
  once : ∀ i, cntI out i ≤ 1
  gone : ∀ i, ab.any (fun x => idEq x i) = false → cntI out i = 0
  there : l.length ≤ 16 → ∀ i, i ∈ l → ab.any (fun x => idEq x i) = true → cntI out i = 1
  len : out.length ≤ l.length
theorem Td.step {ab l out : List Id} (h : Td ab l out) (i : Id) : Td ab (l ++ [i]) (toldStep ab out i) := by
  have hl := h.len
  unfold toldStep
  by_cases c : out.length < 16 ∧ ab.any (fun x => idEq x i) = true ∧ out.any (fun x => idEq x i) = false
  · rw [if_pos c]
    have z := cntI_zero c.2.2
    have e : ∀ j, cntI (out ++ [i]) j = cntI out j + if idEq i j = true then 1 else 0 := by
      intro j; unfold cntI; rw [List.countP_append, List.countP_singleton]
    refine ⟨fun j => ?_, fun j hj => ?_, fun hn j hj hab => ?_, by simp; omega⟩
    · rw [e]
      by_cases hid : idEq i j = true
      · have := idEq_true.1 hid; subst this; rw [z, if_pos hid]; omega
      · rw [if_neg hid]; exact h.once j
    · rw [e]
      by_cases hid : idEq i j = true
      · have := idEq_true.1 hid; subst this; rw [hj] at c; exact absurd c.2.1 (by decide)
      · rw [if_neg hid]; exact h.gone j hj
    · rw [e]
      by_cases hid : idEq i j = true
      · have := idEq_true.1 hid; subst this; rw [z, if_pos hid]
      · rw [if_neg hid]
        rcases List.mem_append.1 hj with hj | hj
        · exact h.there (by rw [List.length_append] at hn; omega) j hj hab
        · obtain rfl := List.mem_singleton.1 hj; exact absurd (idEq_true.2 rfl) hid
  · rw [if_neg c]
    refine ⟨h.once, h.gone, fun hn j hj hab => ?_, by simp; omega⟩
    rw [List.length_append, List.length_singleton] at hn
    rcases List.mem_append.1 hj with hj | hj
    · exact h.there (by omega) j hj hab
    · obtain rfl := List.mem_singleton.1 hj
      have h1 := h.once j
      cases hc : out.any (fun x => idEq x j) with
      | true => have := cntI_pos hc; omega
      | false => exact absurd ⟨by omega, hab, hc⟩ c
theorem Td.fold (ab : List Id) : ∀ (es l out : List Id), Td ab l out → Td ab (l ++ es) (es.foldl (toldStep ab) out)
  | [], l, out, h => by rw [List.append_nil]; exact h
  | i :: es, l, out, h => by
    rw [List.foldl_cons, show l ++ i :: es = (l ++ [i]) ++ es from by simp]
    exact Td.fold ab es _ _ (h.step i)
theorem told_law (ab l : List Id) : Td ab l (toldOf ab l) := by
  have := Td.fold ab l [] [] (Td.mk (fun _ => Nat.zero_le _) (fun _ _ => rfl) (fun _ i hi => by cases hi) (Nat.le_refl _))
  exact this

set_option maxRecDepth 100000 in
set_option maxHeartbeats 4000000 in
theorem told19l_any (ba : Option Addr) (bn bc : Nat) (bs : List Id) (la : Option Addr) (ln lc : Nat) (xs : List EP) (w : World) (hB : Sl w 3 Id.cs ba bn bc bs) (hX : Ents w la ln lc xs) :
    Calls Try.prog 13 #[.slice ba bn bc, .slice la ln lc] w fun e w' => e = .returned (.bool true) ∧ Ext w w' := by
  obtain rfl := hX.sl.neq
  obtain rfl := hB.neq
  have hm1 := hX.sl.max
  have hl1 := hX.sl.len
  have hm2 := hB.max
  have hl2 := hB.len
  unfold maxLen at hm1 hm2
  have HX := hid hX
  have HB := hid hB
  clear hX hB
  go_enter Try.func13, Try.ntmps13
  go_wp2_with fail
  refine (awake19_any w).mono ?_
  rintro e w1 ⟨rfl, hb⟩
  have hx1 := hid hb
  clear hb
  go_wp2_with fail
  refine (few19_any ⟨0, ⟨none, 0, 0⟩, ⟨none, 0, 0⟩, ⟨ba, bs.length, bc⟩⟩ [] la xs.length lc xs none 0 0 [] none 0 0 [] _ (Ents.nil _) (HX.out.ext (by (repeat (first | exact Ext.refl _ | refine Ext.alloc ?_ _ | refine Ext.drewN ?_ _ | refine Ext.drew ?_ | refine Ext.trans ?_ (Hid.out (by assumption)))))) (Ents.nil _) ⟨Sl.nil _ (fun _ => rfl), fun m hm => by cases hm⟩).mono ?_
  rintro e w2 ⟨f1, rfl, hf1, hb⟩
  have hx2 := hid hb
  clear hb hf1
  cases f1
  · go_wp2
    go_ret
    refine ⟨rfl, ?_⟩
    (repeat (first | exact Ext.refl _ | refine Ext.alloc ?_ _ | refine Ext.drewN ?_ _ | refine Ext.drew ?_ | refine Ext.trans ?_ (Hid.out (by assumption))))
  by_cases h16 : 16 < xs.length
  · go_wp2
    go_ret
    refine ⟨rfl, ?_⟩
    (repeat (first | exact Ext.refl _ | refine Ext.alloc ?_ _ | refine Ext.drewN ?_ _ | refine Ext.drew ?_ | refine Ext.trans ?_ (Hid.out (by assumption))))
  go_wp2_with fail
  refine (told19_any ba bs.length bc bs la xs.length lc (xs.map (·.x)) _ (HB.out.ext (by (repeat (first | exact Ext.refl _ | refine Ext.alloc ?_ _ | refine Ext.drewN ?_ _ | refine Ext.drew ?_ | refine Ext.trans ?_ (Hid.out (by assumption)))))) (HX.out.evs.ext (by (repeat (first | exact Ext.refl _ | refine Ext.alloc ?_ _ | refine Ext.drewN ?_ _ | refine Ext.drew ?_ | refine Ext.trans ?_ (Hid.out (by assumption))))))).mono ?_
  rintro e w3 ⟨ta, tn, tc, rfl, hL, hb⟩
  have hlaw := told_law bs ((xs.map (·.x)).map (·.id))
  generalize toldOf bs ((xs.map (·.x)).map (·.id)) = L at hL hlaw
  obtain rfl := hL.neq
  have hx3 := hid hb
  have HL := hid hL
  have HW := hid hlaw
  have hm4 := hL.max
  have hm5 := hL.len
  unfold maxLen at hm4
  have hLle : L.length ≤ xs.length := by have := hlaw.len; simpa using this
  clear hb hL hlaw
  go_wp2_with fail
  go_loopg [7, 8, 9, 10, 11] (xs.length) (fun g st _ _ _ _ wr => ∃ k : Nat, g + k = xs.length ∧ st = .int .i64 k ∧ Hid (Ext w3 wr))
  case atStart => exact ⟨0, by omega, rfl, Ext.refl _⟩
  case round =>
    obtain ⟨k, hg, rfl, hx⟩ := hrel
    obtain ⟨G, hG⟩ : ∃ G, G = gk := ⟨_, rfl⟩
    by_cases hk : k < xs.length
    · obtain ⟨b, o, rfl, hc⟩ := HX.out.sl.get k hk
      have HC := hid hc
      clear hc
      have b0 : (0 : Int) ≤ (k : Int) := by omega
      have b1 : (k : Int) < (xs.length : Int) := by omega
      go_wp2_with fail
      go_loopg [8, 9] (bs.length) (fun g vv st wl => ∃ j : Nat, g + j = bs.length ∧ st = .int .i64 j ∧ vv = .bool ((bs.take j).any (fun i => idEq i xs[k].x.id)) ∧ Hid (Ext wr wl))
      case atStart => exact ⟨0, by omega, rfl, by simp, Ext.refl _⟩
      case round =>
        obtain ⟨j, hg2, rfl, rfl, hy⟩ := hrel
        rename World => wl
        have hE : Ext w wl := (by (repeat (first | exact Ext.refl _ | refine Ext.alloc ?_ _ | refine Ext.drewN ?_ _ | refine Ext.drew ?_ | refine Ext.trans ?_ (Hid.out (by assumption)))))
        obtain ⟨e0, e1, e2, e3, e4, e5, e6, e7⟩ := cells8 (w := wl) (b := b) (o := o + k * 8) (x := xs[k].x) (fun q v hq => hE.keep (HC.out q v hq))
        by_cases hj : j < bs.length
        · obtain ⟨b', o', rfl, hc'⟩ := HB.out.get j hj
          obtain ⟨v0, v1, v2⟩ := cells3 (w := wl) (b := b') (o := o' + j * 3) (x := bs[j]) (fun q v hq => hE.keep (hc' q v hq))
          clear hc' hE
          have d0 : (0 : Int) ≤ (j : Int) := by omega
          have d1 : (j : Int) < (bs.length : Int) := by omega
          cases hv : (bs.take j).any (fun i => idEq i xs[k].x.id) with
          | true =>
            have Hv := hid hv
            clear hv
            go_wp2_with fail
            go_quiet (fail)
            go_wp2
            go_roundg (gk - 1)
            case measure => omega
            case rel => exact ⟨j + 1, by omega, by go_num, by (rw [any_succ hj, Hv.out]; rfl), (by (repeat (first | exact Ext.refl _ | refine Ext.alloc ?_ _ | refine Ext.drewN ?_ _ | refine Ext.drew ?_ | refine Ext.trans ?_ (Hid.out (by assumption)))))⟩
          | false =>
            have Hv := hid hv
            clear hv
            have heq := run_eqId bs[j].b bs[j].l bs[j].s xs[k].x.id.b xs[k].x.id.l xs[k].x.id.s
            cases he : idEq bs[j] xs[k].x.id
            all_goals
              have He := hid he
              have he' : idEq ⟨bs[j].b, bs[j].l, bs[j].s⟩ ⟨xs[k].x.id.b, xs[k].x.id.l, xs[k].x.id.s⟩ = _ := he
              clear he
              go_wp2_with fail
              go_quiet (fail)
              go_wp2
              go_roundg (gk - 1)
              case measure => omega
              case rel => exact ⟨j + 1, by omega, by go_num, by (rw [any_succ hj, Hv.out, He.out]; rfl), (by (repeat (first | exact Ext.refl _ | refine Ext.alloc ?_ _ | refine Ext.drewN ?_ _ | refine Ext.drew ?_ | refine Ext.trans ?_ (Hid.out (by assumption)))))⟩
        · rw [List.take_of_length_le (by omega : bs.length ≤ j)]
          clear hE
          have HN : Hid (cntI L xs[k].x.id = if bs.any (fun i => idEq i xs[k].x.id) = true then 1 else 0) := by
            cases hA : bs.any (fun i => idEq i xs[k].x.id) with
            | true => exact HW.out.there (by simp; omega) _ (List.mem_map.2 ⟨xs[k].x, List.mem_map.2 ⟨xs[k], List.getElem_mem hk, rfl⟩, rfl⟩) hA
            | false => exact HW.out.gone _ hA
          generalize hA : bs.any (fun i => idEq i xs[k].x.id) = KA
          rw [hA] at HN
          clear hA
          go_wp2_with fail
          go_loopg [10, 11] (L.length) (fun g nv st wm => ∃ i : Nat, g + i = L.length ∧ st = .int .i64 i ∧ nv = .int .i64 ((cntI (L.take i) xs[k].x.id : Nat) : Int) ∧ Hid (Ext wl wm))
          case atStart => exact ⟨0, by omega, rfl, rfl, Ext.refl _⟩
          case round =>
            obtain ⟨i, hg3, rfl, rfl, hz⟩ := hrel
            rename World => wm
            have hE : Ext w wm := (by (repeat (first | exact Ext.refl _ | refine Ext.alloc ?_ _ | refine Ext.drewN ?_ _ | refine Ext.drew ?_ | refine Ext.trans ?_ (Hid.out (by assumption)))))
            obtain ⟨e0, e1, e2, e3, e4, e5, e6, e7⟩ := cells8 (w := wm) (b := b) (o := o + k * 8) (x := xs[k].x) (fun q v hq => hE.keep (HC.out q v hq))
            clear hE
            have hcl := cntI_le L xs[k].x.id i
            by_cases hi : i < L.length
            · obtain ⟨b', o', rfl, hc'⟩ := HL.out.get i hi
              have hE3 : Ext w3 wm := (by (repeat (first | exact Ext.refl _ | refine Ext.alloc ?_ _ | refine Ext.drewN ?_ _ | refine Ext.drew ?_ | refine Ext.trans ?_ (Hid.out (by assumption)))))
              obtain ⟨v0, v1, v2⟩ := cells3 (w := wm) (b := b') (o := o' + i * 3) (x := L[i]) (fun q v hq => hE3.keep (hc' q v hq))
              clear hc' hE3
              have d0 : (0 : Int) ≤ (i : Int) := by omega
              have d1 : (i : Int) < (L.length : Int) := by omega
              have heq := run_eqId L[i].b L[i].l L[i].s xs[k].x.id.b xs[k].x.id.l xs[k].x.id.s
              cases he : idEq L[i] xs[k].x.id
              all_goals
                have He := hid he
                have he' : idEq ⟨L[i].b, L[i].l, L[i].s⟩ ⟨xs[k].x.id.b, xs[k].x.id.l, xs[k].x.id.s⟩ = _ := he
                clear he
                go_wp2_with fail
                go_quiet (fail)
                go_wp2
                go_roundg (gk - 1)
                case measure => omega
                case rel => exact ⟨i + 1, by omega, by go_num, by (rw [cntI_succ hi, He.out]; first | rfl | go_num), (by (repeat (first | exact Ext.refl _ | refine Ext.alloc ?_ _ | refine Ext.drewN ?_ _ | refine Ext.drew ?_ | refine Ext.trans ?_ (Hid.out (by assumption)))))⟩
            · rw [List.take_of_length_le (by omega : L.length ≤ i)] at hcl ⊢
              generalize hN : cntI L xs[k].x.id = N at hcl ⊢
              have hn := HN.out
              rw [hN] at hn
              clear hN HN
              cases KA
              all_goals
                simp at hn
                subst hn
                go_wp2_with fail
                go_roundg (G - 1)
                case measure => omega
                case rel => exact ⟨k + 1, by omega, by go_num, (by (repeat (first | exact Ext.refl _ | refine Ext.alloc ?_ _ | refine Ext.drewN ?_ _ | refine Ext.drew ?_ | refine Ext.trans ?_ (Hid.out (by assumption)))))⟩
    · go_wp2
      go_ret
      refine ⟨rfl, ?_⟩
      (repeat (first | exact Ext.refl _ | refine Ext.alloc ?_ _ | refine Ext.drewN ?_ _ | refine Ext.drew ?_ | refine Ext.trans ?_ (Hid.out (by assumption))))
end Go.Proofs.Ytncadipipomebaa
