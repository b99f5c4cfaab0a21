/- Filters that others do not cover: the walk of the program's Reduce. -/
import Derived.Test.YtiifflojpoobpaaGreatRed
import Derived.Outline
set_option linter.unusedVariables false
set_option linter.unusedSimpArgs false
namespace Go.Proofs.YtiifflojpoobpaaGreat
open Go.RowKit

/-- a slice's value -/
structure SV where
  a : Option Addr
  n : Nat
  c : Nat
/-- a filter: its slice's value, its tests -/
structure FV where
  v : SV
  ts : List T
def FV.cs (x : FV) : List Value := [.slice x.v.a x.v.n x.v.c]
theorem FV.wid (x : FV) : x.cs.length = 1 := rfl
theorem FV.one (x : FV) : ∀ u ∈ x.cs, u.oneCell' = true := by
  intro u hu; simp only [FV.cs, List.mem_cons, List.not_mem_nil, or_false] at hu; rcases hu with rfl; rfl
theorem cellsF {w : World} {b o : Nat} {x : FV} (h : CellsAt w b o x.cs) : w.cell? ⟨b, o, none⟩ = some (.slice x.v.a x.v.n x.v.c) := h 0 _ rfl
/-- Filters as a slice of slices. -/
structure Flts (w : World) (a : Option Addr) (n c : Nat) (xs : List FV) : Prop where
  sl : Sl w 1 FV.cs a n c xs
  ts : ∀ x, x ∈ xs → Sl w 5 T.cs x.v.a x.v.n x.v.c x.ts
theorem Flts.ext {w w' : World} {a : Option Addr} {n c : Nat} {xs : List FV} (h : Flts w a n c xs) (hx : Ext w w') : Flts w' a n c xs := ⟨h.sl.ext hx, fun x hm => (h.ts x hm).ext hx⟩
/-- filters without those that others cover: what is kept already, what is still to come -/
def red : List (List T) → List (List T) → List (List T)
  | out, [] => out
  | out, f :: rest => if (out.any (fun g => cov g f) || rest.any (fun g => cov g f)) = true then red out rest else red (out ++ [f]) rest
theorem red_drop {out l : List (List T)} {k : Nat} (hk : k < l.length) : red out (l.drop k) = if (out.any (fun g => cov g l[k]) || (l.drop (k + 1)).any (fun g => cov g l[k])) = true then red out (l.drop (k + 1)) else red (out ++ [l[k]]) (l.drop (k + 1)) := by
  rw [List.drop_eq_getElem_cons hk]; rfl
theorem infoF : (Tryz.prog.info? 28).map (fun i => (i.zero, i.size, i.bytes)) = some (some (.slice none 0 0), 1, 24) := by kernel_rfl
/-- Filters that a call itself made. -/
structure FOwn (w : World) (base : Nat) (a : Option Addr) (n c : Nat) (ys : List FV) : Prop where
  sl : Own w base 28 1 FV.cs a n c ys
  ts : ∀ y, y ∈ ys → Own w base 50 5 T.cs y.v.a y.v.n y.v.c y.ts
theorem FOwn.ext {w w' : World} {base : Nat} {a : Option Addr} {n c : Nat} {ys : List FV} (h : FOwn w base a n c ys) (hx : Ext w w') : FOwn w' base a n c ys := ⟨h.sl.ext hx, fun y hy => (h.ts y hy).ext hx⟩
theorem FOwn.flts {w : World} {base : Nat} {a : Option Addr} {n c : Nat} {ys : List FV} (h : FOwn w base a n c ys) : Flts w a n c ys := ⟨h.sl.sl, fun y hy => (h.ts y hy).sl⟩
/-- A result that is filters of the call's own. -/
def RetF (fs : List (List T)) (w : World) (e : Ending) (w' : World) : Prop :=
  ∃ aa n c ys, e = .returned (.slice aa n c) ∧ FOwn w' w.heap.size aa n c ys ∧ ys.map (·.ts) = fs ∧ Ext w w'
theorem any_ts {ys : List FV} {f : List T} : (ys.map (·.ts)).any (fun g => cov g f) = ys.any (fun y => cov y.ts f) := by rw [List.any_map]; rfl
theorem any_true {ys : List FV} {p : FV → Bool} {j : Nat} (hj : j < ys.length) (h : p ys[j] = true) : ys.any p = true := List.any_eq_true.2 ⟨_, List.getElem_mem hj, h⟩
theorem red_skip {out l R f : List (List T)} {c : Bool} {x : List (List T)} (h : red out x = R) (hd : red out x = if c = true then red out l else red f l) (hc : c = true) : red out l = R := by
  rw [hd, if_pos hc] at h; exact h
theorem red_take {out l R f : List (List T)} {c : Bool} {x : List (List T)} (h : red out x = R) (hd : red out x = if c = true then red out l else red f l) (hc : c = false) : red f l = R := by
  rw [hd, if_neg (by rw [hc]; decide)] at h; exact h
theorem any_at {l : List (List T)} {f : List T} {j : Nat} (hj : j < l.length) (h : cov l[j] f = true) : l.any (fun g => cov g f) = true := List.any_eq_true.2 ⟨_, List.getElem_mem hj, h⟩
set_option maxRecDepth 100000 in
set_option maxHeartbeats 4000000 in
theorem reduce_any (la : Option Addr) (ln lc : Nat) (xs : List FV) (w : World) (hX : Flts w la ln lc xs) (hn : ln ≤ 1000) (hts : ∀ x, x ∈ xs → x.v.n ≤ 1000) :
    Calls Tryz.prog 37 #[.slice la ln lc] w (RetF (red [] (xs.map (·.ts))) w) := by
  obtain ⟨i0, hi, hz0, hz1, hz2⟩ := info_parts infoF
  obtain rfl := hX.sl.neq
  have hm := hX.sl.max
  have hl := hX.sl.len
  unfold maxLen at hm
  have HX := hid hX
  have HTS := hid hts
  have I1 := hid hi
  have I2 := hid hz0
  have I3 := hid hz1
  have I4 := hid hz2
  clear hX hts hi hz0 hz1 hz2
  generalize hR : red [] (xs.map (·.ts)) = R
  have HR := hid hR
  clear hR
  go_enter Tryz.func37, Tryz.ntmps37
  go_wp2_with fail
  go_step3
  go_wp2_with fail
  go_step3
  go_wp2_with fail
  go_loopg [3, 4, 5, 7, 9, 12, 17, 18, 19, 30, 31, 32] (xs.length) (fun g ov _ _ _ _ st _ _ _ _ _ _ wr => ∃ (k : Nat) (aa : Option Addr) (m cp : Nat) (ys : List FV), g + k = xs.length ∧ st = .int .i64 k ∧ ov = .slice aa m cp ∧ m ≤ k ∧
    Hid (FOwn wr w.heap.size aa m cp ys) ∧ Hid (red (ys.map (·.ts)) ((xs.map (·.ts)).drop k) = R) ∧ Hid (Ext w wr))
  case atStart => exact ⟨0, none, 0, 0, [], by omega, rfl, rfl, by omega, ⟨Own.nil _ _ _ FV.wid, fun y hy => by cases hy⟩, HR.out, Ext.refl _⟩
  case round =>
    obtain ⟨k, aa, m, cp, ys, hg, rfl, rfl, hmk, hown, hred, hx⟩ := hrel
    obtain ⟨G, hG⟩ : ∃ G, G = gk := ⟨_, rfl⟩
    have hym := hid hown.out.sl.neq
    have hy1 := hown.out.sl.sl.len
    have hy2 := hown.out.sl.sl.max
    unfold maxLen at hy2
    by_cases hk : k < xs.length
    · obtain ⟨b, o, rfl, hc⟩ := HX.out.sl.get k hk
      have c0 := cellsF (w := wr) (b := b) (o := o + k * 1) (x := xs[k]) (fun j v hj => hx.out.keep (hc j v hj))
      rw [Nat.mul_one] at c0
      have HF := hid (HX.out.ts xs[k] (List.getElem_mem hk))
      have hkm : k < (xs.map (·.ts)).length := by rw [List.length_map]; exact hk
      have hgk : (xs.map (·.ts))[k] = xs[k].ts := by simp
      have HD := hid (red_drop (out := ys.map (·.ts)) hkm)
      have HGK := hid hgk
      clear hc hgk
      have b0 : (0 : Int) ≤ (k : Int) := by omega
      have b1 : (k : Int) < (xs.length : Int) := by omega
      go_wp2_with fail
      go_loopg [7, 19] (m) (fun g _ st wl => ∃ j : Nat, g + j = m ∧ st = .int .i64 j ∧ Hid ((ys.take j).any (fun y => cov y.ts xs[k].ts) = false) ∧ Hid (Ext wr wl))
      case atStart => exact ⟨0, by omega, rfl, rfl, Ext.refl _⟩
      case round =>
        obtain ⟨j, hg2, rfl, hno, hy⟩ := hrel
        rename World => wl
        by_cases hj : j < m
        · have hj' : j < ys.length := by have := hym.out; omega
          obtain ⟨b', o', rfl, hc'⟩ := hown.out.sl.sl.get j hj'
          have d0 := cellsF (w := wl) (b := b') (o := o' + j * 1) (x := ys[j]) (fun q v hq => hy.out.keep (hc' q v hq))
          rw [Nat.mul_one] at d0
          clear hc'
          have e0 : (0 : Int) ≤ (j : Int) := by omega
          have e1 : (j : Int) < (m : Int) := by omega
          cases he : cov ys[j].ts xs[k].ts with
          | true =>
            have He := hid he
            clear he
            go_wp2_with (go_at_call 58; refine (covers_any _ _ _ _ _ _ ys[j].ts xs[k].ts _ ((hown.out.ts _ (List.getElem_mem hj')).sl.ext (by (repeat (first | exact Ext.refl _ | refine Ext.alloc ?_ _ | refine Ext.drewN ?_ _ | refine Ext.drew ?_ | refine Ext.trans ?_ (Hid.out (by assumption)))))) (HF.out.ext (by (repeat (first | exact Ext.refl _ | refine Ext.alloc ?_ _ | refine Ext.drewN ?_ _ | refine Ext.drew ?_ | refine Ext.trans ?_ (Hid.out (by assumption))))))).mono ?_; rintro e wq ⟨he, hb⟩; rw [He.out] at he; subst he; have hyq := hid hb; clear hb)
            go_roundg (G - 1)
            case measure => omega
            case rel => exact ⟨k + 1, _, m, cp, ys, by omega, by go_num, rfl, by omega, hown.out.ext (by (repeat (first | exact Ext.refl _ | refine Ext.alloc ?_ _ | refine Ext.drewN ?_ _ | refine Ext.drew ?_ | refine Ext.trans ?_ (Hid.out (by assumption))))), red_skip hred.out HD.out (by rw [HGK.out, any_ts, any_true hj' He.out]; rfl), (by (repeat (first | exact Ext.refl _ | refine Ext.alloc ?_ _ | refine Ext.drewN ?_ _ | refine Ext.drew ?_ | refine Ext.trans ?_ (Hid.out (by assumption)))))⟩
          | false =>
            have He := hid he
            clear he
            go_wp2_with (go_at_call 58; refine (covers_any _ _ _ _ _ _ ys[j].ts xs[k].ts _ ((hown.out.ts _ (List.getElem_mem hj')).sl.ext (by (repeat (first | exact Ext.refl _ | refine Ext.alloc ?_ _ | refine Ext.drewN ?_ _ | refine Ext.drew ?_ | refine Ext.trans ?_ (Hid.out (by assumption)))))) (HF.out.ext (by (repeat (first | exact Ext.refl _ | refine Ext.alloc ?_ _ | refine Ext.drewN ?_ _ | refine Ext.drew ?_ | refine Ext.trans ?_ (Hid.out (by assumption))))))).mono ?_; rintro e wq ⟨he, hb⟩; rw [He.out] at he; subst he; have hyq := hid hb; clear hb)
            go_roundg (gk - 1)
            case measure => omega
            case rel => exact ⟨j + 1, by omega, by go_num, any_take (p := fun y : FV => cov y.ts xs[k].ts) hj' hno.out He.out, (by (repeat (first | exact Ext.refl _ | refine Ext.alloc ?_ _ | refine Ext.drewN ?_ _ | refine Ext.drew ?_ | refine Ext.trans ?_ (Hid.out (by assumption)))))⟩
        · have hyj : ys.take j = ys := List.take_of_length_le (by have := hym.out; omega)
          rw [hyj] at hno
          clear hyj
          by_cases hlast : k + 1 = lc
          · obtain rfl : k + 1 = lc := hlast
            have hx0 : xs.length - (k + 1) = 0 := by omega
            have HX0 := hid hx0
            clear hx0
            go_wp2_with fail
            go_loopg [9, 32] (xs.length - (k + 1)) (fun g _ st wm => ∃ j2 : Nat, g + j2 = xs.length - (k + 1) ∧ st = .int .i64 j2 ∧ Hid ((((xs.map (·.ts)).drop (k + 1)).take j2).any (fun g => cov g xs[k].ts) = false) ∧ Hid (Ext wl wm))
            case atStart => exact ⟨0, by omega, rfl, rfl, Ext.refl _⟩
            case round =>
              obtain ⟨j2, hg3, rfl, hno2, hz⟩ := hrel
              rename World => wm
              by_cases hj2 : j2 < xs.length - (k + 1)
              · exact absurd hj2 (by have := HX0.out; omega)
              · have hl2 : ((xs.map (·.ts)).drop (k + 1)).take j2 = (xs.map (·.ts)).drop (k + 1) := List.take_of_length_le (by rw [List.length_drop, List.length_map]; omega)
                rw [hl2] at hno2
                clear hl2
                have hcn : xs[k].v.n ≤ 1000 := HTS.out _ (List.getElem_mem hk)
                go_wp2_with (first | (go_at_call 59; refine (clone_any _ _ _ xs[k].ts _ (HF.out.ext (by (repeat (first | exact Ext.refl _ | refine Ext.alloc ?_ _ | refine Ext.drewN ?_ _ | refine Ext.drew ?_ | refine Ext.trans ?_ (Hid.out (by assumption)))))) (by omega)).mono ?_; rintro e wq ⟨ca, cn, cc, rfl, hco, hb⟩; have HCO := hid hco; have hyq := hid hb; clear hb hco) | (at_builtin; refine app1 (ys := ys) rfl (.tmp 40) (.tmp 43) 40 rfl i0 _ 24 Tryz.underlying40 I1.out I2.out I3.out I4.out rfl (by decide) rfl (hown.out.sl.ext (by (repeat (first | exact Ext.refl _ | refine Ext.alloc ?_ _ | refine Ext.drewN ?_ _ | refine Ext.drew ?_ | refine Ext.trans ?_ (Hid.out (by assumption)))))) ⟨⟨ca, cn, cc⟩, xs[k].ts⟩ _ rfl (news_alloc (cs := FV.cs ⟨⟨ca, cn, cc⟩, xs[k].ts⟩) rfl) (FV.one _) (by omega) (by decide) (Ext.size (by (repeat (first | exact Ext.refl _ | refine Ext.alloc ?_ _ | refine Ext.drewN ?_ _ | refine Ext.drew ?_ | refine Ext.trans ?_ (Hid.out (by assumption)))))) ?_; intro g cap' w3 hown3 hgrow; have HO3 := hid hown3; have HG := hid hgrow; clear hown3 hgrow))
                go_roundg (G - 1)
                case measure => omega
                case rel =>
                  refine ⟨k + 1, _, _, _, ys ++ [⟨⟨ca, cn, cc⟩, xs[k].ts⟩], by omega, by go_num, rfl, by omega, ⟨HO3.out, fun y hy => ?_⟩, ?_, HG.out.ext (hown.out.sl.ext (by (repeat (first | exact Ext.refl _ | refine Ext.alloc ?_ _ | refine Ext.drewN ?_ _ | refine Ext.drew ?_ | refine Ext.trans ?_ (Hid.out (by assumption)))))) (Nat.le_refl _) (by (repeat (first | exact Ext.refl _ | refine Ext.alloc ?_ _ | refine Ext.drewN ?_ _ | refine Ext.drew ?_ | refine Ext.trans ?_ (Hid.out (by assumption)))))⟩
                  · rcases List.mem_append.1 hy with hy | hy
                    · exact HG.out.own2 (hown.out.sl.ext (by (repeat (first | exact Ext.refl _ | refine Ext.alloc ?_ _ | refine Ext.drewN ?_ _ | refine Ext.drew ?_ | refine Ext.trans ?_ (Hid.out (by assumption)))))) ((hown.out.ts y hy).ext (by (repeat (first | exact Ext.refl _ | refine Ext.alloc ?_ _ | refine Ext.drewN ?_ _ | refine Ext.drew ?_ | refine Ext.trans ?_ (Hid.out (by assumption)))))) (by decide)
                    · obtain rfl := List.mem_singleton.1 hy
                      exact HG.out.own2 (hown.out.sl.ext (by (repeat (first | exact Ext.refl _ | refine Ext.alloc ?_ _ | refine Ext.drewN ?_ _ | refine Ext.drew ?_ | refine Ext.trans ?_ (Hid.out (by assumption)))))) ((HCO.out.mono (Ext.size (by (repeat (first | exact Ext.refl _ | refine Ext.alloc ?_ _ | refine Ext.drewN ?_ _ | refine Ext.drew ?_ | refine Ext.trans ?_ (Hid.out (by assumption))))))).ext (by (repeat (first | exact Ext.refl _ | refine Ext.alloc ?_ _ | refine Ext.drewN ?_ _ | refine Ext.drew ?_ | refine Ext.trans ?_ (Hid.out (by assumption)))))) (by decide)
                  · rw [List.map_append]
                    have := red_take hred.out HD.out (by rw [HGK.out, any_ts, hno.out, hno2.out]; rfl)
                    rw [HGK.out] at this
                    exact this
          · have hlt : k + 1 < lc := by omega
            go_wp2_with fail
            go_loopg [9, 32] (xs.length - (k + 1)) (fun g _ st wm => ∃ j2 : Nat, g + j2 = xs.length - (k + 1) ∧ st = .int .i64 j2 ∧ Hid ((((xs.map (·.ts)).drop (k + 1)).take j2).any (fun g => cov g xs[k].ts) = false) ∧ Hid (Ext wl wm))
            case atStart => exact ⟨0, by omega, rfl, rfl, Ext.refl _⟩
            case round =>
              obtain ⟨j2, hg3, rfl, hno2, hz⟩ := hrel
              rename World => wm
              by_cases hj2 : j2 < xs.length - (k + 1)
              · have hjx : k + 1 + j2 < xs.length := by omega
                obtain ⟨b2, o2, hb2, hc2⟩ := HX.out.sl.get (k + 1 + j2) hjx
                simp only [Option.some.injEq, Addr.mk.injEq, and_true] at hb2
                obtain ⟨rfl, rfl⟩ := hb2
                have hE : Ext w wm := (by (repeat (first | exact Ext.refl _ | refine Ext.alloc ?_ _ | refine Ext.drewN ?_ _ | refine Ext.drew ?_ | refine Ext.trans ?_ (Hid.out (by assumption)))))
                have d0 := cellsF (w := wm) (b := b) (o := o + (k + 1 + j2) * 1) (x := xs[k + 1 + j2]) (fun q v hq => hE.keep (hc2 q v hq))
                rw [show o + (k + 1 + j2) * 1 = o + (k + 1) + j2 from by omega] at d0
                have HF2 := hid (HX.out.ts xs[k + 1 + j2] (List.getElem_mem hjx))
                clear hc2 hE
                have hjl : j2 < ((xs.map (·.ts)).drop (k + 1)).length := by rw [List.length_drop, List.length_map]; exact hj2
                have hel : ((xs.map (·.ts)).drop (k + 1))[j2] = xs[k + 1 + j2].ts := by simp
                have HEL := hid hel
                clear hel
                have e0 : (0 : Int) ≤ (j2 : Int) := by omega
                have e1 : (j2 : Int) < ((xs.length - (k + 1) : Nat) : Int) := by omega
                cases he : cov xs[k + 1 + j2].ts xs[k].ts with
                | true =>
                  have He := hid he
                  clear he
                  go_wp2_with (go_at_call 58; refine (covers_any _ _ _ _ _ _ xs[k + 1 + j2].ts xs[k].ts _ (HF2.out.ext (by (repeat (first | exact Ext.refl _ | refine Ext.alloc ?_ _ | refine Ext.drewN ?_ _ | refine Ext.drew ?_ | refine Ext.trans ?_ (Hid.out (by assumption)))))) (HF.out.ext (by (repeat (first | exact Ext.refl _ | refine Ext.alloc ?_ _ | refine Ext.drewN ?_ _ | refine Ext.drew ?_ | refine Ext.trans ?_ (Hid.out (by assumption))))))).mono ?_; rintro e wq ⟨he, hb⟩; rw [He.out] at he; subst he; have hyq := hid hb; clear hb)
                  go_roundg (G - 1)
                  case measure => omega
                  case rel => exact ⟨k + 1, _, m, cp, ys, by omega, by go_num, rfl, by omega, hown.out.ext (by (repeat (first | exact Ext.refl _ | refine Ext.alloc ?_ _ | refine Ext.drewN ?_ _ | refine Ext.drew ?_ | refine Ext.trans ?_ (Hid.out (by assumption))))), red_skip hred.out HD.out (by rw [HGK.out, any_at hjl (by rw [HEL.out]; exact He.out), Bool.or_true]), (by (repeat (first | exact Ext.refl _ | refine Ext.alloc ?_ _ | refine Ext.drewN ?_ _ | refine Ext.drew ?_ | refine Ext.trans ?_ (Hid.out (by assumption)))))⟩
                | false =>
                  have He := hid he
                  clear he
                  go_wp2_with (go_at_call 58; refine (covers_any _ _ _ _ _ _ xs[k + 1 + j2].ts xs[k].ts _ (HF2.out.ext (by (repeat (first | exact Ext.refl _ | refine Ext.alloc ?_ _ | refine Ext.drewN ?_ _ | refine Ext.drew ?_ | refine Ext.trans ?_ (Hid.out (by assumption)))))) (HF.out.ext (by (repeat (first | exact Ext.refl _ | refine Ext.alloc ?_ _ | refine Ext.drewN ?_ _ | refine Ext.drew ?_ | refine Ext.trans ?_ (Hid.out (by assumption))))))).mono ?_; rintro e wq ⟨he, hb⟩; rw [He.out] at he; subst he; have hyq := hid hb; clear hb)
                  go_roundg (gk - 1)
                  case measure => omega
                  case rel => exact ⟨j2 + 1, by omega, by go_num, any_take (p := fun g : List T => cov g xs[k].ts) hjl hno2.out (by rw [HEL.out]; exact He.out), (by (repeat (first | exact Ext.refl _ | refine Ext.alloc ?_ _ | refine Ext.drewN ?_ _ | refine Ext.drew ?_ | refine Ext.trans ?_ (Hid.out (by assumption)))))⟩
              · have hl2 : ((xs.map (·.ts)).drop (k + 1)).take j2 = (xs.map (·.ts)).drop (k + 1) := List.take_of_length_le (by rw [List.length_drop, List.length_map]; omega)
                rw [hl2] at hno2
                clear hl2
                have hcn : xs[k].v.n ≤ 1000 := HTS.out _ (List.getElem_mem hk)
                go_wp2_with (first | (go_at_call 59; refine (clone_any _ _ _ xs[k].ts _ (HF.out.ext (by (repeat (first | exact Ext.refl _ | refine Ext.alloc ?_ _ | refine Ext.drewN ?_ _ | refine Ext.drew ?_ | refine Ext.trans ?_ (Hid.out (by assumption)))))) (by omega)).mono ?_; rintro e wq ⟨ca, cn, cc, rfl, hco, hb⟩; have HCO := hid hco; have hyq := hid hb; clear hb hco) | (at_builtin; refine app1 (ys := ys) rfl (.tmp 40) (.tmp 43) 40 rfl i0 _ 24 Tryz.underlying40 I1.out I2.out I3.out I4.out rfl (by decide) rfl (hown.out.sl.ext (by (repeat (first | exact Ext.refl _ | refine Ext.alloc ?_ _ | refine Ext.drewN ?_ _ | refine Ext.drew ?_ | refine Ext.trans ?_ (Hid.out (by assumption)))))) ⟨⟨ca, cn, cc⟩, xs[k].ts⟩ _ rfl (news_alloc (cs := FV.cs ⟨⟨ca, cn, cc⟩, xs[k].ts⟩) rfl) (FV.one _) (by omega) (by decide) (Ext.size (by (repeat (first | exact Ext.refl _ | refine Ext.alloc ?_ _ | refine Ext.drewN ?_ _ | refine Ext.drew ?_ | refine Ext.trans ?_ (Hid.out (by assumption)))))) ?_; intro g cap' w3 hown3 hgrow; have HO3 := hid hown3; have HG := hid hgrow; clear hown3 hgrow))
                go_roundg (G - 1)
                case measure => omega
                case rel =>
                  refine ⟨k + 1, _, _, _, ys ++ [⟨⟨ca, cn, cc⟩, xs[k].ts⟩], by omega, by go_num, rfl, by omega, ⟨HO3.out, fun y hy => ?_⟩, ?_, HG.out.ext (hown.out.sl.ext (by (repeat (first | exact Ext.refl _ | refine Ext.alloc ?_ _ | refine Ext.drewN ?_ _ | refine Ext.drew ?_ | refine Ext.trans ?_ (Hid.out (by assumption)))))) (Nat.le_refl _) (by (repeat (first | exact Ext.refl _ | refine Ext.alloc ?_ _ | refine Ext.drewN ?_ _ | refine Ext.drew ?_ | refine Ext.trans ?_ (Hid.out (by assumption)))))⟩
                  · rcases List.mem_append.1 hy with hy | hy
                    · exact HG.out.own2 (hown.out.sl.ext (by (repeat (first | exact Ext.refl _ | refine Ext.alloc ?_ _ | refine Ext.drewN ?_ _ | refine Ext.drew ?_ | refine Ext.trans ?_ (Hid.out (by assumption)))))) ((hown.out.ts y hy).ext (by (repeat (first | exact Ext.refl _ | refine Ext.alloc ?_ _ | refine Ext.drewN ?_ _ | refine Ext.drew ?_ | refine Ext.trans ?_ (Hid.out (by assumption)))))) (by decide)
                    · obtain rfl := List.mem_singleton.1 hy
                      exact HG.out.own2 (hown.out.sl.ext (by (repeat (first | exact Ext.refl _ | refine Ext.alloc ?_ _ | refine Ext.drewN ?_ _ | refine Ext.drew ?_ | refine Ext.trans ?_ (Hid.out (by assumption)))))) ((HCO.out.mono (Ext.size (by (repeat (first | exact Ext.refl _ | refine Ext.alloc ?_ _ | refine Ext.drewN ?_ _ | refine Ext.drew ?_ | refine Ext.trans ?_ (Hid.out (by assumption))))))).ext (by (repeat (first | exact Ext.refl _ | refine Ext.alloc ?_ _ | refine Ext.drewN ?_ _ | refine Ext.drew ?_ | refine Ext.trans ?_ (Hid.out (by assumption)))))) (by decide)
                  · rw [List.map_append]
                    have := red_take hred.out HD.out (by rw [HGK.out, any_ts, hno.out, hno2.out]; rfl)
                    rw [HGK.out] at this
                    exact this
    · have hk' : (xs.map (·.ts)).drop k = [] := List.drop_eq_nil_of_le (by rw [List.length_map]; omega)
      rw [hk'] at hred
      clear hk'
      go_wp2
      go_ret
      exact ⟨aa, m, cp, ys, rfl, hown.out, hred.out, (by (repeat (first | exact Ext.refl _ | refine Ext.alloc ?_ _ | refine Ext.drewN ?_ _ | refine Ext.drew ?_ | refine Ext.trans ?_ (Hid.out (by assumption)))))⟩
end Go.Proofs.YtiifflojpoobpaaGreat
