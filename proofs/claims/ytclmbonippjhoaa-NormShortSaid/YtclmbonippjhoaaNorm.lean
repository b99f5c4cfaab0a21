/- A filter's norm: the walk of the program's Norm. -/
import Derived.Test.YtclmbonippjhoaaSort06
import Derived.Test.YtclmbonippjhoaaRed
set_option linter.unusedVariables false
set_option linter.unusedSimpArgs false
namespace Go.Proofs.Ytclmbonippjhoaa
open Go.RowKit

/-- tests that no other one implies: what is kept already, what is still to come -/
def nrm : List T → List T → List T
  | out, [] => out
  | out, t :: rest => if (out.any (fun b => impT b.ts t.ts) || rest.any (fun b => impT b.ts t.ts)) = true then nrm out rest else nrm (out ++ [t]) rest
theorem nrm_drop {out l : List T} {k : Nat} (hk : k < l.length) : nrm out (l.drop k) = if (out.any (fun b => impT b.ts l[k].ts) || (l.drop (k + 1)).any (fun b => impT b.ts l[k].ts)) = true then nrm out (l.drop (k + 1)) else nrm (out ++ [l[k]]) (l.drop (k + 1)) := by
  rw [List.drop_eq_getElem_cons hk]; rfl
theorem nrm_skip {out l R : List T} {k : Nat} (hk : k < l.length) (h : nrm out (l.drop k) = R) (hc : (out.any (fun b => impT b.ts l[k].ts) || (l.drop (k + 1)).any (fun b => impT b.ts l[k].ts)) = true) : nrm out (l.drop (k + 1)) = R := by
  rw [nrm_drop hk, if_pos hc] at h; exact h
theorem nrm_take {out l R : List T} {k : Nat} (hk : k < l.length) (h : nrm out (l.drop k) = R) (h1 : out.any (fun b => impT b.ts l[k].ts) = false) (h2 : (l.drop (k + 1)).any (fun b => impT b.ts l[k].ts) = false) : nrm (out ++ [l[k]]) (l.drop (k + 1)) = R := by
  rw [nrm_drop hk, if_neg (by rw [h1, h2]; decide)] at h; exact h
/-- a filter's norm -/
def normT (xs : List T) : List T := nrm [] (sortT xs)
theorem anyT_true {ys : List T} {p : T → Bool} {j : Nat} (hj : j < ys.length) (h : p ys[j] = true) : ys.any p = true := List.any_eq_true.2 ⟨_, List.getElem_mem hj, h⟩
set_option maxRecDepth 100000 in
set_option maxHeartbeats 4000000 in
theorem norm_any (a : Option Addr) (n cap : Nat) (xs : List T) (w : World) (hS : Sl w 5 T.cs a n cap xs) (hn : n ≤ 10) :
    Calls Try.prog 22 #[.slice a n cap] w (RetOwn 25 5 T.cs (normT xs) w) := by
  obtain ⟨i0, hi, hz0, hz1, hz2⟩ := info_parts infoT
  have I1 := hid hi
  have I2 := hid hz0
  have I3 := hid hz1
  have I4 := hid hz2
  have HS := hid hS
  clear hS hi hz0 hz1 hz2
  generalize hR : normT xs = R
  have HR := hid hR
  clear hR
  go_enter Try.func22, Try.ntmps22
  go_wp2_with fail
  go_step3
  go_wp2_with fail
  refine (clone_any a n cap xs w HS.out (by omega)).mono ?_
  rintro e w1 ⟨sa, sn, sc, rfl, hown, hb⟩
  have hsn : sn ≤ 10 := by have h1 := hown.neq; have h2 := HS.out.neq; omega
  have HO1 := hid hown
  have hx1 := hid hb
  clear hown hb
  go_wp2_with fail
  refine (sort_any sa sn sc _ xs w1 HO1.out hsn).mono ?_
  rintro e w2 ⟨rfl, hown, hxx⟩
  have hx2 := hid (hxx w hx1.out (Nat.le_refl _))
  have hR2 : nrm [] (sortT xs) = R := HR.out
  generalize hss : sortT xs = ss at hown hR2
  have HO := hid hown
  have HR2 := hid hR2
  clear hown hxx hss hR2 HO1 hx1 HR
  obtain rfl := HO.out.neq
  have hm := HO.out.sl.max
  have hl := HO.out.sl.len
  unfold maxLen at hm
  go_wp2_with fail
  go_step3
  go_wp2_with fail
  go_loopg [4, 5, 6, 8, 10, 17, 22, 23, 24, 35, 36, 37] (ss.length) (fun g ov _ _ _ _ st _ _ _ _ _ _ wr => ∃ (k : Nat) (aa : Option Addr) (m cp : Nat) (ys : List T), g + k = ss.length ∧ st = .int .i64 k ∧ ov = .slice aa m cp ∧ m ≤ k ∧
    Hid (Own wr w2.heap.size 25 5 T.cs aa m cp ys) ∧ Hid (nrm ys (ss.drop k) = R) ∧ Hid (Ext w2 wr))
  case atStart => exact ⟨0, none, 0, 0, [], by omega, rfl, rfl, by omega, Own.nil _ _ _ T.wid, HR2.out, Ext.refl _⟩
  case round =>
    obtain ⟨k, aa, m, cp, ys, hg, rfl, rfl, hmk, hown, hred, hx⟩ := hrel
    obtain ⟨G, hG⟩ : ∃ G, G = gk := ⟨_, rfl⟩
    have hym := hid hown.out.neq
    have hy1 := hown.out.sl.len
    have hy2 := hown.out.sl.max
    unfold maxLen at hy2
    by_cases hk : k < ss.length
    · obtain ⟨b, o, rfl, hc⟩ := HO.out.sl.get k hk
      obtain ⟨c0, c1, c2, c3, c4⟩ := cellsT (w := wr) (b := b) (o := o + k * 5) (x := ss[k]) (fun j v hj => hx.out.keep (hc j v hj))
      clear hc
      have b0 : (0 : Int) ≤ (k : Int) := by omega
      have b1 : (k : Int) < (ss.length : Int) := by omega
      go_wp2_with fail
      clear c0 c1 c2 c3 c4
      go_loopg [8, 24] (m) (fun g _ st wl => ∃ j : Nat, g + j = m ∧ st = .int .i64 j ∧ Hid ((ys.take j).any (fun y => impT y.ts ss[k].ts) = false) ∧ Hid (Ext (wr.alloc (Obj.cells #[.string ss[k].nm, .int .i64 ss[k].op, .int .i64 ss[k].k, .int .i64 ss[k].n, .string ss[k].s] 25)) wl))
      case atStart => exact ⟨0, by omega, rfl, rfl, Ext.refl _⟩
      case round =>
        obtain ⟨j, hg2, rfl, hno, hy⟩ := hrel
        rename World => wl
        have e0 : wl.cell? ⟨wr.heap.size, 0, none⟩ = some (.string ss[k].nm) := hy.out.keep (by simp)
        have e1 : wl.cell? ⟨wr.heap.size, 1, none⟩ = some (.int .i64 ss[k].op) := hy.out.keep (by simp)
        have e2 : wl.cell? ⟨wr.heap.size, 2, none⟩ = some (.int .i64 ss[k].k) := hy.out.keep (by simp)
        have e3 : wl.cell? ⟨wr.heap.size, 3, none⟩ = some (.int .i64 ss[k].n) := hy.out.keep (by simp)
        have e4 : wl.cell? ⟨wr.heap.size, 4, none⟩ = some (.string ss[k].s) := hy.out.keep (by simp)
        have ez : wr.heap.size < wl.heap.size := lt_of_cell e0
        by_cases hj : j < m
        · have hj' : j < ys.length := by have := hym.out; omega
          obtain ⟨b', o', rfl, hc'⟩ := hown.out.sl.get j hj'
          have hE : Ext wr wl := (by (repeat (first | exact Ext.refl _ | refine Ext.alloc ?_ _ | refine Ext.drewN ?_ _ | refine Ext.drew ?_ | refine Ext.trans ?_ (Hid.out (by assumption)))))
          obtain ⟨d0, d1, d2, d3, d4⟩ := cellsT (w := wl) (b := b') (o := o' + j * 5) (x := ys[j]) (fun q v hq => hE.keep (hc' q v hq))
          clear hc' hE
          have f0 : (0 : Int) ≤ (j : Int) := by omega
          have f1 : (j : Int) < (m : Int) := by omega
          cases he : impT ys[j].ts ss[k].ts with
          | true =>
            have He := hid he
            clear he
            go_wp2_with (go_at_call 19; refine (implies_any ys[j] ss[k] _).mono ?_; rintro e wq ⟨he, hb⟩; rw [He.out] at he; subst he; have hyq := hid hb; clear hb)
            go_roundg (G - 1)
            case measure => omega
            case rel => exact ⟨k + 1, _, m, cp, ys, by omega, by go_num, rfl, by omega, hown.out.ext (by (repeat (first | exact Ext.refl _ | refine Ext.alloc ?_ _ | refine Ext.drewN ?_ _ | refine Ext.drew ?_ | refine Ext.trans ?_ (Hid.out (by assumption))))), nrm_skip hk hred.out (by rw [anyT_true (p := fun b : T => impT b.ts ss[k].ts) hj' He.out]; rfl), (by (repeat (first | exact Ext.refl _ | refine Ext.alloc ?_ _ | refine Ext.drewN ?_ _ | refine Ext.drew ?_ | refine Ext.trans ?_ (Hid.out (by assumption)))))⟩
          | false =>
            have He := hid he
            clear he
            go_wp2_with (go_at_call 19; refine (implies_any ys[j] ss[k] _).mono ?_; rintro e wq ⟨he, hb⟩; rw [He.out] at he; subst he; have hyq := hid hb; clear hb)
            go_roundg (gk - 1)
            case measure => omega
            case rel => exact ⟨j + 1, by omega, by go_num, any_take (p := fun y : T => impT y.ts ss[k].ts) hj' hno.out He.out, (by (repeat (first | exact Ext.refl _ | refine Ext.alloc ?_ _ | refine Ext.drewN ?_ _ | refine Ext.drew ?_ | refine Ext.trans ?_ (Hid.out (by assumption)))))⟩
        · have hyj : ys.take j = ys := List.take_of_length_le (by have := hym.out; omega)
          rw [hyj] at hno
          clear hyj
          by_cases hlast : k + 1 = sc
          · obtain rfl : k + 1 = sc := hlast
            have hx0 : ss.length - (k + 1) = 0 := by omega
            have HX0 := hid hx0
            clear hx0
            go_wp2_with fail
            clear e0 e1 e2 e3 e4 ez
            go_loopg [10, 37] (ss.length - (k + 1)) (fun g _ st wm => ∃ j2 : Nat, g + j2 = ss.length - (k + 1) ∧ st = .int .i64 j2 ∧ Hid (((ss.drop (k + 1)).take j2).any (fun b => impT b.ts ss[k].ts) = false) ∧ Hid (Ext (wr.alloc (Obj.cells #[.string ss[k].nm, .int .i64 ss[k].op, .int .i64 ss[k].k, .int .i64 ss[k].n, .string ss[k].s] 25)) wm))
            case atStart => exact ⟨0, by omega, rfl, rfl, hy.out⟩
            case round =>
              obtain ⟨j2, hg3, rfl, hno2, hz⟩ := hrel
              rename World => wm
              by_cases hj2 : j2 < ss.length - (k + 1)
              · exact absurd hj2 (by have := HX0.out; omega)
              · skip
                have hl2 : (ss.drop (k + 1)).take j2 = ss.drop (k + 1) := List.take_of_length_le (by rw [List.length_drop]; omega)
                rw [hl2] at hno2
                clear hl2
                have e0 : wm.cell? ⟨wr.heap.size, 0, none⟩ = some (.string ss[k].nm) := hz.out.keep (by simp)
                have e1 : wm.cell? ⟨wr.heap.size, 1, none⟩ = some (.int .i64 ss[k].op) := hz.out.keep (by simp)
                have e2 : wm.cell? ⟨wr.heap.size, 2, none⟩ = some (.int .i64 ss[k].k) := hz.out.keep (by simp)
                have e3 : wm.cell? ⟨wr.heap.size, 3, none⟩ = some (.int .i64 ss[k].n) := hz.out.keep (by simp)
                have e4 : wm.cell? ⟨wr.heap.size, 4, none⟩ = some (.string ss[k].s) := hz.out.keep (by simp)
                have ez : wr.heap.size < wm.heap.size := lt_of_cell e0
                go_wp2_with (at_builtin; refine app1 (ys := ys) rfl (.tmp 45) (.tmp 47) 29 rfl i0 _ 56 Try.underlying29 I1.out I2.out I3.out I4.out rfl (by decide) rfl (hown.out.ext (by (repeat (first | exact Ext.refl _ | refine Ext.alloc ?_ _ | refine Ext.drewN ?_ _ | refine Ext.drew ?_ | refine Ext.trans ?_ (Hid.out (by assumption)))))) ss[k] _ rfl (news_alloc (cs := T.cs ss[k]) rfl) (T.one _) (by omega) (by decide) (Ext.size (by (repeat (first | exact Ext.refl _ | refine Ext.alloc ?_ _ | refine Ext.drewN ?_ _ | refine Ext.drew ?_ | refine Ext.trans ?_ (Hid.out (by assumption)))))) ?_; intro g cap' w3 hown3 hgrow; have HO3 := hid hown3; have HG := hid hgrow; clear hown3 hgrow)
                go_roundg (G - 1)
                case measure => omega
                case rel => exact ⟨k + 1, _, _, _, ys ++ [ss[k]], by omega, by go_num, rfl, by omega, HO3.out, nrm_take hk hred.out hno.out hno2.out, HG.out.ext (hown.out.ext (by (repeat (first | exact Ext.refl _ | refine Ext.alloc ?_ _ | refine Ext.drewN ?_ _ | refine Ext.drew ?_ | refine Ext.trans ?_ (Hid.out (by assumption)))))) (Nat.le_refl _) (by (repeat (first | exact Ext.refl _ | refine Ext.alloc ?_ _ | refine Ext.drewN ?_ _ | refine Ext.drew ?_ | refine Ext.trans ?_ (Hid.out (by assumption)))))⟩
          · have hlt : k + 1 < sc := by omega
            go_wp2_with fail
            clear e0 e1 e2 e3 e4 ez
            go_loopg [10, 37] (ss.length - (k + 1)) (fun g _ st wm => ∃ j2 : Nat, g + j2 = ss.length - (k + 1) ∧ st = .int .i64 j2 ∧ Hid (((ss.drop (k + 1)).take j2).any (fun b => impT b.ts ss[k].ts) = false) ∧ Hid (Ext (wr.alloc (Obj.cells #[.string ss[k].nm, .int .i64 ss[k].op, .int .i64 ss[k].k, .int .i64 ss[k].n, .string ss[k].s] 25)) wm))
            case atStart => exact ⟨0, by omega, rfl, rfl, hy.out⟩
            case round =>
              obtain ⟨j2, hg3, rfl, hno2, hz⟩ := hrel
              rename World => wm
              by_cases hj2 : j2 < ss.length - (k + 1)
              · have hjx : k + 1 + j2 < ss.length := by omega
                have e0 : wm.cell? ⟨wr.heap.size, 0, none⟩ = some (.string ss[k].nm) := hz.out.keep (by simp)
                have e1 : wm.cell? ⟨wr.heap.size, 1, none⟩ = some (.int .i64 ss[k].op) := hz.out.keep (by simp)
                have e2 : wm.cell? ⟨wr.heap.size, 2, none⟩ = some (.int .i64 ss[k].k) := hz.out.keep (by simp)
                have e3 : wm.cell? ⟨wr.heap.size, 3, none⟩ = some (.int .i64 ss[k].n) := hz.out.keep (by simp)
                have e4 : wm.cell? ⟨wr.heap.size, 4, none⟩ = some (.string ss[k].s) := hz.out.keep (by simp)
                have ez : wr.heap.size < wm.heap.size := lt_of_cell e0
                obtain ⟨b2, o2, hb2, hc2⟩ := HO.out.sl.get (k + 1 + j2) hjx
                simp only [Option.some.injEq, Addr.mk.injEq, and_true] at hb2
                obtain ⟨rfl, rfl⟩ := hb2
                have hE : Ext w2 wm := Ext.trans hx.out (Ext.trans ((Ext.refl wr).alloc _) hz.out)
                obtain ⟨d0, d1, d2, d3, d4⟩ := cellsT (w := wm) (b := b) (o := o + (k + 1 + j2) * 5) (x := ss[k + 1 + j2]) (fun q v hq => hE.keep (hc2 q v hq))
                rw [show o + (k + 1 + j2) * 5 = o + (k + 1) * 5 + j2 * 5 from by omega] at d0 d1 d2 d3 d4
                clear hc2 hE
                have hjl : j2 < (ss.drop (k + 1)).length := by rw [List.length_drop]; exact hj2
                have hel : (ss.drop (k + 1))[j2] = ss[k + 1 + j2] := by simp
                have HEL := hid hel
                clear hel
                have f0 : (0 : Int) ≤ (j2 : Int) := by omega
                have f1 : (j2 : Int) < ((ss.length - (k + 1) : Nat) : Int) := by omega
                cases he : impT ss[k + 1 + j2].ts ss[k].ts with
                | true =>
                  have He := hid he
                  clear he
                  go_wp2_with (go_at_call 19; refine (implies_any ss[k + 1 + j2] ss[k] _).mono ?_; rintro e wq ⟨he, hb⟩; rw [He.out] at he; subst he; have hyq := hid hb; clear hb)
                  go_roundg (G - 1)
                  case measure => omega
                  case rel => exact ⟨k + 1, _, m, cp, ys, by omega, by go_num, rfl, by omega, hown.out.ext (by (repeat (first | exact Ext.refl _ | refine Ext.alloc ?_ _ | refine Ext.drewN ?_ _ | refine Ext.drew ?_ | refine Ext.trans ?_ (Hid.out (by assumption))))), nrm_skip hk hred.out (by rw [anyT_true (p := fun b : T => impT b.ts ss[k].ts) hjl (by rw [HEL.out]; exact He.out), Bool.or_true]), (by (repeat (first | exact Ext.refl _ | refine Ext.alloc ?_ _ | refine Ext.drewN ?_ _ | refine Ext.drew ?_ | refine Ext.trans ?_ (Hid.out (by assumption)))))⟩
                | false =>
                  have He := hid he
                  clear he
                  go_wp2_with (go_at_call 19; refine (implies_any ss[k + 1 + j2] ss[k] _).mono ?_; rintro e wq ⟨he, hb⟩; rw [He.out] at he; subst he; have hyq := hid hb; clear hb)
                  go_roundg (gk - 1)
                  case measure => omega
                  case rel => exact ⟨j2 + 1, by omega, by go_num, any_take (p := fun b : T => impT b.ts ss[k].ts) hjl hno2.out (by rw [HEL.out]; exact He.out), (by (repeat (first | exact Ext.refl _ | refine Ext.alloc ?_ _ | refine Ext.drewN ?_ _ | refine Ext.drew ?_ | refine Ext.trans ?_ (Hid.out (by assumption)))))⟩
              · skip
                have hl2 : (ss.drop (k + 1)).take j2 = ss.drop (k + 1) := List.take_of_length_le (by rw [List.length_drop]; omega)
                rw [hl2] at hno2
                clear hl2
                have e0 : wm.cell? ⟨wr.heap.size, 0, none⟩ = some (.string ss[k].nm) := hz.out.keep (by simp)
                have e1 : wm.cell? ⟨wr.heap.size, 1, none⟩ = some (.int .i64 ss[k].op) := hz.out.keep (by simp)
                have e2 : wm.cell? ⟨wr.heap.size, 2, none⟩ = some (.int .i64 ss[k].k) := hz.out.keep (by simp)
                have e3 : wm.cell? ⟨wr.heap.size, 3, none⟩ = some (.int .i64 ss[k].n) := hz.out.keep (by simp)
                have e4 : wm.cell? ⟨wr.heap.size, 4, none⟩ = some (.string ss[k].s) := hz.out.keep (by simp)
                have ez : wr.heap.size < wm.heap.size := lt_of_cell e0
                go_wp2_with (at_builtin; refine app1 (ys := ys) rfl (.tmp 45) (.tmp 47) 29 rfl i0 _ 56 Try.underlying29 I1.out I2.out I3.out I4.out rfl (by decide) rfl (hown.out.ext (by (repeat (first | exact Ext.refl _ | refine Ext.alloc ?_ _ | refine Ext.drewN ?_ _ | refine Ext.drew ?_ | refine Ext.trans ?_ (Hid.out (by assumption)))))) ss[k] _ rfl (news_alloc (cs := T.cs ss[k]) rfl) (T.one _) (by omega) (by decide) (Ext.size (by (repeat (first | exact Ext.refl _ | refine Ext.alloc ?_ _ | refine Ext.drewN ?_ _ | refine Ext.drew ?_ | refine Ext.trans ?_ (Hid.out (by assumption)))))) ?_; intro g cap' w3 hown3 hgrow; have HO3 := hid hown3; have HG := hid hgrow; clear hown3 hgrow)
                go_roundg (G - 1)
                case measure => omega
                case rel => exact ⟨k + 1, _, _, _, ys ++ [ss[k]], by omega, by go_num, rfl, by omega, HO3.out, nrm_take hk hred.out hno.out hno2.out, HG.out.ext (hown.out.ext (by (repeat (first | exact Ext.refl _ | refine Ext.alloc ?_ _ | refine Ext.drewN ?_ _ | refine Ext.drew ?_ | refine Ext.trans ?_ (Hid.out (by assumption)))))) (Nat.le_refl _) (by (repeat (first | exact Ext.refl _ | refine Ext.alloc ?_ _ | refine Ext.drewN ?_ _ | refine Ext.drew ?_ | refine Ext.trans ?_ (Hid.out (by assumption)))))⟩
    · have hk' : ss.drop k = [] := List.drop_eq_nil_of_le (by omega)
      rw [hk'] at hred
      clear hk'
      go_wp2
      go_ret
      refine ⟨aa, m, cp, rfl, ?_, (by (repeat (first | exact Ext.refl _ | refine Ext.alloc ?_ _ | refine Ext.drewN ?_ _ | refine Ext.drew ?_ | refine Ext.trans ?_ (Hid.out (by assumption)))))⟩
      rw [← hred.out]
      exact hown.out.mono (Ext.size hx2.out)
end Go.Proofs.Ytclmbonippjhoaa
