/- Chapter 19: of little loads; and the limits. -/
import Derived.Test.YtncadipipomebaaAwake19
namespace Go.Proofs.Ytncadipipomebaa
open Go.RowKit
attribute [local go_sem ↓] Go.wp_at_zero Go.wp_at_succ

set_option maxRecDepth 100000 in
set_option maxHeartbeats 4000000 in
theorem few19_any (s : StV) (ls : List EP) (oa : Option Addr) (on oc : Nat) (os : List EP) (la : Option Addr) (ln lc : Nat) (xs : List EP) (ka : Option Addr) (kn kc : Nat) (kids : List Kid) (w : World)
    (hS : Ents w s.l.a s.l.n s.l.c ls) (hO : Ents w oa on oc os) (hX : Ents w la ln lc xs) (hK : Kids w ka kn kc kids) :
    Calls Try.prog 31 #[.agg #[.int .u64 s.life, .slice s.l.a s.l.n s.l.c, .slice s.p.a s.p.n s.p.c, .slice s.b.a s.b.n s.b.c], .slice oa on oc, .slice la ln lc, .slice ka kn kc] w (FewR (OkE os ∧ OkE ls ∧ OkE xs ∧ kids.length ≤ 6 ∧ s.b.n ≤ 50 ∧ s.p.n ≤ 20 ∧ ∀ m, m ∈ kids → m.m.v.n ≤ 50) w) := by
  obtain rfl := hK.sl.neq
  have hm := hK.sl.max
  have hl := hK.sl.len
  unfold maxLen at hm
  have HS := hid hS
  have HO := hid hO
  have HX := hid hX
  have HK := hid hK
  clear hS hO hX hK
  go_enter Try.func31, Try.ntmps31
  go_wp2_with fail
  refine (few13m_any ⟨0, 0, ⟨none, 0, 0⟩, ⟨oa, on, oc⟩, s.l, ⟨la, ln, lc⟩, ⟨none, 0, 0⟩, ⟨none, 0, 0⟩⟩ os ls xs _ ⟨HO.out.ext (by (repeat (first | exact Ext.refl _ | refine Ext.alloc ?_ _ | refine Ext.drewN ?_ _ | refine Ext.drew ?_ | refine Ext.trans ?_ (Hid.out (by assumption))))), HS.out.ext (by (repeat (first | exact Ext.refl _ | refine Ext.alloc ?_ _ | refine Ext.drewN ?_ _ | refine Ext.drew ?_ | refine Ext.trans ?_ (Hid.out (by assumption))))), HX.out.ext (by (repeat (first | exact Ext.refl _ | refine Ext.alloc ?_ _ | refine Ext.drewN ?_ _ | refine Ext.drew ?_ | refine Ext.trans ?_ (Hid.out (by assumption)))))⟩).mono ?_
  rintro e w1 ⟨f1, rfl, hf1, hb1⟩
  have hc1 := hb1.cell
  have hz1 : w.heap.size < w1.heap.size := by have := hb1.size; simp at this; omega
  have hx1 := hid hb1
  have HF1 := hid hf1
  clear hb1 hf1
  cases f1
  · go_wp2
    (go_ret; exact ⟨false, rfl, (fun h => by cases h), (by (repeat (first | exact Ext.refl _ | refine Ext.alloc ?_ _ | refine Ext.drewN ?_ _ | refine Ext.drew ?_ | refine Ext.trans ?_ (Hid.out (by assumption)))))⟩)
  · by_cases hb : kids.length ≤ 6
    · have hbi : (kids.length : Int) ≤ 6 := by omega
      by_cases hb5 : s.b.n ≤ 50
      · have hbj : (s.b.n : Int) ≤ 50 := by omega
        by_cases hb6 : s.p.n ≤ 20
        · have hbk : (s.p.n : Int) ≤ 20 := by omega
          go_wp2_with fail
          clear hc1
          go_loopg [10] (kids.length) (fun g st wr => ∃ k : Nat, g + k = kids.length ∧ st = .int .i64 k ∧ Hid (∀ m, m ∈ kids.take k → m.m.v.n ≤ 50) ∧ Hid (Ext w wr))
          case atStart => exact ⟨0, by omega, rfl, (fun y hy => by cases hy), (by (repeat (first | exact Ext.refl _ | refine Ext.alloc ?_ _ | refine Ext.drewN ?_ _ | refine Ext.drew ?_ | refine Ext.trans ?_ (Hid.out (by assumption)))))⟩
          case round =>
            clear hx1 hz1
            obtain ⟨k, hg, rfl, hok, hx⟩ := hrel
            by_cases hk : k < kids.length
            · obtain ⟨b, o, rfl, hc⟩ := HK.out.sl.get k hk
              obtain ⟨c0, c1, c2, c3, c4, c5, c6, c7⟩ := cellsM (w := wr) (b := b) (o := o + k * 8) (x := kids[k].m) (fun j v hj => hx.out.keep (hc j v hj))
              clear hc
              have b0 : (0 : Int) ≤ (k : Int) := by omega
              have b1 : (k : Int) < (kids.length : Int) := by omega
              by_cases hv : kids[k].m.v.n ≤ 50
              · have hvi : (kids[k].m.v.n : Int) ≤ 50 := by omega
                go_wp2_with fail
                go_roundg (gk - 1)
                case measure => omega
                case rel =>
                  refine ⟨k + 1, by omega, by go_num, fun y hy => ?_, (by (repeat (first | exact Ext.refl _ | refine Ext.alloc ?_ _ | refine Ext.drewN ?_ _ | refine Ext.drew ?_ | refine Ext.trans ?_ (Hid.out (by assumption)))))⟩
                  rw [List.take_succ_eq_append_getElem hk] at hy
                  rcases List.mem_append.1 hy with hy | hy
                  · exact hok.out y hy
                  · obtain rfl := List.mem_singleton.1 hy
                    exact hv
              · have hvi : ¬ (kids[k].m.v.n : Int) ≤ 50 := by omega
                go_wp2
                (go_ret; exact ⟨false, rfl, (fun h => by cases h), (by (repeat (first | exact Ext.refl _ | refine Ext.alloc ?_ _ | refine Ext.drewN ?_ _ | refine Ext.drew ?_ | refine Ext.trans ?_ (Hid.out (by assumption)))))⟩)
            · have hk' : kids.take k = kids := List.take_of_length_le (by omega)
              rw [hk'] at hok
              clear hk'
              go_wp2
              go_ret
              exact ⟨true, rfl, fun _ => ⟨(HF1.out (by trivial)).1, (HF1.out (by trivial)).2.1, (HF1.out (by trivial)).2.2.1, hb, hb5, hb6, hok.out⟩, (by (repeat (first | exact Ext.refl _ | refine Ext.alloc ?_ _ | refine Ext.drewN ?_ _ | refine Ext.drew ?_ | refine Ext.trans ?_ (Hid.out (by assumption)))))⟩
        · have hbk : 20 < (s.p.n : Int) := by omega
          go_wp2
          (go_ret; exact ⟨false, rfl, (fun h => by cases h), (by (repeat (first | exact Ext.refl _ | refine Ext.alloc ?_ _ | refine Ext.drewN ?_ _ | refine Ext.drew ?_ | refine Ext.trans ?_ (Hid.out (by assumption)))))⟩)
      · have hbj : 50 < (s.b.n : Int) := by omega
        go_wp2
        (go_ret; exact ⟨false, rfl, (fun h => by cases h), (by (repeat (first | exact Ext.refl _ | refine Ext.alloc ?_ _ | refine Ext.drewN ?_ _ | refine Ext.drew ?_ | refine Ext.trans ?_ (Hid.out (by assumption)))))⟩)
    · have hbi : 6 < (kids.length : Int) := by omega
      go_wp2
      (go_ret; exact ⟨false, rfl, (fun h => by cases h), (by (repeat (first | exact Ext.refl _ | refine Ext.alloc ?_ _ | refine Ext.drewN ?_ _ | refine Ext.drew ?_ | refine Ext.trans ?_ (Hid.out (by assumption)))))⟩)
theorem names19_any (w : World) : Calls Try.prog 9 #[] w fun e w' => e = .returned (.bool true) ∧ Ext w w' := by
  go_enter Try.func9, Try.ntmps9
  go_wp2_with (go_at_call 30; refine (awake19_any _).mono ?_; rintro e w' ⟨rfl, hb⟩; have hx := hid hb; clear hb)
  go_ret
  refine ⟨rfl, ?_⟩
  (repeat (first | exact Ext.refl _ | refine Ext.alloc ?_ _ | refine Ext.drewN ?_ _ | refine Ext.drew ?_ | refine Ext.trans ?_ (Hid.out (by assumption))))
end Go.Proofs.Ytncadipipomebaa
