/- Events in memory of their own: the walk of the program's events. -/
import Derived.Test.YtiifflojpoobpaaGreatOwn15
set_option linter.unusedVariables false
set_option linter.unusedSimpArgs false
namespace Go.Proofs.YtiifflojpoobpaaGreat
open Go.RowKit

theorem infoAt : (Tryz.prog.info? 53).map (fun i => (i.zero, i.size, i.bytes)) = some (some (.agg #[.string ⟨#[]⟩, .int .i64 0, .int .i64 0, .string ⟨#[]⟩]), 4, 48) := by kernel_rfl
/-- Events that a call gives back. -/
def RetEvs (l : List (List AT)) (w : World) (e : Ending) (w' : World) : Prop := ∃ aa n cap ys, e = .returned (.slice aa n cap) ∧ EvsV w' aa n cap ys ∧ ys.map (·.ats) = l ∧ Ext w w'
/-- the same, of the call's own -/
def RetEvO (l : List (List AT)) (w : World) (e : Ending) (w' : World) : Prop := ∃ aa n cap ys, e = .returned (.slice aa n cap) ∧ Own w' w.heap.size 55 1 EvV.cs aa n cap ys ∧ (∀ y, y ∈ ys → Own w' w.heap.size 53 4 AT.cs y.v.a y.v.n y.v.c y.ats) ∧ ys.map (·.ats) = l ∧ Ext w w'
set_option maxHeartbeats 1000000 in
theorem events_own (a : Option Addr) (n cap : Nat) (xs : List EvV) (w : World) (hS : EvsV w a n cap xs) (hn : n ≤ 1000) (hA : ∀ x, x ∈ xs → x.ats.length ≤ 1000) :
    Calls Tryz.prog 44 #[.slice a n cap] w (RetEvO (xs.map (·.ats)) w) := by
  obtain ⟨j0, hj, hy0, hy1, hy2⟩ := info_parts infoEv
  obtain ⟨k0, hk, hx0, hx1, hx2⟩ := info_parts infoAt
  have J1 := hid hj
  have J2 := hid hy0
  have J3 := hid hy1
  have J4 := hid hy2
  have K1 := hid hk
  have K2 := hid hx0
  have K3 := hid hx1
  have K4 := hid hx2
  clear hj hy0 hy1 hy2 hk hx0 hx1 hx2
  obtain rfl := hS.sl.neq
  have hm := hS.sl.max
  have hl := hS.sl.len
  unfold maxLen at hm
  have HS := hid hS
  have HA := hid hA
  clear hS hA
  go_enter Tryz.func44, Tryz.ntmps44
  go_wp2_with fail
  go_loopg [3, 8] (xs.length) (fun g ov st wr => ∃ (k : Nat) (ab : Option Addr) (m cp : Nat) (ys : List EvV), g + k = xs.length ∧ st = .int .i64 k ∧ ov = .slice ab m cp ∧
    Hid (Own wr w.heap.size 55 1 EvV.cs ab m cp ys ∧ ys.map (·.ats) = (xs.take k).map (·.ats) ∧ ∀ y, y ∈ ys → Own wr w.heap.size 53 4 AT.cs y.v.a y.v.n y.v.c y.ats) ∧ Hid (Ext w wr))
  case atStart => exact ⟨0, none, 0, 0, [], by omega, rfl, rfl, ⟨Own.nil _ _ _ EvV.wid, rfl, fun y hy => by cases hy⟩, Ext.refl _⟩
  case round =>
    obtain ⟨k, ab, m, cp, ys, hg, rfl, rfl, hown, hx⟩ := hrel
    by_cases hk : k < xs.length
    · obtain ⟨b, o, rfl, hc⟩ := HS.out.sl.get k hk
      have d0 := cells1 (w := wr) (b := b) (o := o + k * 1) (x := xs[k]) (fun j v hj => hx.out.keep (hc j v hj))
      rw [Nat.mul_one] at d0
      have HV := hid ((HS.out.ats xs[k] (List.getElem_mem hk)).ext hx.out)
      have hvn : xs[k].v.n ≤ 1000 := by rw [HV.out.neq]; exact HA.out _ (List.getElem_mem hk)
      have hmk : m ≤ 1000 := by
        have h1 := congrArg List.length hown.out.2.1
        rw [List.length_map, List.length_map, List.length_take] at h1
        have h2 := hown.out.1.neq
        omega
      have hzw : w.heap.size ≤ wr.heap.size := hx.out.size
      clear hc
      have b0 : (0 : Int) ≤ (k : Int) := by omega
      have b1 : (k : Int) < (xs.length : Int) := by omega
      go_wp2_with (first | (at_builtin; refine wpList_plain rfl fun KK hKK => ?_; refine wpOn (c := AT.cs) (ys0 := []) (ys := xs[k].ats) (.const (.slice none 0 0)) (.tmp 13) 55 53 rfl k0 _ 48 Tryz.underlying55 K1.out K2.out K3.out K4.out rfl (by decide) rfl wr (by (repeat (first | exact Ext.refl _ | refine Ext.alloc ?_ _ | refine Ext.drewN ?_ _ | refine Ext.drew ?_ | refine Ext.trans ?_ (Hid.out (by assumption))))) (Own.nil _ _ _ AT.wid) rfl (HV.out.ext (by (repeat (first | exact Ext.refl _ | refine Ext.alloc ?_ _ | refine Ext.drewN ?_ _ | refine Ext.drew ?_ | refine Ext.trans ?_ (Hid.out (by assumption)))))) AT.one (by omega) (by decide) ?_; intro bb n1 cap1 w2 hn1 hown1 hx1 hg1; refine hKK _ _ ?_; have HO2 := hid hown1; have HX2 := hid hx1; have HN2 := hid hn1; clear hown1 hx1 hg1 hn1) | (at_builtin; refine app1 (ys := ys) rfl (.tmp 12) (.tmp 15) 29 rfl j0 _ 24 Tryz.underlying29 J1.out J2.out J3.out J4.out rfl (by decide) rfl (hown.out.1.ext (HX2.out.alloc _)) ⟨⟨bb, n1, cap1⟩, xs[k].ats⟩ _ rfl (news_alloc (cs := EvV.cs ⟨⟨bb, n1, cap1⟩, xs[k].ats⟩) rfl) (EvV.one _) (by omega) (by decide) (Nat.le_trans hzw (HX2.out.alloc _).size) ?_; intro g cp3 w3 hown3 hgrow; have HO3 := hid hown3; have HG := hid hgrow; clear hown3 hgrow))
      go_roundg (gk - 1)
      case measure => omega
      case rel =>
        have oe := hown.out.1.ext (HX2.out.alloc (.cells #[.slice bb n1 cap1] 55))
        refine ⟨k + 1, _, _, _, ys ++ [⟨⟨bb, n1, cap1⟩, xs[k].ats⟩], by omega, by go_num, rfl, ⟨HO3.out, ?_, fun y hy => ?_⟩, HG.out.ext oe (Nat.le_refl _) (Ext.trans hx.out (HX2.out.alloc _))⟩
        · rw [List.map_append, hown.out.2.1, List.take_succ_eq_append_getElem hk, List.map_append]; rfl
        · rcases List.mem_append.1 hy with hy | hy
          · have oy := (hown.out.2.2 y hy).ext (HX2.out.alloc (.cells #[.slice bb n1 cap1] 55))
            exact HG.out.own oy (oe.ne oy (by decide))
          · obtain rfl := List.mem_singleton.1 hy
            have oy := (HO2.out.mono hzw).ext ((Ext.refl w2).alloc (.cells #[.slice bb n1 cap1] 55))
            exact HG.out.own oy (oe.ne oy (by decide))
    · have hk' : xs.take k = xs := List.take_of_length_le (by omega)
      rw [hk'] at hown
      go_wp2
      go_ret
      exact ⟨ab, m, cp, ys, rfl, hown.out.1, hown.out.2.2, hown.out.2.1, hx.out⟩
theorem events_any (a : Option Addr) (n cap : Nat) (xs : List EvV) (w : World) (hS : EvsV w a n cap xs) (hn : n ≤ 1000) (hA : ∀ x, x ∈ xs → x.ats.length ≤ 1000) :
    Calls Tryz.prog 44 #[.slice a n cap] w (RetEvs (xs.map (·.ats)) w) :=
  (events_own a n cap xs w hS hn hA).mono fun _ _ ⟨aa, m, cp, ys, e, h1, h2, h3, h4⟩ => ⟨aa, m, cp, ys, e, ⟨h1.sl, fun y hy => (h2 y hy).sl⟩, h3, h4⟩
end Go.Proofs.YtiifflojpoobpaaGreat
