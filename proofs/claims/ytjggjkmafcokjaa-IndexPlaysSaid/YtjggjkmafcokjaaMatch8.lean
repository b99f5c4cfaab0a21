/- The numbers of the filters that match an event: the walk of the index's Match. -/
import Derived.Test.YtjggjkmafcokjaaAddOk
import Derived.Test.YtjggjkmafcokjaaMatP
import Derived.Test.YtjggjkmafcokjaaSrtC8
import Derived.IntWalk
set_option linter.unusedVariables false
set_option linter.unusedSimpArgs false
namespace Go.Proofs.Ytjggjkmafcokjaa
open Go.RowKit

theorem zeroI (w : World) : (zeroValue 3).run Try.prog w = .ok (.int .i64 0) w := by kernel_rfl
theorem makeHint (w : World) (n : Int) : (Instr.makeMap 75 (some (.int .i64 n))).run Try.prog w = .ok (.map (some w.heap.size)) (w.alloc (.map #[] 0)) := by
  simp [Instr.makeMap, run_underlying Try.underlying75, asInt, asIntOf, Result.andThen]
/-- the sort of at most N numbers that a map has as keys -/
def SortedTo (N : Nat) : Prop := ∀ (Bm b nn s : Nat) (f : Lit → Option Value) (w : World), w.cell? ⟨Bm, 0, none⟩ = some (.map (some b)) → MapF w Try.prog 30 b nn s f → s ≤ N →
  Calls Try.prog 32 #[(.func (.func 41) #[] #[.pointer (some ⟨Bm, 0, none⟩)])] w (RetSorted f w)
theorem sortedTo12 : SortedTo 12 := fun Bm b nn s f w h1 h2 h3 => sorted12_any Bm b nn s f w h1 h2 h3
/-- the numbers of the filters that match -/
def RetMatch (fd : Int → Option (List T)) (es : List AT) (w : World) (e : Ending) (w' : World) : Prop :=
  ∃ aa n cap zs, e = .returned (.slice aa n cap) ∧ Own w' w.heap.size 30 1 uC aa n cap zs ∧ (zs.Nodup ∧ Rise zs 0 n ∧ ∀ x, x ∈ zs ↔ ∃ ts, fd x = some ts ∧ matchesT ts es = true) ∧ Ext w w'
theorem key_inv {kl : Lit} {x : Int} (h : keyOf Try.prog 30 (.int .u64 x) = some kl) : kl = .int .u64 x ∧ U64 x := by
  obtain ⟨y, hy, rfl, hw⟩ := Maps.keyOf_int_inv Try.underlying30 h
  cases hy
  exact ⟨rfl, hw⟩
theorem invK8 : ∀ key kl, keyOf Try.prog 30 key = some kl → ∃ x : Int, key = .int .u64 x := fun key kl h => by
  obtain ⟨y, hy, _⟩ := Maps.keyOf_int_inv Try.underlying30 h
  exact ⟨y, hy⟩
/-- a slice value's parts -/
abbrev SP := Option Addr × Nat × Nat
def spV (c : SP) : Value := .slice c.1 c.2.1 c.2.2
theorem look_eq {w : World} {b n s : Nat} {f : Lit → Option Value} {x v : Int} (h : MapF w Try.prog 30 b n s f) (hU : U64 x) (hv : f (.int .u64 x) = some (.int .i64 v)) : (Instr.lookup 75 (.map (some b)) (.int .u64 x) false).run Try.prog w = .ok (.int .i64 v) w := by
  have := h.look (Maps.int_keyed Try.underlying30) Try.underlying75 (zeroI w) (y := _) rfl (key8 hU)
  rw [hv] at this
  exact this
theorem grown_blk {w w' : World} {r k : Nat} (h : w.grownBy w' (some r)) (hk : k < w.heap.size) (hne : k ≠ r) : w'.heap[k]? = w.heap[k]? := h.block k hk (fun e => by cases e; exact hne rfl)
set_option maxRecDepth 100000 in
set_option maxHeartbeats 8000000 in
theorem match_any {N base p m s : Nat} {fd : Int → Option (List T)} {own : Nat → Option Lab} (hN : SortedTo N) (a : Option Addr) (n c : Nat) (es : List AT) (w : World) (h : Ix w base p m fd s own) (hs : s ≤ N) (hs5 : s ≤ 1000)
    (hts : ∀ id ts, fd id = some ts → ts.length ≤ 1000) (hE : Sl w 4 AT.cs a n c es) (hn : n ≤ 1000000) (hnm : ∀ e, e ∈ es → e.nm.size ≤ maxLen) :
    Calls Try.prog 17 #[.pointer (some ⟨p, 0, none⟩), .slice a n c] w (RetMatch fd es w) := by
  obtain ⟨bF, bT, sT, fF, fT, h⟩ := h
  obtain rfl := hE.neq
  have hl := hE.len
  have hmx := hE.max
  unfold maxLen at hmx
  have c0 := h.cF
  have c1 := h.cT
  have hlen := h.mF.len Try.underlying65 (ty := 3)
  have hmk := makeHint
  have c0' := Ext.keep ((Ext.refl w).alloc (.map #[] 0)) c0
  have hmm := @run_makeMap Try.prog
  have hiF : ∀ id, (fF (.int .u64 id)).isSome = (fd id).isSome := fun id => by
    have := h.flt id
    cases e : fd id with
    | none => rw [e] at this; have this : fF (.int .u64 id) = none := this; rw [this]; rfl
    | some ts => rw [e] at this; obtain ⟨a, n, c, hx, _⟩ := this; rw [hx]; rfl
  have hvF : ∀ id x n c, fF (.int .u64 id) = some (.slice x n c) → ∃ ts, fd id = some ts ∧ ts.length = n := fun id x n c hv => by
    have := h.flt id
    cases e : fd id with
    | none => rw [e] at this; have this : fF (.int .u64 id) = none := this; rw [this] at hv; cases hv
    | some ts => rw [e] at this; obtain ⟨a, n, c, hx, hS, _⟩ := this; rw [hx] at hv; cases hv; exact ⟨ts, rfl, hS.neq.symm⟩
  have invF : ∀ key kl v, keyOf Try.prog 30 key = some kl → fF kl = some v → ∃ c : SP, v = spV c := fun key kl v hk hv => by
    obtain ⟨y, rfl, rfl, _⟩ := Maps.keyOf_int_inv Try.underlying30 hk
    have := h.flt y
    cases e : fd y with
    | none => rw [e] at this; have this : fF (.int .u64 y) = none := this; rw [this] at hv; cases hv
    | some ts => rw [e] at this; obtain ⟨a, n, c, hx, _⟩ := this; rw [hx] at hv; cases hv; exact ⟨(a, n, c), rfl⟩
  have H := hid h
  have HE := hid hE
  have hbF := (h.lab _ _ h.oF).2
  clear h hE
  go_enter Try.func17, Try.ntmps17
  go_wp2_with (first | (at_range; refine list_of rfl (fun K hK => op_range _ rfl (Maps.int_keyed Try.underlying30) Try.underlying65 rfl (H.out.mF.ext (by (repeat (first | exact Ext.refl _ | refine Ext.alloc ?_ _ | refine Ext.drewN ?_ _ | refine Ext.drew ?_ | refine Ext.trans ?_ (Hid.out (by assumption)))))) ?_); intro w2 hR hx2 hz2; refine hK _ _ ?_; clear hK K; rw [World.size_alloc] at hR; (try simp only [World.size_alloc]); have HR := hid hR; have HX := hid (show Ext w w2 from Ext.trans ((Ext.refl w).alloc _) hx2); have HL := hid (MapF.ext (MapF.made w Try.prog 30) hx2); clear hR hx2) | go_in)
  go_frame
  go_loopg [6] (s) (fun g _ wr => ∃ (left : Lit → Bool) (cnt sL : Nat) (gL : Lit → Option Value), g = cnt ∧ sL + cnt ≤ s ∧ Hid (RangeF wr Try.prog 30 bF (w.heap.size + 1) m s fF left cnt) ∧ Hid (MapF wr Try.prog 30 w.heap.size s sL gL) ∧ Hid (LenK fd left gL) ∧ Hid (Ext w wr))
  case atStart => exact ⟨_, s, 0, _, rfl, by omega, HR, hid (HL.out.mono (Nat.zero_le _)), hid (LenK.start hiF), HX⟩
  case round =>
    obtain ⟨left, cnt, sL, gL, rfl, hcs, HR, HL, HK, HX⟩ := hrel
    have hbL := HL.out.lt
    go_wp2_with (first | (at_next; refine wpList_nextF rfl _ rfl (Maps.int_keyed Try.underlying30) (Value.int .u64) spV invK8 invF rfl HR.out ?_ ?_) | go_in)
    · intro hc0 hl0
      have HL1 := hid (HL.out.tight)
      have HK1 := hid (HK.out.done hl0)
      obtain ⟨wA, hwA⟩ : ∃ v, v = wr := ⟨_, rfl⟩
      subst hwA
      have hnS : bF < wA.heap.size := Nat.lt_of_lt_of_le hbF HX.out.size
      have HX1 := hid ((show Ext w (wA.alloc (.map #[] 0)) from Ext.trans HX.out ((Ext.refl _).alloc _)))
      have HL2 := hid (HL1.out.ext ((Ext.refl _).alloc (.map #[] 0)))
      have HS2 := hid (MapF.made wA Try.prog 9)
      clear HR HL HK HX HL1 hl0 hc0
      go_wp2_with fail
      go_loopg [40] (es.length) (fun g st wq => ∃ (k sL sS : Nat) (gL gS : Lit → Option Value), g + k = es.length ∧ st = .int .i64 k ∧ sL ≤ s ∧ Hid (MapF wq Try.prog 30 w.heap.size s sL gL) ∧ Hid (MapF wq Try.prog 9 wA.heap.size k sS gS) ∧ Hid (Lacks fd (es.take k) gL) ∧ Hid (∀ nm, (gS (.string nm)).getD (.int .i64 0) = .int .i64 (cntN (es.take k) nm)) ∧ Hid (Ext w wq))
      case atStart => exact ⟨0, sL, 0, gL, _, by omega, rfl, by omega, hid (HL2.out.mono (by omega)), HS2, HK1, hid (fun nm => rfl), HX1⟩
      case round =>
        obtain ⟨k, sL2, sS, gL2, gS, hg, rfl, hsL, HL, HS, HK, HC, HX⟩ := hrel
        obtain ⟨wq, hwq⟩ : ∃ v, v = wr := ⟨_, rfl⟩
        subst hwq
        by_cases hk : k < es.length
        · obtain ⟨b, o, rfl, hcs⟩ := (HE.out.ext HX.out).get k hk
          obtain ⟨d0, d1, d2, d3⟩ := cellsA (w := wq) (b := b) (o := o + k * 4) (x := es[k]) hcs
          clear hcs
          have b0 : (0 : Int) ≤ (k : Int) := by omega
          have b1 : (k : Int) < (es.length : Int) := by omega
          have b2 : cntN (es.take k) es[k].nm.toList ≤ k := Nat.le_trans (cntN_le _ _) (by rw [List.length_take]; omega)
          have h16 := hnm _ (List.getElem_mem hk)
          have hwA : w.heap.size < wA.heap.size := hbL
          have hqA : wA.heap.size < wq.heap.size := HS.out.lt
          have hqL : w.heap.size < wq.heap.size := HL.out.lt
          have hqL1 : w.heap.size < (wq.alloc (.cells (AT.cs es[k]).toArray 64)).heap.size := by simp; omega
          have hB0 := news_alloc (W := wq) (cs := AT.cs es[k]) (t := 64) rfl
          go_wp2_with (first
            | (at_lookup; refine list_of rfl (fun K hK => op_look _ _ rfl (Maps.string_keyed Try.underlying9) Try.underlying76 _ (zeroI _) rfl rfl HS4.out rfl (keyS h16) ?_); rw [upd_same, Option.getD_some]; refine hK _ _ ?_; clear hK K)
            | (at_lookup; refine list_of rfl (fun K hK => op_look _ _ rfl (Maps.string_keyed Try.underlying9) Try.underlying76 _ (zeroI _) rfl rfl (HS.out.ext (by (repeat (first | exact Ext.refl _ | refine Ext.alloc ?_ _ | refine Ext.drewN ?_ _ | refine Ext.drew ?_ | refine Ext.trans ?_ (Hid.out (by assumption)))))) rfl (keyS h16) ?_); rw [HC.out]; refine hK _ _ ?_; clear hK K)
            | (at_mapUpdate; refine list_of rfl (fun K hK => op_store _ _ _ rfl (Maps.string_keyed Try.underlying9) Try.underlying76 rfl (HS.out.ext (by (repeat (first | exact Ext.refl _ | refine Ext.alloc ?_ _ | refine Ext.drewN ?_ _ | refine Ext.drew ?_ | refine Ext.trans ?_ (Hid.out (by assumption)))))) (by unfold maxLen; omega) rfl rfl (keyS h16) rfl ?_); intro w4 hS4 ht4; refine hK _ _ ?_; clear hK K; have HS4 := hid hS4; have HL4 := hid (MapF.blk (HL.out.ext ((Ext.refl _).alloc _)) (turned_blk ht4 hqL1 (Nat.ne_of_lt hwA))); have HX4 := hid (Ext.grown (Ext.trans HX.out ((Ext.refl _).alloc _)) ht4.grown (fun k e => by cases e; exact Nat.le_of_lt hwA)); have HB4 := hid (fun j v hj => (World.cell?_of_block (a := ⟨wq.heap.size, j, .none⟩) (turned_blk ht4 (by simp) (Nat.ne_of_gt hqA))).trans (hB0 j v hj)); have hz4 : wq.heap.size < w4.heap.size := Nat.lt_of_lt_of_le (by simp) ht4.grown.size; have e0 := HB4.out 0 _ rfl; have e1 := HB4.out 1 _ rfl; have e2 := HB4.out 2 _ rfl; have e3 := HB4.out 3 _ rfl; clear hS4 ht4)
            | go_in)
          have htk : es.take (k + 1) = es.take k ++ [es[k]] := List.take_succ_eq_append_getElem hk
          obtain ⟨sS4, gS4, HS5, HC5⟩ : ∃ (sS4 : Nat) (gS4 : Lit → Option Value), Hid (MapF w4 Try.prog 9 wA.heap.size (k + 1) sS4 gS4) ∧ Hid (∀ nm, (gS4 (.string nm)).getD (.int .i64 0) = .int .i64 (cntN (es.take (k + 1)) nm)) := ⟨_, _, HS4, hid (by rw [htk]; exact cnt_upd HC.out)⟩
          clear HS4 HC HS HL
          · have hc0 : cntN (es.take k) es[k].nm.toList ≠ 0 := by omega
            go_roundg (gk - 1)
            case measure => omega
            case rel => exact ⟨k + 1, sL2, sS4, gL2, gS4, by omega, by go_num, hsL, HL4, HS5, hid (by rw [htk]; exact HK.out.old hc0), HC5, HX4⟩
          have htk : es.take (k + 1) = es.take k ++ [es[k]] := List.take_succ_eq_append_getElem hk
          obtain ⟨sS4, gS4, HS5, HC5⟩ : ∃ (sS4 : Nat) (gS4 : Lit → Option Value), Hid (MapF w4 Try.prog 9 wA.heap.size (k + 1) sS4 gS4) ∧ Hid (∀ nm, (gS4 (.string nm)).getD (.int .i64 0) = .int .i64 (cntN (es.take (k + 1)) nm)) := ⟨_, _, HS4, hid (by rw [htk]; exact cnt_upd HC.out)⟩
          clear HS4 HC HS HL
          have hc0 := hid (show cntN (es.take k) es[k].nm.toList = 0 by omega)
          refine wp_region_held_drew (S := (fun w' => w'.cell? ⟨p, 1, none⟩ = some (.map (some bT)) ∧ w'.cell? ⟨wq.heap.size, 0, none⟩ = some (.string es[k].nm))) (by kernel_rfl) ?_ (fun hHeld => ?_)
          · ((try dsimp only); (exact ⟨Ext.keep (W := w) (by (repeat (first | exact Ext.refl _ | refine Ext.alloc ?_ _ | refine Ext.drewN ?_ _ | refine Ext.drew ?_ | refine Ext.trans ?_ (Hid.out (by assumption))))) c1, Ext.keep (W := w4) (by (repeat (first | exact Ext.refl _ | refine Ext.alloc ?_ _ | refine Ext.drewN ?_ _ | refine Ext.drew ?_ | refine Ext.trans ?_ (Hid.out (by assumption))))) e0⟩))
          (refine hTake 0 (some 54) (v := ?_) (by kernel_rfl) (by kernel_rfl) (by kernel_rfl) (fun _ _ _ h => h) ⟨_, rfl, rfl, Or.inl ⟨by rfl, ?_⟩⟩ hHeld ?_; rotate_left; (focus (intro w hSw; (try dsimp only at hSw); go_simp; (first | done | with_reducible rfl))); (try simp only [Act.put, List.setIfInBounds_toArray, List.set_cons_zero, List.set_cons_succ]))
          (refine hTake 1 (some 55) (v := ?_) (by kernel_rfl) (by kernel_rfl) (by kernel_rfl) (fun _ _ _ h => h) ⟨_, rfl, rfl, Or.inl ⟨by rfl, ?_⟩⟩ hHeld ?_; rotate_left; (focus (intro w hSw; (try dsimp only at hSw); go_simp; (first | done | with_reducible rfl))); (try simp only [Act.put, List.setIfInBounds_toArray, List.set_cons_zero, List.set_cons_succ]))
          (refine hTake 2 (some 56) (v := ?_) (by kernel_rfl) (by kernel_rfl) (by kernel_rfl) (fun _ _ _ h => h) ⟨_, rfl, rfl, Or.inl ⟨by rfl, ?_⟩⟩ hHeld ?_; rotate_left; (focus (intro w hSw; (try dsimp only at hSw); go_simp; (first | done | with_reducible rfl))); (try simp only [Act.put, List.setIfInBounds_toArray, List.set_cons_zero, List.set_cons_succ]))
          (refine hTake 3 (some 57) (v := ?_) (by kernel_rfl) (by kernel_rfl) (by kernel_rfl) (fun _ _ _ h => h) ⟨_, rfl, rfl, Or.inl ⟨by rfl, ?_⟩⟩ hHeld ?_; rotate_left; (focus (intro w hSw; (try dsimp only at hSw); go_simp; (first | done | with_reducible rfl))); (try simp only [Act.put, List.setIfInBounds_toArray, List.set_cons_zero, List.set_cons_succ]))
          (refine hTake 4 (some 58) (v := ?_) (by kernel_rfl) (by kernel_rfl) (by kernel_rfl) (fun _ _ _ h => h) ⟨_, rfl, rfl, Or.inl ⟨by rfl, ?_⟩⟩ hHeld ?_; rotate_left; (focus (intro w hSw; (try dsimp only at hSw); go_simp; (first | done | with_reducible rfl))); (try simp only [Act.put, List.setIfInBounds_toArray, List.set_cons_zero, List.set_cons_succ]))
          (refine hTake 5 (some 59) (v := ?_) (by kernel_rfl) (by kernel_rfl) (by kernel_rfl) (fun _ _ _ h => h) ⟨_, rfl, rfl, Or.inl ⟨by rfl, ?_⟩⟩ hHeld ?_; rotate_left; (focus (intro w hSw; (try dsimp only at hSw); go_simp; (first | done | with_reducible rfl))); (try simp only [Act.put, List.setIfInBounds_toArray, List.set_cons_zero, List.set_cons_succ]))
          refine wpAnyH_ready (rs := [6]) (by kernel_rfl) (by simp) ?_
          refine AllReadyH.cons rfl (fun K hK => ?_) AllReadyH.nil
          refine step_of rfl (op_look _ _ rfl (Maps.string_keyed Try.underlying9) Try.underlying66 _ (zeroM _) rfl rfl (H.out.mT.ext (by (repeat (first | exact Ext.refl _ | refine Ext.alloc ?_ _ | refine Ext.drewN ?_ _ | refine Ext.drew ?_ | refine Ext.trans ?_ (Hid.out (by assumption)))))) rfl (keyS h16) ?_)
          refine put_to (d := some 60) rfl ?_
          refine hK.out _ _ ?_ (fun hHeld => ?_)
          focus (exact ⟨Ext.keep (W := w) (by (repeat (first | exact Ext.refl _ | refine Ext.alloc ?_ _ | refine Ext.drewN ?_ _ | refine Ext.drew ?_ | refine Ext.trans ?_ (Hid.out (by assumption))))) c1, Ext.keep (W := w4) (by (repeat (first | exact Ext.refl _ | refine Ext.alloc ?_ _ | refine Ext.drewN ?_ _ | refine Ext.drew ?_ | refine Ext.trans ?_ (Hid.out (by assumption))))) e0⟩)
          clear hK K
          (try dsimp only) <;> (try simp only [Act.put, List.setIfInBounds_toArray, List.set_cons_zero, List.set_cons_succ])
          refine wpAnyH_ready (rs := [7]) (by kernel_rfl) (by simp) ?_
          refine AllReadyH.cons rfl (fun K hK => ?_) AllReadyH.nil
          rcases H.out.inn es[k].nm.toList with ⟨hv, hno⟩ | ⟨bn, s1, g, hv, ho, hM, hr⟩
          · rw [hv]
            refine step_of rfl (op_rangeNil _ rfl Try.underlying70 rfl ?_)
            refine put_to (d := some 61) rfl ?_
            refine hK.out _ _ ?_ (fun hHeld => ?_)
            focus (exact ⟨Ext.keep (W := w) (by (repeat (first | exact Ext.refl _ | refine Ext.alloc ?_ _ | refine Ext.drewN ?_ _ | refine Ext.drew ?_ | refine Ext.trans ?_ (Hid.out (by assumption))))) c1, Ext.keep (W := w4) (by (repeat (first | exact Ext.refl _ | refine Ext.alloc ?_ _ | refine Ext.drewN ?_ _ | refine Ext.drew ?_ | refine Ext.trans ?_ (Hid.out (by assumption))))) e0⟩)
            clear hK K
            (try dsimp only) <;> (try simp only [Act.put, List.setIfInBounds_toArray, List.set_cons_zero, List.set_cons_succ])
            refine wpAnyH_done (by kernel_rfl) ?_ _
            go_wp2_with fail
            refine wp_loop_rounds 1 ?_
            rw [rounds_succ]
            go_wp2_with (first | (at_next; refine list_of rfl (fun K hK => op_nextNil _ rfl rfl (by (repeat (first | (refine heap_new ?_; (simp; done)) | refine heap_old (by first | (simp; done) | (simp; omega)) ?_))) ?_); refine hK _ _ ?_; clear hK K) | go_in)
            go_roundg (es.length - (k + 1))
            case measure => omega
            case rel => exact ⟨k + 1, sL2, sS4, gL2, gS4, by omega, by go_num, hsL, hid (HL4.out.ext (by (repeat (first | exact Ext.refl _ | refine Ext.alloc ?_ _ | refine Ext.drewN ?_ _ | refine Ext.drew ?_ | refine Ext.trans ?_ (Hid.out (by assumption)))))), hid (HS5.out.ext (by (repeat (first | exact Ext.refl _ | refine Ext.alloc ?_ _ | refine Ext.drewN ?_ _ | refine Ext.drew ?_ | refine Ext.trans ?_ (Hid.out (by assumption)))))), hid (by rw [htk]; exact HK.out.nil hc0.out hno), HC5, (by (repeat (first | exact Ext.refl _ | refine Ext.alloc ?_ _ | refine Ext.drewN ?_ _ | refine Ext.drew ?_ | refine Ext.trans ?_ (Hid.out (by assumption)))))⟩
          · rw [hv]
            refine step_of rfl (op_range _ rfl (Maps.int_keyed Try.underlying30) Try.underlying70 rfl (hM.ext (by (repeat (first | exact Ext.refl _ | refine Ext.alloc ?_ _ | refine Ext.drewN ?_ _ | refine Ext.drew ?_ | refine Ext.trans ?_ (Hid.out (by assumption)))))) ?_)
            intro w5 hR5 hx5 hz5
            have HR5 := hid hR5
            have hy5 := hid hx5
            clear hR5 hx5
            refine put_to (d := some 61) rfl ?_
            refine hK.out _ _ ?_ (fun hHeld => ?_)
            focus (exact ⟨Ext.keep (W := w) (by (repeat (first | exact Ext.refl _ | refine Ext.alloc ?_ _ | refine Ext.drewN ?_ _ | refine Ext.drew ?_ | refine Ext.trans ?_ (Hid.out (by assumption))))) c1, Ext.keep (W := w4) (by (repeat (first | exact Ext.refl _ | refine Ext.alloc ?_ _ | refine Ext.drewN ?_ _ | refine Ext.drew ?_ | refine Ext.trans ?_ (Hid.out (by assumption))))) e0⟩)
            clear hK K
            (try dsimp only) <;> (try simp only [Act.put, List.setIfInBounds_toArray, List.set_cons_zero, List.set_cons_succ])
            refine wpAnyH_done (by kernel_rfl) ?_ _
            go_wp2_with fail
            have hbn := hM.lt
            have hvR : ∀ x v, g (.int .u64 x) = some v → ∃ ts aa na ca, fd x = some ts ∧ v = .slice aa na ca ∧ Sl w 5 T.cs aa na ca (tq fd es[k].nm.toList x) := fun x v hx => by
              rcases hr x with ⟨_, e⟩ | ⟨hne, aa, na, ca, e, hO, _⟩
              · rw [e] at hx; cases hx
              · rw [e] at hx
                obtain ⟨ts, hfd⟩ := tq_some hne
                exact ⟨ts, aa, na, ca, hfd, (Option.some.inj hx).symm, hO.sl⟩
            have hqn : ∀ x, g (.int .u64 x) = none → tq fd es[k].nm.toList x = [] := fun x hx => by
              rcases hr x with ⟨e, _⟩ | ⟨_, aa, na, ca, e, _⟩
              · exact e
              · rw [e] at hx; cases hx
            have invR : ∀ key kl v, keyOf Try.prog 30 key = some kl → g kl = some v → ∃ c : SP, v = spV c := fun key kl v hk hv => by
              obtain ⟨y, rfl, rfl, _⟩ := Maps.keyOf_int_inv Try.underlying30 hk
              obtain ⟨ts, aa, na, ca, _, e, _⟩ := hvR y v hv
              exact ⟨(aa, na, ca), e⟩
            have h45 : w4.heap.size < w5.heap.size := by have := hz5; simp at this; omega
            have hx45 := hid (show Ext w4 w5 from (by (repeat (first | exact Ext.refl _ | refine Ext.alloc ?_ _ | refine Ext.drewN ?_ _ | refine Ext.drew ?_ | refine Ext.trans ?_ (Hid.out (by assumption))))))
            clear hr hHeld
            go_loopg [11] (s1) (fun gg _ wr => ∃ (left : Lit → Bool) (cnt sL : Nat) (gL : Lit → Option Value), gg = cnt ∧ sL ≤ s ∧ Hid (RangeF wr Try.prog 30 bn w4.heap.size m s1 g left cnt) ∧ Hid (MapF wr Try.prog 30 w.heap.size s sL gL) ∧ Hid (LackK fd (es.take k) es[k] left gL) ∧ Hid (MapF wr Try.prog 9 wA.heap.size (k + 1) sS4 gS4) ∧ Hid (∀ j v, (AT.cs es[k])[j]? = some v → wr.cell? ⟨wq.heap.size, j, none⟩ = some v) ∧ Hid (Ext w wr))
            case atStart => exact ⟨_, s1, sL2, gL2, rfl, hsL, HR5, hid (HL4.out.ext hx45.out), hid (LackK.start HK.out hc0.out hqn), hid (HS5.out.ext hx45.out), hid (fun j v hj => hx45.out.keep (HB4.out j v hj)), hid (Ext.trans HX4.out hx45.out)⟩
            case round =>
              obtain ⟨left, cnt, sL3, gL3, rfl, hsL3, HR3, HL3, HK3, HS3, HB3, HX3⟩ := hrel
              obtain ⟨wz, hwz⟩ : ∃ v, v = wr := ⟨_, rfl⟩
              subst hwz
              have hrl := HR3.out.lt
              have hbS := HS3.out.lt
              have hbL3 := HL3.out.lt
              have hbnz : bn < wz.heap.size := Nat.lt_of_lt_of_le hbn HX3.out.size
              go_wp2_with (first | (at_next; refine wpList_nextF rfl _ rfl (Maps.int_keyed Try.underlying30) (Value.int .u64) spV invK8 invR rfl HR3.out ?_ ?_) | go_in)
              · intro hc1 hl0
                go_wp2
                go_roundg (es.length - (k + 1))
                case measure => omega
                case rel => exact ⟨k + 1, sL3, sS4, gL3, gS4, by omega, by go_num, hsL3, HL3, HS3, hid (by rw [htk]; exact HK3.out.done hl0), HC5, HX3⟩
              · intro x va vn vc kl w1 cnt1 hkey hlk hv2 hR1 hlt hg1 hs1 hen
                obtain ⟨rfl, hU⟩ := key_inv hkey
                obtain ⟨ts, aa, na, ca, hfd, he, hrow⟩ := hvR x _ hv2
                obtain ⟨rfl, rfl, rfl⟩ : va = aa ∧ vn = na ∧ vc = ca := by unfold spV at he; simpa using he
                have hgx : gL3 (.int .u64 x) = some (.int .i64 (lackN ts (es.take k))) := by rw [HK3.out.at_ x, hfd]; simp [hlk]
                have hlq := lack_q hc0.out hfd
                have hlm := lack_le ts (es.take k)
                have hl1 := hts x ts hfd
                have HRow := hid hrow
                have HR1 := hid hR1
                have HL5 := hid (MapF.blk HL3.out (grown_blk hg1 hbL3 (by omega)))
                have HS6 := hid (MapF.blk HS3.out (grown_blk hg1 hbS (by omega)))
                have HX5 := hid (Ext.grown HX3.out hg1 (fun k e => by cases e; omega))
                have HB5 : ∀ j v, (AT.cs es[k])[j]? = some v → w1.cell? ⟨wq.heap.size, j, none⟩ = some v := fun j v hj => (World.cell?_of_block (a := ⟨wq.heap.size, j, .none⟩) (grown_blk hg1 (by show wq.heap.size < _; omega) (by show wq.heap.size ≠ _; omega))).trans (HB3.out j v hj)
                have f1 := HB5 1 _ rfl
                have f2 := HB5 2 _ rfl
                have f3 := HB5 3 _ rfl
                unfold spV at hen
                clear hrow hR1 he hv2
                go_wp2_with fail
                refine wp_region_held_drew (S := (fun w' => w'.cell? ⟨wq.heap.size, 1, none⟩ = some (.int .i64 es[k].k) ∧ w'.cell? ⟨wq.heap.size, 2, none⟩ = some (.int .i64 es[k].n) ∧ w'.cell? ⟨wq.heap.size, 3, none⟩ = some (.string es[k].s))) (by kernel_rfl) ?_ (fun hHeld => ?_)
                · ((try dsimp only); (exact ⟨Ext.keep (W := w1) (by (repeat (first | exact Ext.refl _ | refine Ext.alloc ?_ _ | refine Ext.drewN ?_ _ | refine Ext.drew ?_ | refine Ext.trans ?_ (Hid.out (by assumption))))) f1, Ext.keep (W := w1) (by (repeat (first | exact Ext.refl _ | refine Ext.alloc ?_ _ | refine Ext.drewN ?_ _ | refine Ext.drew ?_ | refine Ext.trans ?_ (Hid.out (by assumption))))) f2, Ext.keep (W := w1) (by (repeat (first | exact Ext.refl _ | refine Ext.alloc ?_ _ | refine Ext.drewN ?_ _ | refine Ext.drew ?_ | refine Ext.trans ?_ (Hid.out (by assumption))))) f3⟩))
                (refine hTake 0 (some 67) (v := ?_) (by kernel_rfl) (by kernel_rfl) (by kernel_rfl) (fun _ _ _ h => h) ⟨_, rfl, rfl, Or.inl ⟨by rfl, ?_⟩⟩ hHeld ?_; rotate_left; (focus (intro w hSw; (try dsimp only at hSw); go_simp; (first | done | with_reducible rfl))); (try simp only [Act.put, List.setIfInBounds_toArray, List.set_cons_zero, List.set_cons_succ]))
                (refine hTake 1 (some 68) (v := ?_) (by kernel_rfl) (by kernel_rfl) (by kernel_rfl) (fun _ _ _ h => h) ⟨_, rfl, rfl, Or.inl ⟨by rfl, ?_⟩⟩ hHeld ?_; rotate_left; (focus (intro w hSw; (try dsimp only at hSw); go_simp; (first | done | with_reducible rfl))); (try simp only [Act.put, List.setIfInBounds_toArray, List.set_cons_zero, List.set_cons_succ]))
                (refine hTake 3 (some 70) (v := ?_) (by kernel_rfl) (by kernel_rfl) (by kernel_rfl) (fun _ _ _ h => h) ⟨_, rfl, rfl, Or.inl ⟨by rfl, ?_⟩⟩ hHeld ?_; rotate_left; (focus (intro w hSw; (try dsimp only at hSw); go_simp; (first | done | with_reducible rfl))); (try simp only [Act.put, List.setIfInBounds_toArray, List.set_cons_zero, List.set_cons_succ]))
                (refine hTake 4 (some 71) (v := ?_) (by kernel_rfl) (by kernel_rfl) (by kernel_rfl) (fun _ _ _ h => h) ⟨_, rfl, rfl, Or.inl ⟨by rfl, ?_⟩⟩ hHeld ?_; rotate_left; (focus (intro w hSw; (try dsimp only at hSw); go_simp; (first | done | with_reducible rfl))); (try simp only [Act.put, List.setIfInBounds_toArray, List.set_cons_zero, List.set_cons_succ]))
                (refine hTake 5 (some 72) (v := ?_) (by kernel_rfl) (by kernel_rfl) (by kernel_rfl) (fun _ _ _ h => h) ⟨_, rfl, rfl, Or.inl ⟨by rfl, ?_⟩⟩ hHeld ?_; rotate_left; (focus (intro w hSw; (try dsimp only at hSw); go_simp; (first | done | with_reducible rfl))); (try simp only [Act.put, List.setIfInBounds_toArray, List.set_cons_zero, List.set_cons_succ]))
                obtain ⟨q, hq⟩ : ∃ q : Int, Hid (q = (lackN ts (es.take k ++ [es[k]]) : Int)) := ⟨_, hid rfl⟩
                have hsub : IntKind.i64.wrap ((lackN ts (es.take k) : Int) - (cntH (tq fd es[k].nm.toList x) es[k].v : Int)) = q := by have := hq.out; rw [IntWalk.i64_in _ (by omega)]; omega
                refine wpAnyH_ready (rs := [2, 6]) (by kernel_rfl) (by simp) ?_
                refine AllReadyH.cons rfl (fun K hK => ?_) (AllReadyH.cons rfl (fun K hK => ?_) AllReadyH.nil)
                next =>
                  refine step_of rfl (op_look _ _ rfl (Maps.int_keyed Try.underlying30) Try.underlying75 _ (zeroI _) rfl rfl (HL5.out.ext (by (repeat (first | exact Ext.refl _ | refine Ext.alloc ?_ _ | refine Ext.drewN ?_ _ | refine Ext.drew ?_ | refine Ext.trans ?_ (Hid.out (by assumption)))))) rfl (key8 hU) ?_)
                  rw [hgx, Option.getD_some]
                  refine put_to (d := some 69) rfl ?_
                  refine hK.out _ _ ?_ (fun hHeld => ?_)
                  focus (exact ⟨Ext.keep (W := w1) (by (repeat (first | exact Ext.refl _ | refine Ext.alloc ?_ _ | refine Ext.drewN ?_ _ | refine Ext.drew ?_ | refine Ext.trans ?_ (Hid.out (by assumption))))) f1, Ext.keep (W := w1) (by (repeat (first | exact Ext.refl _ | refine Ext.alloc ?_ _ | refine Ext.drewN ?_ _ | refine Ext.drew ?_ | refine Ext.trans ?_ (Hid.out (by assumption))))) f2, Ext.keep (W := w1) (by (repeat (first | exact Ext.refl _ | refine Ext.alloc ?_ _ | refine Ext.drewN ?_ _ | refine Ext.drew ?_ | refine Ext.trans ?_ (Hid.out (by assumption))))) f3⟩)
                  clear hK K
                  (try dsimp only) <;> (try simp only [Act.put, List.setIfInBounds_toArray, List.set_cons_zero, List.set_cons_succ])
                  refine wpAnyH_ready (rs := [6]) (by kernel_rfl) (by simp) ?_
                  refine AllReadyH.cons rfl (fun K hK => ?_) AllReadyH.nil
                  (go_simp; (go_at_call 31; refine (holding_any _ _ _ (tq fd es[k].nm.toList x) es[k] _ (HRow.out.ext (Ext.trans HX5.out (by (repeat (first | exact Ext.refl _ | refine Ext.alloc ?_ _ | refine Ext.drewN ?_ _ | refine Ext.drew ?_ | refine Ext.trans ?_ (Hid.out (by assumption)))))))).mono ?_; rintro e w7 ⟨rfl, hb⟩; have hy := hid hb; clear hb); (first | refine hK.out _ _ ?_ (fun hHeld => ?_) | (go_wp2_with fail; refine hK.out _ _ ?_ (fun hHeld => ?_))); (focus ((try dsimp only); (exact ⟨Ext.keep (W := w1) (by (repeat (first | exact Ext.refl _ | refine Ext.alloc ?_ _ | refine Ext.drewN ?_ _ | refine Ext.drew ?_ | refine Ext.trans ?_ (Hid.out (by assumption))))) f1, Ext.keep (W := w1) (by (repeat (first | exact Ext.refl _ | refine Ext.alloc ?_ _ | refine Ext.drewN ?_ _ | refine Ext.drew ?_ | refine Ext.trans ?_ (Hid.out (by assumption))))) f2, Ext.keep (W := w1) (by (repeat (first | exact Ext.refl _ | refine Ext.alloc ?_ _ | refine Ext.drewN ?_ _ | refine Ext.drew ?_ | refine Ext.trans ?_ (Hid.out (by assumption))))) f3⟩))); clear hK K; (try simp only [Act.put, List.setIfInBounds_toArray, List.set_cons_zero, List.set_cons_succ]))
                  (refine hTake 7 (some 74) (v := ?_) (by kernel_rfl) (by kernel_rfl) (by kernel_rfl) (fun _ _ _ h => h) ⟨_, rfl, rfl, Or.inl ⟨by rfl, ?_⟩⟩ hHeld ?_; rotate_left; (focus (intro w hSw; (try dsimp only at hSw); go_simp; (first | done | with_reducible rfl))); (try simp only [Act.put, List.setIfInBounds_toArray, List.set_cons_zero, List.set_cons_succ]))
                  refine wpAnyH_ready (rs := [8]) (by kernel_rfl) (by simp) ?_
                  refine AllReadyH.cons rfl (fun K hK => ?_) AllReadyH.nil
                  refine step_of rfl (op_store (val := .int .i64 q) _ _ _ rfl (Maps.int_keyed Try.underlying30) Try.underlying75 rfl (HL5.out.ext (by (repeat (first | exact Ext.refl _ | refine Ext.alloc ?_ _ | refine Ext.drewN ?_ _ | refine Ext.drew ?_ | refine Ext.trans ?_ (Hid.out (by assumption)))))) (by unfold maxLen; omega) rfl rfl (key8 hU) rfl ?_)
                  intro w8 hL8 ht8
                  rw [hgx] at hL8
                  have hx71 := hid (show Ext w1 w7 from (by (repeat (first | exact Ext.refl _ | refine Ext.alloc ?_ _ | refine Ext.drewN ?_ _ | refine Ext.drew ?_ | refine Ext.trans ?_ (Hid.out (by assumption))))))
                  have hs71 := hx71.out.size
                  have hy8 : ∀ {j : Nat}, j < w7.heap.size → j ≠ w.heap.size → w8.heap[j]? = w7.heap[j]? := fun h1 h2 => turned_blk ht8 h1 h2
                  have HL8 := hid hL8.tight
                  have HS8 := hid (MapF.blk (HS6.out.ext hx71.out) (hy8 (by omega) (by omega)))
                  have HX8 := hid (Ext.grown (Ext.trans HX5.out hx71.out) ht8.grown (fun k e => by cases e; omega))
                  have HR8 := hid (RangeF.blk (RangeF.blk HR1.out (hx71.out.block _ (by omega)) (hx71.out.block _ (by omega))) (hy8 (by omega) (by omega)) (hy8 (by omega) (by omega)))
                  have HB8 := hid (fun (j : Nat) (v : Value) (hj : (AT.cs es[k])[j]? = some v) => (World.cell?_of_block (a := ⟨wq.heap.size, j, .none⟩) (hy8 (show wq.heap.size < _ by omega) (show wq.heap.size ≠ _ by omega))).trans (hx71.out.keep (HB5 j v hj)))
                  have HK8 := hid (HK3.out.step hfd)
                  rw [← hq.out] at HK8
                  refine put_to (d := none) rfl ?_
                  refine hK.out _ _ ?_ (fun hHeld => ?_)
                  focus (exact ⟨HB8.out 1 _ rfl, HB8.out 2 _ rfl, HB8.out 3 _ rfl⟩)
                  clear hK K
                  (try dsimp only) <;> (try simp only [Act.put, List.setIfInBounds_toArray, List.set_cons_zero, List.set_cons_succ])
                  refine wpAnyH_done (by kernel_rfl) ?_ _
                  go_wp2_with fail
                  go_roundg cnt1
                  case measure => omega
                  case rel => exact ⟨_, cnt1, _, _, rfl, hsL3, HR8, hid (HL8.out.mono (by simp; omega)), HK8, HS8, HB8, HX8⟩
                next =>
                  (go_simp; (go_at_call 31; refine (holding_any _ _ _ (tq fd es[k].nm.toList x) es[k] _ (HRow.out.ext (Ext.trans HX5.out (by (repeat (first | exact Ext.refl _ | refine Ext.alloc ?_ _ | refine Ext.drewN ?_ _ | refine Ext.drew ?_ | refine Ext.trans ?_ (Hid.out (by assumption)))))))).mono ?_; rintro e w7 ⟨rfl, hb⟩; have hy := hid hb; clear hb); (first | refine hK.out _ _ ?_ (fun hHeld => ?_) | (go_wp2_with fail; refine hK.out _ _ ?_ (fun hHeld => ?_))); (focus ((try dsimp only); (exact ⟨Ext.keep (W := w1) (by (repeat (first | exact Ext.refl _ | refine Ext.alloc ?_ _ | refine Ext.drewN ?_ _ | refine Ext.drew ?_ | refine Ext.trans ?_ (Hid.out (by assumption))))) f1, Ext.keep (W := w1) (by (repeat (first | exact Ext.refl _ | refine Ext.alloc ?_ _ | refine Ext.drewN ?_ _ | refine Ext.drew ?_ | refine Ext.trans ?_ (Hid.out (by assumption))))) f2, Ext.keep (W := w1) (by (repeat (first | exact Ext.refl _ | refine Ext.alloc ?_ _ | refine Ext.drewN ?_ _ | refine Ext.drew ?_ | refine Ext.trans ?_ (Hid.out (by assumption))))) f3⟩))); clear hK K; (try simp only [Act.put, List.setIfInBounds_toArray, List.set_cons_zero, List.set_cons_succ]))
                  refine wpAnyH_ready (rs := [2]) (by kernel_rfl) (by simp) ?_
                  refine AllReadyH.cons rfl (fun K hK => ?_) AllReadyH.nil
                  refine step_of rfl (op_look _ _ rfl (Maps.int_keyed Try.underlying30) Try.underlying75 _ (zeroI _) rfl rfl (HL5.out.ext (by (repeat (first | exact Ext.refl _ | refine Ext.alloc ?_ _ | refine Ext.drewN ?_ _ | refine Ext.drew ?_ | refine Ext.trans ?_ (Hid.out (by assumption)))))) rfl (key8 hU) ?_)
                  rw [hgx, Option.getD_some]
                  refine put_to (d := some 69) rfl ?_
                  refine hK.out _ _ ?_ (fun hHeld => ?_)
                  focus (exact ⟨Ext.keep (W := w1) (by (repeat (first | exact Ext.refl _ | refine Ext.alloc ?_ _ | refine Ext.drewN ?_ _ | refine Ext.drew ?_ | refine Ext.trans ?_ (Hid.out (by assumption))))) f1, Ext.keep (W := w1) (by (repeat (first | exact Ext.refl _ | refine Ext.alloc ?_ _ | refine Ext.drewN ?_ _ | refine Ext.drew ?_ | refine Ext.trans ?_ (Hid.out (by assumption))))) f2, Ext.keep (W := w1) (by (repeat (first | exact Ext.refl _ | refine Ext.alloc ?_ _ | refine Ext.drewN ?_ _ | refine Ext.drew ?_ | refine Ext.trans ?_ (Hid.out (by assumption))))) f3⟩)
                  clear hK K
                  (try dsimp only) <;> (try simp only [Act.put, List.setIfInBounds_toArray, List.set_cons_zero, List.set_cons_succ])
                  (refine hTake 7 (some 74) (v := ?_) (by kernel_rfl) (by kernel_rfl) (by kernel_rfl) (fun _ _ _ h => h) ⟨_, rfl, rfl, Or.inl ⟨by rfl, ?_⟩⟩ hHeld ?_; rotate_left; (focus (intro w hSw; (try dsimp only at hSw); go_simp; (first | done | with_reducible rfl))); (try simp only [Act.put, List.setIfInBounds_toArray, List.set_cons_zero, List.set_cons_succ]))
                  refine wpAnyH_ready (rs := [8]) (by kernel_rfl) (by simp) ?_
                  refine AllReadyH.cons rfl (fun K hK => ?_) AllReadyH.nil
                  refine step_of rfl (op_store (val := .int .i64 q) _ _ _ rfl (Maps.int_keyed Try.underlying30) Try.underlying75 rfl (HL5.out.ext (by (repeat (first | exact Ext.refl _ | refine Ext.alloc ?_ _ | refine Ext.drewN ?_ _ | refine Ext.drew ?_ | refine Ext.trans ?_ (Hid.out (by assumption)))))) (by unfold maxLen; omega) rfl rfl (key8 hU) rfl ?_)
                  intro w8 hL8 ht8
                  rw [hgx] at hL8
                  have hx71 := hid (show Ext w1 w7 from (by (repeat (first | exact Ext.refl _ | refine Ext.alloc ?_ _ | refine Ext.drewN ?_ _ | refine Ext.drew ?_ | refine Ext.trans ?_ (Hid.out (by assumption))))))
                  have hs71 := hx71.out.size
                  have hy8 : ∀ {j : Nat}, j < w7.heap.size → j ≠ w.heap.size → w8.heap[j]? = w7.heap[j]? := fun h1 h2 => turned_blk ht8 h1 h2
                  have HL8 := hid hL8.tight
                  have HS8 := hid (MapF.blk (HS6.out.ext hx71.out) (hy8 (by omega) (by omega)))
                  have HX8 := hid (Ext.grown (Ext.trans HX5.out hx71.out) ht8.grown (fun k e => by cases e; omega))
                  have HR8 := hid (RangeF.blk (RangeF.blk HR1.out (hx71.out.block _ (by omega)) (hx71.out.block _ (by omega))) (hy8 (by omega) (by omega)) (hy8 (by omega) (by omega)))
                  have HB8 := hid (fun (j : Nat) (v : Value) (hj : (AT.cs es[k])[j]? = some v) => (World.cell?_of_block (a := ⟨wq.heap.size, j, .none⟩) (hy8 (show wq.heap.size < _ by omega) (show wq.heap.size ≠ _ by omega))).trans (hx71.out.keep (HB5 j v hj)))
                  have HK8 := hid (HK3.out.step hfd)
                  rw [← hq.out] at HK8
                  refine put_to (d := none) rfl ?_
                  refine hK.out _ _ ?_ (fun hHeld => ?_)
                  focus (exact ⟨HB8.out 1 _ rfl, HB8.out 2 _ rfl, HB8.out 3 _ rfl⟩)
                  clear hK K
                  (try dsimp only) <;> (try simp only [Act.put, List.setIfInBounds_toArray, List.set_cons_zero, List.set_cons_succ])
                  refine wpAnyH_done (by kernel_rfl) ?_ _
                  go_wp2_with fail
                  go_roundg cnt1
                  case measure => omega
                  case rel => exact ⟨_, cnt1, _, _, rfl, hsL3, HR8, hid (HL8.out.mono (by simp; omega)), HK8, HS8, HB8, HX8⟩
        · have hk' : es.take k = es := List.take_of_length_le (by omega)
          rw [hk'] at HK
          clear HC HS hmk hmm hlen c0 c0'
          go_wp2_with (first | (at_range; refine list_of rfl (fun K hK => op_range _ rfl (Maps.int_keyed Try.underlying30) Try.underlying75 rfl HL.out ?_); intro w5 hR5 hx5 hz5; refine hK _ _ ?_; clear hK K; have HR5 := hid hR5; have HX5 := hid (Ext.trans HX.out hx5); clear hR5 hx5) | go_in)
          go_frame
          have hqr : w.heap.size < wq.heap.size := HL.out.lt
          go_loopg [13] (sL2) (fun g _ wr => ∃ (left : Lit → Bool) (cnt sL : Nat) (gL : Lit → Option Value), g = cnt ∧ sL ≤ s ∧ Hid (RangeF wr Try.prog 30 w.heap.size wq.heap.size s sL gL left cnt) ∧ Hid (LeftK fd es left gL) ∧ Hid (Ext w wr))
          case atStart => exact ⟨_, sL2, sL2, gL2, rfl, hsL, HR5, hid (LeftK.start HK.out), HX5⟩
          case round =>
            obtain ⟨left, cnt, sL3, gL3, rfl, hsL3, HR3, HK3, HX3⟩ := hrel
            have invL : ∀ key kl v, keyOf Try.prog 30 key = some kl → gL3 kl = some v → ∃ c : Int, v = .int .i64 c := fun key kl v hk hv => by
              obtain ⟨y, rfl, rfl, _⟩ := Maps.keyOf_int_inv Try.underlying30 hk
              obtain ⟨ts, _, e⟩ := HK3.out.val hv
              exact ⟨_, e⟩
            go_wp2_with (first | (at_next; refine wpList_nextF rfl _ rfl (Maps.int_keyed Try.underlying30) (Value.int .u64) (Value.int .i64) invK8 invL rfl HR3.out ?_ ?_) | go_in)
            · intro hc0 hl0
              go_wp2_with (first | (go_at_call 33; refine (keys8_any _ _).mono ?_; rintro e w6 ⟨rfl, rfl⟩) | (go_at_call 32; refine (hN _ _ s sL3 gL3 _ (by simp) (MapF.ext HR3.out.map (by (repeat (first | exact Ext.refl _ | refine Ext.alloc ?_ _ | refine Ext.drewN ?_ _ | refine Ext.drew ?_ | refine Ext.trans ?_ (Hid.out (by assumption)))))) (by omega)).mono ?_; rintro e w7 ⟨aa, n7, cap7, zs, rfl, hown, h7, hb⟩; have HO7 := hid hown; have H7 := hid h7; have HB7 := hid hb; clear hown h7 hb) | go_in)
              go_ret
              have hx7 : Ext w w7 := Ext.trans (Ext.trans HX3.out ((Ext.refl _).alloc _)) HB7.out
              exact ⟨aa, n7, cap7, zs, rfl, HO7.out.mono (Ext.size (Ext.trans HX3.out ((Ext.refl _).alloc _))), ⟨H7.out.1, H7.out.2.1, fun x => (H7.out.2.2 x).trans (HK3.out.done hl0 x)⟩, hx7⟩
            · intro x cv kl w1 cnt1 hkey hlk hv hR1 hlt hg1 hs1 hen
              obtain ⟨rfl, hU⟩ := key_inv hkey
              obtain ⟨ts, hfd, hcv⟩ := HK3.out.val hv
              obtain rfl : cv = (lackN ts es : Int) := by cases hcv; rfl
              have hrl := HR3.out.lt
              by_cases h0 : lackN ts es = 0
              · have h0i : (0 : Int) < (lackN ts es : Int) ↔ False := by simp [h0]
                go_wp2
                go_roundg cnt1
                case measure => omega
                case rel => exact ⟨_, cnt1, sL3, gL3, rfl, hsL3, hid hR1, hid (HK3.out.keep hfd h0), hid (Ext.grown HX3.out hg1 (fun k e => by cases e; omega))⟩
              · have h0i : (0 : Int) < (lackN ts es : Int) := by omega
                go_wp2_with (first | (at_delete; refine list_of rfl (fun K hK => op_dropR _ _ rfl (Maps.int_keyed Try.underlying30) Try.underlying75 rfl hR1 rfl (key8 hU) ?_); intro w3 cnt3 hR4 hle4 ht4; refine hK _ _ ?_; clear hK K; rw [Maps.strike_twice] at hR4; have HR4 := hid hR4; have HT4 := hid ht4; clear hR4 ht4) | go_in)
                go_roundg cnt3
                case measure => omega
                case rel => exact ⟨_, cnt3, _, _, rfl, by split <;> omega, HR4, hid (HK3.out.drop hfd h0), hid (Ext.grown (Ext.grown HX3.out hg1 (fun k e => by cases e; omega)) HT4.out.grown (fun k e => by cases e; omega))⟩
    · intro x va vn vc kl w1 cnt1 hkey hlk hv hR1 hlt hg1 hs1 hen
      obtain ⟨rfl, hU⟩ := key_inv hkey
      obtain ⟨ts, hfd, hln⟩ := hvF x va vn vc hv
      have hrl := HR.out.lt
      have HL1 := hid (MapF.blk HL.out (grown_blk hg1 hbL (by omega)))
      unfold spV at hen
      go_wp2_with (first | (at_mapUpdate; refine list_of rfl (fun K hK => op_store _ _ _ rfl (Maps.int_keyed Try.underlying30) Try.underlying75 rfl HL1.out (by unfold maxLen; omega) rfl rfl (key8 hU) rfl ?_); intro w3 hM3 ht3; have HM3 := hid hM3.tight; have HT3 := hid ht3; clear hM3 ht3; refine hK _ _ ?_; clear hK K) | go_in)
      have hw31 := HT3.out.grown.size
      have HR3 := hid (RangeF.blk hR1 (turned_blk HT3.out (by omega) (by omega)) (turned_blk HT3.out (by omega) (by omega)))
      have HX3 := hid (Ext.grown (Ext.grown HX.out hg1 (fun k e => by cases e; omega)) HT3.out.grown (fun k e => by cases e; omega))
      have HK3 := hid (HK.out.step hfd)
      rw [hln] at HK3
      go_roundg cnt1
      case measure => omega
      case rel => exact ⟨_, cnt1, _, _, rfl, by split <;> omega, HR3, hid (HM3.out.mono (by split <;> omega)), HK3, HX3⟩
end Go.Proofs.Ytjggjkmafcokjaa
