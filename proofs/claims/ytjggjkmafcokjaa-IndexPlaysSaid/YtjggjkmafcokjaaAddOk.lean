/- A filter is added to an index: its walk. -/
import Derived.Test.YtjggjkmafcokjaaAdd8
import Derived.Test.YtjggjkmafcokjaaAddP
import Derived.Test.YtjggjkmafcokjaaHeld
import Derived.IntWalk
set_option linter.unusedVariables false
set_option linter.unusedSimpArgs false
namespace Go.Proofs.Ytjggjkmafcokjaa
open Go.RowKit

theorem cells_blk {w w' : World} {b o : Nat} {cs : List Value} (h : CellsAt w b o cs) (hb : w'.heap[b]? = w.heap[b]?) : CellsAt w' b o cs := fun j v hj => (World.cell?_of_block (a := ⟨b, o + j, .none⟩) hb).trans (h j v hj)
theorem IxB.cF {w : World} {base p m s bF bT sT : Nat} {fd : Int → Option (List T)} {tf : List UInt8 → Int → List T} {own : Nat → Option Lab} {fF fT : Lit → Option Value} (h : IxB w base p m fd tf s own bF bT sT fF fT) : w.cell? ⟨p, 0, none⟩ = some (.map (some bF)) := by
  unfold World.cell?; rw [h.hP]; rfl
theorem IxB.cT {w : World} {base p m s bF bT sT : Nat} {fd : Int → Option (List T)} {tf : List UInt8 → Int → List T} {own : Nat → Option Lab} {fF fT : Lit → Option Value} (h : IxB w base p m fd tf s own bF bT sT fF fT) : w.cell? ⟨p, 1, none⟩ = some (.map (some bT)) := by
  unfold World.cell?; rw [h.hP]; rfl
theorem chk_nm {ts : List T} (h : chkB ts = true) {k : Nat} (hk : k < ts.length) : ts[k].nm.size ≤ maxLen := by
  unfold chkB at h
  rw [Bool.and_eq_true, List.all_eq_true] at h
  have h1 := h.2 _ (List.getElem_mem hk)
  unfold oneB nameB at h1
  simp only [Bool.and_eq_true, decide_eq_true_eq] at h1
  have h2 := h1.1.1.1.2
  rw [len_toList] at h2
  unfold maxLen; omega
theorem grow_from {w wa w1 : World} {aa : Option Addr} {g : Nat} (h : Grow wa w1 aa g) (hx : Ext w wa) : Ext w wa ∧ Grow wa w1 aa g := ⟨hx, h⟩
/-- what Add makes of an index -/
def RetAdd (base p m : Nat) (fd : Int → Option (List T)) (s : Nat) (own : Nat → Option Lab) (id : Int) (ts : List T) (w : World) (e : Ending) (w' : World) : Prop :=
  ∃ own', e = .returned (.int .i64 0) ∧ Ix w' base p (m + 17) (fun k => if k = id then some ts else fd k) (s + 1) own' ∧ Chg own w w' ∧ Fresh own own' w
set_option maxRecDepth 100000 in
set_option maxHeartbeats 4000000 in
theorem add_ok {base p m s : Nat} {fd : Int → Option (List T)} {own : Nat → Option Lab} (id : Int) (a : Option Addr) (n c : Nat) (ts : List T) (w : World) (hU : U64 id) (hS : Sl w 5 T.cs a n c ts) (hA : ∀ ad, a = some ad → ts ≠ [] → own ad.block = none) (hc : chkB ts = true)
    (h : Ix w base p m fd s own) (hbase : base ≤ w.heap.size) (hd : fd id = none) (hs : s < 500) (hm : m ≤ 1000000) :
    Calls Try.prog 12 #[.pointer (some ⟨p, 0, none⟩), .int .u64 id, .slice a n c] w (RetAdd base p m fd s own id ts w) := by
  obtain ⟨bF, bT, sT, fF, fT, h⟩ := h
  have hq := chkF_any a n c ts w hS
  rw [hc] at hq
  have h8 := (chk_ok hc).1
  obtain rfl := hS.neq
  have hl := hS.len
  have hmx := hS.max
  unfold maxLen at hmx
  have H := hid h
  have HS := hid hS
  obtain ⟨i0, hi, hz0, hz1, hz2⟩ := info_parts infoT
  have I1 := hid hi
  have I2 := hid hz0
  have I3 := hid hz1
  have I4 := hid hz2
  have hmm := @run_makeMap Try.prog
  clear hi hz0 hz1 hz2
  have hnil : ∀ (w : World) (r : Option Nat), (binOp .eql 65 (.map r) (.map none)).run Try.prog w = .ok (.bool r.isNone) w := fun w r => run_eql_map_nil w _ _ _ r Try.underlying65
  have hnil2 : ∀ (w : World) (r : Option Nat), (binOp .eql 70 (.map r) (.map none)).run Try.prog w = .ok (.bool r.isNone) w := fun w r => run_eql_map_nil w _ _ _ r Try.underlying70
  clear h hS
  go_enter Try.func12, Try.ntmps12
  go_wp2_with fail
  refine hq.mono ?_
  rintro e w1 ⟨rfl, hb⟩
  have hx := hid hb
  have H1 := hid (H.out.ext hb)
  have hb1 : base ≤ w1.heap.size := Nat.le_trans hbase hb.size
  clear hb hq H
  rw [show errF true = 0 from rfl]
  have c0 := H1.out.cF
  have hlen := H1.out.mF.len Try.underlying65 (ty := 3)
  have hv : fF (.int .u64 id) = none := by
    have := H1.out.flt id
    rw [hd] at this
    exact this
  have h5 : ((500 : Int) ≤ (s : Int)) = False := by simp; omega
  have hn1 : (some bF).isNone = false := rfl
  go_wp2_with (first | (at_lookup; refine list_of rfl (fun K hK => op_lookOk _ _ rfl (Maps.int_keyed Try.underlying30) Try.underlying65 _ (zeroFi _) rfl rfl H1.out.mF rfl (key8 hU) ?_); rw [hv]; refine hK _ _ ?_; clear hK K) | go_in)
  refine wp_region_held_drew (S := (fun w' => w'.cell? ⟨p, 0, none⟩ = some (.map (some bF)))) (by kernel_rfl) ?_ (fun hHeld => ?_)
  · ((try dsimp only); ((try dsimp only); first | exact H1.out.cF | exact (H1.out.ext (by (repeat (first | exact Ext.refl _ | refine Ext.alloc ?_ _ | refine Ext.drewN ?_ _ | refine Ext.drew ?_ | refine Ext.trans ?_ (Hid.out (by assumption)))))).cF | exact (H1.out.ext (Ext.trans (by (repeat (first | exact Ext.refl _ | refine Ext.alloc ?_ _ | refine Ext.drewN ?_ _ | refine Ext.drew ?_ | refine Ext.trans ?_ (Hid.out (by assumption))))) (by (repeat (first | exact Ext.refl _ | refine Ext.alloc ?_ _ | refine Ext.drewN ?_ _ | refine Ext.drew ?_ | refine Ext.trans ?_ (Hid.out (by assumption))))))).cF | go_keep))
  (refine hTake 0 (some 48) (v := ?_) (by kernel_rfl) (by kernel_rfl) (by kernel_rfl) (fun _ _ _ h => h) ⟨_, rfl, rfl, Or.inl ⟨by rfl, ?_⟩⟩ hHeld ?_; rotate_left; (focus (intro w hSw; (try dsimp only at hSw); go_simp; (first | done | with_reducible rfl))); (try simp only [Act.put, List.setIfInBounds_toArray, List.set_cons_zero, List.set_cons_succ]))
  (refine hTake 1 (some 49) (v := ?_) (by kernel_rfl) (by kernel_rfl) (by kernel_rfl) (fun _ _ _ h => h) ⟨_, rfl, rfl, Or.inl ⟨by rfl, ?_⟩⟩ hHeld ?_; rotate_left; (focus (intro w hSw; (try dsimp only at hSw); go_simp; (first | done | with_reducible rfl))); (try simp only [Act.put, List.setIfInBounds_toArray, List.set_cons_zero, List.set_cons_succ]))
  (refine hTake 2 (some 50) (v := ?_) (by kernel_rfl) (by kernel_rfl) (by kernel_rfl) (fun _ _ _ h => h) ⟨_, rfl, rfl, Or.inl ⟨by rfl, ?_⟩⟩ hHeld ?_; rotate_left; (focus (intro w hSw; (try dsimp only at hSw); go_simp; (first | done | with_reducible rfl))); (try simp only [Act.put, List.setIfInBounds_toArray, List.set_cons_zero, List.set_cons_succ]))
  (refine hTake 3 (some 51) (v := ?_) (by kernel_rfl) (by kernel_rfl) (by kernel_rfl) (fun _ _ _ h => h) ⟨_, rfl, rfl, Or.inl ⟨by rfl, ?_⟩⟩ hHeld ?_; rotate_left; (focus (intro w hSw; (try dsimp only at hSw); go_simp; (first | done | with_reducible rfl))); (try simp only [Act.put, List.setIfInBounds_toArray, List.set_cons_zero, List.set_cons_succ]))
  (refine hTake 4 (some 52) (v := ?_) (by kernel_rfl) (by kernel_rfl) (by kernel_rfl) (fun _ _ _ h => h) ⟨_, rfl, rfl, Or.inl ⟨by rfl, ?_⟩⟩ hHeld ?_; rotate_left; (focus (intro w hSw; (try dsimp only at hSw); go_simp; (first | done | with_reducible rfl))); (try simp only [Act.put, List.setIfInBounds_toArray, List.set_cons_zero, List.set_cons_succ]))
  (refine hTake 5 (some 53) (v := ?_) (by kernel_rfl) (by kernel_rfl) (by kernel_rfl) (fun _ _ _ h => h) ⟨_, rfl, rfl, Or.inl ⟨by rfl, ?_⟩⟩ hHeld ?_; rotate_left; (focus (intro w hSw; (try dsimp only at hSw); go_simp; (first | done | with_reducible rfl))); (try simp only [Act.put, List.setIfInBounds_toArray, List.set_cons_zero, List.set_cons_succ]))
  refine wpAnyH_ready (rs := [6]) (by kernel_rfl) (by simp) ?_
  refine AllReadyH.cons rfl (fun K hK => ?_) AllReadyH.nil
  (go_simp; (go_at_call 28; refine (clone_any _ _ _ ts _ (HS.out.ext (by (repeat (first | exact Ext.refl _ | refine Ext.alloc ?_ _ | refine Ext.drewN ?_ _ | refine Ext.drew ?_ | refine Ext.trans ?_ (Hid.out (by assumption)))))) (by omega)).mono ?_; rintro e w2 ⟨a2, n2, c2, rfl, hown2, hb2⟩; have HO2 := hid hown2; have hy := hid hb2; clear hown2 hb2); (first | refine hK.out _ _ ?_ (fun hHeld => ?_) | (go_wp2_with fail; refine hK.out _ _ ?_ (fun hHeld => ?_))); (focus ((try dsimp only); ((try dsimp only); first | exact H1.out.cF | exact (H1.out.ext (by (repeat (first | exact Ext.refl _ | refine Ext.alloc ?_ _ | refine Ext.drewN ?_ _ | refine Ext.drew ?_ | refine Ext.trans ?_ (Hid.out (by assumption)))))).cF | exact (H1.out.ext (Ext.trans (by (repeat (first | exact Ext.refl _ | refine Ext.alloc ?_ _ | refine Ext.drewN ?_ _ | refine Ext.drew ?_ | refine Ext.trans ?_ (Hid.out (by assumption))))) (by (repeat (first | exact Ext.refl _ | refine Ext.alloc ?_ _ | refine Ext.drewN ?_ _ | refine Ext.drew ?_ | refine Ext.trans ?_ (Hid.out (by assumption))))))).cF | go_keep))); clear hK K; (try simp only [Act.put, List.setIfInBounds_toArray, List.set_cons_zero, List.set_cons_succ]))
  refine wpAnyH_ready (rs := [7]) (by kernel_rfl) (by simp) ?_
  refine AllReadyH.cons rfl (fun K hK => ?_) AllReadyH.nil
  obtain ⟨y2, hy2⟩ := HO2.out.encV
  refine step_of rfl (op_store _ _ _ rfl (Maps.int_keyed Try.underlying30) Try.underlying65 rfl (H1.out.mF.ext (by (repeat (first | exact Ext.refl _ | refine Ext.alloc ?_ _ | refine Ext.drewN ?_ _ | refine Ext.drew ?_ | refine Ext.trans ?_ (Hid.out (by assumption)))))) (by unfold maxLen; omega) rfl rfl (key8 hU) hy2 ?_)
  intro w3 hM3 ht3
  rw [hv] at hM3
  obtain ⟨own1, hI, hC, hF⟩ := H1.out.putFilter (ts := ts) (by (repeat (first | exact Ext.refl _ | refine Ext.alloc ?_ _ | refine Ext.drewN ?_ _ | refine Ext.drew ?_ | refine Ext.trans ?_ (Hid.out (by assumption))))) hb1 HO2.out ht3 hM3
  have HI := hid hI
  have HC := hid ((Chg.of hx.out).trans hC (fun _ _ k => k))
  have HF := hid (show Fresh own own1 w from ⟨hF.up, fun b l k => (hF.new b l k).imp (fun k => k) (Nat.le_trans hx.out.size)⟩)
  clear hM3 ht3 hI hC hF HO2 hy2 hy
  refine hK.out _ _ ?_ (fun hHeld => ?_)
  focus (exact HI.out.cF)
  clear hK K
  (try simp only [Act.put, List.setIfInBounds_toArray, List.set_cons_zero, List.set_cons_succ])
  refine wpAnyH_done (by kernel_rfl) ?_ _
  go_wp2_with fail
  obtain ⟨fF1, HI⟩ : ∃ fF1, Hid (IxB w3 base p (m + 1) (fun k => if k = id then some ts else fd k) (tfK fd id (ts.take 0)) (s + 1) own1 bF bT sT fF1 fT) := ⟨_, HI.out.congr (fun _ => rfl) (tfK_start hd)⟩
  clear hHeld H1 c0 hlen hv h5 hn1
  go_loopg [57] (ts.length) (fun g st wr => ∃ (k sT' : Nat) (ownk : Nat → Option Lab) (fTk : Lit → Option Value), g + k = ts.length ∧ st = .int .i64 k ∧ Hid (IxB wr base p (m + 1 + 2 * k) (fun k => if k = id then some ts else fd k) (tfK fd id (ts.take k)) (s + 1) ownk bF bT sT' fF1 fTk) ∧ Hid (Chg own w wr) ∧ Hid (Fresh own ownk w))
  case atStart => exact ⟨0, sT, own1, fT, by omega, rfl, HI, HC, HF⟩
  case round =>
    obtain ⟨k, sT', ownk, fTk, hg, rfl, HI, HC, HF⟩ := hrel
    by_cases hk : k < ts.length
    · obtain ⟨b, o, rfl, hcs⟩ := (HS.out.chg (by decide) hA HC.out).get k hk
      obtain ⟨c0, c1, c2, c3, c4⟩ := cellsT (w := wr) (b := b) (o := o + k * 5) (x := ts[k]) hcs
      clear hcs
      have c5 := HI.out.cT
      have b0 : (0 : Int) ≤ (k : Int) := by omega
      have b1 : (k : Int) < (ts.length : Int) := by omega
      have hbr : base ≤ wr.heap.size := Nat.le_trans hbase HC.out.size
      have h16 := chk_nm hc hk
      rcases HI.out.inn ts[k].nm.toList with ⟨hv, hno⟩ | ⟨bn, s1, g, hv, ho, hM, hr⟩
      · go_wp2_with fail
        have hB0 := news_alloc (W := wr) (cs := T.cs ts[k]) (t := 54) rfl 0 _ rfl
        refine wp_region_held_drew (S := (fun w' => w'.cell? ⟨p, 1, none⟩ = some (.map (some bT)) ∧ w'.cell? ⟨wr.heap.size, 0, none⟩ = some (.string ts[k].nm))) (by kernel_rfl) ?_ (fun hHeld => ?_)
        · ((try dsimp only); (exact ⟨Ext.keep (W := wr) (by (repeat (first | exact Ext.refl _ | refine Ext.alloc ?_ _ | refine Ext.drewN ?_ _ | refine Ext.drew ?_ | refine Ext.trans ?_ (Hid.out (by assumption))))) c5, Ext.keep (by (repeat (first | exact Ext.refl _ | refine Ext.alloc ?_ _ | refine Ext.drewN ?_ _ | refine Ext.drew ?_ | refine Ext.trans ?_ (Hid.out (by assumption))))) hB0⟩))
        (refine hTake 0 (some 61) (v := ?_) (by kernel_rfl) (by kernel_rfl) (by kernel_rfl) (fun _ _ _ h => h) ⟨_, rfl, rfl, Or.inl ⟨by rfl, ?_⟩⟩ hHeld ?_; rotate_left; (focus (intro w hSw; (try dsimp only at hSw); go_simp; (first | done | with_reducible rfl))); (try simp only [Act.put, List.setIfInBounds_toArray, List.set_cons_zero, List.set_cons_succ]))
        (refine hTake 1 (some 62) (v := ?_) (by kernel_rfl) (by kernel_rfl) (by kernel_rfl) (fun _ _ _ h => h) ⟨_, rfl, rfl, Or.inl ⟨by rfl, ?_⟩⟩ hHeld ?_; rotate_left; (focus (intro w hSw; (try dsimp only at hSw); go_simp; (first | done | with_reducible rfl))); (try simp only [Act.put, List.setIfInBounds_toArray, List.set_cons_zero, List.set_cons_succ]))
        (refine hTake 2 (some 63) (v := ?_) (by kernel_rfl) (by kernel_rfl) (by kernel_rfl) (fun _ _ _ h => h) ⟨_, rfl, rfl, Or.inl ⟨by rfl, ?_⟩⟩ hHeld ?_; rotate_left; (focus (intro w hSw; (try dsimp only at hSw); go_simp; (first | done | with_reducible rfl))); (try simp only [Act.put, List.setIfInBounds_toArray, List.set_cons_zero, List.set_cons_succ]))
        (refine hTake 3 (some 64) (v := ?_) (by kernel_rfl) (by kernel_rfl) (by kernel_rfl) (fun _ _ _ h => h) ⟨_, rfl, rfl, Or.inl ⟨by rfl, ?_⟩⟩ hHeld ?_; rotate_left; (focus (intro w hSw; (try dsimp only at hSw); go_simp; (first | done | with_reducible rfl))); (try simp only [Act.put, List.setIfInBounds_toArray, List.set_cons_zero, List.set_cons_succ]))
        (refine hTake 4 (some 65) (v := ?_) (by kernel_rfl) (by kernel_rfl) (by kernel_rfl) (fun _ _ _ h => h) ⟨_, rfl, rfl, Or.inl ⟨by rfl, ?_⟩⟩ hHeld ?_; rotate_left; (focus (intro w hSw; (try dsimp only at hSw); go_simp; (first | done | with_reducible rfl))); (try simp only [Act.put, List.setIfInBounds_toArray, List.set_cons_zero, List.set_cons_succ]))
        (refine hTake 5 (some 66) (v := ?_) (by kernel_rfl) (by kernel_rfl) (by kernel_rfl) (fun _ _ _ h => h) ⟨_, rfl, rfl, Or.inl ⟨by rfl, ?_⟩⟩ hHeld ?_; rotate_left; (focus (intro w hSw; (try dsimp only at hSw); go_simp; (first | done | with_reducible rfl))); (try simp only [Act.put, List.setIfInBounds_toArray, List.set_cons_zero, List.set_cons_succ]))
        refine wpAnyH_ready (rs := [6]) (by kernel_rfl) (by simp) ?_
        refine AllReadyH.cons rfl (fun K hK => ?_) AllReadyH.nil
        refine step_of rfl (op_look _ _ rfl (Maps.string_keyed Try.underlying9) Try.underlying66 _ (zeroM _) rfl rfl (HI.out.mT.ext (by (repeat (first | exact Ext.refl _ | refine Ext.alloc ?_ _ | refine Ext.drewN ?_ _ | refine Ext.drew ?_ | refine Ext.trans ?_ (Hid.out (by assumption)))))) rfl (keyS h16) ?_)
        rw [hv]
        refine hK.out _ _ ?_ (fun hHeld => ?_)
        focus (exact ⟨Ext.keep (W := wr) (by (repeat (first | exact Ext.refl _ | refine Ext.alloc ?_ _ | refine Ext.drewN ?_ _ | refine Ext.drew ?_ | refine Ext.trans ?_ (Hid.out (by assumption))))) c5, Ext.keep (by (repeat (first | exact Ext.refl _ | refine Ext.alloc ?_ _ | refine Ext.drewN ?_ _ | refine Ext.drew ?_ | refine Ext.trans ?_ (Hid.out (by assumption))))) hB0⟩)
        clear hK K
        (try simp only [Act.put, List.setIfInBounds_toArray, List.set_cons_zero, List.set_cons_succ])
        (refine hTake 7 (some 12) (v := ?_) (by kernel_rfl) (by kernel_rfl) (by kernel_rfl) (fun _ _ _ h => h) ⟨_, rfl, rfl, Or.inl ⟨by rfl, ?_⟩⟩ hHeld ?_; rotate_left; (focus (intro w hSw; (try dsimp only at hSw); go_simp; (first | done | with_reducible rfl))); (try simp only [Act.put, List.setIfInBounds_toArray, List.set_cons_zero, List.set_cons_succ]))
        refine wpAnyH_done (by kernel_rfl) ?_ _
        go_wp2_with fail
        refine wp_region_held_drew (S := (fun w' => w'.cell? ⟨p, 1, none⟩ = some (.map (some bT)) ∧ w'.cell? ⟨wr.heap.size, 0, none⟩ = some (.string ts[k].nm))) (by kernel_rfl) ?_ (fun hHeld => ?_)
        · ((try dsimp only); (exact ⟨Ext.keep (W := wr) (by (repeat (first | exact Ext.refl _ | refine Ext.alloc ?_ _ | refine Ext.drewN ?_ _ | refine Ext.drew ?_ | refine Ext.trans ?_ (Hid.out (by assumption))))) c5, Ext.keep (by (repeat (first | exact Ext.refl _ | refine Ext.alloc ?_ _ | refine Ext.drewN ?_ _ | refine Ext.drew ?_ | refine Ext.trans ?_ (Hid.out (by assumption))))) hB0⟩))
        (refine hTake 0 (some 71) (v := ?_) (by kernel_rfl) (by kernel_rfl) (by kernel_rfl) (fun _ _ _ h => h) ⟨_, rfl, rfl, Or.inl ⟨by rfl, ?_⟩⟩ hHeld ?_; rotate_left; (focus (intro w hSw; (try dsimp only at hSw); go_simp; (first | done | with_reducible rfl))); (try simp only [Act.put, List.setIfInBounds_toArray, List.set_cons_zero, List.set_cons_succ]))
        (refine hTake 1 (some 72) (v := ?_) (by kernel_rfl) (by kernel_rfl) (by kernel_rfl) (fun _ _ _ h => h) ⟨_, rfl, rfl, Or.inl ⟨by rfl, ?_⟩⟩ hHeld ?_; rotate_left; (focus (intro w hSw; (try dsimp only at hSw); go_simp; (first | done | with_reducible rfl))); (try simp only [Act.put, List.setIfInBounds_toArray, List.set_cons_zero, List.set_cons_succ]))
        (refine hTake 2 (some 73) (v := ?_) (by kernel_rfl) (by kernel_rfl) (by kernel_rfl) (fun _ _ _ h => h) ⟨_, rfl, rfl, Or.inl ⟨by rfl, ?_⟩⟩ hHeld ?_; rotate_left; (focus (intro w hSw; (try dsimp only at hSw); go_simp; (first | done | with_reducible rfl))); (try simp only [Act.put, List.setIfInBounds_toArray, List.set_cons_zero, List.set_cons_succ]))
        (refine hTake 3 (some 74) (v := ?_) (by kernel_rfl) (by kernel_rfl) (by kernel_rfl) (fun _ _ _ h => h) ⟨_, rfl, rfl, Or.inl ⟨by rfl, ?_⟩⟩ hHeld ?_; rotate_left; (focus (intro w hSw; (try dsimp only at hSw); go_simp; (first | done | with_reducible rfl))); (try simp only [Act.put, List.setIfInBounds_toArray, List.set_cons_zero, List.set_cons_succ]))
        (refine hTake 4 (some 75) (v := ?_) (by kernel_rfl) (by kernel_rfl) (by kernel_rfl) (fun _ _ _ h => h) ⟨_, rfl, rfl, Or.inl ⟨by rfl, ?_⟩⟩ hHeld ?_; rotate_left; (focus (intro w hSw; (try dsimp only at hSw); go_simp; (first | done | with_reducible rfl))); (try simp only [Act.put, List.setIfInBounds_toArray, List.set_cons_zero, List.set_cons_succ]))
        (refine hTake 5 (some 76) (v := ?_) (by kernel_rfl) (by kernel_rfl) (by kernel_rfl) (fun _ _ _ h => h) ⟨_, rfl, rfl, Or.inl ⟨by rfl, ?_⟩⟩ hHeld ?_; rotate_left; (focus (intro w hSw; (try dsimp only at hSw); go_simp; (first | done | with_reducible rfl))); (try simp only [Act.put, List.setIfInBounds_toArray, List.set_cons_zero, List.set_cons_succ]))
        (refine hTake 6 (some 77) (v := ?_) (by kernel_rfl) (by kernel_rfl) (by kernel_rfl) (fun _ _ _ h => h) ⟨_, rfl, rfl, Or.inl ⟨by rfl, ?_⟩⟩ hHeld ?_; rotate_left; (focus (intro w hSw; (try dsimp only at hSw); go_simp; (first | done | with_reducible rfl))); (try simp only [Act.put, List.setIfInBounds_toArray, List.set_cons_zero, List.set_cons_succ]))
        refine wpAnyH_ready (rs := [7]) (by kernel_rfl) (by simp) ?_
        refine AllReadyH.cons rfl (fun K hK => ?_) AllReadyH.nil
        refine step_of rfl (op_store _ _ _ rfl (Maps.string_keyed Try.underlying9) Try.underlying66 rfl (HI.out.mT.ext (by (repeat (first | exact Ext.refl _ | refine Ext.alloc ?_ _ | refine Ext.drewN ?_ _ | refine Ext.drew ?_ | refine Ext.trans ?_ (Hid.out (by assumption)))))) (by unfold maxLen; omega) rfl rfl (keyS h16) rfl ?_)
        intro w4 hM4 ht4
        rw [hv] at hM4
        have HB4 : CellsAt w4 wr.heap.size 0 (T.cs ts[k]) := cells_blk (fun j v hj => by rw [Nat.zero_add]; exact Ext.keep (by (repeat (first | exact Ext.refl _ | refine Ext.alloc ?_ _ | refine Ext.drewN ?_ _ | refine Ext.drew ?_ | refine Ext.trans ?_ (Hid.out (by assumption))))) (news_alloc (W := wr) (t := 54) rfl j v hj)) (turned_blk ht4 (by simp; omega) (by have := (HI.out.lab _ _ HI.out.oT).2; omega))
        obtain ⟨hI4, hC4, hF4, hMi4⟩ := HI.out.putInner (bn := wr.heap.size + 1) hno hbr (by omega) (by (repeat (first | exact Ext.refl _ | refine Ext.alloc ?_ _ | refine Ext.drewN ?_ _ | refine Ext.drew ?_ | refine Ext.trans ?_ (Hid.out (by assumption))))) (MapF.ext (MapF.made' (W := wr.alloc (.cells (T.cs ts[k]).toArray 54)) (by simp)) (by (repeat (first | exact Ext.refl _ | refine Ext.alloc ?_ _ | refine Ext.drewN ?_ _ | refine Ext.drew ?_ | refine Ext.trans ?_ (Hid.out (by assumption)))))) ht4 hM4
        have HI4 := hid hI4
        have HC4 := hid (HC.out.trans hC4 HF.out.none)
        have HF4 := hid (HF.out.trans hF4 HC.out.size)
        have hr4 : ∀ j, RowOk w4 (addL ownk (wr.heap.size + 1) (.inner ts[k].nm.toList)) base ts[k].nm.toList j (tfK fd id (ts.take k) ts[k].nm.toList j) ((fun _ => none) (Lit.int .u64 j)) := fun j => .inl ⟨hno j, rfl⟩
        clear hM4 ht4 hI4 hC4 hF4
        refine hK.out _ _ ?_ (fun hHeld => ?_)
        focus (exact ⟨HI4.out.cT, HB4 0 _ rfl⟩)
        clear hK K
        (try simp only [Act.put, List.setIfInBounds_toArray, List.set_cons_zero, List.set_cons_succ])
        refine wpAnyH_done (by kernel_rfl) ?_ _
        have d0 : w4.cell? ⟨wr.heap.size, 0, none⟩ = some (.string ts[k].nm) := HB4 0 _ rfl
        have d1 : w4.cell? ⟨wr.heap.size, 1, none⟩ = some (.int .i64 ts[k].op) := HB4 1 _ rfl
        have d2 : w4.cell? ⟨wr.heap.size, 2, none⟩ = some (.int .i64 ts[k].k) := HB4 2 _ rfl
        have d3 : w4.cell? ⟨wr.heap.size, 3, none⟩ = some (.int .i64 ts[k].n) := HB4 3 _ rfl
        have d4 : w4.cell? ⟨wr.heap.size, 4, none⟩ = some (.string ts[k].s) := HB4 4 _ rfl
        clear HB4 hB0
        have hbx : base ≤ w4.heap.size := Nat.le_trans hbase HC4.out.size
        obtain ⟨aa, na, ca, hra, hown, hro⟩ := (RowOk.slice (hr4 id))
        have HRO := hid hown
        have hnl : na ≤ 8 := by rw [hown.neq]; exact Nat.le_trans tfK_len (by rw [List.length_take]; omega)
        clear hown
        go_wp2_with (first | (at_lookup; refine list_of rfl (fun K hK => op_look _ _ rfl (Maps.int_keyed Try.underlying30) Try.underlying70 _ (zeroR _) rfl rfl (MapF.ext hMi4 (by (repeat (first | exact Ext.refl _ | refine Ext.alloc ?_ _ | refine Ext.drewN ?_ _ | refine Ext.drew ?_ | refine Ext.trans ?_ (Hid.out (by assumption)))))) rfl (key8 hU) ?_); rw [hra]; refine hK _ _ ?_; clear hK K) | (at_builtin; go_loud (refine app1 (c := T.cs) (ys := tfK fd id (ts.take k) ts[k].nm.toList id) rfl (.tmp 82) (.tmp 84) 31 rfl i0 _ 56 Try.underlying31 I1.out I2.out I3.out I4.out rfl (by decide) rfl (HRO.out.ext (by (repeat (first | exact Ext.refl _ | refine Ext.alloc ?_ _ | refine Ext.drewN ?_ _ | refine Ext.drew ?_ | refine Ext.trans ?_ (Hid.out (by assumption)))))) ts[k] _ rfl (news_alloc (cs := T.cs ts[k]) (by simp)) (T.one _) (by omega) (by decide) (Nat.le_trans hbx (Ext.size (W := w4) (by (repeat (first | exact Ext.refl _ | refine Ext.alloc ?_ _ | refine Ext.drewN ?_ _ | refine Ext.drew ?_ | refine Ext.trans ?_ (Hid.out (by assumption))))))) ?_; intro gb cap' w5 hown5 hgrow5; have HO5 := hid hown5; have HG5 := hid (grow_from (w := w4) hgrow5 (by (repeat (first | exact Ext.refl _ | refine Ext.alloc ?_ _ | refine Ext.drewN ?_ _ | refine Ext.drew ?_ | refine Ext.trans ?_ (Hid.out (by assumption)))))); have HM5 := hid (IxB.afterApp (HI4).out addL_same hMi4 hro (by (repeat (first | exact Ext.refl _ | refine Ext.alloc ?_ _ | refine Ext.drewN ?_ _ | refine Ext.drew ?_ | refine Ext.trans ?_ (Hid.out (by assumption))))) hgrow5); clear hown5 hgrow5)) | (at_mapUpdate; refine list_of rfl (fun K hK => op_store _ _ _ rfl (Maps.int_keyed Try.underlying30) Try.underlying70 rfl HM5.out (by unfold maxLen; omega) rfl rfl (key8 hU) rfl ?_); intro w6 hM6 ht6; have HM6 := hid hM6; have HT6 := hid ht6; clear hM6 ht6; refine hK _ _ ?_; clear hK K) | go_in)
        obtain ⟨hI6, hC6, hF6⟩ := IxB.putRow (tf' := tfK fd id (ts.take k ++ [ts[k]])) (HI4).out upd_same addL_same hr4 hbx hro HG5.out.1 HG5.out.2 HO5.out HT6.out HM6.out (by simp) tfK_step (fun _ h => tfK_num h) (fun _ h => tfK_name h)
        rw [← List.take_succ_eq_append_getElem hk] at hI6
        have HI6 := hid hI6
        have HC6 := hid ((HC4).out.trans hC6 (HF4).out.none)
        have HF6 := hid ((HF4).out.trans hF6 (HC4).out.size)
        clear hI6 hC6 hF6
        go_roundg (gk - 1)
        case measure => omega
        case rel => exact ⟨k + 1, _, _, _, by omega, by go_num, hid (HI6.out.mono (by omega)), HC6, HF6⟩
      · go_wp2_with fail
        have hB0 := news_alloc (W := wr) (cs := T.cs ts[k]) (t := 54) rfl 0 _ rfl
        refine wp_region_held_drew (S := (fun w' => w'.cell? ⟨p, 1, none⟩ = some (.map (some bT)) ∧ w'.cell? ⟨wr.heap.size, 0, none⟩ = some (.string ts[k].nm))) (by kernel_rfl) ?_ (fun hHeld => ?_)
        · ((try dsimp only); (exact ⟨Ext.keep (W := wr) (by (repeat (first | exact Ext.refl _ | refine Ext.alloc ?_ _ | refine Ext.drewN ?_ _ | refine Ext.drew ?_ | refine Ext.trans ?_ (Hid.out (by assumption))))) c5, Ext.keep (by (repeat (first | exact Ext.refl _ | refine Ext.alloc ?_ _ | refine Ext.drewN ?_ _ | refine Ext.drew ?_ | refine Ext.trans ?_ (Hid.out (by assumption))))) hB0⟩))
        (refine hTake 0 (some 61) (v := ?_) (by kernel_rfl) (by kernel_rfl) (by kernel_rfl) (fun _ _ _ h => h) ⟨_, rfl, rfl, Or.inl ⟨by rfl, ?_⟩⟩ hHeld ?_; rotate_left; (focus (intro w hSw; (try dsimp only at hSw); go_simp; (first | done | with_reducible rfl))); (try simp only [Act.put, List.setIfInBounds_toArray, List.set_cons_zero, List.set_cons_succ]))
        (refine hTake 1 (some 62) (v := ?_) (by kernel_rfl) (by kernel_rfl) (by kernel_rfl) (fun _ _ _ h => h) ⟨_, rfl, rfl, Or.inl ⟨by rfl, ?_⟩⟩ hHeld ?_; rotate_left; (focus (intro w hSw; (try dsimp only at hSw); go_simp; (first | done | with_reducible rfl))); (try simp only [Act.put, List.setIfInBounds_toArray, List.set_cons_zero, List.set_cons_succ]))
        (refine hTake 2 (some 63) (v := ?_) (by kernel_rfl) (by kernel_rfl) (by kernel_rfl) (fun _ _ _ h => h) ⟨_, rfl, rfl, Or.inl ⟨by rfl, ?_⟩⟩ hHeld ?_; rotate_left; (focus (intro w hSw; (try dsimp only at hSw); go_simp; (first | done | with_reducible rfl))); (try simp only [Act.put, List.setIfInBounds_toArray, List.set_cons_zero, List.set_cons_succ]))
        (refine hTake 3 (some 64) (v := ?_) (by kernel_rfl) (by kernel_rfl) (by kernel_rfl) (fun _ _ _ h => h) ⟨_, rfl, rfl, Or.inl ⟨by rfl, ?_⟩⟩ hHeld ?_; rotate_left; (focus (intro w hSw; (try dsimp only at hSw); go_simp; (first | done | with_reducible rfl))); (try simp only [Act.put, List.setIfInBounds_toArray, List.set_cons_zero, List.set_cons_succ]))
        (refine hTake 4 (some 65) (v := ?_) (by kernel_rfl) (by kernel_rfl) (by kernel_rfl) (fun _ _ _ h => h) ⟨_, rfl, rfl, Or.inl ⟨by rfl, ?_⟩⟩ hHeld ?_; rotate_left; (focus (intro w hSw; (try dsimp only at hSw); go_simp; (first | done | with_reducible rfl))); (try simp only [Act.put, List.setIfInBounds_toArray, List.set_cons_zero, List.set_cons_succ]))
        (refine hTake 5 (some 66) (v := ?_) (by kernel_rfl) (by kernel_rfl) (by kernel_rfl) (fun _ _ _ h => h) ⟨_, rfl, rfl, Or.inl ⟨by rfl, ?_⟩⟩ hHeld ?_; rotate_left; (focus (intro w hSw; (try dsimp only at hSw); go_simp; (first | done | with_reducible rfl))); (try simp only [Act.put, List.setIfInBounds_toArray, List.set_cons_zero, List.set_cons_succ]))
        refine wpAnyH_ready (rs := [6]) (by kernel_rfl) (by simp) ?_
        refine AllReadyH.cons rfl (fun K hK => ?_) AllReadyH.nil
        refine step_of rfl (op_look _ _ rfl (Maps.string_keyed Try.underlying9) Try.underlying66 _ (zeroM _) rfl rfl (HI.out.mT.ext (by (repeat (first | exact Ext.refl _ | refine Ext.alloc ?_ _ | refine Ext.drewN ?_ _ | refine Ext.drew ?_ | refine Ext.trans ?_ (Hid.out (by assumption)))))) rfl (keyS h16) ?_)
        rw [hv]
        refine hK.out _ _ ?_ (fun hHeld => ?_)
        focus (exact ⟨Ext.keep (W := wr) (by (repeat (first | exact Ext.refl _ | refine Ext.alloc ?_ _ | refine Ext.drewN ?_ _ | refine Ext.drew ?_ | refine Ext.trans ?_ (Hid.out (by assumption))))) c5, Ext.keep (by (repeat (first | exact Ext.refl _ | refine Ext.alloc ?_ _ | refine Ext.drewN ?_ _ | refine Ext.drew ?_ | refine Ext.trans ?_ (Hid.out (by assumption))))) hB0⟩)
        clear hK K
        (try simp only [Act.put, List.setIfInBounds_toArray, List.set_cons_zero, List.set_cons_succ])
        (refine hTake 7 (some 12) (v := ?_) (by kernel_rfl) (by kernel_rfl) (by kernel_rfl) (fun _ _ _ h => h) ⟨_, rfl, rfl, Or.inl ⟨by rfl, ?_⟩⟩ hHeld ?_; rotate_left; (focus (intro w hSw; (try dsimp only at hSw); go_simp; (first | done | with_reducible rfl))); (try simp only [Act.put, List.setIfInBounds_toArray, List.set_cons_zero, List.set_cons_succ]))
        refine wpAnyH_done (by kernel_rfl) ?_ _
        have hbx := hbr
        obtain ⟨aa, na, ca, hra, hown, hro⟩ := (RowOk.slice (hr id))
        have HRO := hid hown
        have hnl : na ≤ 8 := by rw [hown.neq]; exact Nat.le_trans tfK_len (by rw [List.length_take]; omega)
        clear hown
        go_wp2_with (first | (at_lookup; refine list_of rfl (fun K hK => op_look _ _ rfl (Maps.int_keyed Try.underlying30) Try.underlying70 _ (zeroR _) rfl rfl (MapF.ext hM (by (repeat (first | exact Ext.refl _ | refine Ext.alloc ?_ _ | refine Ext.drewN ?_ _ | refine Ext.drew ?_ | refine Ext.trans ?_ (Hid.out (by assumption)))))) rfl (key8 hU) ?_); rw [hra]; refine hK _ _ ?_; clear hK K) | (at_builtin; go_loud (refine app1 (c := T.cs) (ys := tfK fd id (ts.take k) ts[k].nm.toList id) rfl (.tmp 82) (.tmp 84) 31 rfl i0 _ 56 Try.underlying31 I1.out I2.out I3.out I4.out rfl (by decide) rfl (HRO.out.ext (by (repeat (first | exact Ext.refl _ | refine Ext.alloc ?_ _ | refine Ext.drewN ?_ _ | refine Ext.drew ?_ | refine Ext.trans ?_ (Hid.out (by assumption)))))) ts[k] _ rfl (news_alloc (cs := T.cs ts[k]) (by simp)) (T.one _) (by omega) (by decide) (Nat.le_trans hbx (Ext.size (W := wr) (by (repeat (first | exact Ext.refl _ | refine Ext.alloc ?_ _ | refine Ext.drewN ?_ _ | refine Ext.drew ?_ | refine Ext.trans ?_ (Hid.out (by assumption))))))) ?_; intro gb cap' w5 hown5 hgrow5; have HO5 := hid hown5; have HG5 := hid (grow_from (w := wr) hgrow5 (by (repeat (first | exact Ext.refl _ | refine Ext.alloc ?_ _ | refine Ext.drewN ?_ _ | refine Ext.drew ?_ | refine Ext.trans ?_ (Hid.out (by assumption)))))); have HM5 := hid (IxB.afterApp (HI).out ho hM hro (by (repeat (first | exact Ext.refl _ | refine Ext.alloc ?_ _ | refine Ext.drewN ?_ _ | refine Ext.drew ?_ | refine Ext.trans ?_ (Hid.out (by assumption))))) hgrow5); clear hown5 hgrow5)) | (at_mapUpdate; refine list_of rfl (fun K hK => op_store _ _ _ rfl (Maps.int_keyed Try.underlying30) Try.underlying70 rfl HM5.out (by unfold maxLen; omega) rfl rfl (key8 hU) rfl ?_); intro w6 hM6 ht6; have HM6 := hid hM6; have HT6 := hid ht6; clear hM6 ht6; refine hK _ _ ?_; clear hK K) | go_in)
        obtain ⟨hI6, hC6, hF6⟩ := IxB.putRow (tf' := tfK fd id (ts.take k ++ [ts[k]])) (HI).out hv ho hr hbx hro HG5.out.1 HG5.out.2 HO5.out HT6.out HM6.out (by simp) tfK_step (fun _ h => tfK_num h) (fun _ h => tfK_name h)
        rw [← List.take_succ_eq_append_getElem hk] at hI6
        have HI6 := hid hI6
        have HC6 := hid ((HC).out.trans hC6 (HF).out.none)
        have HF6 := hid ((HF).out.trans hF6 (HC).out.size)
        clear hI6 hC6 hF6
        go_roundg (gk - 1)
        case measure => omega
        case rel => exact ⟨k + 1, sT', _, fTk, by omega, by go_num, hid (HI6.out.mono (by omega)), HC6, HF6⟩
    · have hk' : k = ts.length := by omega
      subst hk'
      go_wp2
      go_ret
      have HI2 := HI.out
      rw [List.take_of_length_le (Nat.le_refl _)] at HI2
      exact ⟨ownk, rfl, ⟨bF, bT, sT', fF1, fTk, (HI2.congr (fun _ => rfl) tfK_end).mono (by omega)⟩, HC.out, HF.out⟩
end Go.Proofs.Ytjggjkmafcokjaa
