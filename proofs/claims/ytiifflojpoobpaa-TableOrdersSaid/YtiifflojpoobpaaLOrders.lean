/- Subscriptions rise, each of a client and a number once: the statement's walk. -/
import Derived.Test.YtiifflojpoobpaaAwake15
import Derived.Test.YtiifflojpoobpaaGrown2
import Derived.Test.YtiifflojpoobpaaSameS
import Derived.Test.YtiifflojpoobpaaCutSl
import Derived.Test.YtiifflojpoobpaaBox15
import Derived.Test.YtiifflojpoobpaaHeld
import Derived.Test.YtiifflojpoobpaaStepOne
import Derived.Deep.DeepCutAuto
import Derived.IntWalk
set_option linter.unusedVariables false
set_option linter.unusedSimpArgs false
namespace Go.Proofs.Ytiifflojpoobpaa
open Go.RowKit

theorem infoEn : (Try.prog.info? 31).map (fun i => (i.zero, i.size, i.bytes)) = some (some (.agg #[.int .i64 0, .int .i64 0, .int .u64 0, .int .u64 0, .int .i64 0, .int .u64 0, .slice none 0 0, .slice none 0 0]), 8, 96) := by kernel_rfl
theorem EP.one' (p : EP) : ∀ u ∈ p.cs, u.oneCell' = true := by
  intro u hu
  simp only [EP.cs, EV.cs, List.mem_cons, List.not_mem_nil, or_false] at hu
  rcases hu with rfl | rfl | rfl | rfl | rfl | rfl | rfl | rfl <;> rfl
theorem last_at (l : List EP) (p : EP) (h : l.length < (l ++ [p]).length) : (l ++ [p])[l.length] = p := by simp
theorem Ents.snoc {w : World} {a : Option Addr} {n c : Nat} {l : List EP} {x : EV} {d : ED} (h : Sl w 8 EP.cs a n c (l ++ [⟨x, d⟩])) (hl : ∀ p, p ∈ l → EntryIs w p.x p.d) (hx : EntryIs w x d) : Ents w a n c (l ++ [⟨x, d⟩]) :=
  ⟨h, fun p hp => by
    rcases List.mem_append.1 hp with hp | hp
    · exact hl p hp
    · rw [List.mem_singleton.1 hp]; exact hx⟩
/-- how many of the first k are an entry's -/
def cntK (ys : List SB) (d : ED) (k : Nat) : Nat := cntD ((ys.take k).map SB.d) d
theorem cntK_yes {ys : List SB} {d : ED} {k : Nat} (hk : k < ys.length) (h : isS d ys[k].d = true) : cntK ys d (k + 1) = cntK ys d k + 1 := by
  unfold cntK cntD
  rw [List.take_succ_eq_append_getElem hk, List.map_append, List.filter_append, List.length_append]
  simp [h]
theorem cntK_no {ys : List SB} {d : ED} {k : Nat} (hk : k < ys.length) (h : isS d ys[k].d = false) : cntK ys d (k + 1) = cntK ys d k := by
  unfold cntK cntD
  rw [List.take_succ_eq_append_getElem hk, List.map_append, List.filter_append, List.length_append]
  simp [h]
theorem cntK_le (ys : List SB) (d : ED) (k : Nat) : cntK ys d k ≤ k := by
  unfold cntK cntD
  refine Nat.le_trans (List.length_filter_le _ _) ?_
  rw [List.length_map]; exact List.length_take_le _ _
theorem rises_at {ys : List SB} (h : risesD (ys.map SB.d)) {k : Nat} (h0 : 0 < k) (hk : k < ys.length) : ys[k - 1].c < ys[k].c ∨ ys[k - 1].c = ys[k].c ∧ ys[k - 1].u < ys[k].u := by
  unfold risesD at h
  rw [List.pairwise_map] at h
  exact (List.pairwise_iff_getElem.1 h) (k - 1) k (by omega) hk (by omega)
set_option maxRecDepth 100000 in
set_option maxHeartbeats 8000000 in
theorem orders15_any (a : Option Addr) (n cap : Nat) (ps : List EP) (x : EV) (d : ED) (w : World) (hE : Ents w a n cap ps) (hI : EntryIs w x d) :
    Calls Try.prog 4 #[.slice a n cap, .agg #[.int .i64 x.k, .int .i64 x.id.b, .int .u64 x.id.l, .int .u64 x.id.s, .int .i64 x.c, .int .u64 x.u, .slice x.f.a x.f.n x.f.c, .slice x.e.a x.e.n x.e.c]] w fun e w' => e = .returned (.bool true) ∧ Ext w w' := by
  obtain ⟨i0, hi, hz0, hz1, hz2⟩ := info_parts infoEn
  have I1 := hid hi
  have I2 := hid hz0
  have I3 := hid hz1
  have I4 := hid hz2
  obtain rfl := hE.sl.neq
  have hm := hE.sl.max
  have hl := hE.sl.len
  unfold maxLen at hm
  have HE := hid hE
  have HI := hid hI
  clear hE hI hi hz0 hz1 hz2
  go_enter Try.func4, Try.ntmps4
  go_wp2_with fail
  refine (awake15_any _).mono ?_
  rintro e w1 ⟨rfl, hb⟩
  have HB1 := hid ((Box.new (w := w) (x := x) (t := 31)).ext hb)
  have hx1 := hid (show Ext w w1 from Ext.trans ((Ext.refl _).alloc _) hb)
  clear hb
  obtain ⟨c0, c1, c2, c3, c4, c5, c6, c7⟩ := HB1.out.cells
  go_wp2_with fail
  refine (few11g_any x d _ (HI.out.ext (by (repeat (first | exact Ext.refl _ | refine Ext.alloc ?_ _ | refine Ext.drewN ?_ _ | refine Ext.drew ?_ | refine Ext.trans ?_ (Hid.out (by assumption))))))).mono ?_
  rintro e w2 ⟨f, rfl, hf, hb⟩
  have HFW := hid hf
  have HB2 := hid (HB1.out.ext hb)
  have hx2 := hid (hx1.out.trans hb)
  clear hb hf HB1 hx1
  clear c0 c1 c2 c3 c4 c5 c6 c7
  cases f with
  | false => (go_wp2; go_ret; refine ⟨rfl, ?_⟩; (repeat (first | exact Ext.refl _ | refine Ext.alloc ?_ _ | refine Ext.drewN ?_ _ | refine Ext.drew ?_ | refine Ext.trans ?_ (Hid.out (by assumption)))))
  | true =>
    have HSM := hid (HFW.out rfl)
    clear HFW
    obtain ⟨c0, c1, c2, c3, c4, c5, c6, c7⟩ := HB2.out.cells
    go_wp2_with fail
    refine (chkg_any x d _ (HI.out.ext (by (repeat (first | exact Ext.refl _ | refine Ext.alloc ?_ _ | refine Ext.drewN ?_ _ | refine Ext.drew ?_ | refine Ext.trans ?_ (Hid.out (by assumption))))))).mono ?_
    rintro e w3 ⟨zz, rfl, hz, hz2, hb⟩
    have HZZ := hid hz
    have HB3 := hid (HB2.out.ext hb)
    have hx3 := hid (hx2.out.trans hb)
    clear hb hz HB2 hx2
    clear c0 c1 c2 c3 c4 c5 c6 c7
    rcases hz2 with rfl | rfl
    case inr => (go_wp2; go_ret; refine ⟨rfl, ?_⟩; (repeat (first | exact Ext.refl _ | refine Ext.alloc ?_ _ | refine Ext.drewN ?_ _ | refine Ext.drew ?_ | refine Ext.trans ?_ (Hid.out (by assumption)))))
    case inl =>
    have HOK := hid (HZZ.out rfl)
    clear HZZ
    have HPASS := hid (show Pass d from fun hk => ⟨(HOK.out.2 hk).1, HSM.out.2 (HOK.out.2 hk).1, (HOK.out.2 hk).2⟩)
    go_upto_region 6 with (fail)
    go_cut [6] (fun tv wx => ∃ (Wx : World) (aa : Option Addr) (m cp : Nat) (ys : List SB), Wx = wx ∧ tv = .slice aa m cp ∧ Hid (Subs wx aa m cp ys) ∧ Hid (GT d (ys.map SB.d)) ∧ Hid (Ext w3 wx))
    case first =>
      obtain ⟨c0, c1, c2, c3, c4, c5, c6, c7⟩ := HB3.out.cells
      by_cases hn : ps.length ≤ 29
      · have hni : ((29 : Int) < (ps.length : Int)) = False := by simp; omega
        have hcc : (ps.length : Int) ≤ (cap : Int) := by omega
        have HPS := hid (HE.out.sl.take ps.length (Nat.le_refl _))
        go_wp2_with fail
        refine wp_region_held_drew (S := (fun w' => w'.cell? ⟨w.heap.size, 0, none⟩ = some (.int .i64 x.k) ∧ w'.cell? ⟨w.heap.size, 1, none⟩ = some (.int .i64 x.id.b) ∧ w'.cell? ⟨w.heap.size, 2, none⟩ = some (.int .u64 x.id.l) ∧ w'.cell? ⟨w.heap.size, 3, none⟩ = some (.int .u64 x.id.s) ∧ w'.cell? ⟨w.heap.size, 4, none⟩ = some (.int .i64 x.c) ∧ w'.cell? ⟨w.heap.size, 5, none⟩ = some (.int .u64 x.u) ∧ w'.cell? ⟨w.heap.size, 6, none⟩ = some (.slice x.f.a x.f.n x.f.c) ∧ w'.cell? ⟨w.heap.size, 7, none⟩ = some (.slice x.e.a x.e.n x.e.c))) (by kernel_rfl) ?_ (fun hHeld => ?_)
        · ((try dsimp only); (first | (go_split_ands; refine ⟨?_, ?_, ?_, ?_, ?_, ?_, ?_, ?_⟩ <;> exact (Hid.out hy).keep (by assumption)) | go_keep))
        (refine hTake 1 (some 22) (v := ?_) (by kernel_rfl) (by kernel_rfl) (by kernel_rfl) (fun _ _ _ h => h) ⟨_, rfl, rfl, Or.inl ⟨by rfl, ?_⟩⟩ hHeld ?_; rotate_left; (focus (intro w hSw; (try dsimp only at hSw); go_simp; (first | done | with_reducible rfl))); (try simp only [Act.put, List.setIfInBounds_toArray, List.set_cons_zero, List.set_cons_succ]))
        (refine hTake 2 (some 23) (v := ?_) (by kernel_rfl) (by kernel_rfl) (by kernel_rfl) (fun _ _ _ h => h) ⟨_, rfl, rfl, Or.inl ⟨by rfl, ?_⟩⟩ hHeld ?_; rotate_left; (focus (intro w hSw; (try dsimp only at hSw); go_simp; (first | done | with_reducible rfl))); (try simp only [Act.put, List.setIfInBounds_toArray, List.set_cons_zero, List.set_cons_succ]))
        (refine hTake 3 (some 24) (v := ?_) (by kernel_rfl) (by kernel_rfl) (by kernel_rfl) (fun _ _ _ h => h) ⟨_, rfl, rfl, Or.inl ⟨by rfl, ?_⟩⟩ hHeld ?_; rotate_left; (focus (intro w hSw; (try dsimp only at hSw); go_simp; (first | done | with_reducible rfl))); (try simp only [Act.put, List.setIfInBounds_toArray, List.set_cons_zero, List.set_cons_succ]))
        (refine hTake 4 (some 25) (v := ?_) (by kernel_rfl) (by kernel_rfl) (by kernel_rfl) (fun _ _ _ h => h) ⟨_, rfl, rfl, Or.inl ⟨by rfl, ?_⟩⟩ hHeld ?_; rotate_left; (focus (intro w hSw; (try dsimp only at hSw); go_simp; (first | done | with_reducible rfl))); (try simp only [Act.put, List.setIfInBounds_toArray, List.set_cons_zero, List.set_cons_succ]))
        (refine hTake 5 (some 26) (v := ?_) (by kernel_rfl) (by kernel_rfl) (by kernel_rfl) (fun _ _ _ h => h) ⟨_, rfl, rfl, Or.inl ⟨by rfl, ?_⟩⟩ hHeld ?_; rotate_left; (focus (intro w hSw; (try dsimp only at hSw); go_simp; (first | done | with_reducible rfl))); (try simp only [Act.put, List.setIfInBounds_toArray, List.set_cons_zero, List.set_cons_succ]))
        (refine hTake 7 (some 28) (v := ?_) (by kernel_rfl) (by kernel_rfl) (by kernel_rfl) (fun _ _ _ h => h) ⟨_, rfl, rfl, Or.inl ⟨by rfl, ?_⟩⟩ hHeld ?_; rotate_left; (focus (intro w hSw; (try dsimp only at hSw); go_simp; (first | done | with_reducible rfl))); (try simp only [Act.put, List.setIfInBounds_toArray, List.set_cons_zero, List.set_cons_succ]))
        refine wpAnyH_ready (rs := [0, 8]) (by kernel_rfl) (by simp) ?_
        refine AllReadyH.cons rfl (fun K hK => ?_) (AllReadyH.cons rfl (fun K hK => ?_) AllReadyH.nil)
        · (go_simp; skip; (first | refine hK.out _ _ ?_ (fun hHeld => ?_) | (go_wp2_with fail; refine hK.out _ _ ?_ (fun hHeld => ?_))); (focus ((try dsimp only); (first | (go_split_ands; refine ⟨?_, ?_, ?_, ?_, ?_, ?_, ?_, ?_⟩ <;> exact (Hid.out hy).keep (by assumption)) | go_keep))); clear hK K; (try simp only [Act.put, List.setIfInBounds_toArray, List.set_cons_zero, List.set_cons_succ]))
          refine wpAnyH_ready (rs := [6, 8]) (by kernel_rfl) (by simp) ?_
          refine AllReadyH.cons rfl (fun K hK => ?_) (AllReadyH.cons rfl (fun K hK => ?_) AllReadyH.nil)
          · ((refine stepOn (c := EP.cs) (ys0 := []) (ys := ps.take ps.length) rfl (.tmp 21) (.tmp 26) 22 31 (by rfl) i0 _ 96 Try.underlying22 I1.out I2.out I3.out I4.out rfl (by decide) (by rfl) w3 (by (repeat (first | exact Ext.refl _ | refine Ext.alloc ?_ _ | refine Ext.drewN ?_ _ | refine Ext.drew ?_ | refine Ext.trans ?_ (Hid.out (by assumption))))) (Own.empty (by (repeat (first | (refine heap_new ?_; (simp; done)) | refine heap_old (by first | (simp; done) | (simp; omega)) ?_))) (by simp) EP.wid) (by rfl) (HPS.out.ext (by (repeat (first | exact Ext.refl _ | refine Ext.alloc ?_ _ | refine Ext.drewN ?_ _ | refine Ext.drew ?_ | refine Ext.trans ?_ (Hid.out (by assumption)))))) EP.one' (by omega) (by decide) ?_; intro b6 n6 cap6 w6 hn6 hown6 hx6 hg6; have HN6 := hid hn6; have HO6 := hid hown6; have hy := hid hx6; have HG6 := hid hg6; have HX6 := hy; clear hn6 hown6 hx6 hg6); refine hK.out _ _ ?_ (fun hHeld => ?_); (focus ((try dsimp only); (first | (go_split_ands; refine ⟨?_, ?_, ?_, ?_, ?_, ?_, ?_, ?_⟩ <;> exact (Hid.out hy).keep (by assumption)) | go_keep))); clear hK K; (try simp only [Act.put, List.setIfInBounds_toArray, List.set_cons_zero, List.set_cons_succ]))
            refine wpAnyH_ready (rs := [8]) (by kernel_rfl) (by simp) ?_
            refine AllReadyH.cons rfl (fun K hK => ?_) AllReadyH.nil
            (go_simp; skip; (first | refine hK.out _ _ ?_ (fun hHeld => ?_) | (go_wp2_with fail; refine hK.out _ _ ?_ (fun hHeld => ?_))); (focus ((try dsimp only); (first | (go_split_ands; refine ⟨?_, ?_, ?_, ?_, ?_, ?_, ?_, ?_⟩ <;> exact (Hid.out hy).keep (by assumption)) | go_keep))); clear hK K; (try simp only [Act.put, List.setIfInBounds_toArray, List.set_cons_zero, List.set_cons_succ]))
            refine wpAnyH_ready (rs := [9]) (by kernel_rfl) (by simp) ?_
            refine AllReadyH.cons rfl (fun K hK => ?_) AllReadyH.nil
            ((refine step1 (c := EP.cs) (ys := [] ++ ps.take ps.length) rfl (.tmp 27) (.tmp 29) 22 (by rfl) i0 _ 96 Try.underlying22 I1.out I2.out I3.out I4.out rfl (by decide) (by rfl) (HO6.out.ext (by (repeat (first | exact Ext.refl _ | refine Ext.alloc ?_ _ | refine Ext.drewN ?_ _ | refine Ext.drew ?_ | refine Ext.trans ?_ (Hid.out (by assumption)))))) ⟨x, d⟩ _ (by rfl) (news_alloc (cs := EP.cs ⟨x, d⟩) rfl) (EP.one' _) (by have := HN6.out; omega) (by decide) (Ext.size (by (repeat (first | exact Ext.refl _ | refine Ext.alloc ?_ _ | refine Ext.drewN ?_ _ | refine Ext.drew ?_ | refine Ext.trans ?_ (Hid.out (by assumption)))))) ?_; intro g9 cap9 w9 hown9 hgrow9; have HO9 := hid hown9; have hy := hid (hgrow9.ext (HO6.out.ext (by (repeat (first | exact Ext.refl _ | refine Ext.alloc ?_ _ | refine Ext.drewN ?_ _ | refine Ext.drew ?_ | refine Ext.trans ?_ (Hid.out (by assumption)))))) (Nat.le_refl _) (show Ext w3 _ from (by (repeat (first | exact Ext.refl _ | refine Ext.alloc ?_ _ | refine Ext.drewN ?_ _ | refine Ext.drew ?_ | refine Ext.trans ?_ (Hid.out (by assumption))))))); have HX9 := hy; clear hown9 hgrow9); refine hK.out _ _ ?_ (fun hHeld => ?_); (focus ((try dsimp only); (first | (go_split_ands; refine ⟨?_, ?_, ?_, ?_, ?_, ?_, ?_, ?_⟩ <;> exact (Hid.out hy).keep (by assumption)) | go_keep))); clear hK K; (try simp only [Act.put, List.setIfInBounds_toArray, List.set_cons_zero, List.set_cons_succ]))
            refine wpAnyH_ready (rs := [10]) (by kernel_rfl) (by simp) ?_
            refine AllReadyH.cons rfl (fun K hK => ?_) AllReadyH.nil
            (go_simp; (go_at_call 10; refine (grownT_any _ _ _ _ _ d _ (Ents.snoc HO9.out.sl (fun p hp => (HE.out.is p (List.mem_of_mem_take hp)).ext (by (repeat (first | exact Ext.refl _ | refine Ext.alloc ?_ _ | refine Ext.drewN ?_ _ | refine Ext.drew ?_ | refine Ext.trans ?_ (Hid.out (by assumption)))))) (HI.out.ext (by (repeat (first | exact Ext.refl _ | refine Ext.alloc ?_ _ | refine Ext.drewN ?_ _ | refine Ext.drew ?_ | refine Ext.trans ?_ (Hid.out (by assumption))))))) List.length_append (by simp only [List.nil_append, List.length_take]; omega) (fun h => congrArg EP.d (last_at _ _ h)) HPASS.out).mono ?_; rintro e w10 ⟨aa, m, cp, ys, rfl, hS, hG, hb⟩; have HS := hid hS; have HGT := hid hG; have hy := hid hb; have HX10 := hid (HX9.out.trans hb); clear hS hG hb); (first | refine hK.out _ _ ?_ (fun hHeld => ?_) | (go_wp2_with fail; refine hK.out _ _ ?_ (fun hHeld => ?_))); (focus ((try dsimp only); (first | (go_split_ands; refine ⟨?_, ?_, ?_, ?_, ?_, ?_, ?_, ?_⟩ <;> exact (Hid.out hy).keep (by assumption)) | go_keep))); clear hK K; (try simp only [Act.put, List.setIfInBounds_toArray, List.set_cons_zero, List.set_cons_succ]))
            (refine hTake 11 (some 6) (v := ?_) (by kernel_rfl) (by kernel_rfl) (by kernel_rfl) (fun _ _ _ h => h) ⟨_, rfl, rfl, Or.inl ⟨by rfl, ?_⟩⟩ hHeld ?_; rotate_left; (focus (intro w hSw; (try dsimp only at hSw); go_simp; (first | done | with_reducible rfl))); (try simp only [Act.put, List.setIfInBounds_toArray, List.set_cons_zero, List.set_cons_succ]))
            refine wpAnyH_done (by kernel_rfl) ?_ _
            go_wp2_with fail
            go_meet
            exact ⟨_, aa, m, cp, ys, rfl, rfl, HS.out, HGT.out, HX10.out⟩
          · (go_simp; skip; (first | refine hK.out _ _ ?_ (fun hHeld => ?_) | (go_wp2_with fail; refine hK.out _ _ ?_ (fun hHeld => ?_))); (focus ((try dsimp only); (first | (go_split_ands; refine ⟨?_, ?_, ?_, ?_, ?_, ?_, ?_, ?_⟩ <;> exact (Hid.out hy).keep (by assumption)) | go_keep))); clear hK K; (try simp only [Act.put, List.setIfInBounds_toArray, List.set_cons_zero, List.set_cons_succ]))
            refine wpAnyH_ready (rs := [6]) (by kernel_rfl) (by simp) ?_
            refine AllReadyH.cons rfl (fun K hK => ?_) AllReadyH.nil
            ((refine stepOn (c := EP.cs) (ys0 := []) (ys := ps.take ps.length) rfl (.tmp 21) (.tmp 26) 22 31 (by rfl) i0 _ 96 Try.underlying22 I1.out I2.out I3.out I4.out rfl (by decide) (by rfl) w3 (by (repeat (first | exact Ext.refl _ | refine Ext.alloc ?_ _ | refine Ext.drewN ?_ _ | refine Ext.drew ?_ | refine Ext.trans ?_ (Hid.out (by assumption))))) (Own.empty (by (repeat (first | (refine heap_new ?_; (simp; done)) | refine heap_old (by first | (simp; done) | (simp; omega)) ?_))) (by simp) EP.wid) (by rfl) (HPS.out.ext (by (repeat (first | exact Ext.refl _ | refine Ext.alloc ?_ _ | refine Ext.drewN ?_ _ | refine Ext.drew ?_ | refine Ext.trans ?_ (Hid.out (by assumption)))))) EP.one' (by omega) (by decide) ?_; intro b6 n6 cap6 w6 hn6 hown6 hx6 hg6; have HN6 := hid hn6; have HO6 := hid hown6; have hy := hid hx6; have HG6 := hid hg6; have HX6 := hy; clear hn6 hown6 hx6 hg6); refine hK.out _ _ ?_ (fun hHeld => ?_); (focus ((try dsimp only); (first | (go_split_ands; refine ⟨?_, ?_, ?_, ?_, ?_, ?_, ?_, ?_⟩ <;> exact (Hid.out hy).keep (by assumption)) | go_keep))); clear hK K; (try simp only [Act.put, List.setIfInBounds_toArray, List.set_cons_zero, List.set_cons_succ]))
            refine wpAnyH_ready (rs := [9]) (by kernel_rfl) (by simp) ?_
            refine AllReadyH.cons rfl (fun K hK => ?_) AllReadyH.nil
            ((refine step1 (c := EP.cs) (ys := [] ++ ps.take ps.length) rfl (.tmp 27) (.tmp 29) 22 (by rfl) i0 _ 96 Try.underlying22 I1.out I2.out I3.out I4.out rfl (by decide) (by rfl) (HO6.out.ext (by (repeat (first | exact Ext.refl _ | refine Ext.alloc ?_ _ | refine Ext.drewN ?_ _ | refine Ext.drew ?_ | refine Ext.trans ?_ (Hid.out (by assumption)))))) ⟨x, d⟩ (w3.heap.size + 1) (by rfl) (fun j u hj => (HG6.out.cell_far _ (by simp; try omega) (by simp [Value.ownBlock])).trans ((news_alloc (cs := EP.cs ⟨x, d⟩) (by simp)) j u hj)) (EP.one' _) (by have := HN6.out; omega) (by decide) (Ext.size (by (repeat (first | exact Ext.refl _ | refine Ext.alloc ?_ _ | refine Ext.drewN ?_ _ | refine Ext.drew ?_ | refine Ext.trans ?_ (Hid.out (by assumption)))))) ?_; intro g9 cap9 w9 hown9 hgrow9; have HO9 := hid hown9; have hy := hid (hgrow9.ext (HO6.out.ext (by (repeat (first | exact Ext.refl _ | refine Ext.alloc ?_ _ | refine Ext.drewN ?_ _ | refine Ext.drew ?_ | refine Ext.trans ?_ (Hid.out (by assumption)))))) (Nat.le_refl _) (show Ext w3 _ from (by (repeat (first | exact Ext.refl _ | refine Ext.alloc ?_ _ | refine Ext.drewN ?_ _ | refine Ext.drew ?_ | refine Ext.trans ?_ (Hid.out (by assumption))))))); have HX9 := hy; clear hown9 hgrow9); refine hK.out _ _ ?_ (fun hHeld => ?_); (focus ((try dsimp only); (first | (go_split_ands; refine ⟨?_, ?_, ?_, ?_, ?_, ?_, ?_, ?_⟩ <;> exact (Hid.out hy).keep (by assumption)) | go_keep))); clear hK K; (try simp only [Act.put, List.setIfInBounds_toArray, List.set_cons_zero, List.set_cons_succ]))
            refine wpAnyH_ready (rs := [10]) (by kernel_rfl) (by simp) ?_
            refine AllReadyH.cons rfl (fun K hK => ?_) AllReadyH.nil
            (go_simp; (go_at_call 10; refine (grownT_any _ _ _ _ _ d _ (Ents.snoc HO9.out.sl (fun p hp => (HE.out.is p (List.mem_of_mem_take hp)).ext (by (repeat (first | exact Ext.refl _ | refine Ext.alloc ?_ _ | refine Ext.drewN ?_ _ | refine Ext.drew ?_ | refine Ext.trans ?_ (Hid.out (by assumption)))))) (HI.out.ext (by (repeat (first | exact Ext.refl _ | refine Ext.alloc ?_ _ | refine Ext.drewN ?_ _ | refine Ext.drew ?_ | refine Ext.trans ?_ (Hid.out (by assumption))))))) List.length_append (by simp only [List.nil_append, List.length_take]; omega) (fun h => congrArg EP.d (last_at _ _ h)) HPASS.out).mono ?_; rintro e w10 ⟨aa, m, cp, ys, rfl, hS, hG, hb⟩; have HS := hid hS; have HGT := hid hG; have hy := hid hb; have HX10 := hid (HX9.out.trans hb); clear hS hG hb); (first | refine hK.out _ _ ?_ (fun hHeld => ?_) | (go_wp2_with fail; refine hK.out _ _ ?_ (fun hHeld => ?_))); (focus ((try dsimp only); (first | (go_split_ands; refine ⟨?_, ?_, ?_, ?_, ?_, ?_, ?_, ?_⟩ <;> exact (Hid.out hy).keep (by assumption)) | go_keep))); clear hK K; (try simp only [Act.put, List.setIfInBounds_toArray, List.set_cons_zero, List.set_cons_succ]))
            (refine hTake 11 (some 6) (v := ?_) (by kernel_rfl) (by kernel_rfl) (by kernel_rfl) (fun _ _ _ h => h) ⟨_, rfl, rfl, Or.inl ⟨by rfl, ?_⟩⟩ hHeld ?_; rotate_left; (focus (intro w hSw; (try dsimp only at hSw); go_simp; (first | done | with_reducible rfl))); (try simp only [Act.put, List.setIfInBounds_toArray, List.set_cons_zero, List.set_cons_succ]))
            refine wpAnyH_done (by kernel_rfl) ?_ _
            go_wp2_with fail
            go_meet
            exact ⟨_, aa, m, cp, ys, rfl, rfl, HS.out, HGT.out, HX10.out⟩
        · (go_simp; skip; (first | refine hK.out _ _ ?_ (fun hHeld => ?_) | (go_wp2_with fail; refine hK.out _ _ ?_ (fun hHeld => ?_))); (focus ((try dsimp only); (first | (go_split_ands; refine ⟨?_, ?_, ?_, ?_, ?_, ?_, ?_, ?_⟩ <;> exact (Hid.out hy).keep (by assumption)) | go_keep))); clear hK K; (try simp only [Act.put, List.setIfInBounds_toArray, List.set_cons_zero, List.set_cons_succ]))
          refine wpAnyH_ready (rs := [0]) (by kernel_rfl) (by simp) ?_
          refine AllReadyH.cons rfl (fun K hK => ?_) AllReadyH.nil
          (go_simp; skip; (first | refine hK.out _ _ ?_ (fun hHeld => ?_) | (go_wp2_with fail; refine hK.out _ _ ?_ (fun hHeld => ?_))); (focus ((try dsimp only); (first | (go_split_ands; refine ⟨?_, ?_, ?_, ?_, ?_, ?_, ?_, ?_⟩ <;> exact (Hid.out hy).keep (by assumption)) | go_keep))); clear hK K; (try simp only [Act.put, List.setIfInBounds_toArray, List.set_cons_zero, List.set_cons_succ]))
          refine wpAnyH_ready (rs := [6]) (by kernel_rfl) (by simp) ?_
          refine AllReadyH.cons rfl (fun K hK => ?_) AllReadyH.nil
          ((refine stepOn (c := EP.cs) (ys0 := []) (ys := ps.take ps.length) rfl (.tmp 21) (.tmp 26) 22 31 (by rfl) i0 _ 96 Try.underlying22 I1.out I2.out I3.out I4.out rfl (by decide) (by rfl) w3 (by (repeat (first | exact Ext.refl _ | refine Ext.alloc ?_ _ | refine Ext.drewN ?_ _ | refine Ext.drew ?_ | refine Ext.trans ?_ (Hid.out (by assumption))))) (Own.empty (by (repeat (first | (refine heap_new ?_; (simp; done)) | refine heap_old (by first | (simp; done) | (simp; omega)) ?_))) (by simp) EP.wid) (by rfl) (HPS.out.ext (by (repeat (first | exact Ext.refl _ | refine Ext.alloc ?_ _ | refine Ext.drewN ?_ _ | refine Ext.drew ?_ | refine Ext.trans ?_ (Hid.out (by assumption)))))) EP.one' (by omega) (by decide) ?_; intro b6 n6 cap6 w6 hn6 hown6 hx6 hg6; have HN6 := hid hn6; have HO6 := hid hown6; have hy := hid hx6; have HG6 := hid hg6; have HX6 := hy; clear hn6 hown6 hx6 hg6); refine hK.out _ _ ?_ (fun hHeld => ?_); (focus ((try dsimp only); (first | (go_split_ands; refine ⟨?_, ?_, ?_, ?_, ?_, ?_, ?_, ?_⟩ <;> exact (Hid.out hy).keep (by assumption)) | go_keep))); clear hK K; (try simp only [Act.put, List.setIfInBounds_toArray, List.set_cons_zero, List.set_cons_succ]))
          refine wpAnyH_ready (rs := [9]) (by kernel_rfl) (by simp) ?_
          refine AllReadyH.cons rfl (fun K hK => ?_) AllReadyH.nil
          ((refine step1 (c := EP.cs) (ys := [] ++ ps.take ps.length) rfl (.tmp 27) (.tmp 29) 22 (by rfl) i0 _ 96 Try.underlying22 I1.out I2.out I3.out I4.out rfl (by decide) (by rfl) (HO6.out.ext (by (repeat (first | exact Ext.refl _ | refine Ext.alloc ?_ _ | refine Ext.drewN ?_ _ | refine Ext.drew ?_ | refine Ext.trans ?_ (Hid.out (by assumption)))))) ⟨x, d⟩ w3.heap.size (by rfl) (fun j u hj => (HG6.out.cell_far _ (by simp; try omega) (by simp [Value.ownBlock])).trans ((fun j u hj => ((Ext.refl _).alloc _).keep (news_alloc (cs := EP.cs ⟨x, d⟩) (by simp) j u hj)) j u hj)) (EP.one' _) (by have := HN6.out; omega) (by decide) (Ext.size (by (repeat (first | exact Ext.refl _ | refine Ext.alloc ?_ _ | refine Ext.drewN ?_ _ | refine Ext.drew ?_ | refine Ext.trans ?_ (Hid.out (by assumption)))))) ?_; intro g9 cap9 w9 hown9 hgrow9; have HO9 := hid hown9; have hy := hid (hgrow9.ext (HO6.out.ext (by (repeat (first | exact Ext.refl _ | refine Ext.alloc ?_ _ | refine Ext.drewN ?_ _ | refine Ext.drew ?_ | refine Ext.trans ?_ (Hid.out (by assumption)))))) (Nat.le_refl _) (show Ext w3 _ from (by (repeat (first | exact Ext.refl _ | refine Ext.alloc ?_ _ | refine Ext.drewN ?_ _ | refine Ext.drew ?_ | refine Ext.trans ?_ (Hid.out (by assumption))))))); have HX9 := hy; clear hown9 hgrow9); refine hK.out _ _ ?_ (fun hHeld => ?_); (focus ((try dsimp only); (first | (go_split_ands; refine ⟨?_, ?_, ?_, ?_, ?_, ?_, ?_, ?_⟩ <;> exact (Hid.out hy).keep (by assumption)) | go_keep))); clear hK K; (try simp only [Act.put, List.setIfInBounds_toArray, List.set_cons_zero, List.set_cons_succ]))
          refine wpAnyH_ready (rs := [10]) (by kernel_rfl) (by simp) ?_
          refine AllReadyH.cons rfl (fun K hK => ?_) AllReadyH.nil
          (go_simp; (go_at_call 10; refine (grownT_any _ _ _ _ _ d _ (Ents.snoc HO9.out.sl (fun p hp => (HE.out.is p (List.mem_of_mem_take hp)).ext (by (repeat (first | exact Ext.refl _ | refine Ext.alloc ?_ _ | refine Ext.drewN ?_ _ | refine Ext.drew ?_ | refine Ext.trans ?_ (Hid.out (by assumption)))))) (HI.out.ext (by (repeat (first | exact Ext.refl _ | refine Ext.alloc ?_ _ | refine Ext.drewN ?_ _ | refine Ext.drew ?_ | refine Ext.trans ?_ (Hid.out (by assumption))))))) List.length_append (by simp only [List.nil_append, List.length_take]; omega) (fun h => congrArg EP.d (last_at _ _ h)) HPASS.out).mono ?_; rintro e w10 ⟨aa, m, cp, ys, rfl, hS, hG, hb⟩; have HS := hid hS; have HGT := hid hG; have hy := hid hb; have HX10 := hid (HX9.out.trans hb); clear hS hG hb); (first | refine hK.out _ _ ?_ (fun hHeld => ?_) | (go_wp2_with fail; refine hK.out _ _ ?_ (fun hHeld => ?_))); (focus ((try dsimp only); (first | (go_split_ands; refine ⟨?_, ?_, ?_, ?_, ?_, ?_, ?_, ?_⟩ <;> exact (Hid.out hy).keep (by assumption)) | go_keep))); clear hK K; (try simp only [Act.put, List.setIfInBounds_toArray, List.set_cons_zero, List.set_cons_succ]))
          (refine hTake 11 (some 6) (v := ?_) (by kernel_rfl) (by kernel_rfl) (by kernel_rfl) (fun _ _ _ h => h) ⟨_, rfl, rfl, Or.inl ⟨by rfl, ?_⟩⟩ hHeld ?_; rotate_left; (focus (intro w hSw; (try dsimp only at hSw); go_simp; (first | done | with_reducible rfl))); (try simp only [Act.put, List.setIfInBounds_toArray, List.set_cons_zero, List.set_cons_succ]))
          refine wpAnyH_done (by kernel_rfl) ?_ _
          go_wp2_with fail
          go_meet
          exact ⟨_, aa, m, cp, ys, rfl, rfl, HS.out, HGT.out, HX10.out⟩
      · have hni : 29 < (ps.length : Int) := by omega
        have hcc : (29 : Int) ≤ (cap : Int) := by omega
        have HPS := hid (HE.out.sl.take 29 (by omega))
        go_wp2_with fail
        refine wp_region_held_drew (S := (fun w' => w'.cell? ⟨w.heap.size, 0, none⟩ = some (.int .i64 x.k) ∧ w'.cell? ⟨w.heap.size, 1, none⟩ = some (.int .i64 x.id.b) ∧ w'.cell? ⟨w.heap.size, 2, none⟩ = some (.int .u64 x.id.l) ∧ w'.cell? ⟨w.heap.size, 3, none⟩ = some (.int .u64 x.id.s) ∧ w'.cell? ⟨w.heap.size, 4, none⟩ = some (.int .i64 x.c) ∧ w'.cell? ⟨w.heap.size, 5, none⟩ = some (.int .u64 x.u) ∧ w'.cell? ⟨w.heap.size, 6, none⟩ = some (.slice x.f.a x.f.n x.f.c) ∧ w'.cell? ⟨w.heap.size, 7, none⟩ = some (.slice x.e.a x.e.n x.e.c))) (by kernel_rfl) ?_ (fun hHeld => ?_)
        · ((try dsimp only); (first | (go_split_ands; refine ⟨?_, ?_, ?_, ?_, ?_, ?_, ?_, ?_⟩ <;> exact (Hid.out hy).keep (by assumption)) | go_keep))
        (refine hTake 1 (some 22) (v := ?_) (by kernel_rfl) (by kernel_rfl) (by kernel_rfl) (fun _ _ _ h => h) ⟨_, rfl, rfl, Or.inl ⟨by rfl, ?_⟩⟩ hHeld ?_; rotate_left; (focus (intro w hSw; (try dsimp only at hSw); go_simp; (first | done | with_reducible rfl))); (try simp only [Act.put, List.setIfInBounds_toArray, List.set_cons_zero, List.set_cons_succ]))
        (refine hTake 2 (some 23) (v := ?_) (by kernel_rfl) (by kernel_rfl) (by kernel_rfl) (fun _ _ _ h => h) ⟨_, rfl, rfl, Or.inl ⟨by rfl, ?_⟩⟩ hHeld ?_; rotate_left; (focus (intro w hSw; (try dsimp only at hSw); go_simp; (first | done | with_reducible rfl))); (try simp only [Act.put, List.setIfInBounds_toArray, List.set_cons_zero, List.set_cons_succ]))
        (refine hTake 3 (some 24) (v := ?_) (by kernel_rfl) (by kernel_rfl) (by kernel_rfl) (fun _ _ _ h => h) ⟨_, rfl, rfl, Or.inl ⟨by rfl, ?_⟩⟩ hHeld ?_; rotate_left; (focus (intro w hSw; (try dsimp only at hSw); go_simp; (first | done | with_reducible rfl))); (try simp only [Act.put, List.setIfInBounds_toArray, List.set_cons_zero, List.set_cons_succ]))
        (refine hTake 4 (some 25) (v := ?_) (by kernel_rfl) (by kernel_rfl) (by kernel_rfl) (fun _ _ _ h => h) ⟨_, rfl, rfl, Or.inl ⟨by rfl, ?_⟩⟩ hHeld ?_; rotate_left; (focus (intro w hSw; (try dsimp only at hSw); go_simp; (first | done | with_reducible rfl))); (try simp only [Act.put, List.setIfInBounds_toArray, List.set_cons_zero, List.set_cons_succ]))
        (refine hTake 5 (some 26) (v := ?_) (by kernel_rfl) (by kernel_rfl) (by kernel_rfl) (fun _ _ _ h => h) ⟨_, rfl, rfl, Or.inl ⟨by rfl, ?_⟩⟩ hHeld ?_; rotate_left; (focus (intro w hSw; (try dsimp only at hSw); go_simp; (first | done | with_reducible rfl))); (try simp only [Act.put, List.setIfInBounds_toArray, List.set_cons_zero, List.set_cons_succ]))
        (refine hTake 7 (some 28) (v := ?_) (by kernel_rfl) (by kernel_rfl) (by kernel_rfl) (fun _ _ _ h => h) ⟨_, rfl, rfl, Or.inl ⟨by rfl, ?_⟩⟩ hHeld ?_; rotate_left; (focus (intro w hSw; (try dsimp only at hSw); go_simp; (first | done | with_reducible rfl))); (try simp only [Act.put, List.setIfInBounds_toArray, List.set_cons_zero, List.set_cons_succ]))
        refine wpAnyH_ready (rs := [0, 8]) (by kernel_rfl) (by simp) ?_
        refine AllReadyH.cons rfl (fun K hK => ?_) (AllReadyH.cons rfl (fun K hK => ?_) AllReadyH.nil)
        · (go_simp; skip; (first | refine hK.out _ _ ?_ (fun hHeld => ?_) | (go_wp2_with fail; refine hK.out _ _ ?_ (fun hHeld => ?_))); (focus ((try dsimp only); (first | (go_split_ands; refine ⟨?_, ?_, ?_, ?_, ?_, ?_, ?_, ?_⟩ <;> exact (Hid.out hy).keep (by assumption)) | go_keep))); clear hK K; (try simp only [Act.put, List.setIfInBounds_toArray, List.set_cons_zero, List.set_cons_succ]))
          refine wpAnyH_ready (rs := [6, 8]) (by kernel_rfl) (by simp) ?_
          refine AllReadyH.cons rfl (fun K hK => ?_) (AllReadyH.cons rfl (fun K hK => ?_) AllReadyH.nil)
          · ((refine stepOn (c := EP.cs) (ys0 := []) (ys := ps.take 29) rfl (.tmp 21) (.tmp 26) 22 31 (by rfl) i0 _ 96 Try.underlying22 I1.out I2.out I3.out I4.out rfl (by decide) (by rfl) w3 (by (repeat (first | exact Ext.refl _ | refine Ext.alloc ?_ _ | refine Ext.drewN ?_ _ | refine Ext.drew ?_ | refine Ext.trans ?_ (Hid.out (by assumption))))) (Own.empty (by (repeat (first | (refine heap_new ?_; (simp; done)) | refine heap_old (by first | (simp; done) | (simp; omega)) ?_))) (by simp) EP.wid) (by rfl) (HPS.out.ext (by (repeat (first | exact Ext.refl _ | refine Ext.alloc ?_ _ | refine Ext.drewN ?_ _ | refine Ext.drew ?_ | refine Ext.trans ?_ (Hid.out (by assumption)))))) EP.one' (by omega) (by decide) ?_; intro b6 n6 cap6 w6 hn6 hown6 hx6 hg6; have HN6 := hid hn6; have HO6 := hid hown6; have hy := hid hx6; have HG6 := hid hg6; have HX6 := hy; clear hn6 hown6 hx6 hg6); refine hK.out _ _ ?_ (fun hHeld => ?_); (focus ((try dsimp only); (first | (go_split_ands; refine ⟨?_, ?_, ?_, ?_, ?_, ?_, ?_, ?_⟩ <;> exact (Hid.out hy).keep (by assumption)) | go_keep))); clear hK K; (try simp only [Act.put, List.setIfInBounds_toArray, List.set_cons_zero, List.set_cons_succ]))
            refine wpAnyH_ready (rs := [8]) (by kernel_rfl) (by simp) ?_
            refine AllReadyH.cons rfl (fun K hK => ?_) AllReadyH.nil
            (go_simp; skip; (first | refine hK.out _ _ ?_ (fun hHeld => ?_) | (go_wp2_with fail; refine hK.out _ _ ?_ (fun hHeld => ?_))); (focus ((try dsimp only); (first | (go_split_ands; refine ⟨?_, ?_, ?_, ?_, ?_, ?_, ?_, ?_⟩ <;> exact (Hid.out hy).keep (by assumption)) | go_keep))); clear hK K; (try simp only [Act.put, List.setIfInBounds_toArray, List.set_cons_zero, List.set_cons_succ]))
            refine wpAnyH_ready (rs := [9]) (by kernel_rfl) (by simp) ?_
            refine AllReadyH.cons rfl (fun K hK => ?_) AllReadyH.nil
            ((refine step1 (c := EP.cs) (ys := [] ++ ps.take 29) rfl (.tmp 27) (.tmp 29) 22 (by rfl) i0 _ 96 Try.underlying22 I1.out I2.out I3.out I4.out rfl (by decide) (by rfl) (HO6.out.ext (by (repeat (first | exact Ext.refl _ | refine Ext.alloc ?_ _ | refine Ext.drewN ?_ _ | refine Ext.drew ?_ | refine Ext.trans ?_ (Hid.out (by assumption)))))) ⟨x, d⟩ _ (by rfl) (news_alloc (cs := EP.cs ⟨x, d⟩) rfl) (EP.one' _) (by have := HN6.out; omega) (by decide) (Ext.size (by (repeat (first | exact Ext.refl _ | refine Ext.alloc ?_ _ | refine Ext.drewN ?_ _ | refine Ext.drew ?_ | refine Ext.trans ?_ (Hid.out (by assumption)))))) ?_; intro g9 cap9 w9 hown9 hgrow9; have HO9 := hid hown9; have hy := hid (hgrow9.ext (HO6.out.ext (by (repeat (first | exact Ext.refl _ | refine Ext.alloc ?_ _ | refine Ext.drewN ?_ _ | refine Ext.drew ?_ | refine Ext.trans ?_ (Hid.out (by assumption)))))) (Nat.le_refl _) (show Ext w3 _ from (by (repeat (first | exact Ext.refl _ | refine Ext.alloc ?_ _ | refine Ext.drewN ?_ _ | refine Ext.drew ?_ | refine Ext.trans ?_ (Hid.out (by assumption))))))); have HX9 := hy; clear hown9 hgrow9); refine hK.out _ _ ?_ (fun hHeld => ?_); (focus ((try dsimp only); (first | (go_split_ands; refine ⟨?_, ?_, ?_, ?_, ?_, ?_, ?_, ?_⟩ <;> exact (Hid.out hy).keep (by assumption)) | go_keep))); clear hK K; (try simp only [Act.put, List.setIfInBounds_toArray, List.set_cons_zero, List.set_cons_succ]))
            refine wpAnyH_ready (rs := [10]) (by kernel_rfl) (by simp) ?_
            refine AllReadyH.cons rfl (fun K hK => ?_) AllReadyH.nil
            (go_simp; (go_at_call 10; refine (grownT_any _ _ _ _ _ d _ (Ents.snoc HO9.out.sl (fun p hp => (HE.out.is p (List.mem_of_mem_take hp)).ext (by (repeat (first | exact Ext.refl _ | refine Ext.alloc ?_ _ | refine Ext.drewN ?_ _ | refine Ext.drew ?_ | refine Ext.trans ?_ (Hid.out (by assumption)))))) (HI.out.ext (by (repeat (first | exact Ext.refl _ | refine Ext.alloc ?_ _ | refine Ext.drewN ?_ _ | refine Ext.drew ?_ | refine Ext.trans ?_ (Hid.out (by assumption))))))) List.length_append (by simp only [List.nil_append, List.length_take]; omega) (fun h => congrArg EP.d (last_at _ _ h)) HPASS.out).mono ?_; rintro e w10 ⟨aa, m, cp, ys, rfl, hS, hG, hb⟩; have HS := hid hS; have HGT := hid hG; have hy := hid hb; have HX10 := hid (HX9.out.trans hb); clear hS hG hb); (first | refine hK.out _ _ ?_ (fun hHeld => ?_) | (go_wp2_with fail; refine hK.out _ _ ?_ (fun hHeld => ?_))); (focus ((try dsimp only); (first | (go_split_ands; refine ⟨?_, ?_, ?_, ?_, ?_, ?_, ?_, ?_⟩ <;> exact (Hid.out hy).keep (by assumption)) | go_keep))); clear hK K; (try simp only [Act.put, List.setIfInBounds_toArray, List.set_cons_zero, List.set_cons_succ]))
            (refine hTake 11 (some 6) (v := ?_) (by kernel_rfl) (by kernel_rfl) (by kernel_rfl) (fun _ _ _ h => h) ⟨_, rfl, rfl, Or.inl ⟨by rfl, ?_⟩⟩ hHeld ?_; rotate_left; (focus (intro w hSw; (try dsimp only at hSw); go_simp; (first | done | with_reducible rfl))); (try simp only [Act.put, List.setIfInBounds_toArray, List.set_cons_zero, List.set_cons_succ]))
            refine wpAnyH_done (by kernel_rfl) ?_ _
            go_wp2_with fail
            go_meet
            exact ⟨_, aa, m, cp, ys, rfl, rfl, HS.out, HGT.out, HX10.out⟩
          · (go_simp; skip; (first | refine hK.out _ _ ?_ (fun hHeld => ?_) | (go_wp2_with fail; refine hK.out _ _ ?_ (fun hHeld => ?_))); (focus ((try dsimp only); (first | (go_split_ands; refine ⟨?_, ?_, ?_, ?_, ?_, ?_, ?_, ?_⟩ <;> exact (Hid.out hy).keep (by assumption)) | go_keep))); clear hK K; (try simp only [Act.put, List.setIfInBounds_toArray, List.set_cons_zero, List.set_cons_succ]))
            refine wpAnyH_ready (rs := [6]) (by kernel_rfl) (by simp) ?_
            refine AllReadyH.cons rfl (fun K hK => ?_) AllReadyH.nil
            ((refine stepOn (c := EP.cs) (ys0 := []) (ys := ps.take 29) rfl (.tmp 21) (.tmp 26) 22 31 (by rfl) i0 _ 96 Try.underlying22 I1.out I2.out I3.out I4.out rfl (by decide) (by rfl) w3 (by (repeat (first | exact Ext.refl _ | refine Ext.alloc ?_ _ | refine Ext.drewN ?_ _ | refine Ext.drew ?_ | refine Ext.trans ?_ (Hid.out (by assumption))))) (Own.empty (by (repeat (first | (refine heap_new ?_; (simp; done)) | refine heap_old (by first | (simp; done) | (simp; omega)) ?_))) (by simp) EP.wid) (by rfl) (HPS.out.ext (by (repeat (first | exact Ext.refl _ | refine Ext.alloc ?_ _ | refine Ext.drewN ?_ _ | refine Ext.drew ?_ | refine Ext.trans ?_ (Hid.out (by assumption)))))) EP.one' (by omega) (by decide) ?_; intro b6 n6 cap6 w6 hn6 hown6 hx6 hg6; have HN6 := hid hn6; have HO6 := hid hown6; have hy := hid hx6; have HG6 := hid hg6; have HX6 := hy; clear hn6 hown6 hx6 hg6); refine hK.out _ _ ?_ (fun hHeld => ?_); (focus ((try dsimp only); (first | (go_split_ands; refine ⟨?_, ?_, ?_, ?_, ?_, ?_, ?_, ?_⟩ <;> exact (Hid.out hy).keep (by assumption)) | go_keep))); clear hK K; (try simp only [Act.put, List.setIfInBounds_toArray, List.set_cons_zero, List.set_cons_succ]))
            refine wpAnyH_ready (rs := [9]) (by kernel_rfl) (by simp) ?_
            refine AllReadyH.cons rfl (fun K hK => ?_) AllReadyH.nil
            ((refine step1 (c := EP.cs) (ys := [] ++ ps.take 29) rfl (.tmp 27) (.tmp 29) 22 (by rfl) i0 _ 96 Try.underlying22 I1.out I2.out I3.out I4.out rfl (by decide) (by rfl) (HO6.out.ext (by (repeat (first | exact Ext.refl _ | refine Ext.alloc ?_ _ | refine Ext.drewN ?_ _ | refine Ext.drew ?_ | refine Ext.trans ?_ (Hid.out (by assumption)))))) ⟨x, d⟩ (w3.heap.size + 1) (by rfl) (fun j u hj => (HG6.out.cell_far _ (by simp; try omega) (by simp [Value.ownBlock])).trans ((news_alloc (cs := EP.cs ⟨x, d⟩) (by simp)) j u hj)) (EP.one' _) (by have := HN6.out; omega) (by decide) (Ext.size (by (repeat (first | exact Ext.refl _ | refine Ext.alloc ?_ _ | refine Ext.drewN ?_ _ | refine Ext.drew ?_ | refine Ext.trans ?_ (Hid.out (by assumption)))))) ?_; intro g9 cap9 w9 hown9 hgrow9; have HO9 := hid hown9; have hy := hid (hgrow9.ext (HO6.out.ext (by (repeat (first | exact Ext.refl _ | refine Ext.alloc ?_ _ | refine Ext.drewN ?_ _ | refine Ext.drew ?_ | refine Ext.trans ?_ (Hid.out (by assumption)))))) (Nat.le_refl _) (show Ext w3 _ from (by (repeat (first | exact Ext.refl _ | refine Ext.alloc ?_ _ | refine Ext.drewN ?_ _ | refine Ext.drew ?_ | refine Ext.trans ?_ (Hid.out (by assumption))))))); have HX9 := hy; clear hown9 hgrow9); refine hK.out _ _ ?_ (fun hHeld => ?_); (focus ((try dsimp only); (first | (go_split_ands; refine ⟨?_, ?_, ?_, ?_, ?_, ?_, ?_, ?_⟩ <;> exact (Hid.out hy).keep (by assumption)) | go_keep))); clear hK K; (try simp only [Act.put, List.setIfInBounds_toArray, List.set_cons_zero, List.set_cons_succ]))
            refine wpAnyH_ready (rs := [10]) (by kernel_rfl) (by simp) ?_
            refine AllReadyH.cons rfl (fun K hK => ?_) AllReadyH.nil
            (go_simp; (go_at_call 10; refine (grownT_any _ _ _ _ _ d _ (Ents.snoc HO9.out.sl (fun p hp => (HE.out.is p (List.mem_of_mem_take hp)).ext (by (repeat (first | exact Ext.refl _ | refine Ext.alloc ?_ _ | refine Ext.drewN ?_ _ | refine Ext.drew ?_ | refine Ext.trans ?_ (Hid.out (by assumption)))))) (HI.out.ext (by (repeat (first | exact Ext.refl _ | refine Ext.alloc ?_ _ | refine Ext.drewN ?_ _ | refine Ext.drew ?_ | refine Ext.trans ?_ (Hid.out (by assumption))))))) List.length_append (by simp only [List.nil_append, List.length_take]; omega) (fun h => congrArg EP.d (last_at _ _ h)) HPASS.out).mono ?_; rintro e w10 ⟨aa, m, cp, ys, rfl, hS, hG, hb⟩; have HS := hid hS; have HGT := hid hG; have hy := hid hb; have HX10 := hid (HX9.out.trans hb); clear hS hG hb); (first | refine hK.out _ _ ?_ (fun hHeld => ?_) | (go_wp2_with fail; refine hK.out _ _ ?_ (fun hHeld => ?_))); (focus ((try dsimp only); (first | (go_split_ands; refine ⟨?_, ?_, ?_, ?_, ?_, ?_, ?_, ?_⟩ <;> exact (Hid.out hy).keep (by assumption)) | go_keep))); clear hK K; (try simp only [Act.put, List.setIfInBounds_toArray, List.set_cons_zero, List.set_cons_succ]))
            (refine hTake 11 (some 6) (v := ?_) (by kernel_rfl) (by kernel_rfl) (by kernel_rfl) (fun _ _ _ h => h) ⟨_, rfl, rfl, Or.inl ⟨by rfl, ?_⟩⟩ hHeld ?_; rotate_left; (focus (intro w hSw; (try dsimp only at hSw); go_simp; (first | done | with_reducible rfl))); (try simp only [Act.put, List.setIfInBounds_toArray, List.set_cons_zero, List.set_cons_succ]))
            refine wpAnyH_done (by kernel_rfl) ?_ _
            go_wp2_with fail
            go_meet
            exact ⟨_, aa, m, cp, ys, rfl, rfl, HS.out, HGT.out, HX10.out⟩
        · (go_simp; skip; (first | refine hK.out _ _ ?_ (fun hHeld => ?_) | (go_wp2_with fail; refine hK.out _ _ ?_ (fun hHeld => ?_))); (focus ((try dsimp only); (first | (go_split_ands; refine ⟨?_, ?_, ?_, ?_, ?_, ?_, ?_, ?_⟩ <;> exact (Hid.out hy).keep (by assumption)) | go_keep))); clear hK K; (try simp only [Act.put, List.setIfInBounds_toArray, List.set_cons_zero, List.set_cons_succ]))
          refine wpAnyH_ready (rs := [0]) (by kernel_rfl) (by simp) ?_
          refine AllReadyH.cons rfl (fun K hK => ?_) AllReadyH.nil
          (go_simp; skip; (first | refine hK.out _ _ ?_ (fun hHeld => ?_) | (go_wp2_with fail; refine hK.out _ _ ?_ (fun hHeld => ?_))); (focus ((try dsimp only); (first | (go_split_ands; refine ⟨?_, ?_, ?_, ?_, ?_, ?_, ?_, ?_⟩ <;> exact (Hid.out hy).keep (by assumption)) | go_keep))); clear hK K; (try simp only [Act.put, List.setIfInBounds_toArray, List.set_cons_zero, List.set_cons_succ]))
          refine wpAnyH_ready (rs := [6]) (by kernel_rfl) (by simp) ?_
          refine AllReadyH.cons rfl (fun K hK => ?_) AllReadyH.nil
          ((refine stepOn (c := EP.cs) (ys0 := []) (ys := ps.take 29) rfl (.tmp 21) (.tmp 26) 22 31 (by rfl) i0 _ 96 Try.underlying22 I1.out I2.out I3.out I4.out rfl (by decide) (by rfl) w3 (by (repeat (first | exact Ext.refl _ | refine Ext.alloc ?_ _ | refine Ext.drewN ?_ _ | refine Ext.drew ?_ | refine Ext.trans ?_ (Hid.out (by assumption))))) (Own.empty (by (repeat (first | (refine heap_new ?_; (simp; done)) | refine heap_old (by first | (simp; done) | (simp; omega)) ?_))) (by simp) EP.wid) (by rfl) (HPS.out.ext (by (repeat (first | exact Ext.refl _ | refine Ext.alloc ?_ _ | refine Ext.drewN ?_ _ | refine Ext.drew ?_ | refine Ext.trans ?_ (Hid.out (by assumption)))))) EP.one' (by omega) (by decide) ?_; intro b6 n6 cap6 w6 hn6 hown6 hx6 hg6; have HN6 := hid hn6; have HO6 := hid hown6; have hy := hid hx6; have HG6 := hid hg6; have HX6 := hy; clear hn6 hown6 hx6 hg6); refine hK.out _ _ ?_ (fun hHeld => ?_); (focus ((try dsimp only); (first | (go_split_ands; refine ⟨?_, ?_, ?_, ?_, ?_, ?_, ?_, ?_⟩ <;> exact (Hid.out hy).keep (by assumption)) | go_keep))); clear hK K; (try simp only [Act.put, List.setIfInBounds_toArray, List.set_cons_zero, List.set_cons_succ]))
          refine wpAnyH_ready (rs := [9]) (by kernel_rfl) (by simp) ?_
          refine AllReadyH.cons rfl (fun K hK => ?_) AllReadyH.nil
          ((refine step1 (c := EP.cs) (ys := [] ++ ps.take 29) rfl (.tmp 27) (.tmp 29) 22 (by rfl) i0 _ 96 Try.underlying22 I1.out I2.out I3.out I4.out rfl (by decide) (by rfl) (HO6.out.ext (by (repeat (first | exact Ext.refl _ | refine Ext.alloc ?_ _ | refine Ext.drewN ?_ _ | refine Ext.drew ?_ | refine Ext.trans ?_ (Hid.out (by assumption)))))) ⟨x, d⟩ w3.heap.size (by rfl) (fun j u hj => (HG6.out.cell_far _ (by simp; try omega) (by simp [Value.ownBlock])).trans ((fun j u hj => ((Ext.refl _).alloc _).keep (news_alloc (cs := EP.cs ⟨x, d⟩) (by simp) j u hj)) j u hj)) (EP.one' _) (by have := HN6.out; omega) (by decide) (Ext.size (by (repeat (first | exact Ext.refl _ | refine Ext.alloc ?_ _ | refine Ext.drewN ?_ _ | refine Ext.drew ?_ | refine Ext.trans ?_ (Hid.out (by assumption)))))) ?_; intro g9 cap9 w9 hown9 hgrow9; have HO9 := hid hown9; have hy := hid (hgrow9.ext (HO6.out.ext (by (repeat (first | exact Ext.refl _ | refine Ext.alloc ?_ _ | refine Ext.drewN ?_ _ | refine Ext.drew ?_ | refine Ext.trans ?_ (Hid.out (by assumption)))))) (Nat.le_refl _) (show Ext w3 _ from (by (repeat (first | exact Ext.refl _ | refine Ext.alloc ?_ _ | refine Ext.drewN ?_ _ | refine Ext.drew ?_ | refine Ext.trans ?_ (Hid.out (by assumption))))))); have HX9 := hy; clear hown9 hgrow9); refine hK.out _ _ ?_ (fun hHeld => ?_); (focus ((try dsimp only); (first | (go_split_ands; refine ⟨?_, ?_, ?_, ?_, ?_, ?_, ?_, ?_⟩ <;> exact (Hid.out hy).keep (by assumption)) | go_keep))); clear hK K; (try simp only [Act.put, List.setIfInBounds_toArray, List.set_cons_zero, List.set_cons_succ]))
          refine wpAnyH_ready (rs := [10]) (by kernel_rfl) (by simp) ?_
          refine AllReadyH.cons rfl (fun K hK => ?_) AllReadyH.nil
          (go_simp; (go_at_call 10; refine (grownT_any _ _ _ _ _ d _ (Ents.snoc HO9.out.sl (fun p hp => (HE.out.is p (List.mem_of_mem_take hp)).ext (by (repeat (first | exact Ext.refl _ | refine Ext.alloc ?_ _ | refine Ext.drewN ?_ _ | refine Ext.drew ?_ | refine Ext.trans ?_ (Hid.out (by assumption)))))) (HI.out.ext (by (repeat (first | exact Ext.refl _ | refine Ext.alloc ?_ _ | refine Ext.drewN ?_ _ | refine Ext.drew ?_ | refine Ext.trans ?_ (Hid.out (by assumption))))))) List.length_append (by simp only [List.nil_append, List.length_take]; omega) (fun h => congrArg EP.d (last_at _ _ h)) HPASS.out).mono ?_; rintro e w10 ⟨aa, m, cp, ys, rfl, hS, hG, hb⟩; have HS := hid hS; have HGT := hid hG; have hy := hid hb; have HX10 := hid (HX9.out.trans hb); clear hS hG hb); (first | refine hK.out _ _ ?_ (fun hHeld => ?_) | (go_wp2_with fail; refine hK.out _ _ ?_ (fun hHeld => ?_))); (focus ((try dsimp only); (first | (go_split_ands; refine ⟨?_, ?_, ?_, ?_, ?_, ?_, ?_, ?_⟩ <;> exact (Hid.out hy).keep (by assumption)) | go_keep))); clear hK K; (try simp only [Act.put, List.setIfInBounds_toArray, List.set_cons_zero, List.set_cons_succ]))
          (refine hTake 11 (some 6) (v := ?_) (by kernel_rfl) (by kernel_rfl) (by kernel_rfl) (fun _ _ _ h => h) ⟨_, rfl, rfl, Or.inl ⟨by rfl, ?_⟩⟩ hHeld ?_; rotate_left; (focus (intro w hSw; (try dsimp only at hSw); go_simp; (first | done | with_reducible rfl))); (try simp only [Act.put, List.setIfInBounds_toArray, List.set_cons_zero, List.set_cons_succ]))
          refine wpAnyH_done (by kernel_rfl) ?_ _
          go_wp2_with fail
          go_meet
          exact ⟨_, aa, m, cp, ys, rfl, rfl, HS.out, HGT.out, HX10.out⟩
    case rest =>
      obtain ⟨Wx, aa, m, cp, ys, rfl, rfl, HS, HG, hxw⟩ := hcut
      obtain rfl := HS.out.sl.neq
      have hy1 := HS.out.sl.len
      have hy2 := HS.out.sl.max
      unfold maxLen at hy2
      have hle : ys.length ≤ 30 := by have := HG.out.gr.len; rwa [List.length_map] at this
      have HB4 := hid (HB3.out.ext hxw.out)
      have hx4 := hid (hx3.out.trans hxw.out)
      clear HB3 hx3 hxw HE HOK HPASS
      go_wp2_with fail
      go_loopg [7, 8] (ys.length) (fun g fv iv wr => ∃ (k f : Nat), g + k = ys.length ∧ fv = .int .i64 f ∧ iv = .int .i64 k ∧ Hid (f = cntK ys d k) ∧ Hid (Ext Wx wr))
      case atStart => exact ⟨0, 0, by omega, rfl, rfl, rfl, Ext.refl _⟩
      case round =>
        obtain ⟨k, f, hg, rfl, rfl, hf, hx⟩ := hrel
        have HB5 := hid (HB4.out.ext hx.out)
        have hf30 : f ≤ 30 := by have := cntK_le ys d k; rw [hf.out]; omega
        by_cases hk : k < ys.length
        · obtain ⟨b, o, rfl, hc⟩ := HS.out.sl.get k hk
          obtain ⟨d0, d1, d2⟩ := cellsSB (w := wr) (b := b) (o := o + k * 3) (x := ys[k]) (fun j v hj => hx.out.keep (hc j v hj))
          have c4 := HB5.out.cells.2.2.2.2.1
          have c5 := HB5.out.cells.2.2.2.2.2.1
          clear hc
          have b0 : (0 : Int) ≤ (k : Int) := by omega
          have b1 : (k : Int) < (ys.length : Int) := by omega
          by_cases h0 : k = 0
          · have b2 : decide (0 < k) = false := by simp; omega
            clear h0
            by_cases h1 : ys[k].c = x.c
            · have q1 : (ys[k].c == x.c) = true := by simpa using h1
              by_cases h2 : ys[k].u = x.u
              · have q2 : (ys[k].u == x.u) = true := by simpa using h2
                have HM := hid (show isS d ys[k].d = true by unfold isS; rw [decide_eq_true (show ys[k].d.c = d.c from h1.trans HI.out.c), decide_eq_true (show ys[k].d.u = d.u from h2.trans HI.out.u)]; rfl)
                clear h1 h2
                go_wp2_with fail
                go_quiet (fail)
                go_wp2_with fail
                go_quiet (fail)
                go_wp2
                go_roundg (gk - 1)
                case measure => omega
                case rel => exact ⟨k + 1, f + 1, by omega, by go_num, by go_num, hid (by rw [cntK_yes hk HM.out, hf.out]), (by (repeat (first | exact Ext.refl _ | refine Ext.alloc ?_ _ | refine Ext.drewN ?_ _ | refine Ext.drew ?_ | refine Ext.trans ?_ (Hid.out (by assumption)))))⟩
              · have q2 : (ys[k].u == x.u) = false := by simpa using h2
                have HM := hid (show isS d ys[k].d = false by unfold isS; rw [decide_eq_false (show ¬ ys[k].d.u = d.u from fun h => h2 (h.trans HI.out.u.symm)), Bool.and_false])
                clear h1 h2
                go_wp2_with fail
                go_quiet (fail)
                go_wp2_with fail
                go_quiet (fail)
                go_wp2
                go_roundg (gk - 1)
                case measure => omega
                case rel => exact ⟨k + 1, f, by omega, rfl, by go_num, hid (by rw [cntK_no hk HM.out, hf.out]), (by (repeat (first | exact Ext.refl _ | refine Ext.alloc ?_ _ | refine Ext.drewN ?_ _ | refine Ext.drew ?_ | refine Ext.trans ?_ (Hid.out (by assumption)))))⟩
            · have q1 : (ys[k].c == x.c) = false := by simpa using h1
              have HM := hid (show isS d ys[k].d = false by unfold isS; rw [decide_eq_false (show ¬ ys[k].d.c = d.c from fun h => h1 (h.trans HI.out.c.symm)), Bool.false_and])
              clear h1
              go_wp2_with fail
              go_quiet (fail)
              go_wp2_with fail
              go_quiet (fail)
              go_wp2
              go_roundg (gk - 1)
              case measure => omega
              case rel => exact ⟨k + 1, f, by omega, rfl, by go_num, hid (by rw [cntK_no hk HM.out, hf.out]), (by (repeat (first | exact Ext.refl _ | refine Ext.alloc ?_ _ | refine Ext.drewN ?_ _ | refine Ext.drew ?_ | refine Ext.trans ?_ (Hid.out (by assumption)))))⟩
          · have b2 : (0 : Int) < (k : Int) := by omega
            have b3 : (k : Int) - 1 < (ys.length : Int) := by omega
            have b20 : decide (0 < k) = true := by simp; omega
            have hkk : k - 1 < ys.length := by omega
            obtain ⟨b', o', he, hc'⟩ := HS.out.sl.get (k - 1) hkk
            obtain ⟨rfl, rfl⟩ : b = b' ∧ o = o' := by simpa using he
            obtain ⟨e0, e1, e2⟩ := cellsSB (w := wr) (b := b) (o := o + (k - 1) * 3) (x := ys[k - 1]) (fun j v hj => hx.out.keep (hc' j v hj))
            clear hc' he
            have b4 : (0 : Int) ≤ (k : Int) - 1 := by omega
            have b5 : (1 : Int) ≤ (k : Int) := by omega
            have b6 : ((k : Int) - 1).toNat = k - 1 := by omega
            have b7 : IntKind.i64.wrap ((k : Int) - 1) = (k : Int) - 1 := IntWalk.i64_in _ (by omega)
            rcases rises_at HG.out.gr.ris (by omega) hk with hr | ⟨hr, hr'⟩
            · have r1 : decide (ys[k].c < ys[k - 1].c) = false := by simp; omega
              have r2 : (ys[k].c == ys[k - 1].c) = false := by simp; omega
              clear hr
              by_cases h1 : ys[k].c = x.c
              · have q1 : (ys[k].c == x.c) = true := by simpa using h1
                by_cases h2 : ys[k].u = x.u
                · have q2 : (ys[k].u == x.u) = true := by simpa using h2
                  have HM := hid (show isS d ys[k].d = true by unfold isS; rw [decide_eq_true (show ys[k].d.c = d.c from h1.trans HI.out.c), decide_eq_true (show ys[k].d.u = d.u from h2.trans HI.out.u)]; rfl)
                  clear h1 h2
                  go_wp2_with fail
                  go_quiet (fail)
                  go_wp2_with fail
                  go_quiet (fail)
                  go_wp2
                  go_roundg (gk - 1)
                  case measure => omega
                  case rel => exact ⟨k + 1, f + 1, by omega, by go_num, by go_num, hid (by rw [cntK_yes hk HM.out, hf.out]), (by (repeat (first | exact Ext.refl _ | refine Ext.alloc ?_ _ | refine Ext.drewN ?_ _ | refine Ext.drew ?_ | refine Ext.trans ?_ (Hid.out (by assumption)))))⟩
                · have q2 : (ys[k].u == x.u) = false := by simpa using h2
                  have HM := hid (show isS d ys[k].d = false by unfold isS; rw [decide_eq_false (show ¬ ys[k].d.u = d.u from fun h => h2 (h.trans HI.out.u.symm)), Bool.and_false])
                  clear h1 h2
                  go_wp2_with fail
                  go_quiet (fail)
                  go_wp2_with fail
                  go_quiet (fail)
                  go_wp2
                  go_roundg (gk - 1)
                  case measure => omega
                  case rel => exact ⟨k + 1, f, by omega, rfl, by go_num, hid (by rw [cntK_no hk HM.out, hf.out]), (by (repeat (first | exact Ext.refl _ | refine Ext.alloc ?_ _ | refine Ext.drewN ?_ _ | refine Ext.drew ?_ | refine Ext.trans ?_ (Hid.out (by assumption)))))⟩
              · have q1 : (ys[k].c == x.c) = false := by simpa using h1
                have HM := hid (show isS d ys[k].d = false by unfold isS; rw [decide_eq_false (show ¬ ys[k].d.c = d.c from fun h => h1 (h.trans HI.out.c.symm)), Bool.false_and])
                clear h1
                go_wp2_with fail
                go_quiet (fail)
                go_wp2_with fail
                go_quiet (fail)
                go_wp2
                go_roundg (gk - 1)
                case measure => omega
                case rel => exact ⟨k + 1, f, by omega, rfl, by go_num, hid (by rw [cntK_no hk HM.out, hf.out]), (by (repeat (first | exact Ext.refl _ | refine Ext.alloc ?_ _ | refine Ext.drewN ?_ _ | refine Ext.drew ?_ | refine Ext.trans ?_ (Hid.out (by assumption)))))⟩
            · have r1 : decide (ys[k].c < ys[k - 1].c) = false := by simp; omega
              have r2 : (ys[k].c == ys[k - 1].c) = true := by simp; omega
              have r3 : decide (ys[k].u ≤ ys[k - 1].u) = false := by simp; omega
              clear hr hr'
              by_cases h1 : ys[k].c = x.c
              · have q1 : (ys[k].c == x.c) = true := by simpa using h1
                by_cases h2 : ys[k].u = x.u
                · have q2 : (ys[k].u == x.u) = true := by simpa using h2
                  have HM := hid (show isS d ys[k].d = true by unfold isS; rw [decide_eq_true (show ys[k].d.c = d.c from h1.trans HI.out.c), decide_eq_true (show ys[k].d.u = d.u from h2.trans HI.out.u)]; rfl)
                  clear h1 h2
                  go_wp2_with fail
                  go_quiet (fail)
                  go_wp2_with fail
                  go_quiet (fail)
                  go_wp2
                  go_roundg (gk - 1)
                  case measure => omega
                  case rel => exact ⟨k + 1, f + 1, by omega, by go_num, by go_num, hid (by rw [cntK_yes hk HM.out, hf.out]), (by (repeat (first | exact Ext.refl _ | refine Ext.alloc ?_ _ | refine Ext.drewN ?_ _ | refine Ext.drew ?_ | refine Ext.trans ?_ (Hid.out (by assumption)))))⟩
                · have q2 : (ys[k].u == x.u) = false := by simpa using h2
                  have HM := hid (show isS d ys[k].d = false by unfold isS; rw [decide_eq_false (show ¬ ys[k].d.u = d.u from fun h => h2 (h.trans HI.out.u.symm)), Bool.and_false])
                  clear h1 h2
                  go_wp2_with fail
                  go_quiet (fail)
                  go_wp2_with fail
                  go_quiet (fail)
                  go_wp2
                  go_roundg (gk - 1)
                  case measure => omega
                  case rel => exact ⟨k + 1, f, by omega, rfl, by go_num, hid (by rw [cntK_no hk HM.out, hf.out]), (by (repeat (first | exact Ext.refl _ | refine Ext.alloc ?_ _ | refine Ext.drewN ?_ _ | refine Ext.drew ?_ | refine Ext.trans ?_ (Hid.out (by assumption)))))⟩
              · have q1 : (ys[k].c == x.c) = false := by simpa using h1
                have HM := hid (show isS d ys[k].d = false by unfold isS; rw [decide_eq_false (show ¬ ys[k].d.c = d.c from fun h => h1 (h.trans HI.out.c.symm)), Bool.false_and])
                clear h1
                go_wp2_with fail
                go_quiet (fail)
                go_wp2_with fail
                go_quiet (fail)
                go_wp2
                go_roundg (gk - 1)
                case measure => omega
                case rel => exact ⟨k + 1, f, by omega, rfl, by go_num, hid (by rw [cntK_no hk HM.out, hf.out]), (by (repeat (first | exact Ext.refl _ | refine Ext.alloc ?_ _ | refine Ext.drewN ?_ _ | refine Ext.drew ?_ | refine Ext.trans ?_ (Hid.out (by assumption)))))⟩
        · have HF := hid (show f = cntD (ys.map SB.d) d from by rw [hf.out]; unfold cntK; rw [List.take_of_length_le (by omega)])
          obtain ⟨c0, c1, c2, c3, c4, c5, c6, c7⟩ := HB5.out.cells
          go_wp2_with fail
          refine (apply_any _ _ _ ys x d _ ⟨HS.out.sl.ext (by (repeat (first | exact Ext.refl _ | refine Ext.alloc ?_ _ | refine Ext.drewN ?_ _ | refine Ext.drew ?_ | refine Ext.trans ?_ (Hid.out (by assumption))))), fun s hs => (HS.out.ts s hs).ext (by (repeat (first | exact Ext.refl _ | refine Ext.alloc ?_ _ | refine Ext.drewN ?_ _ | refine Ext.drew ?_ | refine Ext.trans ?_ (Hid.out (by assumption)))))⟩ (HI.out.ext (by (repeat (first | exact Ext.refl _ | refine Ext.alloc ?_ _ | refine Ext.drewN ?_ _ | refine Ext.drew ?_ | refine Ext.trans ?_ (Hid.out (by assumption)))))) (fun s hs => Nat.le_trans (HG.out.gr.few s.d (List.mem_map_of_mem hs)) (by decide)) (by omega) (Nat.le_trans HSM.out.1.ts (by decide))).mono ?_
          rintro e w5 ⟨a5, n5, cp5, zs, rfl, hs5, hd5, hb⟩
          have HS5 := hid hs5
          have HD5 := hid hd5
          have hx5 := hid hb
          have HB6 := hid (HB5.out.ext hb)
          clear hs5 hd5 hb
          clear c0 c1 c2 c3 c4 c5 c6 c7
          go_wp2_with fail
          refine (sameS_any _ _ _ _ _ _ zs ys _ (HS5.out.ext (by (repeat (first | exact Ext.refl _ | refine Ext.alloc ?_ _ | refine Ext.drewN ?_ _ | refine Ext.drew ?_ | refine Ext.trans ?_ (Hid.out (by assumption)))))) ⟨HS.out.sl.ext (by (repeat (first | exact Ext.refl _ | refine Ext.alloc ?_ _ | refine Ext.drewN ?_ _ | refine Ext.drew ?_ | refine Ext.trans ?_ (Hid.out (by assumption))))), fun s hs => (HS.out.ts s hs).ext (by (repeat (first | exact Ext.refl _ | refine Ext.alloc ?_ _ | refine Ext.drewN ?_ _ | refine Ext.drew ?_ | refine Ext.trans ?_ (Hid.out (by assumption)))))⟩ (HD5.out.trans HG.out.again)).mono ?_
          rintro e w6 ⟨rfl, hb⟩
          have hx6 := hid hb
          have c0 := (HB6.out.ext hb).cells.1
          clear hb
          by_cases k2 : d.k = 2
          · obtain rfl : f = 1 := HF.out.trans (HG.out.two k2)
            rw [show x.k = 2 from HI.out.k.trans k2] at c0
            clear k2
            go_wp2
            go_ret
            refine ⟨rfl, ?_⟩
            (repeat (first | exact Ext.refl _ | refine Ext.alloc ?_ _ | refine Ext.drewN ?_ _ | refine Ext.drew ?_ | refine Ext.trans ?_ (Hid.out (by assumption))))
          · by_cases k3 : d.k = 3
            · obtain rfl : f = 0 := HF.out.trans (HG.out.three k3)
              rw [show x.k = 3 from HI.out.k.trans k3] at c0
              clear k2 k3
              go_wp2
              go_ret
              refine ⟨rfl, ?_⟩
              (repeat (first | exact Ext.refl _ | refine Ext.alloc ?_ _ | refine Ext.drewN ?_ _ | refine Ext.drew ?_ | refine Ext.trans ?_ (Hid.out (by assumption))))
            · have q2 : (x.k == 2) = false := by rw [HI.out.k]; simpa using k2
              have q3 : (x.k == 3) = false := by rw [HI.out.k]; simpa using k3
              have q4 : (x.k != 2) = true := by rw [bne, q2]; rfl
              have q5 : (x.k != 3) = true := by rw [bne, q3]; rfl
              clear k2 k3
              go_wp2
              go_ret
              refine ⟨rfl, ?_⟩
              (repeat (first | exact Ext.refl _ | refine Ext.alloc ?_ _ | refine Ext.drewN ?_ _ | refine Ext.drew ?_ | refine Ext.trans ?_ (Hid.out (by assumption))))
end Go.Proofs.Ytiifflojpoobpaa
