/- What a broker promises, votes and ends, by the document: the walks of the document's Promise, Tally and Ends. -/
import Derived.Test.YtncadipipomebaaProm
import Derived.Test.YtncadipipomebaaTally
import Derived.Test.YtncadipipomebaaEnds
import Derived.Test.YtncadipipomebaaAwake
import Derived.Deep.DeepCutAuto
namespace Go.Proofs.Ytncadipipomebaa
open Go.RowKit
attribute [local go_sem ↓] Go.wp_at_zero Go.wp_at_succ

set_option maxRecDepth 100000 in
set_option maxHeartbeats 4000000 in
theorem rpromise_any (s : StV) (ls ps : List EV) (bs : List Id) (la : Option Addr) (ln lc : Nat) (xs : List EP) (w : World)
    (hL : Sl w 8 EV.cs s.l.a s.l.n s.l.c ls) (hP : Sl w 8 EV.cs s.p.a s.p.n s.p.c ps) (hB : Sl w 3 Id.cs s.b.a s.b.n s.b.c bs) (hX : Ents w la ln lc xs)
    (hn1 : s.p.n ≤ 1000000) (hn2 : ln ≤ 1000000) :
    Calls Try.prog 17 #[.agg #[.int .u64 s.life, .slice s.l.a s.l.n s.l.c, .slice s.p.a s.p.n s.p.c, .slice s.b.a s.b.n s.b.c], .slice la ln lc] w (RetPr (promOf (knows3 ls ps bs) s.p.n (xs.map (·.d))).1 (promOf (knows3 ls ps bs) s.p.n (xs.map (·.d))).2 w) := by
  obtain ⟨i0, hi, hz0, hz1, hz2⟩ := info_parts infoE
  obtain ⟨j0i, hj, hy0, hy1, hy2⟩ := info_parts infoId
  obtain rfl := hX.sl.neq
  have hm := hX.sl.max
  have hl := hX.sl.len
  unfold maxLen at hm
  generalize hds : xs.map (·.d) = ds
  have hdl : ds.length = xs.length := by rw [← hds, List.length_map]
  have HDS := hid hds
  have HDL := hid hdl
  have HL := hid hL
  have HP := hid hP
  have HB := hid hB
  have HX := hid hX
  have I1 := hid hi
  have I2 := hid hz0
  have I3 := hid hz1
  have I4 := hid hz2
  have J1 := hid hj
  have J2 := hid hy0
  have J3 := hid hy1
  have J4 := hid hy2
  clear hL hP hB hX hi hz0 hz1 hz2 hj hy0 hy1 hy2 hds hdl
  go_enter Try.func17, Try.ntmps17
  go_wp2_with fail
  go_loopg [6, 7, 8, 9, 10, 11, 12, 13, 14] (xs.length) (fun g ov rv st _ _ _ _ _ _ wr => ∃ (k : Nat) (aa : Option Addr) (m cp : Nat) (bb : Option Addr) (r cr : Nat) (ys : List EP), g + k = xs.length ∧ st = .int .i64 k ∧ ov = .slice aa m cp ∧ rv = .slice bb r cr ∧
    Hid (Own wr (w.alloc (Obj.cells #[.int .u64 s.life, .slice s.l.a s.l.n s.l.c, .slice s.p.a s.p.n s.p.c, .slice s.b.a s.b.n s.b.c] 27)).heap.size 50 8 EP.cs aa m cp ys ∧ ys.map (·.d) = (promOf (knows3 ls ps bs) s.p.n (ds.take k)).1 ∧ (∀ y, y ∈ ys → y ∈ xs) ∧ Own wr (w.alloc (Obj.cells #[.int .u64 s.life, .slice s.l.a s.l.n s.l.c, .slice s.p.a s.p.n s.p.c, .slice s.b.a s.b.n s.b.c] 27)).heap.size 30 3 Id.cs bb r cr (promOf (knows3 ls ps bs) s.p.n (ds.take k)).2) ∧ Hid (Ext (w.alloc (Obj.cells #[.int .u64 s.life, .slice s.l.a s.l.n s.l.c, .slice s.p.a s.p.n s.p.c, .slice s.b.a s.b.n s.b.c] 27)) wr))
  case atStart => exact ⟨0, none, 0, 0, none, 0, 0, [], by omega, rfl, rfl, rfl, ⟨Own.nil _ _ _ EP.wid, rfl, (fun y hy => by cases hy), Own.nil _ _ _ Id.wid⟩, Ext.refl _⟩
  case round =>
    obtain ⟨k, aa, m, cp, bb, r, cr, ys, hg, rfl, rfl, rfl, hown, hx⟩ := hrel
    by_cases hk : k < xs.length
    · obtain ⟨b, o, rfl, hc⟩ := HX.out.sl.get k hk
      have hE : Ext w wr := Ext.trans ((Ext.refl w).alloc _) hx.out
      obtain ⟨c0, c1, c2, c3, c4, c5, c6, c7⟩ := cells8 (w := wr) (b := b) (o := o + k * 8) (x := xs[k].x) (fun j v hj => hE.keep (hc j v hj))
      have s0 : wr.cell? ⟨w.heap.size, 0, none⟩ = some (.int .u64 s.life) := hx.out.keep (by simp)
      have s1 : wr.cell? ⟨w.heap.size, 1, none⟩ = some (.slice s.l.a s.l.n s.l.c) := hx.out.keep (by simp)
      have s2 : wr.cell? ⟨w.heap.size, 2, none⟩ = some (.slice s.p.a s.p.n s.p.c) := hx.out.keep (by simp)
      have s3 : wr.cell? ⟨w.heap.size, 3, none⟩ = some (.slice s.b.a s.b.n s.b.c) := hx.out.keep (by simp)
      have hz0 : w.heap.size < wr.heap.size := by have := hx.out.size; simp at this; omega
      have bx := (Ext.refl wr).alloc (Obj.cells #[.int .i64 xs[k].x.id.b, .int .u64 xs[k].x.id.l, .int .u64 xs[k].x.id.s] 30)
      have r0 := bx.keep s0
      have r1 := bx.keep s1
      have r2 := bx.keep s2
      have r3 := bx.keep s3
      have j0 : (wr.alloc (Obj.cells #[.int .i64 xs[k].x.id.b, .int .u64 xs[k].x.id.l, .int .u64 xs[k].x.id.s] 30)).cell? ⟨wr.heap.size, 0, none⟩ = some (.int .i64 xs[k].x.id.b) := cellH (heap_alloc_new _ _) rfl
      have j1 : (wr.alloc (Obj.cells #[.int .i64 xs[k].x.id.b, .int .u64 xs[k].x.id.l, .int .u64 xs[k].x.id.s] 30)).cell? ⟨wr.heap.size, 1, none⟩ = some (.int .u64 xs[k].x.id.l) := cellH (heap_alloc_new _ _) rfl
      have j2 : (wr.alloc (Obj.cells #[.int .i64 xs[k].x.id.b, .int .u64 xs[k].x.id.l, .int .u64 xs[k].x.id.s] 30)).cell? ⟨wr.heap.size, 2, none⟩ = some (.int .u64 xs[k].x.id.s) := cellH (heap_alloc_new _ _) rfl
      have hkd : k < ds.length := by rw [HDL.out]; exact hk
      have hdk : ds[k] = xs[k].d := by have := HDS.out; subst this; simp
      have HID := hid (HX.out.is xs[k] (List.getElem_mem hk)).id
      have Hs := hid (show promOf (knows3 ls ps bs) s.p.n (ds.take (k + 1)) = promStep (knows3 ls ps bs) s.p.n (promOf (knows3 ls ps bs) s.p.n (ds.take k)) xs[k].d from by rw [prom_succ hkd, hdk])
      have hany : ∀ i, (promOf (knows3 ls ps bs) s.p.n (ds.take k)).1.any (fun x => idEq x.id i) = (ys.map (·.x)).any (fun x => idEq x.id i) := by
        intro i
        rw [← hown.out.2.1, List.any_map, List.any_map]
        have h := hown.out.2.2.1
        clear hown
        induction ys with
        | nil => rfl
        | cons y l ih => rw [List.any_cons, List.any_cons, ih (fun z hz => h z (List.mem_cons_of_mem _ hz))]; simp only [Function.comp]; rw [(HX.out.is y (h y (List.mem_cons_self ..))).id]
      have Hany := hid (hany xs[k].x.id)
      have hml : m + r ≤ k := by
        have h1 := hown.out.1.neq
        have h2 := congrArg List.length hown.out.2.1
        have h3 := hown.out.2.2.2.neq
        have h4 := prom_len (knows3 ls ps bs) s.p.n (ds.take k) ([], [])
        have h5 : (ds.take k).length ≤ k := List.length_take_le _ _
        rw [List.length_map] at h2
        unfold promOf at h2 h3
        simp at h4
        omega
      have Hmn := hid (show m = (promOf (knows3 ls ps bs) s.p.n (ds.take k)).1.length by rw [← hown.out.2.1, List.length_map]; exact hown.out.1.neq)
      have HC := hid hc
      clear hc hE hkd hdk hany s0 s1 s2 s3 bx
      have b0 : (0 : Int) ≤ (k : Int) := by omega
      have b1 : (k : Int) < (xs.length : Int) := by omega
      go_upto_region 7 with (fail)
      have hxI := hid ((Ext.refl wr).alloc (Obj.cells #[.int .i64 xs[k].x.id.b, .int .u64 xs[k].x.id.l, .int .u64 xs[k].x.id.s] 30))
      go_upto_region 12 with (first | (go_at_call 41; refine (rhas_any s ls xs[k].x.id _ (HL.out.ext (by (repeat (first | exact Ext.refl _ | refine Ext.alloc ?_ _ | refine Ext.drewN ?_ _ | refine Ext.drew ?_ | refine Ext.trans ?_ (Hid.out (by assumption))))))).mono ?_; rintro e wq ⟨he, hb⟩; obtain ⟨kA, hA⟩ : ∃ b, Hid (ls.any (fun x : EV => idEq x.id xs[k].x.id) = b) := ⟨_, hid rfl⟩; rw [hA.out] at he; subst he; have j0 := hb.keep j0; have j1 := hb.keep j1; have j2 := hb.keep j2; have r0 := hb.keep r0; have r1 := hb.keep r1; have r2 := hb.keep r2; have r3 := hb.keep r3; have hzq : wr.heap.size < wq.heap.size := (by have := hb.size; (try simp at this); omega); have hxA := hid hb; clear hb) | (go_at_call 42; refine (rpromised_any s ps xs[k].x.id _ (HP.out.ext (by (repeat (first | exact Ext.refl _ | refine Ext.alloc ?_ _ | refine Ext.drewN ?_ _ | refine Ext.drew ?_ | refine Ext.trans ?_ (Hid.out (by assumption))))))).mono ?_; rintro e wq ⟨he, hb⟩; obtain ⟨kB, hB⟩ : ∃ b, Hid (ps.any (fun x : EV => idEq x.id xs[k].x.id) = b) := ⟨_, hid rfl⟩; rw [hB.out] at he; subst he; have j0 := hb.keep j0; have j1 := hb.keep j1; have j2 := hb.keep j2; have r0 := hb.keep r0; have r1 := hb.keep r1; have r2 := hb.keep r2; have r3 := hb.keep r3; have hzq : wr.heap.size < wq.heap.size := (by have := hb.size; (try simp at this); omega); have hxB := hid hb; clear hb) | (go_at_call 43; refine (raborted_any s.life _ _ _ _ _ bs xs[k].x.id _ (HB.out.ext (by (repeat (first | exact Ext.refl _ | refine Ext.alloc ?_ _ | refine Ext.drewN ?_ _ | refine Ext.drew ?_ | refine Ext.trans ?_ (Hid.out (by assumption))))))).mono ?_; rintro e wq ⟨he, hb⟩; obtain ⟨kC, hC⟩ : ∃ b, Hid (bs.any (fun x : Id => idEq x xs[k].x.id) = b) := ⟨_, hid rfl⟩; rw [hC.out] at he; subst he; have j0 := hb.keep j0; have j1 := hb.keep j1; have j2 := hb.keep j2; have r0 := hb.keep r0; have r1 := hb.keep r1; have r2 := hb.keep r2; have r3 := hb.keep r3; have hzq : wr.heap.size < wq.heap.size := (by have := hb.size; (try simp at this); omega); have hxC := hid hb; clear hb) | (go_at_call 44; refine (rof_any _ _ _ (ys.map (·.x)) xs[k].x.id _ ((Sl.map (fun p : EP => p.x) hown.out.1.sl EV.wid).ext (by (repeat (first | exact Ext.refl _ | refine Ext.alloc ?_ _ | refine Ext.drewN ?_ _ | refine Ext.drew ?_ | refine Ext.trans ?_ (Hid.out (by assumption))))))).mono ?_; rintro e wq ⟨he, hb⟩; obtain ⟨kD, hD⟩ : ∃ b, Hid ((ys.map (·.x)).any (fun x : EV => idEq x.id xs[k].x.id) = b) := ⟨_, hid rfl⟩; rw [hD.out] at he; subst he; have j0 := hb.keep j0; have j1 := hb.keep j1; have j2 := hb.keep j2; have r0 := hb.keep r0; have r1 := hb.keep r1; have r2 := hb.keep r2; have r3 := hb.keep r3; have hzq : wr.heap.size < wq.heap.size := (by have := hb.size; (try simp at this); omega); have hxD := hid hb; clear hb) | (go_at_call 45; refine (rin_any _ _ _ (promOf (knows3 ls ps bs) s.p.n (ds.take k)).2 xs[k].x.id _ (hown.out.2.2.2.sl.ext (by (repeat (first | exact Ext.refl _ | refine Ext.alloc ?_ _ | refine Ext.drewN ?_ _ | refine Ext.drew ?_ | refine Ext.trans ?_ (Hid.out (by assumption))))))).mono ?_; rintro e wq ⟨he, hb⟩; obtain ⟨kE, hE⟩ : ∃ b, Hid ((promOf (knows3 ls ps bs) s.p.n (ds.take k)).2.any (fun x : Id => idEq x xs[k].x.id) = b) := ⟨_, hid rfl⟩; rw [hE.out] at he; subst he; have j0 := hb.keep j0; have j1 := hb.keep j1; have j2 := hb.keep j2; have r0 := hb.keep r0; have r1 := hb.keep r1; have r2 := hb.keep r2; have r3 := hb.keep r3; have hzq : wr.heap.size < wq.heap.size := (by have := hb.size; (try simp at this); omega); have hxE := hid hb; clear hb))
      rename World => wq
      go_cut [53] (fun c wx => c = .bool (kA || kB || kC || kD || kE) ∧ wq = wx)
      case first =>
        cases kA <;> cases kB <;> cases kC <;> cases kD <;> cases kE
        all_goals
          go_wp2_with fail
          go_meet
          exact ⟨rfl, rfl⟩
      case rest =>
        obtain ⟨rfl, rfl⟩ := hcut
        have hE2 : Ext w wq := (by (repeat (first | exact Ext.refl _ | refine Ext.alloc ?_ _ | refine Ext.drewN ?_ _ | refine Ext.drew ?_ | refine Ext.trans ?_ (Hid.out (by assumption)))))
        obtain ⟨c0, c1, c2, c3, c4, c5, c6, c7⟩ := cells8 (w := wq) (b := b) (o := o + k * 8) (x := xs[k].x) (fun j v hj => hE2.keep (HC.out j v hj))
        clear hE2
        cases hK : (kA || kB || kC || kD || kE) with
        | true =>
          have HK := hid hK
          clear hK
          go_wp2_with fail
          go_roundg (gk - 1)
          case measure => omega
          case rel => exact ⟨k + 1, aa, m, cp, bb, r, cr, ys, by omega, by go_num, rfl, rfl, (by rw [Hs.out, prom_keep (by rw [← HID.out]; rw [knows3_eq, hA.out, hB.out, hC.out, Hany.out, hD.out, hE.out]; exact HK.out)]; exact ⟨hown.out.1.ext (by (repeat (first | exact Ext.refl _ | refine Ext.alloc ?_ _ | refine Ext.drewN ?_ _ | refine Ext.drew ?_ | refine Ext.trans ?_ (Hid.out (by assumption))))), hown.out.2.1, hown.out.2.2.1, hown.out.2.2.2.ext (by (repeat (first | exact Ext.refl _ | refine Ext.alloc ?_ _ | refine Ext.drewN ?_ _ | refine Ext.drew ?_ | refine Ext.trans ?_ (Hid.out (by assumption)))))⟩), (by (repeat (first | exact Ext.refl _ | refine Ext.alloc ?_ _ | refine Ext.drewN ?_ _ | refine Ext.drew ?_ | refine Ext.trans ?_ (Hid.out (by assumption)))))⟩
        | false =>
          have HK := hid hK
          clear hK
          by_cases hful : s.p.n + m < 6
          · have hfi : (s.p.n : Int) + (m : Int) < 6 := by omega
            go_wp2_with (at_builtin; refine app1 (ys := ys) rfl (.tmp 61) (.tmp 66) 24 rfl i0 _ 96 Try.underlying24 I1.out I2.out I3.out I4.out rfl (by decide) rfl (hown.out.1.ext (by (repeat (first | exact Ext.refl _ | refine Ext.alloc ?_ _ | refine Ext.drewN ?_ _ | refine Ext.drew ?_ | refine Ext.trans ?_ (Hid.out (by assumption)))))) xs[k] _ rfl (news_alloc (cs := EP.cs xs[k]) rfl) (EP.one _) (by omega) (by decide) (Ext.size (by (repeat (first | exact Ext.refl _ | refine Ext.alloc ?_ _ | refine Ext.drewN ?_ _ | refine Ext.drew ?_ | refine Ext.trans ?_ (Hid.out (by assumption)))))) ?_; intro g cap' w3 hown3 hgrow; have HO3 := hid hown3; have HG := hid hgrow; clear hown3 hgrow)
            go_roundg (gk - 1)
            case measure => omega
            case rel =>
              refine ⟨k + 1, _, _, _, bb, r, cr, ys ++ [xs[k]], by omega, by go_num, rfl, rfl, ?_, HG.out.ext (hown.out.1.ext (by (repeat (first | exact Ext.refl _ | refine Ext.alloc ?_ _ | refine Ext.drewN ?_ _ | refine Ext.drew ?_ | refine Ext.trans ?_ (Hid.out (by assumption)))))) (Nat.le_refl _) (by (repeat (first | exact Ext.refl _ | refine Ext.alloc ?_ _ | refine Ext.drewN ?_ _ | refine Ext.drew ?_ | refine Ext.trans ?_ (Hid.out (by assumption)))))⟩
              rw [Hs.out, prom_yes (by rw [← HID.out]; rw [knows3_eq, hA.out, hB.out, hC.out, Hany.out, hD.out, hE.out]; exact HK.out) (by rw [← Hmn.out]; exact hful)]
              refine ⟨HO3.out, by rw [List.map_append, hown.out.2.1]; rfl, fun y hy => ?_, HG.out.own2 (hown.out.1.ext (by (repeat (first | exact Ext.refl _ | refine Ext.alloc ?_ _ | refine Ext.drewN ?_ _ | refine Ext.drew ?_ | refine Ext.trans ?_ (Hid.out (by assumption)))))) (hown.out.2.2.2.ext (by (repeat (first | exact Ext.refl _ | refine Ext.alloc ?_ _ | refine Ext.drewN ?_ _ | refine Ext.drew ?_ | refine Ext.trans ?_ (Hid.out (by assumption)))))) (by decide)⟩
              rcases List.mem_append.1 hy with hy | hy
              · exact hown.out.2.2.1 y hy
              · obtain rfl := List.mem_singleton.1 hy
                exact List.getElem_mem hk
          · have hfi : ¬ (s.p.n : Int) + (m : Int) < 6 := by omega
            go_wp2_with (at_builtin; refine app1 (ys := (promOf (knows3 ls ps bs) s.p.n (ds.take k)).2) rfl (.tmp 68) (.tmp 70) 25 rfl j0i _ 24 Try.underlying25 J1.out J2.out J3.out J4.out rfl (by decide) rfl (hown.out.2.2.2.ext (by (repeat (first | exact Ext.refl _ | refine Ext.alloc ?_ _ | refine Ext.drewN ?_ _ | refine Ext.drew ?_ | refine Ext.trans ?_ (Hid.out (by assumption)))))) xs[k].x.id _ rfl (news_alloc (cs := Id.cs xs[k].x.id) rfl) (Id.one _) (by omega) (by decide) (Ext.size (by (repeat (first | exact Ext.refl _ | refine Ext.alloc ?_ _ | refine Ext.drewN ?_ _ | refine Ext.drew ?_ | refine Ext.trans ?_ (Hid.out (by assumption)))))) ?_; intro g cap' w3 hown3 hgrow; have HO3 := hid hown3; have HG := hid hgrow; clear hown3 hgrow)
            go_roundg (gk - 1)
            case measure => omega
            case rel =>
              refine ⟨k + 1, aa, m, cp, _, _, _, ys, by omega, by go_num, rfl, rfl, ?_, HG.out.ext (hown.out.2.2.2.ext (by (repeat (first | exact Ext.refl _ | refine Ext.alloc ?_ _ | refine Ext.drewN ?_ _ | refine Ext.drew ?_ | refine Ext.trans ?_ (Hid.out (by assumption)))))) (Nat.le_refl _) (by (repeat (first | exact Ext.refl _ | refine Ext.alloc ?_ _ | refine Ext.drewN ?_ _ | refine Ext.drew ?_ | refine Ext.trans ?_ (Hid.out (by assumption)))))⟩
              rw [Hs.out, prom_no (by rw [← HID.out]; rw [knows3_eq, hA.out, hB.out, hC.out, Hany.out, hD.out, hE.out]; exact HK.out) (by rw [← Hmn.out]; exact hful)]
              exact ⟨HG.out.own2 (hown.out.2.2.2.ext (by (repeat (first | exact Ext.refl _ | refine Ext.alloc ?_ _ | refine Ext.drewN ?_ _ | refine Ext.drew ?_ | refine Ext.trans ?_ (Hid.out (by assumption)))))) (hown.out.1.ext (by (repeat (first | exact Ext.refl _ | refine Ext.alloc ?_ _ | refine Ext.drewN ?_ _ | refine Ext.drew ?_ | refine Ext.trans ?_ (Hid.out (by assumption)))))) (by decide), hown.out.2.1, hown.out.2.2.1, by rw [← HID.out]; exact HO3.out⟩
    · have hk' : ds.take k = ds := List.take_of_length_le (by rw [HDL.out]; omega)
      rw [hk'] at hown
      clear hk'
      go_wp2
      go_ret2
      exact ⟨aa, m, cp, bb, r, cr, ys, rfl, ⟨hown.out.1.sl, fun p hp => (HX.out.is p (hown.out.2.2.1 p hp)).ext (by (repeat (first | exact Ext.refl _ | refine Ext.alloc ?_ _ | refine Ext.drewN ?_ _ | refine Ext.drew ?_ | refine Ext.trans ?_ (Hid.out (by assumption)))))⟩, hown.out.2.1, hown.out.2.2.2.sl, (by (repeat (first | exact Ext.refl _ | refine Ext.alloc ?_ _ | refine Ext.drewN ?_ _ | refine Ext.drew ?_ | refine Ext.trans ?_ (Hid.out (by assumption)))))⟩
end Go.Proofs.Ytncadipipomebaa
