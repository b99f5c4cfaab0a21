/- What is ended is just what a kid voted on that is not known: the statement's walk. -/
import Derived.Test.YtncadipipomebaaAwake
import Derived.Test.YtncadipipomebaaOpen
import Derived.Test.YtncadipipomebaaEndsP
import Derived.Deep.RegionHeld3
import Derived.Deep.DeepCutAuto
namespace Go.Proofs.Ytncadipipomebaa
open Go.RowKit
attribute [local go_sem ↓] Go.wp_at_zero Go.wp_at_succ

theorem any_succ {α : Type} {p : α → Bool} {xs : List α} {k : Nat} (hk : k < xs.length) : (xs.take (k + 1)).any p = ((xs.take k).any p || p xs[k]) := by
  rw [List.take_succ_eq_append_getElem hk, List.any_append]; simp
theorem run_neqId (b l s b' l' s' : Int) (w : World) :
    (binOp .neq 30 (.agg #[.int .i64 b, .int .u64 l, .int .u64 s]) (.agg #[.int .i64 b', .int .u64 l', .int .u64 s'])).run Try.prog w = .ok (.bool (!idEq ⟨b, l, s⟩ ⟨b', l', s'⟩)) w := by
  unfold idEq
  by_cases h1 : b = b' <;> by_cases h2 : l = l' <;> simp [h1, h2, go_sem]
  split <;> simp_all

set_option maxRecDepth 100000 in
set_option maxHeartbeats 4000000 in
theorem ends18_any (s : StV) (ls ps : List EP) (bs : List Id) (a : Option Addr) (n cap : Nat) (os : List EP) (m : Kid) (qs es qs' : List EP) (w : World) (hS : StIs w s ls ps bs) (hO : Ents w a n cap os) (hV : Sl w 4 V.cs m.m.v.a m.m.v.n m.m.v.c m.vs) (hM : MsgIs w m.m qs es qs') :
    Calls Try.prog 8 #[.agg #[.int .u64 s.life, .slice s.l.a s.l.n s.l.c, .slice s.p.a s.p.n s.p.c, .slice s.b.a s.b.n s.b.c], .slice a n cap, .agg #[.int .i64 m.m.k, .int .u64 m.m.h, .slice m.m.v.a m.m.v.n m.m.v.c, .slice m.m.q.a m.m.q.n m.m.q.c, .slice m.m.e.a m.m.e.n m.m.e.c, .slice m.m.p.a m.m.p.n m.m.p.c, .slice m.m.b.a m.m.b.n m.m.b.c, .slice m.m.d.a m.m.d.n m.m.d.c]] w fun e w' => e = .returned (.bool true) ∧ Ext w w' := by
  obtain rfl := hO.sl.neq
  have hm := hO.sl.max
  have hl := hO.sl.len
  have hvm := hV.max
  have hvl := hV.len
  have hvn := hid hV.neq
  unfold maxLen at hm hvm
  have HS := hid hS
  have HO := hid hO
  have HV := hid hV
  have HM := hid hM
  clear hS hO hV hM
  go_enter Try.func8, Try.ntmps8
  go_wp2_with fail
  have BS : ((w.alloc (Obj.cells #[.int .u64 s.life, .slice s.l.a s.l.n s.l.c, .slice s.p.a s.p.n s.p.c, .slice s.b.a s.b.n s.b.c] 27)).alloc (Obj.cells #[.int .i64 m.m.k, .int .u64 m.m.h, .slice m.m.v.a m.m.v.n m.m.v.c, .slice m.m.q.a m.m.q.n m.m.q.c, .slice m.m.e.a m.m.e.n m.m.e.c, .slice m.m.p.a m.m.p.n m.m.p.c, .slice m.m.b.a m.m.b.n m.m.b.c, .slice m.m.d.a m.m.d.n m.m.d.c] 41)).heap[w.heap.size]? = some (Obj.cells #[.int .u64 s.life, .slice s.l.a s.l.n s.l.c, .slice s.p.a s.p.n s.p.c, .slice s.b.a s.b.n s.b.c] 27) := by (repeat (first | (refine heap_new ?_; (simp; done)) | refine heap_old (by first | (simp; done) | (simp; omega)) ?_))
  have BM : ((w.alloc (Obj.cells #[.int .u64 s.life, .slice s.l.a s.l.n s.l.c, .slice s.p.a s.p.n s.p.c, .slice s.b.a s.b.n s.b.c] 27)).alloc (Obj.cells #[.int .i64 m.m.k, .int .u64 m.m.h, .slice m.m.v.a m.m.v.n m.m.v.c, .slice m.m.q.a m.m.q.n m.m.q.c, .slice m.m.e.a m.m.e.n m.m.e.c, .slice m.m.p.a m.m.p.n m.m.p.c, .slice m.m.b.a m.m.b.n m.m.b.c, .slice m.m.d.a m.m.d.n m.m.d.c] 41)).heap[w.heap.size + 1]? = some (Obj.cells #[.int .i64 m.m.k, .int .u64 m.m.h, .slice m.m.v.a m.m.v.n m.m.v.c, .slice m.m.q.a m.m.q.n m.m.q.c, .slice m.m.e.a m.m.e.n m.m.e.c, .slice m.m.p.a m.m.p.n m.m.p.c, .slice m.m.b.a m.m.b.n m.m.b.c, .slice m.m.d.a m.m.d.n m.m.d.c] 41) := by (repeat (first | (refine heap_new ?_; (simp; done)) | refine heap_old (by first | (simp; done) | (simp; omega)) ?_))
  refine (awake18_any ((w.alloc (Obj.cells #[.int .u64 s.life, .slice s.l.a s.l.n s.l.c, .slice s.p.a s.p.n s.p.c, .slice s.b.a s.b.n s.b.c] 27)).alloc (Obj.cells #[.int .i64 m.m.k, .int .u64 m.m.h, .slice m.m.v.a m.m.v.n m.m.v.c, .slice m.m.q.a m.m.q.n m.m.q.c, .slice m.m.e.a m.m.e.n m.m.e.c, .slice m.m.p.a m.m.p.n m.m.p.c, .slice m.m.b.a m.m.b.n m.m.b.c, .slice m.m.d.a m.m.d.n m.m.d.c] 41))).mono ?_
  rintro e w1 ⟨rfl, hb⟩
  have as0 : w1.cell? ⟨w.heap.size, 0, none⟩ = some (.int .u64 s.life) := hb.keep (cellH BS rfl)
  have as1 : w1.cell? ⟨w.heap.size, 1, none⟩ = some (.slice s.l.a s.l.n s.l.c) := hb.keep (cellH BS rfl)
  have as2 : w1.cell? ⟨w.heap.size, 2, none⟩ = some (.slice s.p.a s.p.n s.p.c) := hb.keep (cellH BS rfl)
  have as3 : w1.cell? ⟨w.heap.size, 3, none⟩ = some (.slice s.b.a s.b.n s.b.c) := hb.keep (cellH BS rfl)
  have am0 : w1.cell? ⟨w.heap.size + 1, 0, none⟩ = some (.int .i64 m.m.k) := hb.keep (cellH BM rfl)
  have am1 : w1.cell? ⟨w.heap.size + 1, 1, none⟩ = some (.int .u64 m.m.h) := hb.keep (cellH BM rfl)
  have am2 : w1.cell? ⟨w.heap.size + 1, 2, none⟩ = some (.slice m.m.v.a m.m.v.n m.m.v.c) := hb.keep (cellH BM rfl)
  have am3 : w1.cell? ⟨w.heap.size + 1, 3, none⟩ = some (.slice m.m.q.a m.m.q.n m.m.q.c) := hb.keep (cellH BM rfl)
  have am4 : w1.cell? ⟨w.heap.size + 1, 4, none⟩ = some (.slice m.m.e.a m.m.e.n m.m.e.c) := hb.keep (cellH BM rfl)
  have am5 : w1.cell? ⟨w.heap.size + 1, 5, none⟩ = some (.slice m.m.p.a m.m.p.n m.m.p.c) := hb.keep (cellH BM rfl)
  have am6 : w1.cell? ⟨w.heap.size + 1, 6, none⟩ = some (.slice m.m.b.a m.m.b.n m.m.b.c) := hb.keep (cellH BM rfl)
  have am7 : w1.cell? ⟨w.heap.size + 1, 7, none⟩ = some (.slice m.m.d.a m.m.d.n m.m.d.c) := hb.keep (cellH BM rfl)
  have hx1 := hid hb
  have hz1 : w.heap.size + 1 < w1.heap.size := by have := hb.size; simp at this; omega
  clear hb BS BM
  go_wp2_with fail
  refine (few18_any s ls ps bs (some ⟨w1.heap.size, 0, none⟩) 1 1 [m] _ (HS.out.ext (by (repeat (first | exact Ext.refl _ | refine Ext.alloc ?_ _ | refine Ext.drewN ?_ _ | refine Ext.drew ?_ | refine Ext.trans ?_ (Hid.out (by assumption)))))) ⟨⟨sl_ofBlock [m] Kid.wid rfl (by simp) (t := 41) (fr := (0, 0)) (by (repeat (first | (refine heap_new ?_; (simp; done)) | refine heap_old (by first | (simp; done) | (simp; omega)) ?_))) rfl, fun x hx => by (obtain rfl := List.mem_singleton.1 hx; exact HV.out.ext (by (repeat (first | exact Ext.refl _ | refine Ext.alloc ?_ _ | refine Ext.drewN ?_ _ | refine Ext.drew ?_ | refine Ext.trans ?_ (Hid.out (by assumption))))))⟩, fun x hx => by (obtain rfl := List.mem_singleton.1 hx; exact ⟨qs, es, qs', HM.out.ext (by (repeat (first | exact Ext.refl _ | refine Ext.alloc ?_ _ | refine Ext.drewN ?_ _ | refine Ext.drew ?_ | refine Ext.trans ?_ (Hid.out (by assumption)))))⟩)⟩).mono ?_
  rintro e w2 ⟨f1, rfl, hf1, hb⟩
  have hb := ((Ext.refl w1).alloc (Obj.cells #[.int .i64 m.m.k, .int .u64 m.m.h, .slice m.m.v.a m.m.v.n m.m.v.c, .slice m.m.q.a m.m.q.n m.m.q.c, .slice m.m.e.a m.m.e.n m.m.e.c, .slice m.m.p.a m.m.p.n m.m.p.c, .slice m.m.b.a m.m.b.n m.m.b.c, .slice m.m.d.a m.m.d.n m.m.d.c] 41)).trans hb
  have bs0 := hb.keep as0; have bs1 := hb.keep as1; have bs2 := hb.keep as2; have bs3 := hb.keep as3
  clear as0 as1 as2 as3
  have bm0 := hb.keep am0; have bm1 := hb.keep am1; have bm2 := hb.keep am2; have bm3 := hb.keep am3; have bm4 := hb.keep am4; have bm5 := hb.keep am5; have bm6 := hb.keep am6; have bm7 := hb.keep am7
  clear am0 am1 am2 am3 am4 am5 am6 am7
  have hx2 := hid hb
  have hz2 : w.heap.size + 1 < w2.heap.size := by have := hb.size; omega
  have HF1 := hid hf1
  clear hb hf1
  cases f1
  · go_wp2
    go_ret
    refine ⟨rfl, ?_⟩
    (repeat (first | exact Ext.refl _ | refine Ext.alloc ?_ _ | refine Ext.drewN ?_ _ | refine Ext.drew ?_ | refine Ext.trans ?_ (Hid.out (by assumption))))
  go_wp2_with fail
  refine (few18_any ⟨0, ⟨a, os.length, cap⟩, ⟨none, 0, 0⟩, ⟨none, 0, 0⟩⟩ os [] [] none 0 0 [] _ ⟨HO.out.ext (by (repeat (first | exact Ext.refl _ | refine Ext.alloc ?_ _ | refine Ext.drewN ?_ _ | refine Ext.drew ?_ | refine Ext.trans ?_ (Hid.out (by assumption))))), Ents.nil _, Sl.nil _ (fun _ => rfl)⟩ ⟨⟨Sl.nil _ (fun _ => rfl), fun m hm => by cases hm⟩, fun m hm => by cases hm⟩).mono ?_
  rintro e w3 ⟨f2, rfl, hf2, hb⟩
  have cs0 := hb.keep bs0; have cs1 := hb.keep bs1; have cs2 := hb.keep bs2; have cs3 := hb.keep bs3
  clear bs0 bs1 bs2 bs3
  have cm0 := hb.keep bm0; have cm1 := hb.keep bm1; have cm2 := hb.keep bm2; have cm3 := hb.keep bm3; have cm4 := hb.keep bm4; have cm5 := hb.keep bm5; have cm6 := hb.keep bm6; have cm7 := hb.keep bm7
  clear bm0 bm1 bm2 bm3 bm4 bm5 bm6 bm7
  have hx3 := hid hb
  have hz3 : w.heap.size + 1 < w3.heap.size := by have := hb.size; omega
  clear hb hf2
  cases f2
  · go_wp2
    go_ret
    refine ⟨rfl, ?_⟩
    (repeat (first | exact Ext.refl _ | refine Ext.alloc ?_ _ | refine Ext.drewN ?_ _ | refine Ext.drew ?_ | refine Ext.trans ?_ (Hid.out (by assumption))))
  clear HF1
  by_cases h16 : 16 < m.m.v.n
  · go_wp2
    go_ret
    refine ⟨rfl, ?_⟩
    (repeat (first | exact Ext.refl _ | refine Ext.alloc ?_ _ | refine Ext.drewN ?_ _ | refine Ext.drew ?_ | refine Ext.trans ?_ (Hid.out (by assumption))))
  go_wp2_with fail
  refine (ends_any s (ls.map (·.x)) (ps.map (·.x)) (os.map (·.x)) a os.length cap m.m m.vs _ (HS.out.l.evs.ext (by (repeat (first | exact Ext.refl _ | refine Ext.alloc ?_ _ | refine Ext.drewN ?_ _ | refine Ext.drew ?_ | refine Ext.trans ?_ (Hid.out (by assumption)))))) (HS.out.p.evs.ext (by (repeat (first | exact Ext.refl _ | refine Ext.alloc ?_ _ | refine Ext.drewN ?_ _ | refine Ext.drew ?_ | refine Ext.trans ?_ (Hid.out (by assumption)))))) (HO.out.evs.ext (by (repeat (first | exact Ext.refl _ | refine Ext.alloc ?_ _ | refine Ext.drewN ?_ _ | refine Ext.drew ?_ | refine Ext.trans ?_ (Hid.out (by assumption)))))) (HV.out.ext (by (repeat (first | exact Ext.refl _ | refine Ext.alloc ?_ _ | refine Ext.drewN ?_ _ | refine Ext.drew ?_ | refine Ext.trans ?_ (Hid.out (by assumption))))))).mono ?_
  rintro e w4 ⟨la, ln, lc, rfl, hL, hb⟩
  have hlaw := ends_law (knows (ls.map (·.x)) (ps.map (·.x)) (os.map (·.x))) m.vs
  have hboth := fun v hv => ends_both (kn := knows (ls.map (·.x)) (ps.map (·.x)) (os.map (·.x))) (vs := m.vs) (by have := hvn.out; omega) (v := v) hv
  generalize endsOf (knows (ls.map (·.x)) (ps.map (·.x)) (os.map (·.x))) m.vs = L at hL hlaw hboth
  obtain rfl := hL.neq
  have ds0 := hb.keep cs0; have ds1 := hb.keep cs1; have ds2 := hb.keep cs2; have ds3 := hb.keep cs3
  clear cs0 cs1 cs2 cs3
  have dm0 := hb.keep cm0; have dm1 := hb.keep cm1; have dm2 := hb.keep cm2; have dm3 := hb.keep cm3; have dm4 := hb.keep cm4; have dm5 := hb.keep cm5; have dm6 := hb.keep cm6; have dm7 := hb.keep cm7
  clear cm0 cm1 cm2 cm3 cm4 cm5 cm6 cm7
  have hx4 := hid hb
  have hz4 : w.heap.size + 1 < w4.heap.size := by have := hb.size; omega
  have HL := hid hL
  have HW := hid hlaw
  have HB2 := hid hboth
  have hm4 := hL.max
  have hm5 := hL.len
  unfold maxLen at hm4
  have hL16 : L.length ≤ 16 := by have := hlaw.len; have := hvn.out; omega
  clear hb hL hlaw hboth
  go_wp2_with fail
  go_loopg [9, 10, 11, 12] (L.length) (fun g st _ _ _ wr => ∃ k : Nat, g + k = L.length ∧ st = .int .i64 k ∧ Hid (Ext w4 wr))
  case atStart => exact ⟨0, by omega, rfl, Ext.refl _⟩
  case round =>
    obtain ⟨k, hg, rfl, hx⟩ := hrel
    obtain ⟨G, hG⟩ : ∃ G, G = gk := ⟨_, rfl⟩
    by_cases hk : k < L.length
    · obtain ⟨b, o, rfl, hc⟩ := HL.out.get k hk
      have HC := hid hc
      clear hc
      have b0 : (0 : Int) ≤ (k : Int) := by omega
      have b1 : (k : Int) < (L.length : Int) := by omega
      go_wp2_with fail
      go_loopg [10, 11] (m.m.v.n) (fun g vv st wl => ∃ j : Nat, g + j = m.m.v.n ∧ st = .int .i64 j ∧ vv = .bool ((m.vs.take j).any (fun v => idEq v.id L[k])) ∧ Hid (Ext wr wl))
      case atStart => exact ⟨0, by omega, rfl, rfl, Ext.refl _⟩
      case round =>
        obtain ⟨j, hg2, rfl, rfl, hy⟩ := hrel
        rename World => wl
        have hE4 : Ext w4 wl := (by (repeat (first | exact Ext.refl _ | refine Ext.alloc ?_ _ | refine Ext.drewN ?_ _ | refine Ext.drew ?_ | refine Ext.trans ?_ (Hid.out (by assumption)))))
        have km0 := hE4.keep dm0; have km1 := hE4.keep dm1; have km2 := hE4.keep dm2; have km3 := hE4.keep dm3; have km4 := hE4.keep dm4; have km5 := hE4.keep dm5; have km6 := hE4.keep dm6; have km7 := hE4.keep dm7
        obtain ⟨e0, e1, e2⟩ := cells3 (w := wl) (b := b) (o := o + k * 3) (x := L[k]) (fun q v hq => hE4.keep (HC.out q v hq))
        by_cases hj : j < m.m.v.n
        · have hj' : j < m.vs.length := by have := hvn.out; omega
          obtain ⟨b', o', hva, hc'⟩ := HV.out.get j hj'
          rw [hva] at km2
          have hE : Ext w wl := (by (repeat (first | exact Ext.refl _ | refine Ext.alloc ?_ _ | refine Ext.drewN ?_ _ | refine Ext.drew ?_ | refine Ext.trans ?_ (Hid.out (by assumption)))))
          obtain ⟨v0, v1, v2, v3⟩ := cells4 (w := wl) (b := b') (o := o' + j * 4) (x := m.vs[j]) (fun q v hq => hE.keep (hc' q v hq))
          clear hc' hE4 hE
          have hva' := hid hva
          clear hva
          have d0 : (0 : Int) ≤ (j : Int) := by omega
          have d1 : (j : Int) < (m.m.v.n : Int) := by omega
          cases hv : (m.vs.take j).any (fun v => idEq v.id L[k]) with
          | true =>
            have Hv := hid hv
            clear hv
            go_wp2_with fail
            go_quiet (fail)
            go_wp2
            go_roundg (gk - 1)
            case measure => omega
            case rel => exact ⟨j + 1, by omega, by go_num, by (rw [any_succ hj', Hv.out]; rfl), (by (repeat (first | exact Ext.refl _ | refine Ext.alloc ?_ _ | refine Ext.drewN ?_ _ | refine Ext.drew ?_ | refine Ext.trans ?_ (Hid.out (by assumption)))))⟩
          | false =>
            have Hv := hid hv
            clear hv
            have heq := run_eqId m.vs[j].id.b m.vs[j].id.l m.vs[j].id.s L[k].b L[k].l L[k].s
            cases he : idEq m.vs[j].id L[k]
            all_goals
              have He := hid he
              have he' : idEq ⟨m.vs[j].id.b, m.vs[j].id.l, m.vs[j].id.s⟩ ⟨L[k].b, L[k].l, L[k].s⟩ = _ := he
              clear he
              go_wp2_with fail
              go_quiet (fail)
              go_wp2
              go_roundg (gk - 1)
              case measure => omega
              case rel => exact ⟨j + 1, by omega, by go_num, by (rw [any_succ hj', Hv.out, He.out]; rfl), (by (repeat (first | exact Ext.refl _ | refine Ext.alloc ?_ _ | refine Ext.drewN ?_ _ | refine Ext.drew ?_ | refine Ext.trans ?_ (Hid.out (by assumption)))))⟩
        · have ej : (m.vs.take j).any (fun v => idEq v.id L[k]) = true := by
            rw [List.take_of_length_le (by have := hvn.out; omega)]
            exact HW.out.voted _ (List.getElem_mem hk)
          rw [ej]
          clear ej
          go_wp2_with fail
          go_loopg [10, 12] (k) (fun g vv st wm => ∃ j : Nat, g + j = k ∧ st = .int .i64 j ∧ vv = .bool true ∧ Hid (Ext wl wm))
          case atStart => exact ⟨0, by omega, rfl, rfl, Ext.refl _⟩
          case round =>
            obtain ⟨j2, hg3, rfl, rfl, hz⟩ := hrel
            rename World => wm
            have hE4 : Ext w4 wm := (by (repeat (first | exact Ext.refl _ | refine Ext.alloc ?_ _ | refine Ext.drewN ?_ _ | refine Ext.drew ?_ | refine Ext.trans ?_ (Hid.out (by assumption)))))
            obtain ⟨e0, e1, e2⟩ := cells3 (w := wm) (b := b) (o := o + k * 3) (x := L[k]) (fun q v hq => hE4.keep (HC.out q v hq))
            by_cases hj2 : j2 < k
            · have hj2' : j2 < L.length := by omega
              obtain ⟨b', o', hva, hc'⟩ := HL.out.get j2 hj2'
              simp only [Option.some.injEq, Addr.mk.injEq, and_true] at hva
              obtain ⟨rfl, rfl⟩ := hva
              obtain ⟨v0, v1, v2⟩ := cells3 (w := wm) (b := b) (o := o + j2 * 3) (x := L[j2]) (fun q v hq => hE4.keep (hc' q v hq))
              clear hc' hE4
              have d0 : (0 : Int) ≤ (j2 : Int) := by omega
              have d1 : (j2 : Int) < (L.length : Int) := by omega
              have heq := run_neqId L[j2].b L[j2].l L[j2].s L[k].b L[k].l L[k].s
              have he' : (!idEq ⟨L[j2].b, L[j2].l, L[j2].s⟩ ⟨L[k].b, L[k].l, L[k].s⟩) = true := by
                have := HW.out.once k j2 hk hj2
                rw [Bool.not_eq_true']; exact this
              go_wp2_with fail
              go_quiet (fail)
              go_wp2
              go_roundg (gk - 1)
              case measure => omega
              case rel => exact ⟨j2 + 1, by omega, by go_num, rfl, (by (repeat (first | exact Ext.refl _ | refine Ext.alloc ?_ _ | refine Ext.drewN ?_ _ | refine Ext.drew ?_ | refine Ext.trans ?_ (Hid.out (by assumption)))))⟩
            · have ks0 := hE4.keep ds0; have ks1 := hE4.keep ds1; have ks2 := hE4.keep ds2; have ks3 := hE4.keep ds3
              have hkn := HW.out.known _ (List.getElem_mem hk)
              unfold knows at hkn
              simp only [Bool.or_eq_false_iff] at hkn
              have HA := hid hkn.1.1
              have HB := hid hkn.1.2
              clear hE4 hkn
              go_wp2_with fail
              go_region_held3 (fun w' => w'.cell? ⟨w.heap.size, 0, none⟩ = some (.int .u64 s.life) ∧ w'.cell? ⟨w.heap.size, 1, none⟩ = some (.slice s.l.a s.l.n s.l.c) ∧ w'.cell? ⟨w.heap.size, 2, none⟩ = some (.slice s.p.a s.p.n s.p.c) ∧ w'.cell? ⟨w.heap.size, 3, none⟩ = some (.slice s.b.a s.b.n s.b.c) ∧ w'.cell? ⟨b, o + k * 3, none⟩ = some (.int .i64 L[k].b) ∧ w'.cell? ⟨b, o + k * 3 + 1, none⟩ = some (.int .u64 L[k].l) ∧ w'.cell? ⟨b, o + k * 3 + 2, none⟩ = some (.int .u64 L[k].s))
                (first | (go_split_ands; refine ⟨?_, ?_, ?_, ?_, ?_, ?_, ?_⟩ <;> exact (Hid.out hy).keep (by assumption)) | go_keep)
                (first | (go_at_call 27; refine (has_any s (ls.map (·.x)) L[k] _ (HS.out.l.evs.ext (by (repeat (first | exact Ext.refl _ | refine Ext.alloc ?_ _ | refine Ext.drewN ?_ _ | refine Ext.drew ?_ | refine Ext.trans ?_ (Hid.out (by assumption))))))).mono ?_; rintro e wq ⟨he, hb⟩; rw [HA.out] at he; subst he; have hy := hid hb; clear hb) | (go_at_call 28; refine (promised_any s (ps.map (·.x)) L[k] _ (HS.out.p.evs.ext (by (repeat (first | exact Ext.refl _ | refine Ext.alloc ?_ _ | refine Ext.drewN ?_ _ | refine Ext.drew ?_ | refine Ext.trans ?_ (Hid.out (by assumption))))))).mono ?_; rintro e wq ⟨he, hb⟩; rw [HB.out] at he; subst he; have hy := hid hb; clear hb))
              all_goals
                go_wp2
                go_roundg (G - 1)
                case measure => omega
                case rel => exact ⟨k + 1, by omega, by go_num, (by (repeat (first | exact Ext.refl _ | refine Ext.alloc ?_ _ | refine Ext.drewN ?_ _ | refine Ext.drew ?_ | refine Ext.trans ?_ (Hid.out (by assumption)))))⟩
    · go_wp2_with fail
      go_loopg [13, 14, 15, 16, 17, 18] (m.m.v.n) (fun g st _ _ _ _ _ wq => ∃ k : Nat, g + k = m.m.v.n ∧ st = .int .i64 k ∧ Hid (Ext wr wq))
      case atStart => exact ⟨0, by omega, rfl, Ext.refl _⟩
      case round =>
        obtain ⟨k2, hg2, rfl, hx'⟩ := hrel
        rename World => wv
        obtain ⟨G2, hG2⟩ : ∃ G2, G2 = gk := ⟨_, rfl⟩
        have hE4 : Ext w4 wv := (by (repeat (first | exact Ext.refl _ | refine Ext.alloc ?_ _ | refine Ext.drewN ?_ _ | refine Ext.drew ?_ | refine Ext.trans ?_ (Hid.out (by assumption)))))
        have km0 := hE4.keep dm0; have km1 := hE4.keep dm1; have km2 := hE4.keep dm2; have km3 := hE4.keep dm3; have km4 := hE4.keep dm4; have km5 := hE4.keep dm5; have km6 := hE4.keep dm6; have km7 := hE4.keep dm7
        by_cases hk2 : k2 < m.m.v.n
        · have hj' : k2 < m.vs.length := by have := hvn.out; omega
          obtain ⟨b', o', hva, hc'⟩ := HV.out.get k2 hj'
          rw [hva] at km2
          have hE : Ext w wv := (by (repeat (first | exact Ext.refl _ | refine Ext.alloc ?_ _ | refine Ext.drewN ?_ _ | refine Ext.drew ?_ | refine Ext.trans ?_ (Hid.out (by assumption)))))
          obtain ⟨v0, v1, v2, v3⟩ := cells4 (w := wv) (b := b') (o := o' + k2 * 4) (x := m.vs[k2]) (fun q v hq => hE.keep (hc' q v hq))
          clear hc'
          have hva' := hid hva
          clear hva
          have d0 : (0 : Int) ≤ (k2 : Int) := by omega
          have d1 : (k2 : Int) < (m.m.v.n : Int) := by omega
          have q0 := hE4.keep ds0; have q1 := hE4.keep ds1; have q2 := hE4.keep ds2; have q3 := hE4.keep ds3
          have bx := (Ext.refl wv).alloc (Obj.cells #[.int .i64 m.vs[k2].id.b, .int .u64 m.vs[k2].id.l, .int .u64 m.vs[k2].id.s] 30)
          have r0 := bx.keep q0
          have r1 := bx.keep q1
          have r2 := bx.keep q2
          have r3 := bx.keep q3
          have j0 : (wv.alloc (Obj.cells #[.int .i64 m.vs[k2].id.b, .int .u64 m.vs[k2].id.l, .int .u64 m.vs[k2].id.s] 30)).cell? ⟨wv.heap.size, 0, none⟩ = some (.int .i64 m.vs[k2].id.b) := cellH (heap_alloc_new _ _) rfl
          have j1 : (wv.alloc (Obj.cells #[.int .i64 m.vs[k2].id.b, .int .u64 m.vs[k2].id.l, .int .u64 m.vs[k2].id.s] 30)).cell? ⟨wv.heap.size, 1, none⟩ = some (.int .u64 m.vs[k2].id.l) := cellH (heap_alloc_new _ _) rfl
          have j2 : (wv.alloc (Obj.cells #[.int .i64 m.vs[k2].id.b, .int .u64 m.vs[k2].id.l, .int .u64 m.vs[k2].id.s] 30)).cell? ⟨wv.heap.size, 2, none⟩ = some (.int .u64 m.vs[k2].id.s) := cellH (heap_alloc_new _ _) rfl
          have hzr : w.heap.size < wv.heap.size := by have := hE4.size; omega
          have hBoth := hid (HB2.out m.vs[k2] (List.getElem_mem hj'))
          clear hE hE4 bx
          go_upto_region 23 with (fail)
          go_cut [15] (fun c wx => c = .bool ((ls.map (·.x)).any (fun x : EV => idEq x.id m.vs[k2].id) || (ps.map (·.x)).any (fun x : EV => idEq x.id m.vs[k2].id)) ∧ Hid (Ext wv wx) ∧ wx.cell? ⟨wv.heap.size, 0, none⟩ = some (.int .i64 m.vs[k2].id.b) ∧ wx.cell? ⟨wv.heap.size, 1, none⟩ = some (.int .u64 m.vs[k2].id.l) ∧ wx.cell? ⟨wv.heap.size, 2, none⟩ = some (.int .u64 m.vs[k2].id.s))
          case first =>
            as_aux_lemma =>
              cases hA : (ls.map (·.x)).any (fun x : EV => idEq x.id m.vs[k2].id) with
              | true =>
                have HA := hid hA
                clear hA
                go_wp2_with (go_at_call 27; refine (has_any s (ls.map (·.x)) m.vs[k2].id _ (HS.out.l.evs.ext (by (repeat (first | exact Ext.refl _ | refine Ext.alloc ?_ _ | refine Ext.drewN ?_ _ | refine Ext.drew ?_ | refine Ext.trans ?_ (Hid.out (by assumption))))))).mono ?_; rintro e wq ⟨he, hb⟩; rw [HA.out] at he; subst he; have j0 := hb.keep j0; have j1 := hb.keep j1; have j2 := hb.keep j2; have r0 := hb.keep r0; have r1 := hb.keep r1; have r2 := hb.keep r2; have r3 := hb.keep r3; have hxq := hid hb; clear hb)
                go_meet
                exact ⟨(by rw [HA.out]; rfl), (by (repeat (first | exact Ext.refl _ | refine Ext.alloc ?_ _ | refine Ext.drewN ?_ _ | refine Ext.drew ?_ | refine Ext.trans ?_ (Hid.out (by assumption))))), j0, j1, j2⟩
              | false =>
                have HA := hid hA
                clear hA
                cases hB : (ps.map (·.x)).any (fun x : EV => idEq x.id m.vs[k2].id)
                all_goals
                  have HB := hid hB
                  clear hB
                  go_wp2_with (first | (go_at_call 27; refine (has_any s (ls.map (·.x)) m.vs[k2].id _ (HS.out.l.evs.ext (by (repeat (first | exact Ext.refl _ | refine Ext.alloc ?_ _ | refine Ext.drewN ?_ _ | refine Ext.drew ?_ | refine Ext.trans ?_ (Hid.out (by assumption))))))).mono ?_; rintro e wq ⟨he, hb⟩; rw [HA.out] at he; subst he; have j0 := hb.keep j0; have j1 := hb.keep j1; have j2 := hb.keep j2; have r0 := hb.keep r0; have r1 := hb.keep r1; have r2 := hb.keep r2; have r3 := hb.keep r3; have hxq := hid hb; clear hb) | (go_at_call 28; refine (promised_any s (ps.map (·.x)) m.vs[k2].id _ (HS.out.p.evs.ext (by (repeat (first | exact Ext.refl _ | refine Ext.alloc ?_ _ | refine Ext.drewN ?_ _ | refine Ext.drew ?_ | refine Ext.trans ?_ (Hid.out (by assumption))))))).mono ?_; rintro e wq ⟨he, hb⟩; rw [HB.out] at he; subst he; have j0 := hb.keep j0; have j1 := hb.keep j1; have j2 := hb.keep j2; have r0 := hb.keep r0; have r1 := hb.keep r1; have r2 := hb.keep r2; have r3 := hb.keep r3; have hxq := hid hb; clear hb))
                  go_meet
                  exact ⟨(by rw [HA.out, HB.out]; rfl), (by (repeat (first | exact Ext.refl _ | refine Ext.alloc ?_ _ | refine Ext.drewN ?_ _ | refine Ext.drew ?_ | refine Ext.trans ?_ (Hid.out (by assumption))))), j0, j1, j2⟩
          case rest =>
            obtain ⟨rfl, hxq, j0, j1, j2⟩ := hcut
            rename World => wq
            generalize hK0 : ((ls.map (·.x)).any (fun x : EV => idEq x.id m.vs[k2].id) || (ps.map (·.x)).any (fun x : EV => idEq x.id m.vs[k2].id)) = K0
            have HK0 := hid hK0
            clear hK0
            go_wp2_with fail
            go_loopg [15, 16] (os.length) (fun g vv st wl => ∃ j : Nat, g + j = os.length ∧ st = .int .i64 j ∧ vv = .bool (K0 || (os.take j).any (fun p => idEq p.x.id m.vs[k2].id)) ∧ Hid (Ext wq wl))
            case atStart => exact ⟨0, by omega, rfl, by simp, Ext.refl _⟩
            case round =>
              obtain ⟨j, hg3, rfl, rfl, hy⟩ := hrel
              rename World => wl
              have t0 := hy.out.keep j0
              have t1 := hy.out.keep j1
              have t2 := hy.out.keep j2
              by_cases hj : j < os.length
              · obtain ⟨b', o', rfl, hc'⟩ := HO.out.sl.get j hj
                have hE : Ext w wl := (by (repeat (first | exact Ext.refl _ | refine Ext.alloc ?_ _ | refine Ext.drewN ?_ _ | refine Ext.drew ?_ | refine Ext.trans ?_ (Hid.out (by assumption)))))
                obtain ⟨e0, e1, e2, e3, e4, e5, e6, e7⟩ := cells8 (w := wl) (b := b') (o := o' + j * 8) (x := os[j].x) (fun q v hq => hE.keep (hc' q v hq))
                clear hc' hE
                have d0 : (0 : Int) ≤ (j : Int) := by omega
                have d1 : (j : Int) < (os.length : Int) := by omega
                cases hv : (K0 || (os.take j).any (fun p => idEq p.x.id m.vs[k2].id)) with
                | true =>
                  have Hv := hid hv
                  clear hv
                  go_wp2_with fail
                  go_quiet (fail)
                  go_wp2
                  go_roundg (gk - 1)
                  case measure => omega
                  case rel => exact ⟨j + 1, by omega, by go_num, by (rw [any_succ hj, ← Bool.or_assoc, Hv.out]; rfl), (by (repeat (first | exact Ext.refl _ | refine Ext.alloc ?_ _ | refine Ext.drewN ?_ _ | refine Ext.drew ?_ | refine Ext.trans ?_ (Hid.out (by assumption)))))⟩
                | false =>
                  have Hv := hid hv
                  clear hv
                  have heq := run_eqId os[j].x.id.b os[j].x.id.l os[j].x.id.s m.vs[k2].id.b m.vs[k2].id.l m.vs[k2].id.s
                  cases he : idEq os[j].x.id m.vs[k2].id
                  all_goals
                    have He := hid he
                    have he' : idEq ⟨os[j].x.id.b, os[j].x.id.l, os[j].x.id.s⟩ ⟨m.vs[k2].id.b, m.vs[k2].id.l, m.vs[k2].id.s⟩ = _ := he
                    clear he
                    go_wp2_with fail
                    go_quiet (fail)
                    go_wp2
                    go_roundg (gk - 1)
                    case measure => omega
                    case rel => exact ⟨j + 1, by omega, by go_num, by (rw [any_succ hj, ← Bool.or_assoc, Hv.out, He.out]; rfl), (by (repeat (first | exact Ext.refl _ | refine Ext.alloc ?_ _ | refine Ext.drewN ?_ _ | refine Ext.drew ?_ | refine Ext.trans ?_ (Hid.out (by assumption)))))⟩
              · have hkn : (K0 || (os.take j).any (fun p => idEq p.x.id m.vs[k2].id)) = knows (ls.map (·.x)) (ps.map (·.x)) (os.map (·.x)) m.vs[k2].id := by
                  rw [List.take_of_length_le (by omega), ← HK0.out]
                  unfold knows
                  rw [List.any_map (l := os)]; rfl
                rw [hkn]
                clear hkn
                generalize hKn : knows (ls.map (·.x)) (ps.map (·.x)) (os.map (·.x)) m.vs[k2].id = KN
                have hb2 := hBoth.out
                rw [hKn] at hb2
                have HKN := hid hb2
                clear hKn hb2
                go_wp2_with fail
                go_loopg [17, 18] (L.length) (fun g vv st wm => ∃ i : Nat, g + i = L.length ∧ st = .int .i64 i ∧ vv = .bool ((L.take i).any (fun x => idEq x m.vs[k2].id)) ∧ Hid (Ext wl wm))
                case atStart => exact ⟨0, by omega, rfl, by simp, Ext.refl _⟩
                case round =>
                  obtain ⟨i, hg4, rfl, rfl, hz⟩ := hrel
                  rename World => wm
                  have t0 := hz.out.keep t0
                  have t1 := hz.out.keep t1
                  have t2 := hz.out.keep t2
                  by_cases hi : i < L.length
                  · obtain ⟨b', o', rfl, hc'⟩ := HL.out.get i hi
                    have hE : Ext w4 wm := (by (repeat (first | exact Ext.refl _ | refine Ext.alloc ?_ _ | refine Ext.drewN ?_ _ | refine Ext.drew ?_ | refine Ext.trans ?_ (Hid.out (by assumption)))))
                    obtain ⟨e0, e1, e2⟩ := cells3 (w := wm) (b := b') (o := o' + i * 3) (x := L[i]) (fun q v hq => hE.keep (hc' q v hq))
                    clear hc' hE
                    have d0 : (0 : Int) ≤ (i : Int) := by omega
                    have d1 : (i : Int) < (L.length : Int) := by omega
                    cases hv : (L.take i).any (fun x => idEq x m.vs[k2].id) with
                    | true =>
                      have Hv := hid hv
                      clear hv
                      go_wp2_with fail
                      go_quiet (fail)
                      go_wp2
                      go_roundg (gk - 1)
                      case measure => omega
                      case rel => exact ⟨i + 1, by omega, by go_num, by (rw [any_succ hi, Hv.out]; rfl), (by (repeat (first | exact Ext.refl _ | refine Ext.alloc ?_ _ | refine Ext.drewN ?_ _ | refine Ext.drew ?_ | refine Ext.trans ?_ (Hid.out (by assumption)))))⟩
                    | false =>
                      have Hv := hid hv
                      clear hv
                      have heq := run_eqId L[i].b L[i].l L[i].s m.vs[k2].id.b m.vs[k2].id.l m.vs[k2].id.s
                      cases he : idEq L[i] m.vs[k2].id
                      all_goals
                        have He := hid he
                        have he' : idEq ⟨L[i].b, L[i].l, L[i].s⟩ ⟨m.vs[k2].id.b, m.vs[k2].id.l, m.vs[k2].id.s⟩ = _ := he
                        clear he
                        go_wp2_with fail
                        go_quiet (fail)
                        go_wp2
                        go_roundg (gk - 1)
                        case measure => omega
                        case rel => exact ⟨i + 1, by omega, by go_num, by (rw [any_succ hi, Hv.out, He.out]; rfl), (by (repeat (first | exact Ext.refl _ | refine Ext.alloc ?_ _ | refine Ext.drewN ?_ _ | refine Ext.drew ?_ | refine Ext.trans ?_ (Hid.out (by assumption)))))⟩
                  · have ei : (L.take i).any (fun x => idEq x m.vs[k2].id) = !KN := by
                      rw [List.take_of_length_le (by omega)]; exact HKN.out
                    rw [ei]
                    clear ei
                    cases KN
                    all_goals
                      go_wp2_with fail
                      go_roundg (G2 - 1)
                      case measure => omega
                      case rel => exact ⟨k2 + 1, by omega, by go_num, (by (repeat (first | exact Ext.refl _ | refine Ext.alloc ?_ _ | refine Ext.drewN ?_ _ | refine Ext.drew ?_ | refine Ext.trans ?_ (Hid.out (by assumption)))))⟩
        · go_wp2
          go_ret
          refine ⟨rfl, ?_⟩
          (repeat (first | exact Ext.refl _ | refine Ext.alloc ?_ _ | refine Ext.drewN ?_ _ | refine Ext.drew ?_ | refine Ext.trans ?_ (Hid.out (by assumption))))
end Go.Proofs.Ytncadipipomebaa
