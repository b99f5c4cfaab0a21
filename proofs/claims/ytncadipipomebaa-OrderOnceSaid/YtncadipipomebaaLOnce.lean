/- No entry is opened that is known, or twice: the statement's walk. -/
import Derived.Test.YtncadipipomebaaFew19
import Derived.Test.YtncadipipomebaaSame
import Derived.Test.YtncadipipomebaaOpen
import Derived.Test.YtncadipipomebaaRTally
import Derived.Test.YtncadipipomebaaLOnceP
import Derived.Deep.RegionHeld3
import Derived.Deep.DeepCutAuto
namespace Go.Proofs.Ytncadipipomebaa
open Go.RowKit
attribute [local go_sem ↓] Go.wp_at_zero Go.wp_at_succ

theorem Ents.take {w : World} {a : Option Addr} {n cap : Nat} {ps : List EP} (h : Ents w a n cap ps) (k : Nat) (hk : k ≤ n) : Ents w a k cap (ps.take k) := ⟨h.sl.take k hk, fun p hp => h.is p (List.mem_of_mem_take hp)⟩
/-- what the entries of one of the two lists are -/
structure OkL (kn : Id → Bool) (one : Bool) (lo : Nat) (ps : List EP) : Prop where
  k : ∀ (i : Nat) (hi : i < ps.length), lo ≤ i → (ps[i].x.k == 1) = one
  kn : ∀ (i : Nat) (hi : i < ps.length), lo ≤ i → kn ps[i].x.id = false
  once : ∀ (i : Nat) (hi : i < ps.length), lo ≤ i → ∀ (j : Nat) (hj : j < i), idEq (ps[j]'(by omega)).x.id ps[i].x.id = false
theorem okl_of {kn : Id → Bool} {one : Bool} {lo : Nat} {ps : List EP} {ds : List ED} (hm : ps.map (·.d) = ds) {w : World} (his : ∀ p, p ∈ ps → EntryIs w p.x p.d)
    (h : ∀ (i : Nat) (hi : i < ds.length), lo ≤ i → (ds[i].k == 1) = one ∧ kn ds[i].id = false ∧ ∀ (j : Nat) (hj : j < i), idEq (ds[j]'(by omega)).id ds[i].id = false) : OkL kn one lo ps := by
  subst hm
  have g : ∀ (i : Nat) (hi : i < ps.length), (ps.map (·.d))[i]'(by simpa using hi) = ps[i].d := fun i hi => by simp
  refine ⟨fun i hi hl => ?_, fun i hi hl => ?_, fun i hi hl j hj => ?_⟩
  · have := (h i (by simpa using hi) hl).1; rw [g i hi] at this; rw [(his _ (List.getElem_mem hi)).k]; exact this
  · have := (h i (by simpa using hi) hl).2.1; rw [g i hi] at this; rw [(his _ (List.getElem_mem hi)).id]; exact this
  · have := (h i (by simpa using hi) hl).2.2 j hj; rw [g i hi, g j (by omega)] at this
    rw [(his _ (List.getElem_mem hi)).id, (his _ (List.getElem_mem (by omega : j < ps.length))).id]; exact this

set_option maxRecDepth 100000 in
set_option maxHeartbeats 4000000 in
theorem once19l_any (s : StV) (ls ps : List EP) (bs : List Id) (oa : Option Addr) (on oc : Nat) (os : List EP) (la : Option Addr) (ln lc : Nat) (xs : List EP) (w : World) (hS : StIs w s ls ps bs) (hO : Ents w oa on oc os) (hX : Ents w la ln lc xs) :
    Calls Try.prog 10 #[.agg #[.int .u64 s.life, .slice s.l.a s.l.n s.l.c, .slice s.p.a s.p.n s.p.c, .slice s.b.a s.b.n s.b.c], .slice oa on oc, .slice la ln lc] w fun e w' => e = .returned (.bool true) ∧ Ext w w' := by
  obtain rfl := hX.sl.neq
  obtain rfl := hO.sl.neq
  have hm1 := hX.sl.max
  have hl1 := hX.sl.len
  have hm2 := hO.sl.max
  have hl2 := hO.sl.len
  unfold maxLen at hm1 hm2
  have HS := hid hS
  have HO := hid hO
  have HX := hid hX
  clear hS hO hX
  go_enter Try.func10, Try.ntmps10
  go_wp2_with fail
  have BS : (w.alloc (Obj.cells #[.int .u64 s.life, .slice s.l.a s.l.n s.l.c, .slice s.p.a s.p.n s.p.c, .slice s.b.a s.b.n s.b.c] 27)).heap[w.heap.size]? = some (Obj.cells #[.int .u64 s.life, .slice s.l.a s.l.n s.l.c, .slice s.p.a s.p.n s.p.c, .slice s.b.a s.b.n s.b.c] 27) := by (repeat (first | (refine heap_new ?_; (simp; done)) | refine heap_old (by first | (simp; done) | (simp; omega)) ?_))
  refine (awake19_any (w.alloc (Obj.cells #[.int .u64 s.life, .slice s.l.a s.l.n s.l.c, .slice s.p.a s.p.n s.p.c, .slice s.b.a s.b.n s.b.c] 27))).mono ?_
  rintro e w1 ⟨rfl, hb⟩
  have as0 : w1.cell? ⟨w.heap.size, 0, none⟩ = some (.int .u64 s.life) := hb.keep (cellH BS rfl)
  have as1 : w1.cell? ⟨w.heap.size, 1, none⟩ = some (.slice s.l.a s.l.n s.l.c) := hb.keep (cellH BS rfl)
  have as2 : w1.cell? ⟨w.heap.size, 2, none⟩ = some (.slice s.p.a s.p.n s.p.c) := hb.keep (cellH BS rfl)
  have as3 : w1.cell? ⟨w.heap.size, 3, none⟩ = some (.slice s.b.a s.b.n s.b.c) := hb.keep (cellH BS rfl)
  have hx1 := hid hb
  have hz1 : w.heap.size < w1.heap.size := by have := hb.size; simp at this; omega
  clear hb BS
  go_wp2_with fail
  refine (few19_any s ls oa os.length oc os la xs.length lc xs none 0 0 [] _ (HS.out.l.ext (by (repeat (first | exact Ext.refl _ | refine Ext.alloc ?_ _ | refine Ext.drewN ?_ _ | refine Ext.drew ?_ | refine Ext.trans ?_ (Hid.out (by assumption)))))) (HO.out.ext (by (repeat (first | exact Ext.refl _ | refine Ext.alloc ?_ _ | refine Ext.drewN ?_ _ | refine Ext.drew ?_ | refine Ext.trans ?_ (Hid.out (by assumption)))))) (HX.out.ext (by (repeat (first | exact Ext.refl _ | refine Ext.alloc ?_ _ | refine Ext.drewN ?_ _ | refine Ext.drew ?_ | refine Ext.trans ?_ (Hid.out (by assumption)))))) ⟨Sl.nil _ (fun _ => rfl), fun m hm => by cases hm⟩).mono ?_
  rintro e w2 ⟨f1, rfl, hf1, hb⟩
  have bs0 := hb.keep as0; have bs1 := hb.keep as1; have bs2 := hb.keep as2; have bs3 := hb.keep as3
  clear as0 as1 as2 as3
  have hx2 := hid hb
  have hz2 : w.heap.size < w2.heap.size := by have := hb.size; omega
  have HF1 := hid hf1
  clear hb hf1
  cases f1
  · go_wp2
    go_ret
    refine ⟨rfl, ?_⟩
    (repeat (first | exact Ext.refl _ | refine Ext.alloc ?_ _ | refine Ext.drewN ?_ _ | refine Ext.drew ?_ | refine Ext.trans ?_ (Hid.out (by assumption))))
  have ho20 : os.length ≤ 20 := (HF1.out (by trivial)).1.1
  have HOSM := hid (HF1.out (by trivial)).1.2
  have hx20 : xs.length ≤ 20 := (HF1.out (by trivial)).2.2.1.1
  have HXSM := hid (HF1.out (by trivial)).2.2.1.2
  clear HF1
  go_wp2_with fail
  refine (admit_any s (ls.map (·.x)) bs oa os.length oc os la xs.length lc xs _ (HS.out.l.evs.ext (by (repeat (first | exact Ext.refl _ | refine Ext.alloc ?_ _ | refine Ext.drewN ?_ _ | refine Ext.drew ?_ | refine Ext.trans ?_ (Hid.out (by assumption)))))) (HS.out.b.ext (by (repeat (first | exact Ext.refl _ | refine Ext.alloc ?_ _ | refine Ext.drewN ?_ _ | refine Ext.drew ?_ | refine Ext.trans ?_ (Hid.out (by assumption)))))) (HO.out.ext (by (repeat (first | exact Ext.refl _ | refine Ext.alloc ?_ _ | refine Ext.drewN ?_ _ | refine Ext.drew ?_ | refine Ext.trans ?_ (Hid.out (by assumption)))))) HOSM.out (HX.out.ext (by (repeat (first | exact Ext.refl _ | refine Ext.alloc ?_ _ | refine Ext.drewN ?_ _ | refine Ext.drew ?_ | refine Ext.trans ?_ (Hid.out (by assumption)))))) HXSM.out (by omega) (by omega)).mono ?_
  rintro e w3 ⟨pa, pn, pc, qs, ra, rn, rc, rs, rfl, hP, hmP, hR, hmR, hb⟩
  have hlaw := adm_law (knows2 (ls.map (·.x)) bs) (os.map (·.d)) (xs.map (·.d))
  have hlen := adm_len (knows2 (ls.map (·.x)) bs) (xs.map (·.d)) (os.map (·.d), [])
  rw [show (xs.map (·.d)).foldl (admStep (knows2 (ls.map (·.x)) bs)) (os.map (·.d), []) = admOf (knows2 (ls.map (·.x)) bs) (os.map (·.d)) (xs.map (·.d)) from rfl] at hlen
  generalize admOf (knows2 (ls.map (·.x)) bs) (os.map (·.d)) (xs.map (·.d)) = st at hmP hmR hlaw hlen
  obtain ⟨so, sl⟩ := st
  dsimp only at hmP hmR
  have hok1 : OkL (knows2 (ls.map (·.x)) bs) true os.length qs := okl_of hmP hP.is fun i hi hl => by
    obtain ⟨a, b, c⟩ := hlaw.okO i hi (by rw [List.length_map]; exact hl)
    exact ⟨by rw [beq_iff_eq]; exact a, b, c⟩
  have hok2 : OkL (knows2 (ls.map (·.x)) bs) false 0 rs := okl_of hmR hR.is fun i hi _ => by
    obtain ⟨a, b, c⟩ := hlaw.okL i hi
    exact ⟨by rw [beq_eq_false_iff_ne]; exact a, b, c⟩
  obtain rfl := hP.sl.neq
  obtain rfl := hR.sl.neq
  have hq1 : qs.length = so.length := by have := congrArg List.length hmP; rwa [List.length_map] at this
  have hr1 : rs.length = sl.length := by have := congrArg List.length hmR; rwa [List.length_map] at this
  have hge : os.length ≤ qs.length := by have := hlaw.len; rw [List.length_map] at this; dsimp only at this; omega
  have hle : qs.length ≤ os.length ∨ qs.length ≤ 4 := by have := hlaw.max; rw [List.length_map] at this; dsimp only at this; omega
  have hpre : (qs.take os.length).map (·.d) = os.map (·.d) := by
    rw [List.map_take, hmP]; have := hlaw.pre; rw [List.length_map] at this; exact this
  have hr40 : rs.length ≤ 40 := by
    rw [List.length_map, List.length_map] at hlen; dsimp only [List.length_nil] at hlen; omega
  have hq40 : qs.length ≤ 20 := by omega
  have cs0 := hb.keep bs0; have cs1 := hb.keep bs1; have cs2 := hb.keep bs2; have cs3 := hb.keep bs3
  clear bs0 bs1 bs2 bs3
  have hx3 := hid hb
  have hz3 : w.heap.size < w3.heap.size := by have := hb.size; omega
  have HP := hid hP
  have HR := hid hR
  have HOK1 := hid hok1
  have HOK2 := hid hok2
  have HPRE := hid hpre
  have hp5 := hP.sl.len
  have hp6 := hP.sl.max
  have hr5 := hR.sl.len
  have hr6 := hR.sl.max
  unfold maxLen at hp6 hr6
  clear hb hP hR hok1 hok2 hpre hmP hmR hlaw hlen hq1 hr1
  go_upto_region 5 with (fail)
  go_cut [41] (fun c wx => c = .bool false ∧ w3 = wx)
  case first =>
    rcases Nat.lt_or_ge os.length 4 with h4 | h4
    all_goals
      go_wp2_with fail
      go_meet
      exact ⟨(by rw [decide_eq_false (by omega), decide_eq_false (by omega)]; rfl), rfl⟩
  case rest =>
    obtain ⟨rfl, rfl⟩ := hcut
    go_wp2_with fail
    refine (sameE_any pa oa os.length os.length pc oc (qs.take os.length) os _ ((HP.out.take _ hge).ext (by (repeat (first | exact Ext.refl _ | refine Ext.alloc ?_ _ | refine Ext.drewN ?_ _ | refine Ext.drew ?_ | refine Ext.trans ?_ (Hid.out (by assumption)))))) (HO.out.ext (by (repeat (first | exact Ext.refl _ | refine Ext.alloc ?_ _ | refine Ext.drewN ?_ _ | refine Ext.drew ?_ | refine Ext.trans ?_ (Hid.out (by assumption)))))) HPRE.out).mono ?_
    rintro e w4 ⟨rfl, hb⟩
    have ds0 := hb.keep cs0; have ds1 := hb.keep cs1; have ds2 := hb.keep cs2; have ds3 := hb.keep cs3
    clear cs0 cs1 cs2 cs3
    have hx4 := hid hb
    have hz4 : w.heap.size < w4.heap.size := by have := hb.size; omega
    clear hb
    go_wp2_with fail
    go_loopg [11, 12] (qs.length - os.length) (fun g st _ wr => ∃ k : Nat, os.length ≤ k ∧ g + k = qs.length ∧ st = .int .i64 k ∧ Hid (Ext w4 wr))
    case atStart => exact ⟨os.length, by omega, by omega, rfl, Ext.refl _⟩
    case round =>
      obtain ⟨k, hlo, hg, rfl, hx⟩ := hrel
      obtain ⟨G, hG⟩ : ∃ G, G = gk := ⟨_, rfl⟩
      have q0 := hx.out.keep ds0; have q1 := hx.out.keep ds1; have q2 := hx.out.keep ds2; have q3 := hx.out.keep ds3
      have hzr : w.heap.size < wr.heap.size := by have := hx.out.size; omega
      by_cases hk : k < qs.length
      · obtain ⟨b, o, rfl, hc⟩ := HP.out.sl.get k hk
        have HC := hid hc
        have hE : Ext w3 wr := (by (repeat (first | exact Ext.refl _ | refine Ext.alloc ?_ _ | refine Ext.drewN ?_ _ | refine Ext.drew ?_ | refine Ext.trans ?_ (Hid.out (by assumption)))))
        obtain ⟨c0, c1, c2, c3, c4, c5, c6, c7⟩ := cells8 (w := wr) (b := b) (o := o + k * 8) (x := qs[k].x) (fun j v hj => hE.keep (hc j v hj))
        have b0 : (0 : Int) ≤ (k : Int) := by omega
        have b1 : (k : Int) < (qs.length : Int) := by omega
        have hkb : (qs[k].x.k != 1) = false := by have := HOK1.out.k k hk hlo; rw [bne, this]; rfl
        have hkn := HOK1.out.kn k hk hlo
        rw [knows2_eq, Bool.or_eq_false_iff] at hkn
        have HA := hid hkn.1
        have HBB := hid hkn.2
        clear hc hE hkn c4 c5 c6 c7
        go_upto_region 11 with (fail)
        go_cut [79] (fun c wx => c = .bool false ∧ Hid (Ext wr wx))
        case first =>
          as_aux_lemma =>
            go_region_held3 (fun w' => w'.cell? ⟨w.heap.size, 0, none⟩ = some (.int .u64 s.life) ∧ w'.cell? ⟨w.heap.size, 1, none⟩ = some (.slice s.l.a s.l.n s.l.c) ∧ w'.cell? ⟨w.heap.size, 2, none⟩ = some (.slice s.p.a s.p.n s.p.c) ∧ w'.cell? ⟨w.heap.size, 3, none⟩ = some (.slice s.b.a s.b.n s.b.c) ∧ w'.cell? ⟨b, o + k * 8, none⟩ = some (.int .i64 qs[k].x.k) ∧ w'.cell? ⟨b, o + k * 8 + 1, none⟩ = some (.int .i64 qs[k].x.id.b) ∧ w'.cell? ⟨b, o + k * 8 + 2, none⟩ = some (.int .u64 qs[k].x.id.l) ∧ w'.cell? ⟨b, o + k * 8 + 3, none⟩ = some (.int .u64 qs[k].x.id.s))
              (first | (go_split_ands; refine ⟨?_, ?_, ?_, ?_, ?_, ?_, ?_, ?_⟩ <;> exact (Hid.out hy).keep (by assumption)) | go_keep)
              (first | (go_at_call 27; refine (has_any s (ls.map (·.x)) qs[k].x.id _ (HS.out.l.evs.ext (by (repeat (first | exact Ext.refl _ | refine Ext.alloc ?_ _ | refine Ext.drewN ?_ _ | refine Ext.drew ?_ | refine Ext.trans ?_ (Hid.out (by assumption))))))).mono ?_; rintro e wq ⟨he, hb⟩; rw [HA.out] at he; subst he; have hy := hid hb; clear hb) | (go_at_call 29; refine (aborted_any s bs qs[k].x.id _ (HS.out.b.ext (by (repeat (first | exact Ext.refl _ | refine Ext.alloc ?_ _ | refine Ext.drewN ?_ _ | refine Ext.drew ?_ | refine Ext.trans ?_ (Hid.out (by assumption))))))).mono ?_; rintro e wq ⟨he, hb⟩; rw [HBB.out] at he; subst he; have hy := hid hb; clear hb))
            all_goals
              go_wp2_with fail
              go_meet
              exact ⟨rfl, (by (repeat (first | exact Ext.refl _ | refine Ext.alloc ?_ _ | refine Ext.drewN ?_ _ | refine Ext.drew ?_ | refine Ext.trans ?_ (Hid.out (by assumption)))))⟩
        case rest =>
          obtain ⟨rfl, hxq⟩ := hcut
          rename World => wq
          go_wp2_with fail
          go_loopg [12] (k) (fun g st wl => ∃ j : Nat, g + j = k ∧ st = .int .i64 j ∧ Hid (Ext wq wl))
          case atStart => exact ⟨0, by omega, rfl, Ext.refl _⟩
          case round =>
            obtain ⟨j, hg2, rfl, hy⟩ := hrel
            rename World => wl
            by_cases hj : j < k
            · have hE : Ext w3 wl := (by (repeat (first | exact Ext.refl _ | refine Ext.alloc ?_ _ | refine Ext.drewN ?_ _ | refine Ext.drew ?_ | refine Ext.trans ?_ (Hid.out (by assumption)))))
              have hj' : j < qs.length := by omega
              obtain ⟨b', o', hva, hc'⟩ := HP.out.sl.get j hj'
              simp only [Option.some.injEq, Addr.mk.injEq, and_true] at hva
              obtain ⟨rfl, rfl⟩ := hva
              obtain ⟨e0, e1, e2, e3, e4, e5, e6, e7⟩ := cells8 (w := wl) (b := b) (o := o + k * 8) (x := qs[k].x) (fun q v hq => hE.keep (HC.out q v hq))
              obtain ⟨v0, v1, v2, v3, v4, v5, v6, v7⟩ := cells8 (w := wl) (b := b) (o := o + j * 8) (x := qs[j].x) (fun q v hq => hE.keep (hc' q v hq))
              clear hc' hE
              have d0 : (0 : Int) ≤ (j : Int) := by omega
              have d1 : (j : Int) < (qs.length : Int) := by omega
              have heq := run_eqId qs[j].x.id.b qs[j].x.id.l qs[j].x.id.s qs[k].x.id.b qs[k].x.id.l qs[k].x.id.s
              have he' : idEq ⟨qs[j].x.id.b, qs[j].x.id.l, qs[j].x.id.s⟩ ⟨qs[k].x.id.b, qs[k].x.id.l, qs[k].x.id.s⟩ = false := HOK1.out.once k hk hlo j hj
              go_wp2_with fail
              go_quiet (fail)
              go_wp2
              go_roundg (gk - 1)
              case measure => omega
              case rel => exact ⟨j + 1, by omega, by go_num, (by (repeat (first | exact Ext.refl _ | refine Ext.alloc ?_ _ | refine Ext.drewN ?_ _ | refine Ext.drew ?_ | refine Ext.trans ?_ (Hid.out (by assumption)))))⟩
            · go_wp2_with fail
              go_roundg (G - 1)
              case measure => omega
              case rel => exact ⟨k + 1, by omega, by omega, by go_num, (by (repeat (first | exact Ext.refl _ | refine Ext.alloc ?_ _ | refine Ext.drewN ?_ _ | refine Ext.drew ?_ | refine Ext.trans ?_ (Hid.out (by assumption)))))⟩
      · go_wp2_with fail
        go_loopg [13, 14] (rs.length) (fun g st _ wv => ∃ k : Nat, g + k = rs.length ∧ st = .int .i64 k ∧ Hid (Ext wr wv))
        case atStart => exact ⟨0, by omega, rfl, Ext.refl _⟩
        case round =>
          obtain ⟨k, hg, rfl, hx'⟩ := hrel
          rename World => wv
          obtain ⟨G2, hG2⟩ : ∃ G, G = gk := ⟨_, rfl⟩
          have p0 := hx'.out.keep q0; have p1 := hx'.out.keep q1; have p2 := hx'.out.keep q2; have p3 := hx'.out.keep q3
          have hzv : w.heap.size < wv.heap.size := by have := hx'.out.size; omega
          by_cases hk : k < rs.length
          · obtain ⟨b, o, rfl, hc⟩ := HR.out.sl.get k hk
            have HC := hid hc
            have hE : Ext w3 wv := (by (repeat (first | exact Ext.refl _ | refine Ext.alloc ?_ _ | refine Ext.drewN ?_ _ | refine Ext.drew ?_ | refine Ext.trans ?_ (Hid.out (by assumption)))))
            obtain ⟨c0, c1, c2, c3, c4, c5, c6, c7⟩ := cells8 (w := wv) (b := b) (o := o + k * 8) (x := rs[k].x) (fun j v hj => hE.keep (hc j v hj))
            have b0 : (0 : Int) ≤ (k : Int) := by omega
            have b1 : (k : Int) < (rs.length : Int) := by omega
            have hkb : (rs[k].x.k == 1) = false := HOK2.out.k k hk (Nat.zero_le _)
            have hkn := HOK2.out.kn k hk (Nat.zero_le _)
            rw [knows2_eq, Bool.or_eq_false_iff] at hkn
            have HA := hid hkn.1
            have HBB := hid hkn.2
            clear hc hE hkn c4 c5 c6 c7
            go_upto_region 21 with (fail)
            go_cut [125] (fun c wx => c = .bool false ∧ Hid (Ext wv wx))
            case first =>
              as_aux_lemma =>
                go_region_held3 (fun w' => w'.cell? ⟨w.heap.size, 0, none⟩ = some (.int .u64 s.life) ∧ w'.cell? ⟨w.heap.size, 1, none⟩ = some (.slice s.l.a s.l.n s.l.c) ∧ w'.cell? ⟨w.heap.size, 2, none⟩ = some (.slice s.p.a s.p.n s.p.c) ∧ w'.cell? ⟨w.heap.size, 3, none⟩ = some (.slice s.b.a s.b.n s.b.c) ∧ w'.cell? ⟨b, o + k * 8, none⟩ = some (.int .i64 rs[k].x.k) ∧ w'.cell? ⟨b, o + k * 8 + 1, none⟩ = some (.int .i64 rs[k].x.id.b) ∧ w'.cell? ⟨b, o + k * 8 + 2, none⟩ = some (.int .u64 rs[k].x.id.l) ∧ w'.cell? ⟨b, o + k * 8 + 3, none⟩ = some (.int .u64 rs[k].x.id.s))
                  (first | (go_split_ands; refine ⟨?_, ?_, ?_, ?_, ?_, ?_, ?_, ?_⟩ <;> exact (Hid.out hy).keep (by assumption)) | go_keep)
                  (first | (go_at_call 27; refine (has_any s (ls.map (·.x)) rs[k].x.id _ (HS.out.l.evs.ext (by (repeat (first | exact Ext.refl _ | refine Ext.alloc ?_ _ | refine Ext.drewN ?_ _ | refine Ext.drew ?_ | refine Ext.trans ?_ (Hid.out (by assumption))))))).mono ?_; rintro e wq ⟨he, hb⟩; rw [HA.out] at he; subst he; have hy := hid hb; clear hb) | (go_at_call 29; refine (aborted_any s bs rs[k].x.id _ (HS.out.b.ext (by (repeat (first | exact Ext.refl _ | refine Ext.alloc ?_ _ | refine Ext.drewN ?_ _ | refine Ext.drew ?_ | refine Ext.trans ?_ (Hid.out (by assumption))))))).mono ?_; rintro e wq ⟨he, hb⟩; rw [HBB.out] at he; subst he; have hy := hid hb; clear hb))
                all_goals
                  go_wp2_with fail
                  go_meet
                  exact ⟨rfl, (by (repeat (first | exact Ext.refl _ | refine Ext.alloc ?_ _ | refine Ext.drewN ?_ _ | refine Ext.drew ?_ | refine Ext.trans ?_ (Hid.out (by assumption)))))⟩
            case rest =>
              obtain ⟨rfl, hxq⟩ := hcut
              rename World => wq
              go_wp2_with fail
              go_loopg [14] (k) (fun g st wl => ∃ j : Nat, g + j = k ∧ st = .int .i64 j ∧ Hid (Ext wq wl))
              case atStart => exact ⟨0, by omega, rfl, Ext.refl _⟩
              case round =>
                obtain ⟨j, hg2, rfl, hy⟩ := hrel
                rename World => wl
                by_cases hj : j < k
                · have hE : Ext w3 wl := (by (repeat (first | exact Ext.refl _ | refine Ext.alloc ?_ _ | refine Ext.drewN ?_ _ | refine Ext.drew ?_ | refine Ext.trans ?_ (Hid.out (by assumption)))))
                  have hj' : j < rs.length := by omega
                  obtain ⟨b', o', hva, hc'⟩ := HR.out.sl.get j hj'
                  simp only [Option.some.injEq, Addr.mk.injEq, and_true] at hva
                  obtain ⟨rfl, rfl⟩ := hva
                  obtain ⟨e0, e1, e2, e3, e4, e5, e6, e7⟩ := cells8 (w := wl) (b := b) (o := o + k * 8) (x := rs[k].x) (fun q v hq => hE.keep (HC.out q v hq))
                  obtain ⟨v0, v1, v2, v3, v4, v5, v6, v7⟩ := cells8 (w := wl) (b := b) (o := o + j * 8) (x := rs[j].x) (fun q v hq => hE.keep (hc' q v hq))
                  clear hc' hE
                  have d0 : (0 : Int) ≤ (j : Int) := by omega
                  have d1 : (j : Int) < (rs.length : Int) := by omega
                  have heq := run_eqId rs[j].x.id.b rs[j].x.id.l rs[j].x.id.s rs[k].x.id.b rs[k].x.id.l rs[k].x.id.s
                  have he' : idEq ⟨rs[j].x.id.b, rs[j].x.id.l, rs[j].x.id.s⟩ ⟨rs[k].x.id.b, rs[k].x.id.l, rs[k].x.id.s⟩ = false := HOK2.out.once k hk (Nat.zero_le _) j hj
                  go_wp2_with fail
                  go_quiet (fail)
                  go_wp2
                  go_roundg (gk - 1)
                  case measure => omega
                  case rel => exact ⟨j + 1, by omega, by go_num, (by (repeat (first | exact Ext.refl _ | refine Ext.alloc ?_ _ | refine Ext.drewN ?_ _ | refine Ext.drew ?_ | refine Ext.trans ?_ (Hid.out (by assumption)))))⟩
                · go_wp2_with fail
                  go_roundg (G2 - 1)
                  case measure => omega
                  case rel => exact ⟨k + 1, by omega, by go_num, (by (repeat (first | exact Ext.refl _ | refine Ext.alloc ?_ _ | refine Ext.drewN ?_ _ | refine Ext.drew ?_ | refine Ext.trans ?_ (Hid.out (by assumption)))))⟩
          · go_wp2
            go_ret
            refine ⟨rfl, ?_⟩
            (repeat (first | exact Ext.refl _ | refine Ext.alloc ?_ _ | refine Ext.drewN ?_ _ | refine Ext.drew ?_ | refine Ext.trans ?_ (Hid.out (by assumption))))
end Go.Proofs.Ytncadipipomebaa
