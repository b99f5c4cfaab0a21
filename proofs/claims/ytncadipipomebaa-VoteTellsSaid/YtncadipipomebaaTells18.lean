/- What a broker promises, refuses, votes and ends is what the document says: the statement's walk. -/
import Derived.Test.YtncadipipomebaaAwake
import Derived.Test.YtncadipipomebaaOpen
import Derived.Test.YtncadipipomebaaSame
import Derived.Test.YtncadipipomebaaRef18
import Derived.Test.YtncadipipomebaaRTally
import Derived.Test.YtncadipipomebaaREnds
import Derived.Deep.RegionHeld3
import Derived.Deep.DeepCutAuto
namespace Go.Proofs.Ytncadipipomebaa
open Go.RowKit
attribute [local go_sem ↓] Go.wp_at_zero Go.wp_at_succ

set_option maxRecDepth 100000 in
set_option maxHeartbeats 4000000 in
theorem tells18_any (s : StV) (ls ps : List EP) (bs : List Id) (a : Option Addr) (n cap : Nat) (ds : List EP) (ra : Option Addr) (rn rc : Nat) (rs : List Id) (ka : Option Addr) (kn kc : Nat) (kids : List Kid) (i : Id) (w : World)
    (hS : StIs w s ls ps bs) (hL : Ents w a n cap ds) (hR : Sl w 3 Id.cs ra rn rc rs) (hK : Kids3 w ka kn kc kids) :
    Calls Try.prog 4 #[.agg #[.int .u64 s.life, .slice s.l.a s.l.n s.l.c, .slice s.p.a s.p.n s.p.c, .slice s.b.a s.b.n s.b.c], .slice a n cap, .slice ra rn rc, .slice ka kn kc, .agg #[.int .i64 i.b, .int .u64 i.l, .int .u64 i.s]] w fun e w' => e = .returned (.bool true) ∧ Ext w w' := by
  obtain rfl := hL.sl.neq
  obtain rfl := hR.neq
  obtain rfl := hK.ks.sl.neq
  have hm1 := hL.sl.max
  have hl1 := hL.sl.len
  have hm2 := hR.max
  have hl2 := hR.len
  have hm3 := hK.ks.sl.max
  have hl3 := hK.ks.sl.len
  unfold maxLen at hm1 hm2 hm3
  have HS := hid hS
  have HL := hid hL
  have HR := hid hR
  have HK := hid hK
  have HPN := hid hS.p.sl.neq
  clear hS hL hR hK
  go_enter Try.func4, Try.ntmps4
  go_wp2_with fail
  have BS : ((w.alloc (Obj.cells #[.int .u64 s.life, .slice s.l.a s.l.n s.l.c, .slice s.p.a s.p.n s.p.c, .slice s.b.a s.b.n s.b.c] 27)).alloc (Obj.cells #[.int .i64 i.b, .int .u64 i.l, .int .u64 i.s] 30)).heap[w.heap.size]? = some (Obj.cells #[.int .u64 s.life, .slice s.l.a s.l.n s.l.c, .slice s.p.a s.p.n s.p.c, .slice s.b.a s.b.n s.b.c] 27) := by (repeat (first | (refine heap_new ?_; (simp; done)) | refine heap_old (by first | (simp; done) | (simp; omega)) ?_))
  have BI : ((w.alloc (Obj.cells #[.int .u64 s.life, .slice s.l.a s.l.n s.l.c, .slice s.p.a s.p.n s.p.c, .slice s.b.a s.b.n s.b.c] 27)).alloc (Obj.cells #[.int .i64 i.b, .int .u64 i.l, .int .u64 i.s] 30)).heap[w.heap.size + 1]? = some (Obj.cells #[.int .i64 i.b, .int .u64 i.l, .int .u64 i.s] 30) := by (repeat (first | (refine heap_new ?_; (simp; done)) | refine heap_old (by first | (simp; done) | (simp; omega)) ?_))
  refine (awake18_any ((w.alloc (Obj.cells #[.int .u64 s.life, .slice s.l.a s.l.n s.l.c, .slice s.p.a s.p.n s.p.c, .slice s.b.a s.b.n s.b.c] 27)).alloc (Obj.cells #[.int .i64 i.b, .int .u64 i.l, .int .u64 i.s] 30))).mono ?_
  rintro e w1 ⟨rfl, hb⟩
  have as0 : w1.cell? ⟨w.heap.size, 0, none⟩ = some (.int .u64 s.life) := hb.keep (cellH BS rfl)
  have as1 : w1.cell? ⟨w.heap.size, 1, none⟩ = some (.slice s.l.a s.l.n s.l.c) := hb.keep (cellH BS rfl)
  have as2 : w1.cell? ⟨w.heap.size, 2, none⟩ = some (.slice s.p.a s.p.n s.p.c) := hb.keep (cellH BS rfl)
  have as3 : w1.cell? ⟨w.heap.size, 3, none⟩ = some (.slice s.b.a s.b.n s.b.c) := hb.keep (cellH BS rfl)
  have ai0 : w1.cell? ⟨w.heap.size + 1, 0, none⟩ = some (.int .i64 i.b) := hb.keep (cellH BI rfl)
  have ai1 : w1.cell? ⟨w.heap.size + 1, 1, none⟩ = some (.int .u64 i.l) := hb.keep (cellH BI rfl)
  have ai2 : w1.cell? ⟨w.heap.size + 1, 2, none⟩ = some (.int .u64 i.s) := hb.keep (cellH BI rfl)
  have hx1 := hid hb
  have hz1 : w.heap.size + 1 < w1.heap.size := by have := hb.size; simp at this; omega
  clear hb BS BI
  go_wp2_with fail
  refine (few18_any s ls ps bs ka kids.length kc kids _ (HS.out.ext (by (repeat (first | exact Ext.refl _ | refine Ext.alloc ?_ _ | refine Ext.drewN ?_ _ | refine Ext.drew ?_ | refine Ext.trans ?_ (Hid.out (by assumption)))))) (HK.out.ext (by (repeat (first | exact Ext.refl _ | refine Ext.alloc ?_ _ | refine Ext.drewN ?_ _ | refine Ext.drew ?_ | refine Ext.trans ?_ (Hid.out (by assumption))))))).mono ?_
  rintro e w2 ⟨f1, rfl, hf1, hb⟩
  have bs0 := hb.keep as0; have bs1 := hb.keep as1; have bs2 := hb.keep as2; have bs3 := hb.keep as3
  clear as0 as1 as2 as3
  have bi0 := hb.keep ai0; have bi1 := hb.keep ai1; have bi2 := hb.keep ai2
  clear ai0 ai1 ai2
  have hx2 := hid hb
  have hz2 : w.heap.size + 1 < w2.heap.size := by have := hb.size; omega
  have HF1 := hid hf1
  clear hb hf1
  cases f1
  · go_wp2
    go_ret
    refine ⟨rfl, ?_⟩
    (repeat (first | exact Ext.refl _ | refine Ext.alloc ?_ _ | refine Ext.drewN ?_ _ | refine Ext.drew ?_ | refine Ext.trans ?_ (Hid.out (by assumption))))
  go_wp2_with fail
  refine (few18_any ⟨0, ⟨a, ds.length, cap⟩, ⟨none, 0, 0⟩, ⟨none, 0, 0⟩⟩ ds [] [] none 0 0 [] _ ⟨HL.out.ext (by (repeat (first | exact Ext.refl _ | refine Ext.alloc ?_ _ | refine Ext.drewN ?_ _ | refine Ext.drew ?_ | refine Ext.trans ?_ (Hid.out (by assumption))))), Ents.nil _, Sl.nil _ (fun _ => rfl)⟩ ⟨⟨Sl.nil _ (fun _ => rfl), fun m hm => by cases hm⟩, fun m hm => by cases hm⟩).mono ?_
  rintro e w3 ⟨f2, rfl, hf2, hb⟩
  have cs0 := hb.keep bs0; have cs1 := hb.keep bs1; have cs2 := hb.keep bs2; have cs3 := hb.keep bs3
  clear bs0 bs1 bs2 bs3
  have ci0 := hb.keep bi0; have ci1 := hb.keep bi1; have ci2 := hb.keep bi2
  clear bi0 bi1 bi2
  have hx3 := hid hb
  have hz3 : w.heap.size + 1 < w3.heap.size := by have := hb.size; omega
  have HF2 := hid hf2
  clear hb hf2
  cases f2
  · go_wp2
    go_ret
    refine ⟨rfl, ?_⟩
    (repeat (first | exact Ext.refl _ | refine Ext.alloc ?_ _ | refine Ext.drewN ?_ _ | refine Ext.drew ?_ | refine Ext.trans ?_ (Hid.out (by assumption))))
  have HD := hid (HF2.out (by trivial)).1
  have HQ := hid (HF1.out (by trivial)).2.1
  have hp20 : s.p.n ≤ 20 := by have := HQ.out.1; have := HPN.out; omega
  have hd20 : ds.length ≤ 20 := HD.out.1
  have hk6 : kids.length ≤ 6 := (HF1.out (by trivial)).2.2.1
  clear HF1 HF2
  by_cases h50 : 50 < rs.length
  · go_wp2
    go_ret
    refine ⟨rfl, ?_⟩
    (repeat (first | exact Ext.refl _ | refine Ext.alloc ?_ _ | refine Ext.drewN ?_ _ | refine Ext.drew ?_ | refine Ext.trans ?_ (Hid.out (by assumption))))
  go_wp2_with fail
  refine (promise_any s (ls.map (·.x)) (ps.map (·.x)) bs a ds.length cap ds _ (HS.out.l.evs.ext (by (repeat (first | exact Ext.refl _ | refine Ext.alloc ?_ _ | refine Ext.drewN ?_ _ | refine Ext.drew ?_ | refine Ext.trans ?_ (Hid.out (by assumption)))))) (HS.out.p.evs.ext (by (repeat (first | exact Ext.refl _ | refine Ext.alloc ?_ _ | refine Ext.drewN ?_ _ | refine Ext.drew ?_ | refine Ext.trans ?_ (Hid.out (by assumption)))))) (HS.out.b.ext (by (repeat (first | exact Ext.refl _ | refine Ext.alloc ?_ _ | refine Ext.drewN ?_ _ | refine Ext.drew ?_ | refine Ext.trans ?_ (Hid.out (by assumption)))))) (HL.out.ext (by (repeat (first | exact Ext.refl _ | refine Ext.alloc ?_ _ | refine Ext.drewN ?_ _ | refine Ext.drew ?_ | refine Ext.trans ?_ (Hid.out (by assumption)))))) HD.out.2 (by omega) (by omega)).mono ?_
  rintro e w4 ⟨ea, en, ec, fa, fm, fc, eps, rfl, hents, hmap, hfs, hb⟩
  have ds0 := hb.keep cs0; have ds1 := hb.keep cs1; have ds2 := hb.keep cs2; have ds3 := hb.keep cs3
  clear cs0 cs1 cs2 cs3
  have di0 := hb.keep ci0; have di1 := hb.keep ci1; have di2 := hb.keep ci2
  clear ci0 ci1 ci2
  have hx4 := hid hb
  have hz4 : w.heap.size + 1 < w4.heap.size := by have := hb.size; omega
  have HE := hid hents
  have HF := hid hfs
  have HM1 := hid hmap
  clear hb hents hfs hmap
  go_wp2_with fail
  refine (rpromise_any s (ls.map (·.x)) (ps.map (·.x)) bs a ds.length cap ds _ (HS.out.l.evs.ext (by (repeat (first | exact Ext.refl _ | refine Ext.alloc ?_ _ | refine Ext.drewN ?_ _ | refine Ext.drew ?_ | refine Ext.trans ?_ (Hid.out (by assumption)))))) (HS.out.p.evs.ext (by (repeat (first | exact Ext.refl _ | refine Ext.alloc ?_ _ | refine Ext.drewN ?_ _ | refine Ext.drew ?_ | refine Ext.trans ?_ (Hid.out (by assumption)))))) (HS.out.b.ext (by (repeat (first | exact Ext.refl _ | refine Ext.alloc ?_ _ | refine Ext.drewN ?_ _ | refine Ext.drew ?_ | refine Ext.trans ?_ (Hid.out (by assumption)))))) (HL.out.ext (by (repeat (first | exact Ext.refl _ | refine Ext.alloc ?_ _ | refine Ext.drewN ?_ _ | refine Ext.drew ?_ | refine Ext.trans ?_ (Hid.out (by assumption)))))) (by omega) (by omega)).mono ?_
  rintro e w5 ⟨ga, gn, gc, ha, hn, hc, gps, rfl, hents, hmap, hfs, hb⟩
  have es0 := hb.keep ds0; have es1 := hb.keep ds1; have es2 := hb.keep ds2; have es3 := hb.keep ds3
  clear ds0 ds1 ds2 ds3
  have ei0 := hb.keep di0; have ei1 := hb.keep di1; have ei2 := hb.keep di2
  clear di0 di1 di2
  have hx5 := hid hb
  have hz5 : w.heap.size + 1 < w5.heap.size := by have := hb.size; omega
  have HG := hid hents
  have HH := hid hfs
  have HM2 := hid hmap
  clear hb hents hfs hmap
  go_wp2_with fail
  refine (sameE_any ea ga en gn ec gc eps gps _ (HE.out.ext (by (repeat (first | exact Ext.refl _ | refine Ext.alloc ?_ _ | refine Ext.drewN ?_ _ | refine Ext.drew ?_ | refine Ext.trans ?_ (Hid.out (by assumption)))))) (HG.out.ext (by (repeat (first | exact Ext.refl _ | refine Ext.alloc ?_ _ | refine Ext.drewN ?_ _ | refine Ext.drew ?_ | refine Ext.trans ?_ (Hid.out (by assumption)))))) (by rw [HM1.out, HM2.out])).mono ?_
  rintro e w6 ⟨rfl, hb⟩
  have fs0 := hb.keep es0; have fs1 := hb.keep es1; have fs2 := hb.keep es2; have fs3 := hb.keep es3
  clear es0 es1 es2 es3
  have fi0 := hb.keep ei0; have fi1 := hb.keep ei1; have fi2 := hb.keep ei2
  clear ei0 ei1 ei2
  have hx6 := hid hb
  have hz6 : w.heap.size + 1 < w6.heap.size := by have := hb.size; omega
  clear hb
  go_wp2_with fail
  refine (sameI_any fa ha fm hn fc hc _ _ (HF.out.ext (by (repeat (first | exact Ext.refl _ | refine Ext.alloc ?_ _ | refine Ext.drewN ?_ _ | refine Ext.drew ?_ | refine Ext.trans ?_ (Hid.out (by assumption)))))) (HH.out.ext (by (repeat (first | exact Ext.refl _ | refine Ext.alloc ?_ _ | refine Ext.drewN ?_ _ | refine Ext.drew ?_ | refine Ext.trans ?_ (Hid.out (by assumption))))))).mono ?_
  rintro e w7 ⟨rfl, hb⟩
  have gs0 := hb.keep fs0; have gs1 := hb.keep fs1; have gs2 := hb.keep fs2; have gs3 := hb.keep fs3
  clear fs0 fs1 fs2 fs3
  have gi0 := hb.keep fi0; have gi1 := hb.keep fi1; have gi2 := hb.keep fi2
  clear fi0 fi1 fi2
  have hx7 := hid hb
  have hz7 : w.heap.size + 1 < w7.heap.size := by have := hb.size; omega
  clear hb
  go_upto_region 8 with (fail)
  go_cut [18] (fun c wx => c = .bool true ∧ Hid (Ext w7 wx))
  case first =>
    as_aux_lemma =>
      go_region_held3 (fun w' => w'.cell? ⟨w.heap.size, 0, none⟩ = some (.int .u64 s.life) ∧ w'.cell? ⟨w.heap.size, 1, none⟩ = some (.slice s.l.a s.l.n s.l.c) ∧ w'.cell? ⟨w.heap.size, 2, none⟩ = some (.slice s.p.a s.p.n s.p.c) ∧ w'.cell? ⟨w.heap.size, 3, none⟩ = some (.slice s.b.a s.b.n s.b.c) ∧ w'.cell? ⟨w.heap.size + 1, 0, none⟩ = some (.int .i64 i.b) ∧ w'.cell? ⟨w.heap.size + 1, 1, none⟩ = some (.int .u64 i.l) ∧ w'.cell? ⟨w.heap.size + 1, 2, none⟩ = some (.int .u64 i.s))
        (first | (go_split_ands; refine ⟨?_, ?_, ?_, ?_, ?_, ?_, ?_⟩ <;> exact (Hid.out hy).keep (by assumption)) | go_keep)
        (first | (go_at_call 21; refine (tally_any s.p.a s.p.n s.p.c (ps.map (·.x)) ra rs.length rc rs ka kids.length kc kids _ (HS.out.p.evs.ext (by (repeat (first | exact Ext.refl _ | refine Ext.alloc ?_ _ | refine Ext.drewN ?_ _ | refine Ext.drew ?_ | refine Ext.trans ?_ (Hid.out (by assumption)))))) (HR.out.ext (by (repeat (first | exact Ext.refl _ | refine Ext.alloc ?_ _ | refine Ext.drewN ?_ _ | refine Ext.drew ?_ | refine Ext.trans ?_ (Hid.out (by assumption)))))) (HK.out.ks.ext (by (repeat (first | exact Ext.refl _ | refine Ext.alloc ?_ _ | refine Ext.drewN ?_ _ | refine Ext.drew ?_ | refine Ext.trans ?_ (Hid.out (by assumption))))))).mono ?_; rintro e wq ⟨t1a, t1n, t1c, rfl, hT, hb⟩; have HT1 := hid hT; have hy := hid hb; clear hT hb) | (go_at_call 22; refine (rtally_any s.p.a s.p.n s.p.c (ps.map (·.x)) ra rs.length rc rs ka kids.length kc kids _ (HS.out.p.evs.ext (by (repeat (first | exact Ext.refl _ | refine Ext.alloc ?_ _ | refine Ext.drewN ?_ _ | refine Ext.drew ?_ | refine Ext.trans ?_ (Hid.out (by assumption)))))) (HR.out.ext (by (repeat (first | exact Ext.refl _ | refine Ext.alloc ?_ _ | refine Ext.drewN ?_ _ | refine Ext.drew ?_ | refine Ext.trans ?_ (Hid.out (by assumption)))))) (HK.out.ks.ext (by (repeat (first | exact Ext.refl _ | refine Ext.alloc ?_ _ | refine Ext.drewN ?_ _ | refine Ext.drew ?_ | refine Ext.trans ?_ (Hid.out (by assumption)))))) (by have := HPN.out; omega) (by omega)).mono ?_; rintro e wq ⟨t2a, t2n, t2c, rfl, hT, hb⟩; have HT2 := hid hT; have hy := hid hb; clear hT hb) | (go_at_call 20; refine (sameV_any _ _ _ _ _ _ (tallyOf kids (ps.map (·.x)) rs) _ (HT1.out.ext (by (repeat (first | exact Ext.refl _ | refine Ext.alloc ?_ _ | refine Ext.drewN ?_ _ | refine Ext.drew ?_ | refine Ext.trans ?_ (Hid.out (by assumption)))))) (HT2.out.ext (by (repeat (first | exact Ext.refl _ | refine Ext.alloc ?_ _ | refine Ext.drewN ?_ _ | refine Ext.drew ?_ | refine Ext.trans ?_ (Hid.out (by assumption))))))).mono ?_; rintro e wq ⟨rfl, hb⟩; have hy := hid hb; clear hb))
      all_goals
        go_wp2_with fail
        go_meet
        exact ⟨rfl, (by (repeat (first | exact Ext.refl _ | refine Ext.alloc ?_ _ | refine Ext.drewN ?_ _ | refine Ext.drew ?_ | refine Ext.trans ?_ (Hid.out (by assumption)))))⟩
  case rest =>
    obtain ⟨rfl, hx8⟩ := hcut
    rename World => w8
    have hs0 := hx8.out.keep gs0
    have hs1 := hx8.out.keep gs1
    have hs2 := hx8.out.keep gs2
    have hs3 := hx8.out.keep gs3
    have hi0 := hx8.out.keep gi0
    have hi1 := hx8.out.keep gi1
    have hi2 := hx8.out.keep gi2
    have hz8 : w.heap.size + 1 < w8.heap.size := by have := hx8.out.size; omega
    clear gs0 gs1 gs2 gs3 gi0 gi1 gi2
    go_wp2_with fail
    go_loopg [19, 20, 21] (kids.length) (fun g fv st _ wr => ∃ k : Nat, g + k = kids.length ∧ st = .int .i64 k ∧ fv = .bool true ∧ Hid (Ext w8 wr))
    case atStart => exact ⟨0, by omega, rfl, rfl, Ext.refl _⟩
    case round =>
      obtain ⟨k, hg, rfl, rfl, hx⟩ := hrel
      have ks0 := hx.out.keep hs0
      have ks1 := hx.out.keep hs1
      have ks2 := hx.out.keep hs2
      have ks3 := hx.out.keep hs3
      have ki0 := hx.out.keep hi0
      have ki1 := hx.out.keep hi1
      have ki2 := hx.out.keep hi2
      have hzr : w.heap.size + 1 < wr.heap.size := by have := hx.out.size; omega
      by_cases hk : k < kids.length
      · have HVK := hid (HK.out.ks.votes _ (List.getElem_mem hk))
        obtain ⟨b, o, rfl, hc⟩ := HK.out.ks.sl.get k hk
        have hE : Ext w wr := (by (repeat (first | exact Ext.refl _ | refine Ext.alloc ?_ _ | refine Ext.drewN ?_ _ | refine Ext.drew ?_ | refine Ext.trans ?_ (Hid.out (by assumption)))))
        obtain ⟨c0, c1, c2, c3, c4, c5, c6, c7⟩ := cellsM (w := wr) (b := b) (o := o + k * 8) (x := kids[k].m) (fun q v hq => hE.keep (hc q v hq))
        clear hc hE
        have b0 : (0 : Int) ≤ (k : Int) := by omega
        have b1 : (k : Int) < (kids.length : Int) := by omega
        go_upto_region 13 with (fail)
        go_region_held3 (fun w' => w'.cell? ⟨w.heap.size, 0, none⟩ = some (.int .u64 s.life) ∧ w'.cell? ⟨w.heap.size, 1, none⟩ = some (.slice s.l.a s.l.n s.l.c) ∧ w'.cell? ⟨w.heap.size, 2, none⟩ = some (.slice s.p.a s.p.n s.p.c) ∧ w'.cell? ⟨w.heap.size, 3, none⟩ = some (.slice s.b.a s.b.n s.b.c) ∧ w'.cell? ⟨b, o + k * 8, none⟩ = some (.int .i64 kids[k].m.k) ∧ w'.cell? ⟨b, o + k * 8 + 1, none⟩ = some (.int .u64 kids[k].m.h) ∧ w'.cell? ⟨b, o + k * 8 + 2, none⟩ = some (.slice kids[k].m.v.a kids[k].m.v.n kids[k].m.v.c) ∧ w'.cell? ⟨b, o + k * 8 + 3, none⟩ = some (.slice kids[k].m.q.a kids[k].m.q.n kids[k].m.q.c) ∧ w'.cell? ⟨b, o + k * 8 + 4, none⟩ = some (.slice kids[k].m.e.a kids[k].m.e.n kids[k].m.e.c) ∧ w'.cell? ⟨b, o + k * 8 + 5, none⟩ = some (.slice kids[k].m.p.a kids[k].m.p.n kids[k].m.p.c) ∧ w'.cell? ⟨b, o + k * 8 + 6, none⟩ = some (.slice kids[k].m.b.a kids[k].m.b.n kids[k].m.b.c) ∧ w'.cell? ⟨b, o + k * 8 + 7, none⟩ = some (.slice kids[k].m.d.a kids[k].m.d.n kids[k].m.d.c))
          (first | (go_split_ands; refine ⟨?_, ?_, ?_, ?_, ?_, ?_, ?_, ?_, ?_, ?_, ?_, ?_⟩ <;> exact (Hid.out hy).keep (by assumption)) | go_keep)
          (first | (go_at_call 23; refine (ends_any s (ls.map (·.x)) (ps.map (·.x)) (ds.map (·.x)) a ds.length cap kids[k].m kids[k].vs _ (HS.out.l.evs.ext (by (repeat (first | exact Ext.refl _ | refine Ext.alloc ?_ _ | refine Ext.drewN ?_ _ | refine Ext.drew ?_ | refine Ext.trans ?_ (Hid.out (by assumption)))))) (HS.out.p.evs.ext (by (repeat (first | exact Ext.refl _ | refine Ext.alloc ?_ _ | refine Ext.drewN ?_ _ | refine Ext.drew ?_ | refine Ext.trans ?_ (Hid.out (by assumption)))))) (HL.out.evs.ext (by (repeat (first | exact Ext.refl _ | refine Ext.alloc ?_ _ | refine Ext.drewN ?_ _ | refine Ext.drew ?_ | refine Ext.trans ?_ (Hid.out (by assumption)))))) (HVK.out.ext (by (repeat (first | exact Ext.refl _ | refine Ext.alloc ?_ _ | refine Ext.drewN ?_ _ | refine Ext.drew ?_ | refine Ext.trans ?_ (Hid.out (by assumption))))))).mono ?_; rintro e wq ⟨t1a, t1n, t1c, rfl, hT, hb⟩; have HT1 := hid hT; have hy := hid hb; clear hT hb) | (go_at_call 24; refine (rends_any s (ls.map (·.x)) (ps.map (·.x)) (ds.map (·.x)) a ds.length cap kids[k].m kids[k].vs _ (HS.out.l.evs.ext (by (repeat (first | exact Ext.refl _ | refine Ext.alloc ?_ _ | refine Ext.drewN ?_ _ | refine Ext.drew ?_ | refine Ext.trans ?_ (Hid.out (by assumption)))))) (HS.out.p.evs.ext (by (repeat (first | exact Ext.refl _ | refine Ext.alloc ?_ _ | refine Ext.drewN ?_ _ | refine Ext.drew ?_ | refine Ext.trans ?_ (Hid.out (by assumption)))))) (HL.out.evs.ext (by (repeat (first | exact Ext.refl _ | refine Ext.alloc ?_ _ | refine Ext.drewN ?_ _ | refine Ext.drew ?_ | refine Ext.trans ?_ (Hid.out (by assumption)))))) (HVK.out.ext (by (repeat (first | exact Ext.refl _ | refine Ext.alloc ?_ _ | refine Ext.drewN ?_ _ | refine Ext.drew ?_ | refine Ext.trans ?_ (Hid.out (by assumption))))))).mono ?_; rintro e wq ⟨t2a, t2n, t2c, rfl, hT, hb⟩; have HT2 := hid hT; have hy := hid hb; clear hT hb) | (go_at_call 19; refine (sameI_any _ _ _ _ _ _ (endsOf (knows (ls.map (·.x)) (ps.map (·.x)) (ds.map (·.x))) kids[k].vs) _ (HT1.out.ext (by (repeat (first | exact Ext.refl _ | refine Ext.alloc ?_ _ | refine Ext.drewN ?_ _ | refine Ext.drew ?_ | refine Ext.trans ?_ (Hid.out (by assumption)))))) (HT2.out.ext (by (repeat (first | exact Ext.refl _ | refine Ext.alloc ?_ _ | refine Ext.drewN ?_ _ | refine Ext.drew ?_ | refine Ext.trans ?_ (Hid.out (by assumption))))))).mono ?_; rintro e wq ⟨rfl, hb⟩; have hy := hid hb; clear hb))
        all_goals
          go_wp2
          go_roundg (gk - 1)
          case measure => omega
          case rel => exact ⟨k + 1, by omega, by go_num, rfl, (by (repeat (first | exact Ext.refl _ | refine Ext.alloc ?_ _ | refine Ext.drewN ?_ _ | refine Ext.drew ?_ | refine Ext.trans ?_ (Hid.out (by assumption)))))⟩
      · go_upto_region 15 with (fail)
        go_region_held3 (fun w' => w'.cell? ⟨w.heap.size + 1, 0, none⟩ = some (.int .i64 i.b) ∧ w'.cell? ⟨w.heap.size + 1, 1, none⟩ = some (.int .u64 i.l) ∧ w'.cell? ⟨w.heap.size + 1, 2, none⟩ = some (.int .u64 i.s))
          (first | (go_split_ands; refine ⟨?_, ?_, ?_⟩ <;> exact (Hid.out hy).keep (by assumption)) | go_keep)
          (first | (go_at_call 25; refine (says_any _ _ _ kids i _ (HK.out.ks.ext (by (repeat (first | exact Ext.refl _ | refine Ext.alloc ?_ _ | refine Ext.drewN ?_ _ | refine Ext.drew ?_ | refine Ext.trans ?_ (Hid.out (by assumption))))))).mono ?_; rintro e wq ⟨rfl, hb⟩; have hy := hid hb; clear hb) | (go_at_call 26; refine (rsays_any _ _ _ kids i _ (HK.out.ks.ext (by (repeat (first | exact Ext.refl _ | refine Ext.alloc ?_ _ | refine Ext.drewN ?_ _ | refine Ext.drew ?_ | refine Ext.trans ?_ (Hid.out (by assumption))))))).mono ?_; rintro e wq ⟨rfl, hb⟩; have hy := hid hb; clear hb))
        all_goals
          go_wp2
          go_ret
          refine ⟨ret_bool (by simp), ?_⟩
          (repeat (first | exact Ext.refl _ | refine Ext.alloc ?_ _ | refine Ext.drewN ?_ _ | refine Ext.drew ?_ | refine Ext.trans ?_ (Hid.out (by assumption))))
end Go.Proofs.Ytncadipipomebaa
