/- One report more: the statement on it. -/
import Derived.Test.YtncadipipomebaaAwake
import Derived.Test.YtncadipipomebaaOpen
import Derived.Test.YtncadipipomebaaStep
namespace Go.Proofs.Ytncadipipomebaa
open Go.RowKit
attribute [local go_sem ↓] Go.wp_at_zero Go.wp_at_succ

theorem infoM : (Try.prog.info? 41).map (fun i => (i.zero, i.size, i.bytes)) = some (some (.agg #[.int .i64 0, .int .u64 0, .slice none 0 0, .slice none 0 0, .slice none 0 0, .slice none 0 0, .slice none 0 0, .slice none 0 0]), 8, 160) := by kernel_rfl
theorem Kid.one (m : Kid) : ∀ u ∈ m.cs, u.oneCell' = true := by
  intro u hu; simp only [Kid.cs, MV.cs, List.mem_cons, List.not_mem_nil, or_false] at hu; rcases hu with rfl | rfl | rfl | rfl | rfl | rfl | rfl | rfl <;> rfl
theorem says_three (l : List Kid) (i : Id) : saysOf l i = 0 ∨ saysOf l i = 1 ∨ saysOf l i = 2 := by
  unfold saysOf; split
  · simp
  · split <;> simp
theorem says_more (l : List Kid) (m : Kid) (i : Id) : saysOf (l ++ [m]) i = if saysOf l i = 2 ∨ saysOf [m] i = 2 then 2 else if saysOf l i = 1 ∧ saysOf [m] i = 1 then 1 else 0 := by
  unfold saysOf
  rw [List.any_append, List.all_append]
  cases h1 : l.any (fun m => hasV m.vs i false) <;> cases h2 : [m].any (fun m => hasV m.vs i false) <;> cases h3 : l.all (fun m => hasV m.vs i true) <;> cases h4 : [m].all (fun m => hasV m.vs i true) <;> rfl

set_option maxRecDepth 100000 in
set_option maxHeartbeats 4000000 in
theorem more18_any (ka : Option Addr) (kn kc : Nat) (kids : List Kid) (m : Kid) (qs es ps : List EP) (i : Id) (w : World) (hK : Kids3 w ka kn kc kids) (hV : Sl w 4 V.cs m.m.v.a m.m.v.n m.m.v.c m.vs) (hM : MsgIs w m.m qs es ps) :
    Calls Try.prog 7 #[.slice ka kn kc, .agg #[.int .i64 m.m.k, .int .u64 m.m.h, .slice m.m.v.a m.m.v.n m.m.v.c, .slice m.m.q.a m.m.q.n m.m.q.c, .slice m.m.e.a m.m.e.n m.m.e.c, .slice m.m.p.a m.m.p.n m.m.p.c, .slice m.m.b.a m.m.b.n m.m.b.c, .slice m.m.d.a m.m.d.n m.m.d.c], .agg #[.int .i64 i.b, .int .u64 i.l, .int .u64 i.s]] w fun e w' => e = .returned (.bool true) ∧ Ext w w' := by
  obtain rfl := hK.ks.sl.neq
  obtain ⟨i0, hi, hz0, hz1, hz2⟩ := info_parts infoM
  have I1 := hid hi
  have I2 := hid hz0
  have I3 := hid hz1
  have I4 := hid hz2
  have HK := hid hK
  have HV := hid hV
  have HM := hid hM
  clear hi hz0 hz1 hz2 hK hV hM
  go_enter Try.func7, Try.ntmps7
  go_wp2_with fail
  have BM : ((w.alloc (.cells #[.int .i64 m.m.k, .int .u64 m.m.h, .slice m.m.v.a m.m.v.n m.m.v.c, .slice m.m.q.a m.m.q.n m.m.q.c, .slice m.m.e.a m.m.e.n m.m.e.c, .slice m.m.p.a m.m.p.n m.m.p.c, .slice m.m.b.a m.m.b.n m.m.b.c, .slice m.m.d.a m.m.d.n m.m.d.c] 41)).alloc (.cells #[.int .i64 i.b, .int .u64 i.l, .int .u64 i.s] 30)).heap[w.heap.size]? = some (.cells #[.int .i64 m.m.k, .int .u64 m.m.h, .slice m.m.v.a m.m.v.n m.m.v.c, .slice m.m.q.a m.m.q.n m.m.q.c, .slice m.m.e.a m.m.e.n m.m.e.c, .slice m.m.p.a m.m.p.n m.m.p.c, .slice m.m.b.a m.m.b.n m.m.b.c, .slice m.m.d.a m.m.d.n m.m.d.c] 41) := by (repeat (first | (refine heap_new ?_; (simp; done)) | refine heap_old (by first | (simp; done) | (simp; omega)) ?_))
  have BI : ((w.alloc (.cells #[.int .i64 m.m.k, .int .u64 m.m.h, .slice m.m.v.a m.m.v.n m.m.v.c, .slice m.m.q.a m.m.q.n m.m.q.c, .slice m.m.e.a m.m.e.n m.m.e.c, .slice m.m.p.a m.m.p.n m.m.p.c, .slice m.m.b.a m.m.b.n m.m.b.c, .slice m.m.d.a m.m.d.n m.m.d.c] 41)).alloc (.cells #[.int .i64 i.b, .int .u64 i.l, .int .u64 i.s] 30)).heap[w.heap.size + 1]? = some (.cells #[.int .i64 i.b, .int .u64 i.l, .int .u64 i.s] 30) := by (repeat (first | (refine heap_new ?_; (simp; done)) | refine heap_old (by first | (simp; done) | (simp; omega)) ?_))
  refine (awake18_any ((w.alloc (.cells #[.int .i64 m.m.k, .int .u64 m.m.h, .slice m.m.v.a m.m.v.n m.m.v.c, .slice m.m.q.a m.m.q.n m.m.q.c, .slice m.m.e.a m.m.e.n m.m.e.c, .slice m.m.p.a m.m.p.n m.m.p.c, .slice m.m.b.a m.m.b.n m.m.b.c, .slice m.m.d.a m.m.d.n m.m.d.c] 41)).alloc (.cells #[.int .i64 i.b, .int .u64 i.l, .int .u64 i.s] 30))).mono ?_
  rintro e w1 ⟨rfl, hb⟩
  have aq0 : w1.cell? ⟨w.heap.size, 0, none⟩ = some (.int .i64 m.m.k) := hb.keep (cellH BM rfl)
  have aq1 : w1.cell? ⟨w.heap.size, 1, none⟩ = some (.int .u64 m.m.h) := hb.keep (cellH BM rfl)
  have aq2 : w1.cell? ⟨w.heap.size, 2, none⟩ = some (.slice m.m.v.a m.m.v.n m.m.v.c) := hb.keep (cellH BM rfl)
  have aq3 : w1.cell? ⟨w.heap.size, 3, none⟩ = some (.slice m.m.q.a m.m.q.n m.m.q.c) := hb.keep (cellH BM rfl)
  have aq4 : w1.cell? ⟨w.heap.size, 4, none⟩ = some (.slice m.m.e.a m.m.e.n m.m.e.c) := hb.keep (cellH BM rfl)
  have aq5 : w1.cell? ⟨w.heap.size, 5, none⟩ = some (.slice m.m.p.a m.m.p.n m.m.p.c) := hb.keep (cellH BM rfl)
  have aq6 : w1.cell? ⟨w.heap.size, 6, none⟩ = some (.slice m.m.b.a m.m.b.n m.m.b.c) := hb.keep (cellH BM rfl)
  have aq7 : w1.cell? ⟨w.heap.size, 7, none⟩ = some (.slice m.m.d.a m.m.d.n m.m.d.c) := hb.keep (cellH BM rfl)
  have ai0 : w1.cell? ⟨w.heap.size + 1, 0, none⟩ = some (.int .i64 i.b) := hb.keep (cellH BI rfl)
  have ai1 : w1.cell? ⟨w.heap.size + 1, 1, none⟩ = some (.int .u64 i.l) := hb.keep (cellH BI rfl)
  have ai2 : w1.cell? ⟨w.heap.size + 1, 2, none⟩ = some (.int .u64 i.s) := hb.keep (cellH BI rfl)
  have hx1 := hid hb
  have hz1 : w.heap.size + 1 < w1.heap.size := by have := hb.size; simp at this; omega
  clear hb BM BI
  go_wp2_with fail
  refine (few18_any zSt [] [] [] ka kids.length kc kids _ ⟨Ents.nil _, Ents.nil _, Sl.nil _ (fun _ => rfl)⟩ (HK.out.ext (by (repeat (first | exact Ext.refl _ | refine Ext.alloc ?_ _ | refine Ext.drewN ?_ _ | refine Ext.drew ?_ | refine Ext.trans ?_ (Hid.out (by assumption))))))).mono ?_
  rintro e w2 ⟨f1, rfl, hf1, hb⟩
  have bq0 := hb.keep aq0
  have bq1 := hb.keep aq1
  have bq2 := hb.keep aq2
  have bq3 := hb.keep aq3
  have bq4 := hb.keep aq4
  have bq5 := hb.keep aq5
  have bq6 := hb.keep aq6
  have bq7 := hb.keep aq7
  have bi0 := hb.keep ai0
  have bi1 := hb.keep ai1
  have bi2 := hb.keep ai2
  clear aq0 aq1 aq2 aq3 aq4 aq5 aq6 aq7 ai0 ai1 ai2
  have hx2 := hid hb
  have hz2 : w.heap.size + 1 < w2.heap.size := by have := hb.size; omega
  have HF1 := hid hf1
  clear hb hf1
  cases f1
  · go_wp2
    go_ret
    refine ⟨rfl, ?_⟩
    (repeat (first | exact Ext.refl _ | refine Ext.alloc ?_ _ | refine Ext.drewN ?_ _ | refine Ext.drew ?_ | refine Ext.trans ?_ (Hid.out (by assumption))))
  have hk6 : kids.length ≤ 6 := (HF1.out rfl).2.2.1
  clear HF1
  go_wp2_with fail
  refine (few18_any zSt [] [] [] (some ⟨w2.heap.size, 0, none⟩) 1 1 [m] _ ⟨Ents.nil _, Ents.nil _, Sl.nil _ (fun _ => rfl)⟩ ⟨⟨sl_ofBlock [m] Kid.wid rfl (by simp) (t := 41) (fr := (0, 0)) (by (repeat (first | (refine heap_new ?_; (simp; done)) | refine heap_old (by first | (simp; done) | (simp; omega)) ?_))) rfl, fun x hx => by (obtain rfl := List.mem_singleton.1 hx; exact HV.out.ext (by (repeat (first | exact Ext.refl _ | refine Ext.alloc ?_ _ | refine Ext.drewN ?_ _ | refine Ext.drew ?_ | refine Ext.trans ?_ (Hid.out (by assumption))))))⟩, fun x hx => by (obtain rfl := List.mem_singleton.1 hx; exact ⟨qs, es, ps, HM.out.ext (by (repeat (first | exact Ext.refl _ | refine Ext.alloc ?_ _ | refine Ext.drewN ?_ _ | refine Ext.drew ?_ | refine Ext.trans ?_ (Hid.out (by assumption)))))⟩)⟩).mono ?_
  rintro e w3 ⟨f2, rfl, hf2, hb⟩
  have hb := ((Ext.refl w2).alloc (.cells #[.int .i64 m.m.k, .int .u64 m.m.h, .slice m.m.v.a m.m.v.n m.m.v.c, .slice m.m.q.a m.m.q.n m.m.q.c, .slice m.m.e.a m.m.e.n m.m.e.c, .slice m.m.p.a m.m.p.n m.m.p.c, .slice m.m.b.a m.m.b.n m.m.b.c, .slice m.m.d.a m.m.d.n m.m.d.c] 41)).trans hb
  have cq0 := hb.keep bq0
  have cq1 := hb.keep bq1
  have cq2 := hb.keep bq2
  have cq3 := hb.keep bq3
  have cq4 := hb.keep bq4
  have cq5 := hb.keep bq5
  have cq6 := hb.keep bq6
  have cq7 := hb.keep bq7
  have ci0 := hb.keep bi0
  have ci1 := hb.keep bi1
  have ci2 := hb.keep bi2
  clear bq0 bq1 bq2 bq3 bq4 bq5 bq6 bq7 bi0 bi1 bi2
  have hx3 := hid hb
  have hz3 : w.heap.size + 1 < w3.heap.size := by have := hb.size; omega
  clear hb hf2
  cases f2
  · go_wp2
    go_ret
    refine ⟨rfl, ?_⟩
    (repeat (first | exact Ext.refl _ | refine Ext.alloc ?_ _ | refine Ext.drewN ?_ _ | refine Ext.drew ?_ | refine Ext.trans ?_ (Hid.out (by assumption))))
  go_wp2_with fail
  refine (says_any ka kids.length kc kids i _ (HK.out.ks.ext (by (repeat (first | exact Ext.refl _ | refine Ext.alloc ?_ _ | refine Ext.drewN ?_ _ | refine Ext.drew ?_ | refine Ext.trans ?_ (Hid.out (by assumption))))))).mono ?_
  rintro e w4 ⟨rfl, hb⟩
  have dq0 := hb.keep cq0
  have dq1 := hb.keep cq1
  have dq2 := hb.keep cq2
  have dq3 := hb.keep cq3
  have dq4 := hb.keep cq4
  have dq5 := hb.keep cq5
  have dq6 := hb.keep cq6
  have dq7 := hb.keep cq7
  have di0 := hb.keep ci0
  have di1 := hb.keep ci1
  have di2 := hb.keep ci2
  clear cq0 cq1 cq2 cq3 cq4 cq5 cq6 cq7 ci0 ci1 ci2
  have hx4 := hid hb
  have hz4 : w.heap.size + 1 < w4.heap.size := by have := hb.size; omega
  clear hb
  go_wp2_with fail
  refine (says_any (some ⟨w4.heap.size, 0, none⟩) 1 1 [m] i _ ⟨sl_ofBlock [m] Kid.wid rfl (by simp) (t := 41) (fr := (0, 0)) (by (repeat (first | (refine heap_new ?_; (simp; done)) | refine heap_old (by first | (simp; done) | (simp; omega)) ?_))) rfl, fun x hx => by (obtain rfl := List.mem_singleton.1 hx; exact HV.out.ext (by (repeat (first | exact Ext.refl _ | refine Ext.alloc ?_ _ | refine Ext.drewN ?_ _ | refine Ext.drew ?_ | refine Ext.trans ?_ (Hid.out (by assumption))))))⟩).mono ?_
  rintro e w5 ⟨rfl, hb⟩
  have hb := ((Ext.refl w4).alloc (.cells #[.int .i64 m.m.k, .int .u64 m.m.h, .slice m.m.v.a m.m.v.n m.m.v.c, .slice m.m.q.a m.m.q.n m.m.q.c, .slice m.m.e.a m.m.e.n m.m.e.c, .slice m.m.p.a m.m.p.n m.m.p.c, .slice m.m.b.a m.m.b.n m.m.b.c, .slice m.m.d.a m.m.d.n m.m.d.c] 41)).trans hb
  have eq0 := hb.keep dq0
  have eq1 := hb.keep dq1
  have eq2 := hb.keep dq2
  have eq3 := hb.keep dq3
  have eq4 := hb.keep dq4
  have eq5 := hb.keep dq5
  have eq6 := hb.keep dq6
  have eq7 := hb.keep dq7
  have ei0 := hb.keep di0
  have ei1 := hb.keep di1
  have ei2 := hb.keep di2
  clear dq0 dq1 dq2 dq3 dq4 dq5 dq6 dq7 di0 di1 di2
  have hx5 := hid hb
  have hz5 : w.heap.size + 1 < w5.heap.size := by have := hb.size; omega
  clear hb
  go_wp2_with fail
  go_region_held3 (fun w' => w'.cell? ⟨w.heap.size, 0, none⟩ = some (.int .i64 m.m.k) ∧ w'.cell? ⟨w.heap.size, 1, none⟩ = some (.int .u64 m.m.h) ∧ w'.cell? ⟨w.heap.size, 2, none⟩ = some (.slice m.m.v.a m.m.v.n m.m.v.c) ∧ w'.cell? ⟨w.heap.size, 3, none⟩ = some (.slice m.m.q.a m.m.q.n m.m.q.c) ∧ w'.cell? ⟨w.heap.size, 4, none⟩ = some (.slice m.m.e.a m.m.e.n m.m.e.c) ∧ w'.cell? ⟨w.heap.size, 5, none⟩ = some (.slice m.m.p.a m.m.p.n m.m.p.c) ∧ w'.cell? ⟨w.heap.size, 6, none⟩ = some (.slice m.m.b.a m.m.b.n m.m.b.c) ∧ w'.cell? ⟨w.heap.size, 7, none⟩ = some (.slice m.m.d.a m.m.d.n m.m.d.c) ∧ w'.cell? ⟨w.heap.size + 1, 0, none⟩ = some (.int .i64 i.b) ∧ w'.cell? ⟨w.heap.size + 1, 1, none⟩ = some (.int .u64 i.l) ∧ w'.cell? ⟨w.heap.size + 1, 2, none⟩ = some (.int .u64 i.s))
    (first | (go_split_ands; refine ⟨?_, ?_, ?_, ?_, ?_, ?_, ?_, ?_, ?_, ?_, ?_⟩ <;> exact (Hid.out hy).keep (by assumption)) | go_keep)
    (first | (refine stepOn (c := Kid.cs) (ys0 := []) (ys := kids) rfl (.tmp 32) (.tmp 33) 28 41 rfl i0 _ 160 Try.underlying28 I1.out I2.out I3.out I4.out rfl (by decide) rfl w5 (by (repeat (first | exact Ext.refl _ | refine Ext.alloc ?_ _ | refine Ext.drewN ?_ _ | refine Ext.drew ?_ | refine Ext.trans ?_ (Hid.out (by assumption))))) (Own.empty (by (repeat (first | (refine heap_new ?_; (simp; done)) | refine heap_old (by first | (simp; done) | (simp; omega)) ?_))) (by simp) Kid.wid) rfl (HK.out.ks.sl.ext (by (repeat (first | exact Ext.refl _ | refine Ext.alloc ?_ _ | refine Ext.drewN ?_ _ | refine Ext.drew ?_ | refine Ext.trans ?_ (Hid.out (by assumption)))))) Kid.one (by omega) (by decide) ?_; intro bb n1 cap1 w6 hn1 hown1 hx hg1; have HO1 := hid hown1; have hy := hid hx; have HG1 := hid hg1; have Hn1 := hid hn1; clear hown1 hx hg1 hn1) | (refine stepOn (c := Kid.cs) (ys0 := [] ++ kids) (ys := [m]) rfl (.tmp 34) (.tmp 36) 28 41 rfl i0 _ 160 Try.underlying28 I1.out I2.out I3.out I4.out rfl (by decide) rfl w5 (by (repeat (first | exact Ext.refl _ | refine Ext.alloc ?_ _ | refine Ext.drewN ?_ _ | refine Ext.drew ?_ | refine Ext.trans ?_ (Hid.out (by assumption))))) (HO1.out.ext (by (repeat (first | exact Ext.refl _ | refine Ext.alloc ?_ _ | refine Ext.drewN ?_ _ | refine Ext.drew ?_ | refine Ext.trans ?_ (Hid.out (by assumption)))))) rfl (by first | (refine sl_ofBlock [m] Kid.wid rfl (by simp) (t := 41) (fr := (0, 0)) ?_ rfl; (repeat (first | (refine heap_new ?_; (simp; done)) | refine heap_old (by first | (simp; done) | (simp; omega)) ?_)); done) | (refine sl_ofBlock [m] Kid.wid rfl (by simp) (t := 41) (fr := (0, 0)) ?_ rfl; refine (HG1.out.block _ (by first | (simp; done) | (simp; omega)) (by first | (simp [Value.ownBlock]; done) | (simp [Value.ownBlock]; omega))).trans ?_; (repeat (first | (refine heap_new ?_; (simp; done)) | refine heap_old (by first | (simp; done) | (simp; omega)) ?_)); done)) Kid.one (by have := Hn1.out; omega) (by decide) ?_; intro bb2 n2 cap2 w7 hn2 hown2 hx hg2; have HO2 : Hid (Own w7 w5.heap.size 41 8 Kid.cs bb2 n2 cap2 (kids ++ [m])) := hid hown2; have hy := hid hx; clear hown2 hx hg2 hn2) | (go_at_call 25; refine (says_any _ _ _ (kids ++ [m]) i _ ⟨HO2.out.sl.ext (by (repeat (first | exact Ext.refl _ | refine Ext.alloc ?_ _ | refine Ext.drewN ?_ _ | refine Ext.drew ?_ | refine Ext.trans ?_ (Hid.out (by assumption))))), fun x hx => by (rcases List.mem_append.1 hx with hk | hk; exact (HK.out.ks.votes x hk).ext (by (repeat (first | exact Ext.refl _ | refine Ext.alloc ?_ _ | refine Ext.drewN ?_ _ | refine Ext.drew ?_ | refine Ext.trans ?_ (Hid.out (by assumption))))); obtain rfl := List.mem_singleton.1 hk; exact HV.out.ext (by (repeat (first | exact Ext.refl _ | refine Ext.alloc ?_ _ | refine Ext.drewN ?_ _ | refine Ext.drew ?_ | refine Ext.trans ?_ (Hid.out (by assumption))))))⟩).mono ?_; rintro e w8 ⟨rfl, hx⟩; have hy := hid hx; clear hx))
  all_goals
    have h3 := says_more kids m i
    have hA := says_three kids i
    have hB := says_three [m] i
    generalize saysOf (kids ++ [m]) i = C at h3 ⊢
    generalize saysOf kids i = A at h3 hA ⊢
    generalize saysOf [m] i = B at h3 hB ⊢
    rcases hA with rfl | rfl | rfl <;> rcases hB with rfl | rfl | rfl
    all_goals
      simp at h3
      subst h3
      go_wp2
      go_ret
      refine ⟨rfl, ?_⟩
      (repeat (first | exact Ext.refl _ | refine Ext.alloc ?_ _ | refine Ext.drewN ?_ _ | refine Ext.drew ?_ | refine Ext.trans ?_ (Hid.out (by assumption))))
end Go.Proofs.Ytncadipipomebaa
