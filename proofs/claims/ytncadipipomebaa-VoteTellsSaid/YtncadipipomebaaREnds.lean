/- What a broker ends, by the document: the walk of the document's Ends. -/
import Derived.Test.YtncadipipomebaaEnds
import Derived.Test.YtncadipipomebaaAwake
import Derived.Deep.DeepCutAuto
namespace Go.Proofs.Ytncadipipomebaa
open Go.RowKit
attribute [local go_sem ↓] Go.wp_at_zero Go.wp_at_succ

set_option maxRecDepth 100000 in
set_option maxHeartbeats 4000000 in
theorem rends_any (s : StV) (ls ps os : List EV) (oa : Option Addr) (on oc : Nat) (x : MV) (vs : List V) (w : World)
    (hL : Sl w 8 EV.cs s.l.a s.l.n s.l.c ls) (hP : Sl w 8 EV.cs s.p.a s.p.n s.p.c ps) (hO : Sl w 8 EV.cs oa on oc os) (hV : Sl w 4 V.cs x.v.a x.v.n x.v.c vs) :
    Calls Try.prog 24 #[.agg #[.int .u64 s.life, .slice s.l.a s.l.n s.l.c, .slice s.p.a s.p.n s.p.c, .slice s.b.a s.b.n s.b.c], .slice oa on oc, .agg #[.int .i64 x.k, .int .u64 x.h, .slice x.v.a x.v.n x.v.c, .slice x.q.a x.q.n x.q.c, .slice x.e.a x.e.n x.e.c, .slice x.p.a x.p.n x.p.c, .slice x.b.a x.b.n x.b.c, .slice x.d.a x.d.n x.d.c]] w (RetSl 3 Id.cs (endsOf (knows ls ps os) vs) w) := by
  obtain ⟨i0, hi, hz0, hz1, hz2⟩ := info_parts infoId
  obtain ⟨xk, xh, ⟨a, vn, cap⟩, xq, xe, xp, xb, xd⟩ := x
  dsimp only at hV ⊢
  obtain rfl := hV.neq
  have hm := hV.max
  have hl := hV.len
  unfold maxLen at hm
  have HL := hid hL
  have HP := hid hP
  have HO := hid hO
  have HV := hid hV
  have I1 := hid hi
  have I2 := hid hz0
  have I3 := hid hz1
  have I4 := hid hz2
  clear hL hP hO hV hi hz0 hz1 hz2
  obtain ⟨vn, hvn⟩ : ∃ vn, Hid (vs.length = vn) := ⟨_, hid rfl⟩
  rw [hvn.out]
  rw [hvn.out] at hl
  go_enter Try.func24, Try.ntmps24
  go_wp2_with fail
  go_loopg [7, 8, 9, 10, 11, 12, 13] (vn) (fun g ov st _ _ _ _ _ wr => ∃ (k : Nat) (aa : Option Addr) (m cp : Nat), g + k = vn ∧ st = .int .i64 k ∧ ov = .slice aa m cp ∧ Hid (Own wr ((w.alloc (Obj.cells #[.int .u64 s.life, .slice s.l.a s.l.n s.l.c, .slice s.p.a s.p.n s.p.c, .slice s.b.a s.b.n s.b.c] 27)).alloc (Obj.cells #[.int .i64 xk, .int .u64 xh, .slice a vn cap, .slice xq.a xq.n xq.c, .slice xe.a xe.n xe.c, .slice xp.a xp.n xp.c, .slice xb.a xb.n xb.c, .slice xd.a xd.n xd.c] 41)).heap.size 30 3 Id.cs aa m cp (endsOf (knows ls ps os) (vs.take k))) ∧ Hid (Ext ((w.alloc (Obj.cells #[.int .u64 s.life, .slice s.l.a s.l.n s.l.c, .slice s.p.a s.p.n s.p.c, .slice s.b.a s.b.n s.b.c] 27)).alloc (Obj.cells #[.int .i64 xk, .int .u64 xh, .slice a vn cap, .slice xq.a xq.n xq.c, .slice xe.a xe.n xe.c, .slice xp.a xp.n xp.c, .slice xb.a xb.n xb.c, .slice xd.a xd.n xd.c] 41)) wr))
  case atStart => exact ⟨0, none, 0, 0, by omega, rfl, rfl, Own.nil _ _ _ Id.wid, Ext.refl _⟩
  case round =>
    obtain ⟨k, aa, m, cp, hg, rfl, rfl, hown, hx⟩ := hrel
    have s0 : wr.cell? ⟨w.heap.size, 0, none⟩ = some (.int .u64 s.life) := hx.out.keep (by simp)
    have s1 : wr.cell? ⟨w.heap.size, 1, none⟩ = some (.slice s.l.a s.l.n s.l.c) := hx.out.keep (by simp)
    have s2 : wr.cell? ⟨w.heap.size, 2, none⟩ = some (.slice s.p.a s.p.n s.p.c) := hx.out.keep (by simp)
    have s3 : wr.cell? ⟨w.heap.size, 3, none⟩ = some (.slice s.b.a s.b.n s.b.c) := hx.out.keep (by simp)
    have m2 : wr.cell? ⟨w.heap.size + 1, 2, none⟩ = some (.slice a vn cap) := hx.out.keep (by simp)
    have hz0 : w.heap.size < wr.heap.size := by have := hx.out.size; simp at this; omega
    have hz1 : w.heap.size + 1 < wr.heap.size := by have := hx.out.size; simp at this; omega
    have Hmn := hid hown.out.neq
    by_cases hk : k < vn
    · have hk' : k < vs.length := by have := hvn.out; omega
      have Hs := hid (ends_succ (kn := knows ls ps os) hk')
      have hki : (k : Int) < (vn : Int) := by omega
      by_cases hful : 16 ≤ m
      · have hfi : (16 : Int) ≤ (m : Int) := by omega
        have Hst := hid (ends_stop (kn := knows ls ps os) (vs := vs) (k := k))
        go_wp2_with fail
        go_ret
        exact RetSl.mk (hown.out.ext (by (repeat (first | exact Ext.refl _ | refine Ext.alloc ?_ _ | refine Ext.drewN ?_ _ | refine Ext.drew ?_ | refine Ext.trans ?_ (Hid.out (by assumption)))))) (by (repeat (first | exact Ext.refl _ | refine Ext.alloc ?_ _ | refine Ext.drewN ?_ _ | refine Ext.drew ?_ | refine Ext.trans ?_ (Hid.out (by assumption))))) (Hst.out (by have := Hmn.out; omega))
      · have hfi : (m : Int) < 16 := by omega
        obtain ⟨b, o, ha, hc⟩ := HV.out.get k hk'
        rw [ha] at m2
        have HA := hid ha
        clear ha
        have hE : Ext w wr := Ext.trans (by (repeat (first | exact Ext.refl _ | refine Ext.alloc ?_ _ | refine Ext.drewN ?_ _ | refine Ext.drew ?_ | refine Ext.trans ?_ (Hid.out (by assumption))))) hx.out
        obtain ⟨c0, c1, c2, c3⟩ := cells4 (w := wr) (b := b) (o := o + k * 4) (x := vs[k]) (fun j v hj => hE.keep (hc j v hj))
        have bx := (Ext.refl wr).alloc (Obj.cells #[.int .i64 vs[k].id.b, .int .u64 vs[k].id.l, .int .u64 vs[k].id.s] 30)
        have r0 := bx.keep s0
        have r1 := bx.keep s1
        have r2 := bx.keep s2
        have r3 := bx.keep s3
        have j0 : (wr.alloc (Obj.cells #[.int .i64 vs[k].id.b, .int .u64 vs[k].id.l, .int .u64 vs[k].id.s] 30)).cell? ⟨wr.heap.size, 0, none⟩ = some (.int .i64 vs[k].id.b) := cellH (heap_alloc_new _ _) rfl
        have j1 : (wr.alloc (Obj.cells #[.int .i64 vs[k].id.b, .int .u64 vs[k].id.l, .int .u64 vs[k].id.s] 30)).cell? ⟨wr.heap.size, 1, none⟩ = some (.int .u64 vs[k].id.l) := cellH (heap_alloc_new _ _) rfl
        have j2 : (wr.alloc (Obj.cells #[.int .i64 vs[k].id.b, .int .u64 vs[k].id.l, .int .u64 vs[k].id.s] 30)).cell? ⟨wr.heap.size, 2, none⟩ = some (.int .u64 vs[k].id.s) := cellH (heap_alloc_new _ _) rfl
        clear hc hE s0 s1 s2 s3 bx
        have b0 : (0 : Int) ≤ (k : Int) := by omega
        go_upto_region 6 with (fail)
        have hxI := hid ((Ext.refl wr).alloc (Obj.cells #[.int .i64 vs[k].id.b, .int .u64 vs[k].id.l, .int .u64 vs[k].id.s] 30))
        go_upto_region 10 with (first | (go_at_call 41; refine (rhas_any s ls vs[k].id _ (HL.out.ext (by (repeat (first | exact Ext.refl _ | refine Ext.alloc ?_ _ | refine Ext.drewN ?_ _ | refine Ext.drew ?_ | refine Ext.trans ?_ (Hid.out (by assumption))))))).mono ?_; rintro e wq ⟨he, hb⟩; obtain ⟨kA, hA⟩ : ∃ b, Hid (ls.any (fun x : EV => idEq x.id vs[k].id) = b) := ⟨_, hid rfl⟩; rw [hA.out] at he; subst he; have j0 := hb.keep j0; have j1 := hb.keep j1; have j2 := hb.keep j2; have r0 := hb.keep r0; have r1 := hb.keep r1; have r2 := hb.keep r2; have r3 := hb.keep r3; have hzq : wr.heap.size < wq.heap.size := (by have := hb.size; (try simp at this); omega); have hxA := hid hb; clear hb) | (go_at_call 42; refine (rpromised_any s ps vs[k].id _ (HP.out.ext (by (repeat (first | exact Ext.refl _ | refine Ext.alloc ?_ _ | refine Ext.drewN ?_ _ | refine Ext.drew ?_ | refine Ext.trans ?_ (Hid.out (by assumption))))))).mono ?_; rintro e wq ⟨he, hb⟩; obtain ⟨kB, hB⟩ : ∃ b, Hid (ps.any (fun x : EV => idEq x.id vs[k].id) = b) := ⟨_, hid rfl⟩; rw [hB.out] at he; subst he; have j0 := hb.keep j0; have j1 := hb.keep j1; have j2 := hb.keep j2; have r0 := hb.keep r0; have r1 := hb.keep r1; have r2 := hb.keep r2; have r3 := hb.keep r3; have hzq : wr.heap.size < wq.heap.size := (by have := hb.size; (try simp at this); omega); have hxB := hid hb; clear hb) | (go_at_call 44; refine (rof_any _ _ _ os vs[k].id _ (HO.out.ext (by (repeat (first | exact Ext.refl _ | refine Ext.alloc ?_ _ | refine Ext.drewN ?_ _ | refine Ext.drew ?_ | refine Ext.trans ?_ (Hid.out (by assumption))))))).mono ?_; rintro e wq ⟨he, hb⟩; obtain ⟨kC, hC⟩ : ∃ b, Hid (os.any (fun x : EV => idEq x.id vs[k].id) = b) := ⟨_, hid rfl⟩; rw [hC.out] at he; subst he; have j0 := hb.keep j0; have j1 := hb.keep j1; have j2 := hb.keep j2; have r0 := hb.keep r0; have r1 := hb.keep r1; have r2 := hb.keep r2; have r3 := hb.keep r3; have hzq : wr.heap.size < wq.heap.size := (by have := hb.size; (try simp at this); omega); have hxC := hid hb; clear hb) | (go_at_call 45; refine (rin_any _ _ _ (endsOf (knows ls ps os) (vs.take k)) vs[k].id _ (hown.out.sl.ext (by (repeat (first | exact Ext.refl _ | refine Ext.alloc ?_ _ | refine Ext.drewN ?_ _ | refine Ext.drew ?_ | refine Ext.trans ?_ (Hid.out (by assumption))))))).mono ?_; rintro e wq ⟨he, hb⟩; obtain ⟨kD, hD⟩ : ∃ b, Hid ((endsOf (knows ls ps os) (vs.take k)).any (fun x : Id => idEq x vs[k].id) = b) := ⟨_, hid rfl⟩; rw [hD.out] at he; subst he; have j0 := hb.keep j0; have j1 := hb.keep j1; have j2 := hb.keep j2; have r0 := hb.keep r0; have r1 := hb.keep r1; have r2 := hb.keep r2; have r3 := hb.keep r3; have hzq : wr.heap.size < wq.heap.size := (by have := hb.size; (try simp at this); omega); have hxD := hid hb; clear hb))
        rename World => wq
        go_cut [57] (fun c wx => c = .bool (!(kD || (kA || kB || kC))) ∧ wq = wx)
        case first =>
          cases kA <;> cases kB <;> cases kC <;> cases kD
          all_goals
            go_wp2_with fail
            go_meet
            exact ⟨rfl, rfl⟩
        case rest =>
          obtain ⟨rfl, rfl⟩ := hcut
          cases hK : (kD || (kA || kB || kC)) with
          | true =>
            have HK := hid hK
            clear hK
            go_wp2_with fail
            go_roundg (gk - 1)
            case measure => omega
            case rel => exact ⟨k + 1, aa, m, cp, by omega, by go_num, rfl, (by rw [Hs.out, step_keep (by rw [knows_eq, hA.out, hB.out, hC.out, hD.out]; exact HK.out)]; exact hown.out.ext (by (repeat (first | exact Ext.refl _ | refine Ext.alloc ?_ _ | refine Ext.drewN ?_ _ | refine Ext.drew ?_ | refine Ext.trans ?_ (Hid.out (by assumption)))))), (by (repeat (first | exact Ext.refl _ | refine Ext.alloc ?_ _ | refine Ext.drewN ?_ _ | refine Ext.drew ?_ | refine Ext.trans ?_ (Hid.out (by assumption)))))⟩
          | false =>
            have HK := hid hK
            clear hK
            go_wp2_with (at_builtin; refine app1 (ys := endsOf (knows ls ps os) (vs.take k)) rfl _ _ 25 rfl i0 _ 24 Try.underlying25 I1.out I2.out I3.out I4.out rfl (by decide) rfl (hown.out.ext (by (repeat (first | exact Ext.refl _ | refine Ext.alloc ?_ _ | refine Ext.drewN ?_ _ | refine Ext.drew ?_ | refine Ext.trans ?_ (Hid.out (by assumption)))))) vs[k].id _ rfl (news_alloc (cs := Id.cs vs[k].id) rfl) (Id.one _) (by omega) (by decide) (Ext.size (by (repeat (first | exact Ext.refl _ | refine Ext.alloc ?_ _ | refine Ext.drewN ?_ _ | refine Ext.drew ?_ | refine Ext.trans ?_ (Hid.out (by assumption)))))) ?_; intro g cap' w1 hown1 hgrow; have HO1 := hid hown1; have HG := hid hgrow; clear hown1 hgrow)
            go_roundg (gk - 1)
            case measure => omega
            case rel => exact ⟨k + 1, _, _, _, by omega, by go_num, rfl, (by rw [Hs.out, step_more (by have := Hmn.out; omega) (by rw [knows_eq, hA.out, hB.out, hC.out, hD.out]; exact HK.out)]; exact HO1.out), HG.out.ext (hown.out.ext (by (repeat (first | exact Ext.refl _ | refine Ext.alloc ?_ _ | refine Ext.drewN ?_ _ | refine Ext.drew ?_ | refine Ext.trans ?_ (Hid.out (by assumption)))))) (Nat.le_refl _) (by (repeat (first | exact Ext.refl _ | refine Ext.alloc ?_ _ | refine Ext.drewN ?_ _ | refine Ext.drew ?_ | refine Ext.trans ?_ (Hid.out (by assumption)))))⟩
    · have hki : ¬ (k : Int) < (vn : Int) := by omega
      have hk' : vs.take k = vs := List.take_of_length_le (by have := hvn.out; omega)
      have Hk := hid hk'
      clear hk'
      go_wp2
      go_ret
      exact RetSl.mk hown.out (by (repeat (first | exact Ext.refl _ | refine Ext.alloc ?_ _ | refine Ext.drewN ?_ _ | refine Ext.drew ?_ | refine Ext.trans ?_ (Hid.out (by assumption))))) (by rw [Hk.out])
end Go.Proofs.Ytncadipipomebaa
