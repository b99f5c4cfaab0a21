/- What a broker ends: the walks of vote.Ends, by the program and by the document. -/
import Derived.Test.YtncadipipomebaaRSays
import Derived.Test.YtncadipipomebaaOwn
namespace Go.Proofs.Ytncadipipomebaa
open Go.RowKit

theorem infoId : (Try.prog.info? 30).map (fun i => (i.zero, i.size, i.bytes)) = some (some (.agg #[.int .i64 0, .int .u64 0, .int .u64 0]), 3, 24) := by kernel_rfl
theorem Id.wid (i : Id) : i.cs.length = 3 := rfl
theorem Id.one (i : Id) : ∀ u ∈ i.cs, u.oneCell' = true := by
  intro u hu; simp only [Id.cs, List.mem_cons, List.not_mem_nil, or_false] at hu; rcases hu with rfl | rfl | rfl <;> rfl

/-- one vote more -/
def endsStep (kn : Id → Bool) (out : List Id) (v : V) : List Id :=
  if 16 ≤ out.length then out else if (out.any (fun x => idEq x v.id) || kn v.id) = true then out else out ++ [v.id]
/-- the IDs of votes that are not known, each once, sixteen at most -/
def endsOf (kn : Id → Bool) (vs : List V) : List Id := vs.foldl (endsStep kn) []
theorem ends_succ {kn : Id → Bool} {vs : List V} {k : Nat} (hk : k < vs.length) : endsOf kn (vs.take (k + 1)) = endsStep kn (endsOf kn (vs.take k)) vs[k] := by
  unfold endsOf; rw [List.take_succ_eq_append_getElem hk, List.foldl_append]; rfl
theorem ends_full (kn : Id → Bool) : ∀ (l : List V) (out : List Id), 16 ≤ out.length → l.foldl (endsStep kn) out = out
  | [], _, _ => rfl
  | v :: l, out, h => by rw [List.foldl_cons, show endsStep kn out v = out from by unfold endsStep; rw [if_pos h]]; exact ends_full kn l out h
theorem ends_stop {kn : Id → Bool} {vs : List V} {k : Nat} (h : 16 ≤ (endsOf kn (vs.take k)).length) : endsOf kn (vs.take k) = endsOf kn vs := by
  have : endsOf kn vs = (vs.drop k).foldl (endsStep kn) (endsOf kn (vs.take k)) := by
    unfold endsOf; rw [← List.foldl_append, List.take_append_drop]
  rw [this, ends_full kn _ _ h]
theorem ends_len (kn : Id → Bool) : ∀ (l : List V) (out : List Id), out.length ≤ 16 → (l.foldl (endsStep kn) out).length ≤ 16
  | [], _, h => h
  | v :: l, out, h => by
    rw [List.foldl_cons]
    refine ends_len kn l _ ?_
    unfold endsStep; split
    · exact h
    · split
      · exact h
      · rw [List.length_append]; simp; omega
theorem step_keep {kn : Id → Bool} {out : List Id} {v : V} (h : (out.any (fun x => idEq x v.id) || kn v.id) = true) : endsStep kn out v = out := by
  unfold endsStep
  by_cases hl : 16 ≤ out.length
  · rw [if_pos hl]
  · rw [if_neg hl, if_pos h]
theorem step_more {kn : Id → Bool} {out : List Id} {v : V} (hl : ¬ 16 ≤ out.length) (h : (out.any (fun x => idEq x v.id) || kn v.id) = false) : endsStep kn out v = out ++ [v.id] := by
  unfold endsStep; rw [if_neg hl, if_neg (by rw [h]; simp)]
/-- what is known of an ID: listed, promised or open -/
def knows (ls ps os : List EV) (i : Id) : Bool := ls.any (fun x => idEq x.id i) || ps.any (fun x => idEq x.id i) || os.any (fun x => idEq x.id i)
theorem knows_eq (ls ps os : List EV) (i : Id) : knows ls ps os i = (ls.any (fun x => idEq x.id i) || ps.any (fun x => idEq x.id i) || os.any (fun x => idEq x.id i)) := rfl

set_option maxRecDepth 100000 in
set_option maxHeartbeats 4000000 in
theorem ends_any (s : StV) (ls ps os : List EV) (oa : Option Addr) (on oc : Nat) (x : MV) (vs : List V) (w : World)
    (hL : Sl w 8 EV.cs s.l.a s.l.n s.l.c ls) (hP : Sl w 8 EV.cs s.p.a s.p.n s.p.c ps) (hO : Sl w 8 EV.cs oa on oc os) (hV : Sl w 4 V.cs x.v.a x.v.n x.v.c vs) :
    Calls Try.prog 23 #[.agg #[.int .u64 s.life, .slice s.l.a s.l.n s.l.c, .slice s.p.a s.p.n s.p.c, .slice s.b.a s.b.n s.b.c], .slice oa on oc, .agg #[.int .i64 x.k, .int .u64 x.h, .slice x.v.a x.v.n x.v.c, .slice x.q.a x.q.n x.q.c, .slice x.e.a x.e.n x.e.c, .slice x.p.a x.p.n x.p.c, .slice x.b.a x.b.n x.b.c, .slice x.d.a x.d.n x.d.c]] w (RetSl 3 Id.cs (endsOf (knows ls ps os) vs) w) := by
  obtain ⟨i0, hi, hz0, hz1, hz2⟩ := info_parts infoId
  obtain ⟨xk, xh, ⟨a, n, cap⟩, xq, xe, xp, xb, xd⟩ := x
  obtain rfl := hV.neq
  have hm := hV.max
  have hl := hV.len
  dsimp only at hm hl hV ⊢
  unfold maxLen at hm
  have HL := hid hL
  have HP := hid hP
  have HO := hid hO
  have HV := hid hV
  have I1 := hid hi
  have I2 := hid hz0
  have I3 := hid hz1
  have I4 := hid hz2
  clear hL hP hO hV hi hz0 hz1 hz2
  go_enter Try.func23, Try.ntmps23
  go_wp2_with fail
  go_step3
  go_wp2_with fail
  go_step3
  go_wp2_with fail
  go_loopg [7, 13] (vs.length) (fun g ov st wr => ∃ (k : Nat) (aa : Option Addr) (m cp : Nat), g + k = vs.length ∧ st = .int .i64 k ∧ ov = .slice aa m cp ∧ Hid (Own wr ((w.alloc (Obj.cells #[.int .u64 s.life, .slice s.l.a s.l.n s.l.c, .slice s.p.a s.p.n s.p.c, .slice s.b.a s.b.n s.b.c] 27)).alloc (Obj.cells #[.int .i64 xk, .int .u64 xh, .slice a vs.length cap, .slice xq.a xq.n xq.c, .slice xe.a xe.n xe.c, .slice xp.a xp.n xp.c, .slice xb.a xb.n xb.c, .slice xd.a xd.n xd.c] 41)).heap.size 30 3 Id.cs aa m cp (endsOf (knows ls ps os) (vs.take k))) ∧ Hid (Ext ((w.alloc (Obj.cells #[.int .u64 s.life, .slice s.l.a s.l.n s.l.c, .slice s.p.a s.p.n s.p.c, .slice s.b.a s.b.n s.b.c] 27)).alloc (Obj.cells #[.int .i64 xk, .int .u64 xh, .slice a vs.length cap, .slice xq.a xq.n xq.c, .slice xe.a xe.n xe.c, .slice xp.a xp.n xp.c, .slice xb.a xb.n xb.c, .slice xd.a xd.n xd.c] 41)) wr))
  case atStart => exact ⟨0, none, 0, 0, by omega, rfl, rfl, Own.nil _ _ _ Id.wid, Ext.refl _⟩
  case round =>
    obtain ⟨k, aa, m, cp, hg, rfl, rfl, hown, hx⟩ := hrel
    by_cases hk : k < vs.length
    · obtain ⟨b, o, rfl, hc⟩ := HV.out.get k hk
      have hE : Ext w wr := Ext.trans (by (repeat (first | exact Ext.refl _ | refine Ext.alloc ?_ _ | refine Ext.drewN ?_ _ | refine Ext.drew ?_ | refine Ext.trans ?_ (Hid.out (by assumption))))) hx.out
      obtain ⟨c0, c1, c2, c3⟩ := cells4 (w := wr) (b := b) (o := o + k * 4) (x := vs[k]) (fun j v hj => hE.keep (hc j v hj))
      have s0 : wr.cell? ⟨w.heap.size, 0, none⟩ = some (.int .u64 s.life) := hx.out.keep (by simp)
      have s1 : wr.cell? ⟨w.heap.size, 1, none⟩ = some (.slice s.l.a s.l.n s.l.c) := hx.out.keep (by simp)
      have s2 : wr.cell? ⟨w.heap.size, 2, none⟩ = some (.slice s.p.a s.p.n s.p.c) := hx.out.keep (by simp)
      have s3 : wr.cell? ⟨w.heap.size, 3, none⟩ = some (.slice s.b.a s.b.n s.b.c) := hx.out.keep (by simp)
      have hz0 : w.heap.size < wr.heap.size := by have := hx.out.size; simp at this; omega
      have hz1 : w.heap.size < wr.heap.size + 1 := by omega
      have Hs := hid (ends_succ (kn := knows ls ps os) hk)
      have Hst := hid (ends_stop (kn := knows ls ps os) (vs := vs) (k := k))
      have Hln := hid (ends_len (knows ls ps os) (vs.take k) [] (by simp))
      have Hmn := hid hown.out.neq
      clear hc hE
      have b0 : (0 : Int) ≤ (k : Int) := by omega
      have b1 : (k : Int) < (vs.length : Int) := by omega
      by_cases hful : 16 ≤ m
      · have hfi : (16 : Int) ≤ (m : Int) := by omega
        go_wp2_with fail
        rw [Exit.noGoto_ret]
        go_ret
        exact RetSl.mk (hown.out.ext (by (repeat (first | exact Ext.refl _ | refine Ext.alloc ?_ _ | refine Ext.drewN ?_ _ | refine Ext.drew ?_ | refine Ext.trans ?_ (Hid.out (by assumption)))))) (by (repeat (first | exact Ext.refl _ | refine Ext.alloc ?_ _ | refine Ext.drewN ?_ _ | refine Ext.drew ?_ | refine Ext.trans ?_ (Hid.out (by assumption))))) (Hst.out (by have := Hmn.out; omega))
      · have hfi : (m : Int) < 16 := by omega
        cases h1 : (endsOf (knows ls ps os) (vs.take k)).any (fun x => idEq x vs[k].id) with
        | true =>
          have H1 := hid h1
          clear h1
          go_wp2_with (first | (go_at_call 39; refine (contains_any _ _ _ (endsOf (knows ls ps os) (vs.take k)) vs[k].id _ (hown.out.sl.ext (by (repeat (first | exact Ext.refl _ | refine Ext.alloc ?_ _ | refine Ext.drewN ?_ _ | refine Ext.drew ?_ | refine Ext.trans ?_ (Hid.out (by assumption))))))).mono ?_; rintro e w' ⟨rfl, hb⟩; have hc := hb.cell; have hz0 : w.heap.size < w'.heap.size := (by have := hb.size; (try simp at this); omega); have hz1 : wr.heap.size < w'.heap.size := (by have := hb.size; (try simp at this); omega); have hx' := hid hb; clear hb; rw [H1.out]) | (go_at_call 27; refine (has_any s ls vs[k].id _ (HL.out.ext (Ext.trans (((Ext.refl w).alloc _).alloc _) (Ext.trans hx.out (by (repeat (first | exact Ext.refl _ | refine Ext.alloc ?_ _ | refine Ext.drewN ?_ _ | refine Ext.drew ?_ | refine Ext.trans ?_ (Hid.out (by assumption))))))))).mono ?_; rintro e w' ⟨rfl, hb⟩; have hc := hb.cell; have hz0 : w.heap.size < w'.heap.size := (by have := hb.size; (try simp at this); omega); have hz1 : wr.heap.size < w'.heap.size := (by have := hb.size; (try simp at this); omega); have hx' := hid hb; clear hb; rw [H2.out]) | (go_at_call 28; refine (promised_any s ps vs[k].id _ (HP.out.ext (Ext.trans (((Ext.refl w).alloc _).alloc _) (Ext.trans hx.out (by (repeat (first | exact Ext.refl _ | refine Ext.alloc ?_ _ | refine Ext.drewN ?_ _ | refine Ext.drew ?_ | refine Ext.trans ?_ (Hid.out (by assumption))))))))).mono ?_; rintro e w' ⟨rfl, hb⟩; have hc := hb.cell; have hz0 : w.heap.size < w'.heap.size := (by have := hb.size; (try simp at this); omega); have hz1 : wr.heap.size < w'.heap.size := (by have := hb.size; (try simp at this); omega); have hx' := hid hb; clear hb; rw [H3.out]) | (go_at_call 38; refine (vof_any _ _ _ os vs[k].id _ (HO.out.ext (Ext.trans (((Ext.refl w).alloc _).alloc _) (Ext.trans hx.out (by (repeat (first | exact Ext.refl _ | refine Ext.alloc ?_ _ | refine Ext.drewN ?_ _ | refine Ext.drew ?_ | refine Ext.trans ?_ (Hid.out (by assumption))))))))).mono ?_; rintro e w' ⟨rfl, hb⟩; have hc := hb.cell; have hz0 : w.heap.size < w'.heap.size := (by have := hb.size; (try simp at this); omega); have hz1 : wr.heap.size < w'.heap.size := (by have := hb.size; (try simp at this); omega); have hx' := hid hb; clear hb; rw [H4.out]))
          go_roundg (gk - 1)
          case measure => omega
          case rel => exact ⟨k + 1, aa, m, cp, by omega, by go_num, rfl, (by rw [Hs.out, step_keep (by rw [knows_eq, H1.out]; simp)]; exact hown.out.ext (by (repeat (first | exact Ext.refl _ | refine Ext.alloc ?_ _ | refine Ext.drewN ?_ _ | refine Ext.drew ?_ | refine Ext.trans ?_ (Hid.out (by assumption)))))), (by (repeat (first | exact Ext.refl _ | refine Ext.alloc ?_ _ | refine Ext.drewN ?_ _ | refine Ext.drew ?_ | refine Ext.trans ?_ (Hid.out (by assumption)))))⟩
        | false =>
          have H1 := hid h1
          clear h1
          cases h2 : ls.any (fun x => idEq x.id vs[k].id) with
          | true =>
            have H2 := hid h2
            clear h2
            go_wp2_with (first | (go_at_call 39; refine (contains_any _ _ _ (endsOf (knows ls ps os) (vs.take k)) vs[k].id _ (hown.out.sl.ext (by (repeat (first | exact Ext.refl _ | refine Ext.alloc ?_ _ | refine Ext.drewN ?_ _ | refine Ext.drew ?_ | refine Ext.trans ?_ (Hid.out (by assumption))))))).mono ?_; rintro e w' ⟨rfl, hb⟩; have hc := hb.cell; have hz0 : w.heap.size < w'.heap.size := (by have := hb.size; (try simp at this); omega); have hz1 : wr.heap.size < w'.heap.size := (by have := hb.size; (try simp at this); omega); have hx' := hid hb; clear hb; rw [H1.out]) | (go_at_call 27; refine (has_any s ls vs[k].id _ (HL.out.ext (Ext.trans (((Ext.refl w).alloc _).alloc _) (Ext.trans hx.out (by (repeat (first | exact Ext.refl _ | refine Ext.alloc ?_ _ | refine Ext.drewN ?_ _ | refine Ext.drew ?_ | refine Ext.trans ?_ (Hid.out (by assumption))))))))).mono ?_; rintro e w' ⟨rfl, hb⟩; have hc := hb.cell; have hz0 : w.heap.size < w'.heap.size := (by have := hb.size; (try simp at this); omega); have hz1 : wr.heap.size < w'.heap.size := (by have := hb.size; (try simp at this); omega); have hx' := hid hb; clear hb; rw [H2.out]) | (go_at_call 28; refine (promised_any s ps vs[k].id _ (HP.out.ext (Ext.trans (((Ext.refl w).alloc _).alloc _) (Ext.trans hx.out (by (repeat (first | exact Ext.refl _ | refine Ext.alloc ?_ _ | refine Ext.drewN ?_ _ | refine Ext.drew ?_ | refine Ext.trans ?_ (Hid.out (by assumption))))))))).mono ?_; rintro e w' ⟨rfl, hb⟩; have hc := hb.cell; have hz0 : w.heap.size < w'.heap.size := (by have := hb.size; (try simp at this); omega); have hz1 : wr.heap.size < w'.heap.size := (by have := hb.size; (try simp at this); omega); have hx' := hid hb; clear hb; rw [H3.out]) | (go_at_call 38; refine (vof_any _ _ _ os vs[k].id _ (HO.out.ext (Ext.trans (((Ext.refl w).alloc _).alloc _) (Ext.trans hx.out (by (repeat (first | exact Ext.refl _ | refine Ext.alloc ?_ _ | refine Ext.drewN ?_ _ | refine Ext.drew ?_ | refine Ext.trans ?_ (Hid.out (by assumption))))))))).mono ?_; rintro e w' ⟨rfl, hb⟩; have hc := hb.cell; have hz0 : w.heap.size < w'.heap.size := (by have := hb.size; (try simp at this); omega); have hz1 : wr.heap.size < w'.heap.size := (by have := hb.size; (try simp at this); omega); have hx' := hid hb; clear hb; rw [H4.out]))
            go_roundg (gk - 1)
            case measure => omega
            case rel => exact ⟨k + 1, aa, m, cp, by omega, by go_num, rfl, (by rw [Hs.out, step_keep (by rw [knows_eq, H1.out, H2.out]; simp)]; exact hown.out.ext (by (repeat (first | exact Ext.refl _ | refine Ext.alloc ?_ _ | refine Ext.drewN ?_ _ | refine Ext.drew ?_ | refine Ext.trans ?_ (Hid.out (by assumption)))))), (by (repeat (first | exact Ext.refl _ | refine Ext.alloc ?_ _ | refine Ext.drewN ?_ _ | refine Ext.drew ?_ | refine Ext.trans ?_ (Hid.out (by assumption)))))⟩
          | false =>
            have H2 := hid h2
            clear h2
            cases h3 : ps.any (fun x => idEq x.id vs[k].id) with
            | true =>
              have H3 := hid h3
              clear h3
              go_wp2_with (first | (go_at_call 39; refine (contains_any _ _ _ (endsOf (knows ls ps os) (vs.take k)) vs[k].id _ (hown.out.sl.ext (by (repeat (first | exact Ext.refl _ | refine Ext.alloc ?_ _ | refine Ext.drewN ?_ _ | refine Ext.drew ?_ | refine Ext.trans ?_ (Hid.out (by assumption))))))).mono ?_; rintro e w' ⟨rfl, hb⟩; have hc := hb.cell; have hz0 : w.heap.size < w'.heap.size := (by have := hb.size; (try simp at this); omega); have hz1 : wr.heap.size < w'.heap.size := (by have := hb.size; (try simp at this); omega); have hx' := hid hb; clear hb; rw [H1.out]) | (go_at_call 27; refine (has_any s ls vs[k].id _ (HL.out.ext (Ext.trans (((Ext.refl w).alloc _).alloc _) (Ext.trans hx.out (by (repeat (first | exact Ext.refl _ | refine Ext.alloc ?_ _ | refine Ext.drewN ?_ _ | refine Ext.drew ?_ | refine Ext.trans ?_ (Hid.out (by assumption))))))))).mono ?_; rintro e w' ⟨rfl, hb⟩; have hc := hb.cell; have hz0 : w.heap.size < w'.heap.size := (by have := hb.size; (try simp at this); omega); have hz1 : wr.heap.size < w'.heap.size := (by have := hb.size; (try simp at this); omega); have hx' := hid hb; clear hb; rw [H2.out]) | (go_at_call 28; refine (promised_any s ps vs[k].id _ (HP.out.ext (Ext.trans (((Ext.refl w).alloc _).alloc _) (Ext.trans hx.out (by (repeat (first | exact Ext.refl _ | refine Ext.alloc ?_ _ | refine Ext.drewN ?_ _ | refine Ext.drew ?_ | refine Ext.trans ?_ (Hid.out (by assumption))))))))).mono ?_; rintro e w' ⟨rfl, hb⟩; have hc := hb.cell; have hz0 : w.heap.size < w'.heap.size := (by have := hb.size; (try simp at this); omega); have hz1 : wr.heap.size < w'.heap.size := (by have := hb.size; (try simp at this); omega); have hx' := hid hb; clear hb; rw [H3.out]) | (go_at_call 38; refine (vof_any _ _ _ os vs[k].id _ (HO.out.ext (Ext.trans (((Ext.refl w).alloc _).alloc _) (Ext.trans hx.out (by (repeat (first | exact Ext.refl _ | refine Ext.alloc ?_ _ | refine Ext.drewN ?_ _ | refine Ext.drew ?_ | refine Ext.trans ?_ (Hid.out (by assumption))))))))).mono ?_; rintro e w' ⟨rfl, hb⟩; have hc := hb.cell; have hz0 : w.heap.size < w'.heap.size := (by have := hb.size; (try simp at this); omega); have hz1 : wr.heap.size < w'.heap.size := (by have := hb.size; (try simp at this); omega); have hx' := hid hb; clear hb; rw [H4.out]))
              go_roundg (gk - 1)
              case measure => omega
              case rel => exact ⟨k + 1, aa, m, cp, by omega, by go_num, rfl, (by rw [Hs.out, step_keep (by rw [knows_eq, H1.out, H2.out, H3.out]; simp)]; exact hown.out.ext (by (repeat (first | exact Ext.refl _ | refine Ext.alloc ?_ _ | refine Ext.drewN ?_ _ | refine Ext.drew ?_ | refine Ext.trans ?_ (Hid.out (by assumption)))))), (by (repeat (first | exact Ext.refl _ | refine Ext.alloc ?_ _ | refine Ext.drewN ?_ _ | refine Ext.drew ?_ | refine Ext.trans ?_ (Hid.out (by assumption)))))⟩
            | false =>
              have H3 := hid h3
              clear h3
              cases h4 : os.any (fun x => idEq x.id vs[k].id) with
              | true =>
                have H4 := hid h4
                clear h4
                go_wp2_with (first | (go_at_call 39; refine (contains_any _ _ _ (endsOf (knows ls ps os) (vs.take k)) vs[k].id _ (hown.out.sl.ext (by (repeat (first | exact Ext.refl _ | refine Ext.alloc ?_ _ | refine Ext.drewN ?_ _ | refine Ext.drew ?_ | refine Ext.trans ?_ (Hid.out (by assumption))))))).mono ?_; rintro e w' ⟨rfl, hb⟩; have hc := hb.cell; have hz0 : w.heap.size < w'.heap.size := (by have := hb.size; (try simp at this); omega); have hz1 : wr.heap.size < w'.heap.size := (by have := hb.size; (try simp at this); omega); have hx' := hid hb; clear hb; rw [H1.out]) | (go_at_call 27; refine (has_any s ls vs[k].id _ (HL.out.ext (Ext.trans (((Ext.refl w).alloc _).alloc _) (Ext.trans hx.out (by (repeat (first | exact Ext.refl _ | refine Ext.alloc ?_ _ | refine Ext.drewN ?_ _ | refine Ext.drew ?_ | refine Ext.trans ?_ (Hid.out (by assumption))))))))).mono ?_; rintro e w' ⟨rfl, hb⟩; have hc := hb.cell; have hz0 : w.heap.size < w'.heap.size := (by have := hb.size; (try simp at this); omega); have hz1 : wr.heap.size < w'.heap.size := (by have := hb.size; (try simp at this); omega); have hx' := hid hb; clear hb; rw [H2.out]) | (go_at_call 28; refine (promised_any s ps vs[k].id _ (HP.out.ext (Ext.trans (((Ext.refl w).alloc _).alloc _) (Ext.trans hx.out (by (repeat (first | exact Ext.refl _ | refine Ext.alloc ?_ _ | refine Ext.drewN ?_ _ | refine Ext.drew ?_ | refine Ext.trans ?_ (Hid.out (by assumption))))))))).mono ?_; rintro e w' ⟨rfl, hb⟩; have hc := hb.cell; have hz0 : w.heap.size < w'.heap.size := (by have := hb.size; (try simp at this); omega); have hz1 : wr.heap.size < w'.heap.size := (by have := hb.size; (try simp at this); omega); have hx' := hid hb; clear hb; rw [H3.out]) | (go_at_call 38; refine (vof_any _ _ _ os vs[k].id _ (HO.out.ext (Ext.trans (((Ext.refl w).alloc _).alloc _) (Ext.trans hx.out (by (repeat (first | exact Ext.refl _ | refine Ext.alloc ?_ _ | refine Ext.drewN ?_ _ | refine Ext.drew ?_ | refine Ext.trans ?_ (Hid.out (by assumption))))))))).mono ?_; rintro e w' ⟨rfl, hb⟩; have hc := hb.cell; have hz0 : w.heap.size < w'.heap.size := (by have := hb.size; (try simp at this); omega); have hz1 : wr.heap.size < w'.heap.size := (by have := hb.size; (try simp at this); omega); have hx' := hid hb; clear hb; rw [H4.out]))
                go_roundg (gk - 1)
                case measure => omega
                case rel => exact ⟨k + 1, aa, m, cp, by omega, by go_num, rfl, (by rw [Hs.out, step_keep (by rw [knows_eq, H1.out, H2.out, H3.out, H4.out]; simp)]; exact hown.out.ext (by (repeat (first | exact Ext.refl _ | refine Ext.alloc ?_ _ | refine Ext.drewN ?_ _ | refine Ext.drew ?_ | refine Ext.trans ?_ (Hid.out (by assumption)))))), (by (repeat (first | exact Ext.refl _ | refine Ext.alloc ?_ _ | refine Ext.drewN ?_ _ | refine Ext.drew ?_ | refine Ext.trans ?_ (Hid.out (by assumption)))))⟩
              | false =>
                have H4 := hid h4
                clear h4
                go_wp2_with (first | (at_builtin; refine app1 (ys := endsOf (knows ls ps os) (vs.take k)) rfl _ _ 25 rfl i0 _ 24 Try.underlying25 I1.out I2.out I3.out I4.out rfl (by decide) rfl (hown.out.ext (by (repeat (first | exact Ext.refl _ | refine Ext.alloc ?_ _ | refine Ext.drewN ?_ _ | refine Ext.drew ?_ | refine Ext.trans ?_ (Hid.out (by assumption)))))) vs[k].id _ rfl (news_alloc (cs := Id.cs vs[k].id) rfl) (Id.one _) (by omega) (by decide) (Ext.size (by (repeat (first | exact Ext.refl _ | refine Ext.alloc ?_ _ | refine Ext.drewN ?_ _ | refine Ext.drew ?_ | refine Ext.trans ?_ (Hid.out (by assumption)))))) ?_; intro g cap' w1 hown1 hgrow) | (go_at_call 39; refine (contains_any _ _ _ (endsOf (knows ls ps os) (vs.take k)) vs[k].id _ (hown.out.sl.ext (by (repeat (first | exact Ext.refl _ | refine Ext.alloc ?_ _ | refine Ext.drewN ?_ _ | refine Ext.drew ?_ | refine Ext.trans ?_ (Hid.out (by assumption))))))).mono ?_; rintro e w' ⟨rfl, hb⟩; have hc := hb.cell; have hz0 : w.heap.size < w'.heap.size := (by have := hb.size; (try simp at this); omega); have hz1 : wr.heap.size < w'.heap.size := (by have := hb.size; (try simp at this); omega); have hx' := hid hb; clear hb; rw [H1.out]) | (go_at_call 27; refine (has_any s ls vs[k].id _ (HL.out.ext (Ext.trans (((Ext.refl w).alloc _).alloc _) (Ext.trans hx.out (by (repeat (first | exact Ext.refl _ | refine Ext.alloc ?_ _ | refine Ext.drewN ?_ _ | refine Ext.drew ?_ | refine Ext.trans ?_ (Hid.out (by assumption))))))))).mono ?_; rintro e w' ⟨rfl, hb⟩; have hc := hb.cell; have hz0 : w.heap.size < w'.heap.size := (by have := hb.size; (try simp at this); omega); have hz1 : wr.heap.size < w'.heap.size := (by have := hb.size; (try simp at this); omega); have hx' := hid hb; clear hb; rw [H2.out]) | (go_at_call 28; refine (promised_any s ps vs[k].id _ (HP.out.ext (Ext.trans (((Ext.refl w).alloc _).alloc _) (Ext.trans hx.out (by (repeat (first | exact Ext.refl _ | refine Ext.alloc ?_ _ | refine Ext.drewN ?_ _ | refine Ext.drew ?_ | refine Ext.trans ?_ (Hid.out (by assumption))))))))).mono ?_; rintro e w' ⟨rfl, hb⟩; have hc := hb.cell; have hz0 : w.heap.size < w'.heap.size := (by have := hb.size; (try simp at this); omega); have hz1 : wr.heap.size < w'.heap.size := (by have := hb.size; (try simp at this); omega); have hx' := hid hb; clear hb; rw [H3.out]) | (go_at_call 38; refine (vof_any _ _ _ os vs[k].id _ (HO.out.ext (Ext.trans (((Ext.refl w).alloc _).alloc _) (Ext.trans hx.out (by (repeat (first | exact Ext.refl _ | refine Ext.alloc ?_ _ | refine Ext.drewN ?_ _ | refine Ext.drew ?_ | refine Ext.trans ?_ (Hid.out (by assumption))))))))).mono ?_; rintro e w' ⟨rfl, hb⟩; have hc := hb.cell; have hz0 : w.heap.size < w'.heap.size := (by have := hb.size; (try simp at this); omega); have hz1 : wr.heap.size < w'.heap.size := (by have := hb.size; (try simp at this); omega); have hx' := hid hb; clear hb; rw [H4.out]))
                go_roundg (gk - 1)
                case measure => omega
                case rel => exact ⟨k + 1, _, _, _, by omega, by go_num, rfl, (by rw [Hs.out, step_more (by have := Hmn.out; omega) (by rw [knows_eq, H1.out, H2.out, H3.out, H4.out]; rfl)]; exact hown1), hgrow.ext (hown.out.ext (by (repeat (first | exact Ext.refl _ | refine Ext.alloc ?_ _ | refine Ext.drewN ?_ _ | refine Ext.drew ?_ | refine Ext.trans ?_ (Hid.out (by assumption)))))) (Nat.le_refl _) (by (repeat (first | exact Ext.refl _ | refine Ext.alloc ?_ _ | refine Ext.drewN ?_ _ | refine Ext.drew ?_ | refine Ext.trans ?_ (Hid.out (by assumption)))))⟩
    · have hk' : vs.take k = vs := List.take_of_length_le (by omega)
      have Hk := hid hk'
      clear hk'
      go_wp2
      rw [Exit.noGoto_ret]
      go_ret
      exact RetSl.mk hown.out (by (repeat (first | exact Ext.refl _ | refine Ext.alloc ?_ _ | refine Ext.drewN ?_ _ | refine Ext.drew ?_ | refine Ext.trans ?_ (Hid.out (by assumption))))) (by rw [Hk.out])
end Go.Proofs.Ytncadipipomebaa
