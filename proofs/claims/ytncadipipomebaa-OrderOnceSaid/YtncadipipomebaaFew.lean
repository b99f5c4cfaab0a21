/- How great what comes in is: the walks of the limits that the statements set. -/
import Derived.Test.YtncadipipomebaaDeep
import Derived.Test.YtncadipipomebaaVotes
namespace Go.Proofs.Ytncadipipomebaa
open Go.RowKit

/-- A bool that, if true, tells a bound. -/
def FewR (p : Prop) (w : World) (e : Ending) (w' : World) : Prop := ∃ b : Bool, e = .returned (.bool b) ∧ (b = true → p) ∧ Ext w w'

set_option maxHeartbeats 1000000 in
theorem few05_any (a : Option Addr) (n cap : Nat) (xs : List T) (w : World) (hS : Sl w 5 T.cs a n cap xs) :
    Calls Try.prog 72 #[.slice a n cap] w (FewR (xs.length ≤ 10) w) := by
  obtain rfl := hS.neq
  have hm := hS.max
  have hl := hS.len
  unfold maxLen at hm
  have HS := hid hS
  clear hS
  by_cases hb : xs.length ≤ 10
  · have hbi : (xs.length : Int) ≤ 10 := by omega
    go_enter Try.func72, Try.ntmps72
    go_wp2_with fail
    go_loopg [3] (xs.length) (fun g st wr => ∃ k : Nat, g + k = xs.length ∧ st = .int .i64 k ∧ Hid (Ext w wr))
    case atStart => exact ⟨0, by omega, rfl, Ext.refl _⟩
    case round =>
      obtain ⟨k, hg, rfl, hx⟩ := hrel
      by_cases hk : k < xs.length
      · obtain ⟨b, o, rfl, hc⟩ := HS.out.get k hk
        obtain ⟨c0, c1, c2, c3, c4⟩ := cellsT (w := wr) (b := b) (o := o + k * 5) (x := xs[k]) (fun j v hj => hx.out.keep (hc j v hj))
        clear hc
        have b0 : (0 : Int) ≤ (k : Int) := by omega
        have b1 : (k : Int) < (xs.length : Int) := by omega
        go_wp2
        all_goals first
          | (go_ret; exact ⟨false, rfl, (fun h => by cases h), (by (repeat (first | exact Ext.refl _ | refine Ext.alloc ?_ _ | refine Ext.drewN ?_ _ | refine Ext.drew ?_ | refine Ext.trans ?_ (Hid.out (by assumption)))))⟩)
          | (go_roundg (gk - 1); (case measure => omega); (case rel => exact ⟨k + 1, by omega, by go_num, (by (repeat (first | exact Ext.refl _ | refine Ext.alloc ?_ _ | refine Ext.drewN ?_ _ | refine Ext.drew ?_ | refine Ext.trans ?_ (Hid.out (by assumption)))))⟩))
      · go_wp2
        go_ret
        exact ⟨true, rfl, fun _ => hb, (by (repeat (first | exact Ext.refl _ | refine Ext.alloc ?_ _ | refine Ext.drewN ?_ _ | refine Ext.drew ?_ | refine Ext.trans ?_ (Hid.out (by assumption)))))⟩
  · have hbi : 10 < (xs.length : Int) := by omega
    go_enter Try.func72, Try.ntmps72
    go_wp2_with fail
    (go_ret; exact ⟨false, rfl, (fun h => by cases h), (by (repeat (first | exact Ext.refl _ | refine Ext.alloc ?_ _ | refine Ext.drewN ?_ _ | refine Ext.drew ?_ | refine Ext.trans ?_ (Hid.out (by assumption)))))⟩)

set_option maxHeartbeats 1000000 in
theorem few04_any (a : Option Addr) (n cap : Nat) (xs : List AT) (w : World) (hS : Sl w 4 AT.cs a n cap xs) :
    Calls Try.prog 71 #[.slice a n cap] w (FewR (xs.length ≤ 20) w) := by
  obtain rfl := hS.neq
  have hm := hS.max
  have hl := hS.len
  unfold maxLen at hm
  have HS := hid hS
  clear hS
  by_cases hb : xs.length ≤ 20
  · have hbi : (xs.length : Int) ≤ 20 := by omega
    go_enter Try.func71, Try.ntmps71
    go_wp2_with fail
    go_loopg [3] (xs.length) (fun g st wr => ∃ k : Nat, g + k = xs.length ∧ st = .int .i64 k ∧ Hid (Ext w wr))
    case atStart => exact ⟨0, by omega, rfl, Ext.refl _⟩
    case round =>
      obtain ⟨k, hg, rfl, hx⟩ := hrel
      by_cases hk : k < xs.length
      · obtain ⟨b, o, rfl, hc⟩ := HS.out.get k hk
        obtain ⟨c0, c1, c2, c3⟩ := cellsA (w := wr) (b := b) (o := o + k * 4) (x := xs[k]) (fun j v hj => hx.out.keep (hc j v hj))
        clear hc
        have b0 : (0 : Int) ≤ (k : Int) := by omega
        have b1 : (k : Int) < (xs.length : Int) := by omega
        go_wp2
        all_goals first
          | (go_ret; exact ⟨false, rfl, (fun h => by cases h), (by (repeat (first | exact Ext.refl _ | refine Ext.alloc ?_ _ | refine Ext.drewN ?_ _ | refine Ext.drew ?_ | refine Ext.trans ?_ (Hid.out (by assumption)))))⟩)
          | (go_roundg (gk - 1); (case measure => omega); (case rel => exact ⟨k + 1, by omega, by go_num, (by (repeat (first | exact Ext.refl _ | refine Ext.alloc ?_ _ | refine Ext.drewN ?_ _ | refine Ext.drew ?_ | refine Ext.trans ?_ (Hid.out (by assumption)))))⟩))
      · go_wp2
        go_ret
        exact ⟨true, rfl, fun _ => hb, (by (repeat (first | exact Ext.refl _ | refine Ext.alloc ?_ _ | refine Ext.drewN ?_ _ | refine Ext.drew ?_ | refine Ext.trans ?_ (Hid.out (by assumption)))))⟩
  · have hbi : 20 < (xs.length : Int) := by omega
    go_enter Try.func71, Try.ntmps71
    go_wp2_with fail
    (go_ret; exact ⟨false, rfl, (fun h => by cases h), (by (repeat (first | exact Ext.refl _ | refine Ext.alloc ?_ _ | refine Ext.drewN ?_ _ | refine Ext.drew ?_ | refine Ext.trans ?_ (Hid.out (by assumption)))))⟩)

set_option maxRecDepth 100000 in
set_option maxHeartbeats 2000000 in
theorem few11_any (x : EV) (d : ED) (w : World) (hI : EntryIs w x d) : Calls Try.prog 69 #[.agg #[.int .i64 x.k, .int .i64 x.id.b, .int .u64 x.id.l, .int .u64 x.id.s, .int .i64 x.c, .int .u64 x.u, .slice x.f.a x.f.n x.f.c, .slice x.e.a x.e.n x.e.c]] w (FewR (Small d) w) := by
  obtain ⟨evs, hes, hev⟩ := hI.e
  have hT := hI.f
  obtain ⟨xk, xi, xc, xu, ⟨fa, fn, fc⟩, ⟨ea, en, ec⟩⟩ := x
  dsimp only at hT hev ⊢
  obtain rfl := hev.sl.neq
  have hm := hev.sl.max
  have hl := hev.sl.len
  unfold maxLen at hm
  have HT := hid hT
  have HEV := hid hev
  have HES := hid hes
  clear hI hT hev hes
  by_cases hb : evs.length ≤ 10
  · have hbi : (evs.length : Int) ≤ 10 := by omega
    go_enter Try.func69, Try.ntmps69
    go_wp2_with fail
    go_loopg [3] (evs.length) (fun g st wr => ∃ k : Nat, g + k = evs.length ∧ st = .int .i64 k ∧ Hid (∀ y, y ∈ evs.take k → y.ats.length ≤ 20) ∧ Hid (Ext (w.alloc (Obj.cells #[.int .i64 xk, .int .i64 xi.b, .int .u64 xi.l, .int .u64 xi.s, .int .i64 xc, .int .u64 xu, .slice fa fn fc, .slice ea evs.length ec] 50)) wr))
    case atStart => exact ⟨0, by omega, rfl, (fun y hy => by cases hy), Ext.refl _⟩
    case round =>
      obtain ⟨k, hg, rfl, hok, hx⟩ := hrel
      have x6 : wr.cell? ⟨w.heap.size, 6, none⟩ = some (.slice fa fn fc) := hx.out.keep (by simp)
      have x7 : wr.cell? ⟨w.heap.size, 7, none⟩ = some (.slice ea evs.length ec) := hx.out.keep (by simp)
      by_cases hk : k < evs.length
      · obtain ⟨b, o, rfl, hc⟩ := HEV.out.sl.get k hk
        have hE : Ext w wr := Ext.trans ((Ext.refl w).alloc _) hx.out
        have d0 := cells1 (w := wr) (b := b) (o := o + k * 1) (x := evs[k]) (fun j v hj => hE.keep (hc j v hj))
        rw [Nat.mul_one] at d0
        have HV := hid ((HEV.out.ats evs[k] (List.getElem_mem hk)).ext hE)
        clear hc hE
        have b0 : (0 : Int) ≤ (k : Int) := by omega
        have b1 : (k : Int) < (evs.length : Int) := by omega
        go_wp2_with (go_at_call 71; refine (few04_any _ _ _ evs[k].ats _ HV.out).mono ?_; rintro e w' ⟨fw, rfl, hfw, hb⟩; have hx' := hid hb; have HFW := hid hfw; clear hb hfw; cases fw)
        · (go_ret; exact ⟨false, rfl, (fun h => by cases h), (by (repeat (first | exact Ext.refl _ | refine Ext.alloc ?_ _ | refine Ext.drewN ?_ _ | refine Ext.drew ?_ | refine Ext.trans ?_ (Hid.out (by assumption)))))⟩)
        · go_roundg (gk - 1)
          case measure => omega
          case rel =>
            refine ⟨k + 1, by omega, by go_num, fun y hy => ?_, (by (repeat (first | exact Ext.refl _ | refine Ext.alloc ?_ _ | refine Ext.drewN ?_ _ | refine Ext.drew ?_ | refine Ext.trans ?_ (Hid.out (by assumption)))))⟩
            rw [List.take_succ_eq_append_getElem hk] at hy
            rcases List.mem_append.1 hy with hy | hy
            · exact hok.out y hy
            · obtain rfl := List.mem_singleton.1 hy
              exact HFW.out (by trivial)
      · have hk' : evs.take k = evs := List.take_of_length_le (by omega)
        rw [hk'] at hok
        clear hk'
        go_wp2_with (go_at_call 72; refine (few05_any _ _ _ d.ts _ (HT.out.ext (Ext.trans ((Ext.refl w).alloc _) hx.out))).mono ?_; rintro e w' ⟨fw, rfl, hfw, hb⟩; have hx' := hid hb; have HFW := hid hfw; clear hb hfw)
        go_ret
        refine ⟨fw, rfl, fun h => ⟨Nat.le_trans (HFW.out h) (by decide), ?_, fun e he => ?_⟩, (by (repeat (first | exact Ext.refl _ | refine Ext.alloc ?_ _ | refine Ext.drewN ?_ _ | refine Ext.drew ?_ | refine Ext.trans ?_ (Hid.out (by assumption)))))⟩
        · rw [← HES.out, List.length_map]; omega
        · rw [← HES.out] at he
          obtain ⟨y, hy, rfl⟩ := List.mem_map.1 he
          exact Nat.le_trans (hok.out y hy) (by decide)
  · have hbi : 10 < (evs.length : Int) := by omega
    go_enter Try.func69, Try.ntmps69
    go_wp2_with fail
    (go_ret; exact ⟨false, rfl, (fun h => by cases h), (by (repeat (first | exact Ext.refl _ | refine Ext.alloc ?_ _ | refine Ext.drewN ?_ _ | refine Ext.drew ?_ | refine Ext.trans ?_ (Hid.out (by assumption)))))⟩)

/-- entries of little loads, at most twenty -/
def OkE (xs : List EP) : Prop := xs.length ≤ 20 ∧ ∀ p, p ∈ xs → Small p.d
set_option maxHeartbeats 2000000 in
theorem few13_any (a : Option Addr) (n cap : Nat) (xs : List EP) (w : World) (hX : Ents w a n cap xs) :
    Calls Try.prog 59 #[.slice a n cap] w (FewR (OkE xs) w) := by
  obtain rfl := hX.sl.neq
  have hm := hX.sl.max
  have hl := hX.sl.len
  unfold maxLen at hm
  have HX := hid hX
  clear hX
  by_cases hb : xs.length ≤ 20
  · have hbi : (xs.length : Int) ≤ 20 := by omega
    go_enter Try.func59, Try.ntmps59
    go_wp2_with fail
    go_loopg [3] (xs.length) (fun g st wr => ∃ k : Nat, g + k = xs.length ∧ st = .int .i64 k ∧ Hid (∀ y, y ∈ xs.take k → Small y.d) ∧ Hid (Ext w wr))
    case atStart => exact ⟨0, by omega, rfl, (fun y hy => by cases hy), Ext.refl _⟩
    case round =>
      obtain ⟨k, hg, rfl, hok, hx⟩ := hrel
      by_cases hk : k < xs.length
      · obtain ⟨b, o, rfl, hc⟩ := HX.out.sl.get k hk
        obtain ⟨c0, c1, c2, c3, c4, c5, c6, c7⟩ := cells8 (w := wr) (b := b) (o := o + k * 8) (x := xs[k].x) (fun j v hj => hx.out.keep (hc j v hj))
        have HV := hid ((HX.out.is xs[k] (List.getElem_mem hk)).ext hx.out)
        clear hc
        have b0 : (0 : Int) ≤ (k : Int) := by omega
        have b1 : (k : Int) < (xs.length : Int) := by omega
        go_wp2_with (go_at_call 69; refine (few11_any xs[k].x xs[k].d _ HV.out).mono ?_; rintro e w' ⟨fw, rfl, hfw, hb⟩; have hx' := hid hb; have HFW := hid hfw; clear hb hfw; cases fw)
        · (go_ret; exact ⟨false, rfl, (fun h => by cases h), (by (repeat (first | exact Ext.refl _ | refine Ext.alloc ?_ _ | refine Ext.drewN ?_ _ | refine Ext.drew ?_ | refine Ext.trans ?_ (Hid.out (by assumption)))))⟩)
        · go_roundg (gk - 1)
          case measure => omega
          case rel =>
            refine ⟨k + 1, by omega, by go_num, fun y hy => ?_, (by (repeat (first | exact Ext.refl _ | refine Ext.alloc ?_ _ | refine Ext.drewN ?_ _ | refine Ext.drew ?_ | refine Ext.trans ?_ (Hid.out (by assumption)))))⟩
            rw [List.take_succ_eq_append_getElem hk] at hy
            rcases List.mem_append.1 hy with hy | hy
            · exact hok.out y hy
            · obtain rfl := List.mem_singleton.1 hy
              exact HFW.out (by trivial)
      · have hk' : xs.take k = xs := List.take_of_length_le (by omega)
        rw [hk'] at hok
        clear hk'
        go_wp2
        go_ret
        exact ⟨true, rfl, fun _ => ⟨hb, hok.out⟩, (by (repeat (first | exact Ext.refl _ | refine Ext.alloc ?_ _ | refine Ext.drewN ?_ _ | refine Ext.drew ?_ | refine Ext.trans ?_ (Hid.out (by assumption)))))⟩
  · have hbi : 20 < (xs.length : Int) := by omega
    go_enter Try.func59, Try.ntmps59
    go_wp2_with fail
    (go_ret; exact ⟨false, rfl, (fun h => by cases h), (by (repeat (first | exact Ext.refl _ | refine Ext.alloc ?_ _ | refine Ext.drewN ?_ _ | refine Ext.drew ?_ | refine Ext.trans ?_ (Hid.out (by assumption)))))⟩)

/-- What the lists of a message lead to. -/
structure MsgIs (w : World) (x : MV) (qs es ps : List EP) : Prop where
  q : Ents w x.q.a x.q.n x.q.c qs
  e : Ents w x.e.a x.e.n x.e.c es
  p : Ents w x.p.a x.p.n x.p.c ps
theorem MsgIs.ext {w w' : World} {x : MV} {qs es ps : List EP} (h : MsgIs w x qs es ps) (hx : Ext w w') : MsgIs w' x qs es ps := ⟨h.q.ext hx, h.e.ext hx, h.p.ext hx⟩
set_option maxRecDepth 100000 in
set_option maxHeartbeats 2000000 in
theorem few13m_any (x : MV) (qs es ps : List EP) (w : World) (hM : MsgIs w x qs es ps) :
    Calls Try.prog 36 #[.agg #[.int .i64 x.k, .int .u64 x.h, .slice x.v.a x.v.n x.v.c, .slice x.q.a x.q.n x.q.c, .slice x.e.a x.e.n x.e.c, .slice x.p.a x.p.n x.p.c, .slice x.b.a x.b.n x.b.c, .slice x.d.a x.d.n x.d.c]] w (FewR (OkE qs ∧ OkE es ∧ OkE ps ∧ x.v.n ≤ 50) w) := by
  have HM := hid hM
  clear hM
  go_enter Try.func36, Try.ntmps36
  go_wp2_with fail
  refine (few13_any _ _ _ qs _ (HM.out.q.ext (by (repeat (first | exact Ext.refl _ | refine Ext.alloc ?_ _ | refine Ext.drewN ?_ _ | refine Ext.drew ?_ | refine Ext.trans ?_ (Hid.out (by assumption))))))).mono ?_
  rintro e w1 ⟨f1, rfl, hf1, hb1⟩
  have hc1 := hb1.cell
  have hz1 : w.heap.size < w1.heap.size := by have := hb1.size; simp at this; omega
  have hx1 := hid hb1
  have HF1 := hid hf1
  clear hb1 hf1
  go_wp2_with fail
  refine (few13_any _ _ _ es _ (HM.out.e.ext (by (repeat (first | exact Ext.refl _ | refine Ext.alloc ?_ _ | refine Ext.drewN ?_ _ | refine Ext.drew ?_ | refine Ext.trans ?_ (Hid.out (by assumption))))))).mono ?_
  rintro e w2 ⟨f2, rfl, hf2, hb2⟩
  have hc2 := hb2.cell
  have hz2 : w.heap.size < w2.heap.size := by have := hb2.size; omega
  have hx2 := hid hb2
  have HF2 := hid hf2
  clear hb2 hf2
  go_wp2_with fail
  refine (few13_any _ _ _ ps _ (HM.out.p.ext (by (repeat (first | exact Ext.refl _ | refine Ext.alloc ?_ _ | refine Ext.drewN ?_ _ | refine Ext.drew ?_ | refine Ext.trans ?_ (Hid.out (by assumption))))))).mono ?_
  rintro e w3 ⟨f3, rfl, hf3, hb3⟩
  have hc3 := hb3.cell
  have hx3 := hid hb3
  have HF3 := hid hf3
  clear hb3 hf3
  cases f1 <;> cases f2 <;> cases f3
  all_goals
    go_wp2
  all_goals
    go_ret
    first
    | exact ⟨false, rfl, (fun h => by cases h), (by (repeat (first | exact Ext.refl _ | refine Ext.alloc ?_ _ | refine Ext.drewN ?_ _ | refine Ext.drew ?_ | refine Ext.trans ?_ (Hid.out (by assumption)))))⟩
    | exact ⟨_, rfl, fun _ => ⟨HF1.out (by trivial), HF2.out (by trivial), HF3.out (by trivial), by omega⟩, (by (repeat (first | exact Ext.refl _ | refine Ext.alloc ?_ _ | refine Ext.drewN ?_ _ | refine Ext.drew ?_ | refine Ext.trans ?_ (Hid.out (by assumption)))))⟩

/-- Messages as a slice, each with its votes, and what its lists lead to. -/
structure Kids3 (w : World) (a : Option Addr) (n cap : Nat) (kids : List Kid) : Prop where
  ks : Kids w a n cap kids
  msgs : ∀ m, m ∈ kids → ∃ qs es ps, MsgIs w m.m qs es ps
theorem Kids3.ext {w w' : World} {a : Option Addr} {n cap : Nat} {kids : List Kid} (h : Kids3 w a n cap kids) (hx : Ext w w') : Kids3 w' a n cap kids :=
  ⟨h.ks.ext hx, fun m hm => let ⟨qs, es, ps, k⟩ := h.msgs m hm; ⟨qs, es, ps, k.ext hx⟩⟩
/-- What the lists of a state lead to. -/
structure StIs (w : World) (s : StV) (ls ps : List EP) (bs : List Id) : Prop where
  l : Ents w s.l.a s.l.n s.l.c ls
  p : Ents w s.p.a s.p.n s.p.c ps
  b : Sl w 3 Id.cs s.b.a s.b.n s.b.c bs
theorem StIs.ext {w w' : World} {s : StV} {ls ps : List EP} {bs : List Id} (h : StIs w s ls ps bs) (hx : Ext w w') : StIs w' s ls ps bs := ⟨h.l.ext hx, h.p.ext hx, h.b.ext hx⟩
theorem Ents.nil (w : World) : Ents w none 0 0 [] := ⟨Sl.nil _ EP.wid, fun p hp => by cases hp⟩

set_option maxRecDepth 100000 in
set_option maxHeartbeats 4000000 in
theorem few18_any (s : StV) (ls ps : List EP) (bs : List Id) (ka : Option Addr) (kn kc : Nat) (kids : List Kid) (w : World) (hS : StIs w s ls ps bs) (hK : Kids3 w ka kn kc kids) :
    Calls Try.prog 15 #[.agg #[.int .u64 s.life, .slice s.l.a s.l.n s.l.c, .slice s.p.a s.p.n s.p.c, .slice s.b.a s.b.n s.b.c], .slice ka kn kc] w (FewR (OkE ls ∧ OkE ps ∧ kids.length ≤ 6 ∧ s.b.n ≤ 50 ∧ ∀ m, m ∈ kids → m.m.v.n ≤ 50) w) := by
  obtain rfl := hK.ks.sl.neq
  have hm := hK.ks.sl.max
  have hl := hK.ks.sl.len
  unfold maxLen at hm
  have HS := hid hS
  have HK := hid hK
  clear hS hK
  go_enter Try.func15, Try.ntmps15
  go_wp2_with fail
  refine (few13m_any ⟨0, 0, ⟨none, 0, 0⟩, ⟨none, 0, 0⟩, s.l, s.p, ⟨none, 0, 0⟩, ⟨none, 0, 0⟩⟩ [] ls ps _ ⟨Ents.nil _, HS.out.l.ext (by (repeat (first | exact Ext.refl _ | refine Ext.alloc ?_ _ | refine Ext.drewN ?_ _ | refine Ext.drew ?_ | refine Ext.trans ?_ (Hid.out (by assumption))))), HS.out.p.ext (by (repeat (first | exact Ext.refl _ | refine Ext.alloc ?_ _ | refine Ext.drewN ?_ _ | refine Ext.drew ?_ | refine Ext.trans ?_ (Hid.out (by assumption)))))⟩).mono ?_
  rintro e w1 ⟨f1, rfl, hf1, hb1⟩
  have hc1 := hb1.cell
  have hz1 : w.heap.size < w1.heap.size := by have := hb1.size; simp at this; omega
  have hx1 := hid hb1
  have HF1 := hid hf1
  clear hb1 hf1
  cases f1
  · go_wp2
    (go_ret; exact ⟨false, rfl, (fun h => by cases h), (by (repeat (first | exact Ext.refl _ | refine Ext.alloc ?_ _ | refine Ext.drewN ?_ _ | refine Ext.drew ?_ | refine Ext.trans ?_ (Hid.out (by assumption)))))⟩)
  · by_cases hb : kids.length ≤ 6
    · have hbi : (kids.length : Int) ≤ 6 := by omega
      by_cases hb5 : s.b.n ≤ 50
      · have hbj : (s.b.n : Int) ≤ 50 := by omega
        go_wp2_with fail
        clear hc1
        go_loopg [6] (kids.length) (fun g st wr => ∃ k : Nat, g + k = kids.length ∧ st = .int .i64 k ∧ Hid (∀ m, m ∈ kids.take k → m.m.v.n ≤ 50) ∧ Hid (Ext w wr))
        case atStart => exact ⟨0, by omega, rfl, (fun y hy => by cases hy), (by (repeat (first | exact Ext.refl _ | refine Ext.alloc ?_ _ | refine Ext.drewN ?_ _ | refine Ext.drew ?_ | refine Ext.trans ?_ (Hid.out (by assumption)))))⟩
        case round =>
          clear hx1 hz1
          obtain ⟨k, hg, rfl, hok, hx⟩ := hrel
          by_cases hk : k < kids.length
          · obtain ⟨b, o, rfl, hc⟩ := HK.out.ks.sl.get k hk
            obtain ⟨c0, c1, c2, c3, c4, c5, c6, c7⟩ := cellsM (w := wr) (b := b) (o := o + k * 8) (x := kids[k].m) (fun j v hj => hx.out.keep (hc j v hj))
            obtain ⟨qs, es, pp, hM⟩ := HK.out.msgs kids[k] (List.getElem_mem hk)
            have HV := hid (hM.ext hx.out)
            clear hc hM
            have b0 : (0 : Int) ≤ (k : Int) := by omega
            have b1 : (k : Int) < (kids.length : Int) := by omega
            go_wp2_with (go_at_call 36; refine (few13m_any kids[k].m qs es pp _ HV.out).mono ?_; rintro e w' ⟨fw, rfl, hfw, hb⟩; have hx' := hid hb; have HFW := hid hfw; clear hb hfw; cases fw)
            · (go_ret; exact ⟨false, rfl, (fun h => by cases h), (by (repeat (first | exact Ext.refl _ | refine Ext.alloc ?_ _ | refine Ext.drewN ?_ _ | refine Ext.drew ?_ | refine Ext.trans ?_ (Hid.out (by assumption)))))⟩)
            · go_roundg (gk - 1)
              case measure => omega
              case rel =>
                refine ⟨k + 1, by omega, by go_num, fun y hy => ?_, (by (repeat (first | exact Ext.refl _ | refine Ext.alloc ?_ _ | refine Ext.drewN ?_ _ | refine Ext.drew ?_ | refine Ext.trans ?_ (Hid.out (by assumption)))))⟩
                rw [List.take_succ_eq_append_getElem hk] at hy
                rcases List.mem_append.1 hy with hy | hy
                · exact hok.out y hy
                · obtain rfl := List.mem_singleton.1 hy
                  exact (HFW.out (by trivial)).2.2.2
          · have hk' : kids.take k = kids := List.take_of_length_le (by omega)
            rw [hk'] at hok
            clear hk'
            go_wp2
            go_ret
            exact ⟨true, rfl, fun _ => ⟨(HF1.out (by trivial)).2.1, (HF1.out (by trivial)).2.2.1, hb, hb5, hok.out⟩, (by (repeat (first | exact Ext.refl _ | refine Ext.alloc ?_ _ | refine Ext.drewN ?_ _ | refine Ext.drew ?_ | refine Ext.trans ?_ (Hid.out (by assumption)))))⟩
      · have hbj : 50 < (s.b.n : Int) := by omega
        go_wp2
        (go_ret; exact ⟨false, rfl, (fun h => by cases h), (by (repeat (first | exact Ext.refl _ | refine Ext.alloc ?_ _ | refine Ext.drewN ?_ _ | refine Ext.drew ?_ | refine Ext.trans ?_ (Hid.out (by assumption)))))⟩)
    · have hbi : 6 < (kids.length : Int) := by omega
      go_wp2
      (go_ret; exact ⟨false, rfl, (fun h => by cases h), (by (repeat (first | exact Ext.refl _ | refine Ext.alloc ?_ _ | refine Ext.drewN ?_ _ | refine Ext.drew ?_ | refine Ext.trans ?_ (Hid.out (by assumption)))))⟩)
end Go.Proofs.Ytncadipipomebaa
