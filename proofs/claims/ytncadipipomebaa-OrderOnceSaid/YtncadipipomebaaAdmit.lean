/- Who may come, and what is listed at once: the walk of order's Admit. -/
import Derived.Test.YtncadipipomebaaOrdA
import Derived.Test.YtncadipipomebaaRoomP
namespace Go.Proofs.Ytncadipipomebaa
open Go.RowKit
attribute [local go_sem ↓] Go.wp_at_zero Go.wp_at_succ

def knows2 (ls : List EV) (bs : List Id) (i : Id) : Bool := ls.any (fun x => idEq x.id i) || bs.any (fun x => idEq x i)
theorem knows2_eq (ls : List EV) (bs : List Id) (i : Id) : knows2 ls bs i = (ls.any (fun x => idEq x.id i) || bs.any (fun x => idEq x i)) := rfl
/-- one that is asked for more -/
def admStep (kn : Id → Bool) (st : List ED × List ED) (d : ED) : List ED × List ED :=
  if (kn d.id || st.1.any (fun x => idEq x.id d.id) || st.2.any (fun x => idEq x.id d.id)) = true then st
  else if d.k = 1 then (if st.1.length < 4 then (st.1 ++ [d], st.2) else st) else (st.1, st.2 ++ [d])
def admOf (kn : Id → Bool) (o : List ED) (ds : List ED) : List ED × List ED := ds.foldl (admStep kn) (o, [])
theorem adm_succ {kn : Id → Bool} {o ds : List ED} {k : Nat} (hk : k < ds.length) : admOf kn o (ds.take (k + 1)) = admStep kn (admOf kn o (ds.take k)) ds[k] := by
  unfold admOf; rw [List.take_succ_eq_append_getElem hk, List.foldl_append]; rfl
theorem adm_keep {kn : Id → Bool} {st : List ED × List ED} {d : ED} (h : (kn d.id || st.1.any (fun x => idEq x.id d.id) || st.2.any (fun x => idEq x.id d.id)) = true) : admStep kn st d = st := by
  unfold admStep; rw [if_pos h]
theorem adm_list {kn : Id → Bool} {st : List ED × List ED} {d : ED} (h : (kn d.id || st.1.any (fun x => idEq x.id d.id) || st.2.any (fun x => idEq x.id d.id)) = false) (hk : d.k ≠ 1) : admStep kn st d = (st.1, st.2 ++ [d]) := by
  unfold admStep; rw [if_neg (by rw [h]; decide), if_neg hk]
theorem adm_open {kn : Id → Bool} {st : List ED × List ED} {d : ED} (h : (kn d.id || st.1.any (fun x => idEq x.id d.id) || st.2.any (fun x => idEq x.id d.id)) = false) (hk : d.k = 1) (hn : st.1.length < 4) : admStep kn st d = (st.1 ++ [d], st.2) := by
  unfold admStep; rw [if_neg (by rw [h]; decide), if_pos hk, if_pos hn]
theorem adm_full {kn : Id → Bool} {st : List ED × List ED} {d : ED} (h : (kn d.id || st.1.any (fun x => idEq x.id d.id) || st.2.any (fun x => idEq x.id d.id)) = false) (hk : d.k = 1) (hn : ¬ st.1.length < 4) : admStep kn st d = st := by
  unfold admStep; rw [if_neg (by rw [h]; decide), if_pos hk, if_neg hn]
theorem adm_len (kn : Id → Bool) : ∀ (l : List ED) (st : List ED × List ED), (l.foldl (admStep kn) st).1.length + (l.foldl (admStep kn) st).2.length ≤ st.1.length + st.2.length + l.length
  | [], _ => Nat.le_refl _
  | d :: l, st => by
    rw [List.foldl_cons]
    refine Nat.le_trans (adm_len kn l _) ?_
    unfold admStep
    rw [List.length_cons]
    split
    · omega
    · split
      · split
        · rw [List.length_append]; simp; omega
        · omega
      · rw [List.length_append]; simp; omega
/-- Two results that are entries. -/
def RetEE (es fs : List ED) (w : World) (e : Ending) (w' : World) : Prop :=
  ∃ aa n c ps bb m q qs, e = .returned (.tuple #[.slice aa n c, .slice bb m q]) ∧ Ents w' aa n c ps ∧ ps.map (·.d) = es ∧ Ents w' bb m q qs ∧ qs.map (·.d) = fs ∧ Ext w w'
theorem any_ids {l : List EP} {ds : List ED} {i : Id} (hm : l.map (·.d) = ds) (h : ∀ p, p ∈ l → p.x.id = p.d.id) : (l.map (·.x)).any (fun x => idEq x.id i) = ds.any (fun x => idEq x.id i) := by
  subst hm
  rw [List.any_map, List.any_map]
  induction l with
  | nil => rfl
  | cons y l ih => rw [List.any_cons, List.any_cons, ih (fun z hz => h z (List.mem_cons_of_mem _ hz))]; simp only [Function.comp]; rw [h y (List.mem_cons_self ..)]

set_option maxRecDepth 100000 in
set_option maxHeartbeats 4000000 in
theorem admit_any (s : StV) (ls : List EV) (bs : List Id) (oa : Option Addr) (on oc : Nat) (os : List EP) (la : Option Addr) (ln lc : Nat) (xs : List EP) (w : World)
    (hL : Sl w 8 EV.cs s.l.a s.l.n s.l.c ls) (hB : Sl w 3 Id.cs s.b.a s.b.n s.b.c bs) (hO : Ents w oa on oc os) (hosm : ∀ p, p ∈ os → Small p.d) (hX : Ents w la ln lc xs) (hsm : ∀ p, p ∈ xs → Small p.d)
    (hn1 : on ≤ 1000000) (hn2 : ln ≤ 1000000) :
    Calls Try.prog 32 #[.agg #[.int .u64 s.life, .slice s.l.a s.l.n s.l.c, .slice s.p.a s.p.n s.p.c, .slice s.b.a s.b.n s.b.c], .slice oa on oc, .slice la ln lc] w (RetEE (admOf (knows2 ls bs) (os.map (·.d)) (xs.map (·.d))).1 (admOf (knows2 ls bs) (os.map (·.d)) (xs.map (·.d))).2 w) := by
  obtain ⟨i0, hi, hz0, hz1, hz2⟩ := info_parts infoE
  obtain rfl := hX.sl.neq
  have hm := hX.sl.max
  have hl := hX.sl.len
  unfold maxLen at hm
  generalize hds : xs.map (·.d) = ds
  have hdl : ds.length = xs.length := by rw [← hds, List.length_map]
  have hol : os.length = on := hO.sl.neq.symm
  have HDS := hid hds
  have HDL := hid hdl
  have HOL := hid hol
  have HL := hid hL
  have HB := hid hB
  have HO := hid hO
  have HOSM := hid hosm
  have HX := hid hX
  have HSMA := hid hsm
  have I1 := hid hi
  have I2 := hid hz0
  have I3 := hid hz1
  have I4 := hid hz2
  clear hL hB hO hosm hX hsm hi hz0 hz1 hz2 hds hdl hol
  go_enter Try.func32, Try.ntmps32
  go_wp2_with fail
  go_step3
  go_wp2_with fail
  have BS : (w.alloc (Obj.cells #[.int .u64 s.life, .slice s.l.a s.l.n s.l.c, .slice s.p.a s.p.n s.p.c, .slice s.b.a s.b.n s.b.c] 27)).heap[w.heap.size]? = some (Obj.cells #[.int .u64 s.life, .slice s.l.a s.l.n s.l.c, .slice s.p.a s.p.n s.p.c, .slice s.b.a s.b.n s.b.c] 27) := by (repeat (first | (refine heap_new ?_; (simp; done)) | refine heap_old (by first | (simp; done) | (simp; omega)) ?_))
  refine (copied19_any oa on oc os (w.alloc (Obj.cells #[.int .u64 s.life, .slice s.l.a s.l.n s.l.c, .slice s.p.a s.p.n s.p.c, .slice s.b.a s.b.n s.b.c] 27)) (HO.out.ext ((Ext.refl w).alloc _)) HOSM.out hn1).mono ?_
  rintro e w1 ⟨ca, cn, cc, cs, rfl, hco, hce, hcm, hb⟩
  have a0 := hid (show (w.alloc (Obj.cells #[.int .u64 s.life, .slice s.l.a s.l.n s.l.c, .slice s.p.a s.p.n s.p.c, .slice s.b.a s.b.n s.b.c] 27)).cell? ⟨w.heap.size, 0, none⟩ = some (.int .u64 s.life) from cellH BS rfl)
  have a1 := hid (show (w.alloc (Obj.cells #[.int .u64 s.life, .slice s.l.a s.l.n s.l.c, .slice s.p.a s.p.n s.p.c, .slice s.b.a s.b.n s.b.c] 27)).cell? ⟨w.heap.size, 1, none⟩ = some (.slice s.l.a s.l.n s.l.c) from cellH BS rfl)
  have a2 := hid (show (w.alloc (Obj.cells #[.int .u64 s.life, .slice s.l.a s.l.n s.l.c, .slice s.p.a s.p.n s.p.c, .slice s.b.a s.b.n s.b.c] 27)).cell? ⟨w.heap.size, 2, none⟩ = some (.slice s.p.a s.p.n s.p.c) from cellH BS rfl)
  have a3 := hid (show (w.alloc (Obj.cells #[.int .u64 s.life, .slice s.l.a s.l.n s.l.c, .slice s.p.a s.p.n s.p.c, .slice s.b.a s.b.n s.b.c] 27)).cell? ⟨w.heap.size, 3, none⟩ = some (.slice s.b.a s.b.n s.b.c) from cellH BS rfl)
  have hx1 := hid hb
  have HCO := hid hco
  have HCE := hid hce
  have HCM := hid hcm
  have hz1 : w.heap.size < w1.heap.size := by have := hb.size; simp at this; omega
  have hcn : cn ≤ 1000000 := by
    have h1 := hco.neq
    have h2 := congrArg List.length hcm
    rw [List.length_map, List.length_map] at h2
    have := HOL.out; omega
  clear hb BS hco hce hcm
  generalize hD0 : os.map (·.d) = D0 at HCM ⊢
  have HD0 := hid hD0
  have hd0l : D0.length ≤ 1000000 := by rw [← hD0, List.length_map]; have := HOL.out; omega
  clear hD0
  go_wp2_with fail
  go_step3
  go_wp2_with fail
  go_loopg [8, 9, 16] (xs.length) (fun g ov lv st wr => ∃ (k : Nat) (aa : Option Addr) (m cp : Nat) (ys : List EP) (bb : Option Addr) (r cr : Nat) (zs : List EP), g + k = xs.length ∧ st = .int .i64 k ∧ ov = .slice aa m cp ∧ lv = .slice bb r cr ∧
    Hid (Own wr (w.alloc (Obj.cells #[.int .u64 s.life, .slice s.l.a s.l.n s.l.c, .slice s.p.a s.p.n s.p.c, .slice s.b.a s.b.n s.b.c] 27)).heap.size 50 8 EP.cs aa m cp ys ∧ Own wr (w.alloc (Obj.cells #[.int .u64 s.life, .slice s.l.a s.l.n s.l.c, .slice s.p.a s.p.n s.p.c, .slice s.b.a s.b.n s.b.c] 27)).heap.size 50 8 EP.cs bb r cr zs ∧ Dis aa bb ∧ ys.map (·.d) = (admOf (knows2 ls bs) D0 (ds.take k)).1 ∧ zs.map (·.d) = (admOf (knows2 ls bs) D0 (ds.take k)).2 ∧ (∀ y, y ∈ ys → EntryOwn wr (w.alloc (Obj.cells #[.int .u64 s.life, .slice s.l.a s.l.n s.l.c, .slice s.p.a s.p.n s.p.c, .slice s.b.a s.b.n s.b.c] 27)).heap.size y.x y.d) ∧ (∀ y, y ∈ zs → EntryOwn wr (w.alloc (Obj.cells #[.int .u64 s.life, .slice s.l.a s.l.n s.l.c, .slice s.p.a s.p.n s.p.c, .slice s.b.a s.b.n s.b.c] 27)).heap.size y.x y.d)) ∧ Hid (Ext (w.alloc (Obj.cells #[.int .u64 s.life, .slice s.l.a s.l.n s.l.c, .slice s.p.a s.p.n s.p.c, .slice s.b.a s.b.n s.b.c] 27)) wr))
  case atStart => exact ⟨0, ca, cn, cc, cs, none, 0, 0, [], by omega, rfl, rfl, rfl, ⟨HCO.out, Own.nil _ _ _ EP.wid, (Dis.nil _).symm, HCM.out, rfl, HCE.out, (fun y hy => by cases hy)⟩, hx1.out⟩
  case round =>
    obtain ⟨k, aa, m, cp, ys, bb, r, cr, zs, hg, rfl, rfl, rfl, hown, hx⟩ := hrel
    by_cases hk : k < xs.length
    · obtain ⟨b, o, rfl, hc⟩ := HX.out.sl.get k hk
      have hE : Ext w wr := Ext.trans ((Ext.refl w).alloc _) hx.out
      obtain ⟨c0, c1, c2, c3, c4, c5, c6, c7⟩ := cells8 (w := wr) (b := b) (o := o + k * 8) (x := xs[k].x) (fun j v hj => hE.keep (hc j v hj))
      have HV := hid ((HX.out.is xs[k] (List.getElem_mem hk)).ext hE)
      have HSM := hid (HSMA.out xs[k] (List.getElem_mem hk))
      have hkd : k < ds.length := by rw [HDL.out]; exact hk
      have hdk : ds[k] = xs[k].d := by have := HDS.out; subst this; simp
      have HID := hid HV.out.id
      have HKK := hid HV.out.k
      have Hs := hid (show admOf (knows2 ls bs) D0 (ds.take (k + 1)) = admStep (knows2 ls bs) (admOf (knows2 ls bs) D0 (ds.take k)) xs[k].d from by rw [adm_succ hkd, hdk])
      have HY := hid (any_ids (i := xs[k].x.id) hown.out.2.2.2.1 (fun p hp => (hown.out.2.2.2.2.2.1 p hp).id))
      have HZ := hid (any_ids (i := xs[k].x.id) hown.out.2.2.2.2.1 (fun p hp => (hown.out.2.2.2.2.2.2 p hp).id))
      have hml : m + r ≤ 1000000 + k := by
        have h1 := hown.out.1.neq
        have h2 := congrArg List.length hown.out.2.2.2.1
        have h3 := hown.out.2.1.neq
        have h6 := congrArg List.length hown.out.2.2.2.2.1
        have h4 := adm_len (knows2 ls bs) (ds.take k) (D0, [])
        have h5 : (ds.take k).length ≤ k := List.length_take_le _ _
        rw [List.length_map] at h2 h6
        unfold admOf at h2 h6
        simp at h4
        omega
      have Hmn := hid (show m = (admOf (knows2 ls bs) D0 (ds.take k)).1.length by rw [← hown.out.2.2.2.1, List.length_map]; exact hown.out.1.neq)
      have bx := (Ext.refl wr).alloc (Obj.cells #[.int .i64 xs[k].x.k, .int .i64 xs[k].x.id.b, .int .u64 xs[k].x.id.l, .int .u64 xs[k].x.id.s, .int .i64 xs[k].x.c, .int .u64 xs[k].x.u, .slice xs[k].x.f.a xs[k].x.f.n xs[k].x.f.c, .slice xs[k].x.e.a xs[k].x.e.n xs[k].x.e.c] 50)
      have q0 := bx.keep (hx.out.keep a0.out)
      have q1 := bx.keep (hx.out.keep a1.out)
      have q2 := bx.keep (hx.out.keep a2.out)
      have q3 := bx.keep (hx.out.keep a3.out)
      have BX : (wr.alloc (Obj.cells #[.int .i64 xs[k].x.k, .int .i64 xs[k].x.id.b, .int .u64 xs[k].x.id.l, .int .u64 xs[k].x.id.s, .int .i64 xs[k].x.c, .int .u64 xs[k].x.u, .slice xs[k].x.f.a xs[k].x.f.n xs[k].x.f.c, .slice xs[k].x.e.a xs[k].x.e.n xs[k].x.e.c] 50)).heap[wr.heap.size]? = some (Obj.cells #[.int .i64 xs[k].x.k, .int .i64 xs[k].x.id.b, .int .u64 xs[k].x.id.l, .int .u64 xs[k].x.id.s, .int .i64 xs[k].x.c, .int .u64 xs[k].x.u, .slice xs[k].x.f.a xs[k].x.f.n xs[k].x.f.c, .slice xs[k].x.e.a xs[k].x.e.n xs[k].x.e.c] 50) := heap_alloc_new _ _
      have j0 : (wr.alloc (Obj.cells #[.int .i64 xs[k].x.k, .int .i64 xs[k].x.id.b, .int .u64 xs[k].x.id.l, .int .u64 xs[k].x.id.s, .int .i64 xs[k].x.c, .int .u64 xs[k].x.u, .slice xs[k].x.f.a xs[k].x.f.n xs[k].x.f.c, .slice xs[k].x.e.a xs[k].x.e.n xs[k].x.e.c] 50)).cell? ⟨wr.heap.size, 0, none⟩ = some (.int .i64 xs[k].x.k) := cellH BX rfl
      have j1 : (wr.alloc (Obj.cells #[.int .i64 xs[k].x.k, .int .i64 xs[k].x.id.b, .int .u64 xs[k].x.id.l, .int .u64 xs[k].x.id.s, .int .i64 xs[k].x.c, .int .u64 xs[k].x.u, .slice xs[k].x.f.a xs[k].x.f.n xs[k].x.f.c, .slice xs[k].x.e.a xs[k].x.e.n xs[k].x.e.c] 50)).cell? ⟨wr.heap.size, 1, none⟩ = some (.int .i64 xs[k].x.id.b) := cellH BX rfl
      have j2 : (wr.alloc (Obj.cells #[.int .i64 xs[k].x.k, .int .i64 xs[k].x.id.b, .int .u64 xs[k].x.id.l, .int .u64 xs[k].x.id.s, .int .i64 xs[k].x.c, .int .u64 xs[k].x.u, .slice xs[k].x.f.a xs[k].x.f.n xs[k].x.f.c, .slice xs[k].x.e.a xs[k].x.e.n xs[k].x.e.c] 50)).cell? ⟨wr.heap.size, 2, none⟩ = some (.int .u64 xs[k].x.id.l) := cellH BX rfl
      have j3 : (wr.alloc (Obj.cells #[.int .i64 xs[k].x.k, .int .i64 xs[k].x.id.b, .int .u64 xs[k].x.id.l, .int .u64 xs[k].x.id.s, .int .i64 xs[k].x.c, .int .u64 xs[k].x.u, .slice xs[k].x.f.a xs[k].x.f.n xs[k].x.f.c, .slice xs[k].x.e.a xs[k].x.e.n xs[k].x.e.c] 50)).cell? ⟨wr.heap.size, 3, none⟩ = some (.int .u64 xs[k].x.id.s) := cellH BX rfl
      have j4 : (wr.alloc (Obj.cells #[.int .i64 xs[k].x.k, .int .i64 xs[k].x.id.b, .int .u64 xs[k].x.id.l, .int .u64 xs[k].x.id.s, .int .i64 xs[k].x.c, .int .u64 xs[k].x.u, .slice xs[k].x.f.a xs[k].x.f.n xs[k].x.f.c, .slice xs[k].x.e.a xs[k].x.e.n xs[k].x.e.c] 50)).cell? ⟨wr.heap.size, 4, none⟩ = some (.int .i64 xs[k].x.c) := cellH BX rfl
      have j5 : (wr.alloc (Obj.cells #[.int .i64 xs[k].x.k, .int .i64 xs[k].x.id.b, .int .u64 xs[k].x.id.l, .int .u64 xs[k].x.id.s, .int .i64 xs[k].x.c, .int .u64 xs[k].x.u, .slice xs[k].x.f.a xs[k].x.f.n xs[k].x.f.c, .slice xs[k].x.e.a xs[k].x.e.n xs[k].x.e.c] 50)).cell? ⟨wr.heap.size, 5, none⟩ = some (.int .u64 xs[k].x.u) := cellH BX rfl
      have j6 : (wr.alloc (Obj.cells #[.int .i64 xs[k].x.k, .int .i64 xs[k].x.id.b, .int .u64 xs[k].x.id.l, .int .u64 xs[k].x.id.s, .int .i64 xs[k].x.c, .int .u64 xs[k].x.u, .slice xs[k].x.f.a xs[k].x.f.n xs[k].x.f.c, .slice xs[k].x.e.a xs[k].x.e.n xs[k].x.e.c] 50)).cell? ⟨wr.heap.size, 6, none⟩ = some (.slice xs[k].x.f.a xs[k].x.f.n xs[k].x.f.c) := cellH BX rfl
      have j7 : (wr.alloc (Obj.cells #[.int .i64 xs[k].x.k, .int .i64 xs[k].x.id.b, .int .u64 xs[k].x.id.l, .int .u64 xs[k].x.id.s, .int .i64 xs[k].x.c, .int .u64 xs[k].x.u, .slice xs[k].x.f.a xs[k].x.f.n xs[k].x.f.c, .slice xs[k].x.e.a xs[k].x.e.n xs[k].x.e.c] 50)).cell? ⟨wr.heap.size, 7, none⟩ = some (.slice xs[k].x.e.a xs[k].x.e.n xs[k].x.e.c) := cellH BX rfl
      have hzr : w.heap.size < wr.heap.size := by have := hx.out.size; simp at this; omega
      have hxB := hid bx
      clear hc hE hkd hdk bx BX
      have b0 : (0 : Int) ≤ (k : Int) := by omega
      have b1 : (k : Int) < (xs.length : Int) := by omega
      go_upto_region 6 with (fail)
      go_cut [41] (fun c wx => ∃ K : Bool, c = .bool K ∧ Hid (((ls.any (fun x : EV => idEq x.id xs[k].x.id) || bs.any (fun x : Id => idEq x xs[k].x.id)) || (ys.map (·.x)).any (fun x : EV => idEq x.id xs[k].x.id) || (zs.map (·.x)).any (fun x : EV => idEq x.id xs[k].x.id)) = K) ∧ Hid (Ext wr wx) ∧ wr.heap.size < wx.heap.size ∧ wx.cell? ⟨wr.heap.size, 0, none⟩ = some (.int .i64 xs[k].x.k) ∧ wx.cell? ⟨wr.heap.size, 1, none⟩ = some (.int .i64 xs[k].x.id.b) ∧ wx.cell? ⟨wr.heap.size, 2, none⟩ = some (.int .u64 xs[k].x.id.l) ∧ wx.cell? ⟨wr.heap.size, 3, none⟩ = some (.int .u64 xs[k].x.id.s) ∧ wx.cell? ⟨wr.heap.size, 4, none⟩ = some (.int .i64 xs[k].x.c) ∧ wx.cell? ⟨wr.heap.size, 5, none⟩ = some (.int .u64 xs[k].x.u) ∧ wx.cell? ⟨wr.heap.size, 6, none⟩ = some (.slice xs[k].x.f.a xs[k].x.f.n xs[k].x.f.c) ∧ wx.cell? ⟨wr.heap.size, 7, none⟩ = some (.slice xs[k].x.e.a xs[k].x.e.n xs[k].x.e.c))
      case first =>
        as_aux_lemma =>
          cases hA : ls.any (fun x : EV => idEq x.id xs[k].x.id) with
          | true =>
            have HA := hid hA
            clear hA
            go_wp2_with (go_at_call 27; refine (has_any s ls xs[k].x.id _ (HL.out.ext (by (repeat (first | exact Ext.refl _ | refine Ext.alloc ?_ _ | refine Ext.drewN ?_ _ | refine Ext.drew ?_ | refine Ext.trans ?_ (Hid.out (by assumption))))))).mono ?_; rintro e wq ⟨he, hb⟩; rw [HA.out] at he; subst he; have q0 := hb.keep q0; have q1 := hb.keep q1; have q2 := hb.keep q2; have q3 := hb.keep q3; have j0 := hb.keep j0; have j1 := hb.keep j1; have j2 := hb.keep j2; have j3 := hb.keep j3; have j4 := hb.keep j4; have j5 := hb.keep j5; have j6 := hb.keep j6; have j7 := hb.keep j7; have hzq : wr.heap.size < wq.heap.size := (by have := hb.size; (try simp at this); omega); have hxA := hid hb; clear hb)
            go_meet
            exact ⟨_, rfl, hid (by rw [HA.out]; rfl), (by (repeat (first | exact Ext.refl _ | refine Ext.alloc ?_ _ | refine Ext.drewN ?_ _ | refine Ext.drew ?_ | refine Ext.trans ?_ (Hid.out (by assumption))))), hzq, j0, j1, j2, j3, j4, j5, j6, j7⟩
          | false =>
            have HA := hid hA
            clear hA
            cases hB : bs.any (fun x : Id => idEq x xs[k].x.id) with
            | true =>
              have HBB := hid hB
              clear hB
              go_wp2_with (first | (go_at_call 27; refine (has_any s ls xs[k].x.id _ (HL.out.ext (by (repeat (first | exact Ext.refl _ | refine Ext.alloc ?_ _ | refine Ext.drewN ?_ _ | refine Ext.drew ?_ | refine Ext.trans ?_ (Hid.out (by assumption))))))).mono ?_; rintro e wq ⟨he, hb⟩; rw [HA.out] at he; subst he; have q0 := hb.keep q0; have q1 := hb.keep q1; have q2 := hb.keep q2; have q3 := hb.keep q3; have j0 := hb.keep j0; have j1 := hb.keep j1; have j2 := hb.keep j2; have j3 := hb.keep j3; have j4 := hb.keep j4; have j5 := hb.keep j5; have j6 := hb.keep j6; have j7 := hb.keep j7; have hzq : wr.heap.size < wq.heap.size := (by have := hb.size; (try simp at this); omega); have hxA := hid hb; clear hb) | (go_at_call 29; refine (aborted_any s bs xs[k].x.id _ (HB.out.ext (by (repeat (first | exact Ext.refl _ | refine Ext.alloc ?_ _ | refine Ext.drewN ?_ _ | refine Ext.drew ?_ | refine Ext.trans ?_ (Hid.out (by assumption))))))).mono ?_; rintro e wq ⟨he, hb⟩; rw [HBB.out] at he; subst he; have q0 := hb.keep q0; have q1 := hb.keep q1; have q2 := hb.keep q2; have q3 := hb.keep q3; have j0 := hb.keep j0; have j1 := hb.keep j1; have j2 := hb.keep j2; have j3 := hb.keep j3; have j4 := hb.keep j4; have j5 := hb.keep j5; have j6 := hb.keep j6; have j7 := hb.keep j7; have hzq : wr.heap.size < wq.heap.size := (by have := hb.size; (try simp at this); omega); have hxB := hid hb; clear hb))
              go_meet
              exact ⟨_, rfl, hid (by rw [HA.out, HBB.out]; rfl), (by (repeat (first | exact Ext.refl _ | refine Ext.alloc ?_ _ | refine Ext.drewN ?_ _ | refine Ext.drew ?_ | refine Ext.trans ?_ (Hid.out (by assumption))))), hzq, j0, j1, j2, j3, j4, j5, j6, j7⟩
            | false =>
              have HBB := hid hB
              clear hB
              cases hC : (ys.map (·.x)).any (fun x : EV => idEq x.id xs[k].x.id) with
              | true =>
                have HC := hid hC
                clear hC
                go_wp2_with (first | (go_at_call 27; refine (has_any s ls xs[k].x.id _ (HL.out.ext (by (repeat (first | exact Ext.refl _ | refine Ext.alloc ?_ _ | refine Ext.drewN ?_ _ | refine Ext.drew ?_ | refine Ext.trans ?_ (Hid.out (by assumption))))))).mono ?_; rintro e wq ⟨he, hb⟩; rw [HA.out] at he; subst he; have q0 := hb.keep q0; have q1 := hb.keep q1; have q2 := hb.keep q2; have q3 := hb.keep q3; have j0 := hb.keep j0; have j1 := hb.keep j1; have j2 := hb.keep j2; have j3 := hb.keep j3; have j4 := hb.keep j4; have j5 := hb.keep j5; have j6 := hb.keep j6; have j7 := hb.keep j7; have hzq : wr.heap.size < wq.heap.size := (by have := hb.size; (try simp at this); omega); have hxA := hid hb; clear hb) | (go_at_call 29; refine (aborted_any s bs xs[k].x.id _ (HB.out.ext (by (repeat (first | exact Ext.refl _ | refine Ext.alloc ?_ _ | refine Ext.drewN ?_ _ | refine Ext.drew ?_ | refine Ext.trans ?_ (Hid.out (by assumption))))))).mono ?_; rintro e wq ⟨he, hb⟩; rw [HBB.out] at he; subst he; have q0 := hb.keep q0; have q1 := hb.keep q1; have q2 := hb.keep q2; have q3 := hb.keep q3; have j0 := hb.keep j0; have j1 := hb.keep j1; have j2 := hb.keep j2; have j3 := hb.keep j3; have j4 := hb.keep j4; have j5 := hb.keep j5; have j6 := hb.keep j6; have j7 := hb.keep j7; have hzq : wr.heap.size < wq.heap.size := (by have := hb.size; (try simp at this); omega); have hxB := hid hb; clear hb) | (go_at_call_of 54 (Value.slice aa m cp); refine (oof_any _ _ _ (ys.map (·.x)) xs[k].x.id _ ((Sl.map (fun p : EP => p.x) hown.out.1.sl EV.wid).ext (by (repeat (first | exact Ext.refl _ | refine Ext.alloc ?_ _ | refine Ext.drewN ?_ _ | refine Ext.drew ?_ | refine Ext.trans ?_ (Hid.out (by assumption))))))).mono ?_; rintro e wq ⟨he, hb⟩; rw [HC.out] at he; subst he; have q0 := hb.keep q0; have q1 := hb.keep q1; have q2 := hb.keep q2; have q3 := hb.keep q3; have j0 := hb.keep j0; have j1 := hb.keep j1; have j2 := hb.keep j2; have j3 := hb.keep j3; have j4 := hb.keep j4; have j5 := hb.keep j5; have j6 := hb.keep j6; have j7 := hb.keep j7; have hzq : wr.heap.size < wq.heap.size := (by have := hb.size; (try simp at this); omega); have hxC := hid hb; clear hb))
                go_meet
                exact ⟨_, rfl, hid (by rw [HA.out, HBB.out, HC.out]; rfl), (by (repeat (first | exact Ext.refl _ | refine Ext.alloc ?_ _ | refine Ext.drewN ?_ _ | refine Ext.drew ?_ | refine Ext.trans ?_ (Hid.out (by assumption))))), hzq, j0, j1, j2, j3, j4, j5, j6, j7⟩
              | false =>
                have HC := hid hC
                clear hC
                cases hD : (zs.map (·.x)).any (fun x : EV => idEq x.id xs[k].x.id)
                all_goals
                  have HD := hid hD
                  clear hD
                  go_wp2_with (first | (go_at_call 27; refine (has_any s ls xs[k].x.id _ (HL.out.ext (by (repeat (first | exact Ext.refl _ | refine Ext.alloc ?_ _ | refine Ext.drewN ?_ _ | refine Ext.drew ?_ | refine Ext.trans ?_ (Hid.out (by assumption))))))).mono ?_; rintro e wq ⟨he, hb⟩; rw [HA.out] at he; subst he; have q0 := hb.keep q0; have q1 := hb.keep q1; have q2 := hb.keep q2; have q3 := hb.keep q3; have j0 := hb.keep j0; have j1 := hb.keep j1; have j2 := hb.keep j2; have j3 := hb.keep j3; have j4 := hb.keep j4; have j5 := hb.keep j5; have j6 := hb.keep j6; have j7 := hb.keep j7; have hzq : wr.heap.size < wq.heap.size := (by have := hb.size; (try simp at this); omega); have hxA := hid hb; clear hb) | (go_at_call 29; refine (aborted_any s bs xs[k].x.id _ (HB.out.ext (by (repeat (first | exact Ext.refl _ | refine Ext.alloc ?_ _ | refine Ext.drewN ?_ _ | refine Ext.drew ?_ | refine Ext.trans ?_ (Hid.out (by assumption))))))).mono ?_; rintro e wq ⟨he, hb⟩; rw [HBB.out] at he; subst he; have q0 := hb.keep q0; have q1 := hb.keep q1; have q2 := hb.keep q2; have q3 := hb.keep q3; have j0 := hb.keep j0; have j1 := hb.keep j1; have j2 := hb.keep j2; have j3 := hb.keep j3; have j4 := hb.keep j4; have j5 := hb.keep j5; have j6 := hb.keep j6; have j7 := hb.keep j7; have hzq : wr.heap.size < wq.heap.size := (by have := hb.size; (try simp at this); omega); have hxB := hid hb; clear hb) | (go_at_call_of 54 (Value.slice aa m cp); refine (oof_any _ _ _ (ys.map (·.x)) xs[k].x.id _ ((Sl.map (fun p : EP => p.x) hown.out.1.sl EV.wid).ext (by (repeat (first | exact Ext.refl _ | refine Ext.alloc ?_ _ | refine Ext.drewN ?_ _ | refine Ext.drew ?_ | refine Ext.trans ?_ (Hid.out (by assumption))))))).mono ?_; rintro e wq ⟨he, hb⟩; rw [HC.out] at he; subst he; have q0 := hb.keep q0; have q1 := hb.keep q1; have q2 := hb.keep q2; have q3 := hb.keep q3; have j0 := hb.keep j0; have j1 := hb.keep j1; have j2 := hb.keep j2; have j3 := hb.keep j3; have j4 := hb.keep j4; have j5 := hb.keep j5; have j6 := hb.keep j6; have j7 := hb.keep j7; have hzq : wr.heap.size < wq.heap.size := (by have := hb.size; (try simp at this); omega); have hxC := hid hb; clear hb) | (go_at_call_of 54 (Value.slice bb r cr); refine (oof_any _ _ _ (zs.map (·.x)) xs[k].x.id _ ((Sl.map (fun p : EP => p.x) hown.out.2.1.sl EV.wid).ext (by (repeat (first | exact Ext.refl _ | refine Ext.alloc ?_ _ | refine Ext.drewN ?_ _ | refine Ext.drew ?_ | refine Ext.trans ?_ (Hid.out (by assumption))))))).mono ?_; rintro e wq ⟨he, hb⟩; rw [HD.out] at he; subst he; have q0 := hb.keep q0; have q1 := hb.keep q1; have q2 := hb.keep q2; have q3 := hb.keep q3; have j0 := hb.keep j0; have j1 := hb.keep j1; have j2 := hb.keep j2; have j3 := hb.keep j3; have j4 := hb.keep j4; have j5 := hb.keep j5; have j6 := hb.keep j6; have j7 := hb.keep j7; have hzq : wr.heap.size < wq.heap.size := (by have := hb.size; (try simp at this); omega); have hxD := hid hb; clear hb))
                  go_meet
                  exact ⟨_, rfl, hid (by rw [HA.out, HBB.out, HC.out, HD.out]; rfl), (by (repeat (first | exact Ext.refl _ | refine Ext.alloc ?_ _ | refine Ext.drewN ?_ _ | refine Ext.drew ?_ | refine Ext.trans ?_ (Hid.out (by assumption))))), hzq, j0, j1, j2, j3, j4, j5, j6, j7⟩
      case rest =>
        obtain ⟨K, rfl, HK, hxq, hzq, j0, j1, j2, j3, j4, j5, j6, j7⟩ := hcut
        rename World => wq
        cases K with
        | true =>
          go_wp2_with fail
          go_roundg (gk - 1)
          case measure => omega
          case rel => exact ⟨k + 1, aa, m, cp, ys, bb, r, cr, zs, by omega, by go_num, rfl, rfl, (by rw [Hs.out, adm_keep (by rw [← HID.out]; rw [knows2_eq, ← HY.out, ← HZ.out]; exact HK.out)]; exact ⟨hown.out.1.ext (by (repeat (first | exact Ext.refl _ | refine Ext.alloc ?_ _ | refine Ext.drewN ?_ _ | refine Ext.drew ?_ | refine Ext.trans ?_ (Hid.out (by assumption))))), hown.out.2.1.ext (by (repeat (first | exact Ext.refl _ | refine Ext.alloc ?_ _ | refine Ext.drewN ?_ _ | refine Ext.drew ?_ | refine Ext.trans ?_ (Hid.out (by assumption))))), hown.out.2.2.1, hown.out.2.2.2.1, hown.out.2.2.2.2.1, (fun y hy => (hown.out.2.2.2.2.2.1 y hy).ext (by (repeat (first | exact Ext.refl _ | refine Ext.alloc ?_ _ | refine Ext.drewN ?_ _ | refine Ext.drew ?_ | refine Ext.trans ?_ (Hid.out (by assumption)))))), (fun y hy => (hown.out.2.2.2.2.2.2 y hy).ext (by (repeat (first | exact Ext.refl _ | refine Ext.alloc ?_ _ | refine Ext.drewN ?_ _ | refine Ext.drew ?_ | refine Ext.trans ?_ (Hid.out (by assumption))))))⟩), (by (repeat (first | exact Ext.refl _ | refine Ext.alloc ?_ _ | refine Ext.drewN ?_ _ | refine Ext.drew ?_ | refine Ext.trans ?_ (Hid.out (by assumption)))))⟩
        | false =>
          by_cases h1 : xs[k].x.k = 1
          · have H1 := hid h1
            have h1b : (xs[k].x.k != 1) = false := by simp [h1]
            clear h1
            by_cases h4 : m < 4
            · have h4i : (m : Int) < 4 := by omega
              go_wp2_with (first | (go_at_call 55; refine (owhole_any xs[k].x xs[k].d _ (HV.out.ext (by (repeat (first | exact Ext.refl _ | refine Ext.alloc ?_ _ | refine Ext.drewN ?_ _ | refine Ext.drew ?_ | refine Ext.trans ?_ (Hid.out (by assumption)))))) HSM.out).mono ?_; rintro e w' ⟨x', rfl, hEO, hb⟩; have hb0 := hb.size; have HEO := hid hEO; have hx' := hid hb; clear hb hEO) | (at_builtin; refine app1 (ys := ys) rfl (.tmp 55) (.tmp 58) 24 rfl i0 _ 96 Try.underlying24 I1.out I2.out I3.out I4.out rfl (by decide) rfl (hown.out.1.ext (by (repeat (first | exact Ext.refl _ | refine Ext.alloc ?_ _ | refine Ext.drewN ?_ _ | refine Ext.drew ?_ | refine Ext.trans ?_ (Hid.out (by assumption)))))) ⟨x', xs[k].d⟩ _ rfl (news_alloc (cs := EP.cs ⟨x', xs[k].d⟩) rfl) (EP.one _) (by omega) (by decide) (Ext.size (by (repeat (first | exact Ext.refl _ | refine Ext.alloc ?_ _ | refine Ext.drewN ?_ _ | refine Ext.drew ?_ | refine Ext.trans ?_ (Hid.out (by assumption)))))) ?_; intro g cap' w3 hown3 hgrow; have HO3 := hid hown3; have HG := hid hgrow; clear hown3 hgrow))
              go_roundg (gk - 1)
              case measure => omega
              case rel =>
                refine ⟨k + 1, _, _, _, ys ++ [⟨x', xs[k].d⟩], bb, r, cr, zs, by omega, by go_num, rfl, rfl, ?_, HG.out.ext (hown.out.1.ext (by (repeat (first | exact Ext.refl _ | refine Ext.alloc ?_ _ | refine Ext.drewN ?_ _ | refine Ext.drew ?_ | refine Ext.trans ?_ (Hid.out (by assumption)))))) (Nat.le_refl _) (by (repeat (first | exact Ext.refl _ | refine Ext.alloc ?_ _ | refine Ext.drewN ?_ _ | refine Ext.drew ?_ | refine Ext.trans ?_ (Hid.out (by assumption)))))⟩
                rw [Hs.out, adm_open (by rw [← HID.out]; rw [knows2_eq, ← HY.out, ← HZ.out]; exact HK.out) (by rw [← HKK.out]; exact H1.out) (by rw [← Hmn.out]; exact h4)]
                refine ⟨HO3.out, HG.out.own (hown.out.2.1.ext (by (repeat (first | exact Ext.refl _ | refine Ext.alloc ?_ _ | refine Ext.drewN ?_ _ | refine Ext.drew ?_ | refine Ext.trans ?_ (Hid.out (by assumption)))))) hown.out.2.2.1, HG.out.dis (hown.out.2.1.ext (by (repeat (first | exact Ext.refl _ | refine Ext.alloc ?_ _ | refine Ext.drewN ?_ _ | refine Ext.drew ?_ | refine Ext.trans ?_ (Hid.out (by assumption)))))) hown.out.2.2.1, by rw [List.map_append, hown.out.2.2.2.1]; rfl, hown.out.2.2.2.2.1, fun y hy => ?_, fun y hy => ((hown.out.2.2.2.2.2.2 y hy).ext (by (repeat (first | exact Ext.refl _ | refine Ext.alloc ?_ _ | refine Ext.drewN ?_ _ | refine Ext.drew ?_ | refine Ext.trans ?_ (Hid.out (by assumption)))))).grow HG.out (hown.out.1.ext (by (repeat (first | exact Ext.refl _ | refine Ext.alloc ?_ _ | refine Ext.drewN ?_ _ | refine Ext.drew ?_ | refine Ext.trans ?_ (Hid.out (by assumption)))))) (by decide) (by decide) (by decide)⟩
                rcases List.mem_append.1 hy with hy | hy
                · exact ((hown.out.2.2.2.2.2.1 y hy).ext (by (repeat (first | exact Ext.refl _ | refine Ext.alloc ?_ _ | refine Ext.drewN ?_ _ | refine Ext.drew ?_ | refine Ext.trans ?_ (Hid.out (by assumption)))))).grow HG.out (hown.out.1.ext (by (repeat (first | exact Ext.refl _ | refine Ext.alloc ?_ _ | refine Ext.drewN ?_ _ | refine Ext.drew ?_ | refine Ext.trans ?_ (Hid.out (by assumption)))))) (by decide) (by decide) (by decide)
                · obtain rfl := List.mem_singleton.1 hy
                  exact ((HEO.out.mono (Ext.size (by (repeat (first | exact Ext.refl _ | refine Ext.alloc ?_ _ | refine Ext.drewN ?_ _ | refine Ext.drew ?_ | refine Ext.trans ?_ (Hid.out (by assumption))))))).ext (by (repeat (first | exact Ext.refl _ | refine Ext.alloc ?_ _ | refine Ext.drewN ?_ _ | refine Ext.drew ?_ | refine Ext.trans ?_ (Hid.out (by assumption)))))).grow HG.out (hown.out.1.ext (by (repeat (first | exact Ext.refl _ | refine Ext.alloc ?_ _ | refine Ext.drewN ?_ _ | refine Ext.drew ?_ | refine Ext.trans ?_ (Hid.out (by assumption)))))) (by decide) (by decide) (by decide)
            · have h4i : ¬ (m : Int) < 4 := by omega
              go_wp2_with fail
              go_roundg (gk - 1)
              case measure => omega
              case rel => exact ⟨k + 1, aa, m, cp, ys, bb, r, cr, zs, by omega, by go_num, rfl, rfl, (by rw [Hs.out, adm_full (by rw [← HID.out]; rw [knows2_eq, ← HY.out, ← HZ.out]; exact HK.out) (by rw [← HKK.out]; exact H1.out) (by rw [← Hmn.out]; exact h4)]; exact ⟨hown.out.1.ext (by (repeat (first | exact Ext.refl _ | refine Ext.alloc ?_ _ | refine Ext.drewN ?_ _ | refine Ext.drew ?_ | refine Ext.trans ?_ (Hid.out (by assumption))))), hown.out.2.1.ext (by (repeat (first | exact Ext.refl _ | refine Ext.alloc ?_ _ | refine Ext.drewN ?_ _ | refine Ext.drew ?_ | refine Ext.trans ?_ (Hid.out (by assumption))))), hown.out.2.2.1, hown.out.2.2.2.1, hown.out.2.2.2.2.1, (fun y hy => (hown.out.2.2.2.2.2.1 y hy).ext (by (repeat (first | exact Ext.refl _ | refine Ext.alloc ?_ _ | refine Ext.drewN ?_ _ | refine Ext.drew ?_ | refine Ext.trans ?_ (Hid.out (by assumption)))))), (fun y hy => (hown.out.2.2.2.2.2.2 y hy).ext (by (repeat (first | exact Ext.refl _ | refine Ext.alloc ?_ _ | refine Ext.drewN ?_ _ | refine Ext.drew ?_ | refine Ext.trans ?_ (Hid.out (by assumption))))))⟩), (by (repeat (first | exact Ext.refl _ | refine Ext.alloc ?_ _ | refine Ext.drewN ?_ _ | refine Ext.drew ?_ | refine Ext.trans ?_ (Hid.out (by assumption)))))⟩
          · have H1 := hid h1
            have h1b : (xs[k].x.k != 1) = true := by simp [h1]
            clear h1
            go_wp2_with (first | (go_at_call 55; refine (owhole_any xs[k].x xs[k].d _ (HV.out.ext (by (repeat (first | exact Ext.refl _ | refine Ext.alloc ?_ _ | refine Ext.drewN ?_ _ | refine Ext.drew ?_ | refine Ext.trans ?_ (Hid.out (by assumption)))))) HSM.out).mono ?_; rintro e w' ⟨x', rfl, hEO, hb⟩; have hb0 := hb.size; have HEO := hid hEO; have hx' := hid hb; clear hb hEO) | (at_builtin; refine app1 (ys := zs) rfl (.tmp 46) (.tmp 49) 24 rfl i0 _ 96 Try.underlying24 I1.out I2.out I3.out I4.out rfl (by decide) rfl (hown.out.2.1.ext (by (repeat (first | exact Ext.refl _ | refine Ext.alloc ?_ _ | refine Ext.drewN ?_ _ | refine Ext.drew ?_ | refine Ext.trans ?_ (Hid.out (by assumption)))))) ⟨x', xs[k].d⟩ _ rfl (news_alloc (cs := EP.cs ⟨x', xs[k].d⟩) rfl) (EP.one _) (by omega) (by decide) (Ext.size (by (repeat (first | exact Ext.refl _ | refine Ext.alloc ?_ _ | refine Ext.drewN ?_ _ | refine Ext.drew ?_ | refine Ext.trans ?_ (Hid.out (by assumption)))))) ?_; intro g cap' w3 hown3 hgrow; have HO3 := hid hown3; have HG := hid hgrow; clear hown3 hgrow))
            go_roundg (gk - 1)
            case measure => omega
            case rel =>
              refine ⟨k + 1, aa, m, cp, ys, _, _, _, zs ++ [⟨x', xs[k].d⟩], by omega, by go_num, rfl, rfl, ?_, HG.out.ext (hown.out.2.1.ext (by (repeat (first | exact Ext.refl _ | refine Ext.alloc ?_ _ | refine Ext.drewN ?_ _ | refine Ext.drew ?_ | refine Ext.trans ?_ (Hid.out (by assumption)))))) (Nat.le_refl _) (by (repeat (first | exact Ext.refl _ | refine Ext.alloc ?_ _ | refine Ext.drewN ?_ _ | refine Ext.drew ?_ | refine Ext.trans ?_ (Hid.out (by assumption)))))⟩
              rw [Hs.out, adm_list (by rw [← HID.out]; rw [knows2_eq, ← HY.out, ← HZ.out]; exact HK.out) (by rw [← HKK.out]; exact H1.out)]
              refine ⟨HG.out.own (hown.out.1.ext (by (repeat (first | exact Ext.refl _ | refine Ext.alloc ?_ _ | refine Ext.drewN ?_ _ | refine Ext.drew ?_ | refine Ext.trans ?_ (Hid.out (by assumption)))))) hown.out.2.2.1.symm, HO3.out, (HG.out.dis (hown.out.1.ext (by (repeat (first | exact Ext.refl _ | refine Ext.alloc ?_ _ | refine Ext.drewN ?_ _ | refine Ext.drew ?_ | refine Ext.trans ?_ (Hid.out (by assumption)))))) hown.out.2.2.1.symm).symm, hown.out.2.2.2.1, by rw [List.map_append, hown.out.2.2.2.2.1]; rfl, fun y hy => ((hown.out.2.2.2.2.2.1 y hy).ext (by (repeat (first | exact Ext.refl _ | refine Ext.alloc ?_ _ | refine Ext.drewN ?_ _ | refine Ext.drew ?_ | refine Ext.trans ?_ (Hid.out (by assumption)))))).grow HG.out (hown.out.2.1.ext (by (repeat (first | exact Ext.refl _ | refine Ext.alloc ?_ _ | refine Ext.drewN ?_ _ | refine Ext.drew ?_ | refine Ext.trans ?_ (Hid.out (by assumption)))))) (by decide) (by decide) (by decide), fun y hy => ?_⟩
              rcases List.mem_append.1 hy with hy | hy
              · exact ((hown.out.2.2.2.2.2.2 y hy).ext (by (repeat (first | exact Ext.refl _ | refine Ext.alloc ?_ _ | refine Ext.drewN ?_ _ | refine Ext.drew ?_ | refine Ext.trans ?_ (Hid.out (by assumption)))))).grow HG.out (hown.out.2.1.ext (by (repeat (first | exact Ext.refl _ | refine Ext.alloc ?_ _ | refine Ext.drewN ?_ _ | refine Ext.drew ?_ | refine Ext.trans ?_ (Hid.out (by assumption)))))) (by decide) (by decide) (by decide)
              · obtain rfl := List.mem_singleton.1 hy
                exact ((HEO.out.mono (Ext.size (by (repeat (first | exact Ext.refl _ | refine Ext.alloc ?_ _ | refine Ext.drewN ?_ _ | refine Ext.drew ?_ | refine Ext.trans ?_ (Hid.out (by assumption))))))).ext (by (repeat (first | exact Ext.refl _ | refine Ext.alloc ?_ _ | refine Ext.drewN ?_ _ | refine Ext.drew ?_ | refine Ext.trans ?_ (Hid.out (by assumption)))))).grow HG.out (hown.out.2.1.ext (by (repeat (first | exact Ext.refl _ | refine Ext.alloc ?_ _ | refine Ext.drewN ?_ _ | refine Ext.drew ?_ | refine Ext.trans ?_ (Hid.out (by assumption)))))) (by decide) (by decide) (by decide)
    · have hk' : ds.take k = ds := List.take_of_length_le (by rw [HDL.out]; omega)
      rw [hk'] at hown
      clear hk'
      rw [← HD0.out] at hown
      go_wp2
      go_ret2
      exact ⟨aa, m, cp, ys, bb, r, cr, zs, rfl, ⟨hown.out.1.sl, fun p hp => (hown.out.2.2.2.2.2.1 p hp).is⟩, hown.out.2.2.2.1, ⟨hown.out.2.1.sl, fun p hp => (hown.out.2.2.2.2.2.2 p hp).is⟩, hown.out.2.2.2.2.1, Ext.trans ((Ext.refl w).alloc _) hx.out⟩
end Go.Proofs.Ytncadipipomebaa
