/- What a broker promises: the walk of vote.Promise. -/
import Derived.Test.YtncadipipomebaaEnds
import Derived.Test.YtncadipipomebaaWhole
namespace Go.Proofs.Ytncadipipomebaa
open Go.RowKit

theorem infoE : (Try.prog.info? 50).map (fun i => (i.zero, i.size, i.bytes)) = some (some (.agg #[.int .i64 0, .int .i64 0, .int .u64 0, .int .u64 0, .int .i64 0, .int .u64 0, .slice none 0 0, .slice none 0 0]), 8, 96) := by kernel_rfl
theorem EP.one (p : EP) : ∀ u ∈ p.cs, u.oneCell' = true := EV.one p.x

/-- what is known of an ID: listed, promised or aborted -/
def knows3 (ls ps : List EV) (bs : List Id) (i : Id) : Bool := ls.any (fun x => idEq x.id i) || ps.any (fun x => idEq x.id i) || bs.any (fun x => idEq x i)
theorem knows3_eq (ls ps : List EV) (bs : List Id) (i : Id) : knows3 ls ps bs i = (ls.any (fun x => idEq x.id i) || ps.any (fun x => idEq x.id i) || bs.any (fun x => idEq x i)) := rfl
/-- one entry more -/
def promStep (kn : Id → Bool) (np : Nat) (st : List ED × List Id) (d : ED) : List ED × List Id :=
  if (kn d.id || st.1.any (fun x => idEq x.id d.id) || st.2.any (fun x => idEq x d.id)) = true then st else if np + st.1.length < 6 then (st.1 ++ [d], st.2) else (st.1, st.2 ++ [d.id])
/-- those that are promised, and those that are refused -/
def promOf (kn : Id → Bool) (np : Nat) (ds : List ED) : List ED × List Id := ds.foldl (promStep kn np) ([], [])
theorem prom_succ {kn : Id → Bool} {np : Nat} {ds : List ED} {k : Nat} (hk : k < ds.length) : promOf kn np (ds.take (k + 1)) = promStep kn np (promOf kn np (ds.take k)) ds[k] := by
  unfold promOf; rw [List.take_succ_eq_append_getElem hk, List.foldl_append]; rfl
theorem prom_keep {kn : Id → Bool} {np : Nat} {st : List ED × List Id} {d : ED} (h : (kn d.id || st.1.any (fun x => idEq x.id d.id) || st.2.any (fun x => idEq x d.id)) = true) : promStep kn np st d = st := by
  unfold promStep; rw [if_pos h]
theorem prom_yes {kn : Id → Bool} {np : Nat} {st : List ED × List Id} {d : ED} (h : (kn d.id || st.1.any (fun x => idEq x.id d.id) || st.2.any (fun x => idEq x d.id)) = false) (hn : np + st.1.length < 6) : promStep kn np st d = (st.1 ++ [d], st.2) := by
  unfold promStep; rw [if_neg (by rw [h]; simp), if_pos hn]
theorem prom_no {kn : Id → Bool} {np : Nat} {st : List ED × List Id} {d : ED} (h : (kn d.id || st.1.any (fun x => idEq x.id d.id) || st.2.any (fun x => idEq x d.id)) = false) (hn : ¬ np + st.1.length < 6) : promStep kn np st d = (st.1, st.2 ++ [d.id]) := by
  unfold promStep; rw [if_neg (by rw [h]; simp), if_neg hn]
theorem prom_len (kn : Id → Bool) (np : Nat) : ∀ (l : List ED) (st : List ED × List Id), (l.foldl (promStep kn np) st).1.length + (l.foldl (promStep kn np) st).2.length ≤ st.1.length + st.2.length + l.length
  | [], st => by simp
  | d :: l, st => by
    rw [List.foldl_cons]
    have := prom_len kn np l (promStep kn np st d)
    have h2 : (promStep kn np st d).1.length + (promStep kn np st d).2.length ≤ st.1.length + st.2.length + 1 := by
      unfold promStep; split
      · omega
      · split <;> simp <;> omega
    rw [List.length_cons]; omega

/-- Two slices in memory: entries, and IDs. -/
def RetPr (es : List ED) (is : List Id) (w : World) (e : Ending) (w' : World) : Prop :=
  ∃ aa n c bb m q ps, e = .returned (.tuple #[.slice aa n c, .slice bb m q]) ∧ Ents w' aa n c ps ∧ ps.map (·.d) = es ∧ Sl w' 3 Id.cs bb m q is ∧ Ext w w'

theorem known_any (s : StV) (ls ps : List EV) (bs : List Id) (i : Id) (cp : Nat) (w : World) (hL : Sl w 8 EV.cs s.l.a s.l.n s.l.c ls) (hP : Sl w 8 EV.cs s.p.a s.p.n s.p.c ps) (hB : Sl w 3 Id.cs s.b.a s.b.n s.b.c bs)
    (h0 : w.cell? ⟨cp, 0, none⟩ = some (.int .u64 s.life)) (h1 : w.cell? ⟨cp, 1, none⟩ = some (.slice s.l.a s.l.n s.l.c)) (h2 : w.cell? ⟨cp, 2, none⟩ = some (.slice s.p.a s.p.n s.p.c)) (h3 : w.cell? ⟨cp, 3, none⟩ = some (.slice s.b.a s.b.n s.b.c)) :
    Calls Try.prog 37 #[.agg #[.int .i64 i.b, .int .u64 i.l, .int .u64 i.s], .pointer (some ⟨cp, 0, none⟩)] w fun e w' => e = .returned (.bool (knows3 ls ps bs i)) ∧ Ext w w' := by
  have HL := hid hL
  have HP := hid hP
  have HB := hid hB
  have hlt := lt_of_cell h0
  dsimp only at hlt
  have hlt' : cp < w.heap.size + 1 := by omega
  clear hL hP hB
  cases h1 : ls.any (fun x => idEq x.id i) with
  | true =>
    have H1 := hid h1
    clear h1
    go_enter Try.func37, Try.ntmps37
    go_wp2_with (first | (go_at_call 27; refine (has_any s ls i _ (HL.out.ext (by (repeat (first | exact Ext.refl _ | refine Ext.alloc ?_ _ | refine Ext.drewN ?_ _ | refine Ext.drew ?_ | refine Ext.trans ?_ (Hid.out (by assumption))))))).mono ?_; rintro e w' ⟨rfl, hb⟩; have hc := hb.cell; have hz : cp < w'.heap.size := (by have := hb.size; (try simp at this); omega); have hz0 : w.heap.size < w'.heap.size := (by have := hb.size; (try simp at this); omega); have hx' := hid hb; clear hb; rw [H1.out]) | (go_at_call 28; refine (promised_any s ps i _ (HP.out.ext (by (repeat (first | exact Ext.refl _ | refine Ext.alloc ?_ _ | refine Ext.drewN ?_ _ | refine Ext.drew ?_ | refine Ext.trans ?_ (Hid.out (by assumption))))))).mono ?_; rintro e w' ⟨rfl, hb⟩; have hc := hb.cell; have hz : cp < w'.heap.size := (by have := hb.size; (try simp at this); omega); have hz0 : w.heap.size < w'.heap.size := (by have := hb.size; (try simp at this); omega); have hx' := hid hb; clear hb; rw [H2.out]) | (go_at_call 29; refine (aborted_any s bs i _ (HB.out.ext (by (repeat (first | exact Ext.refl _ | refine Ext.alloc ?_ _ | refine Ext.drewN ?_ _ | refine Ext.drew ?_ | refine Ext.trans ?_ (Hid.out (by assumption))))))).mono ?_; rintro e w' ⟨rfl, hb⟩; have hc := hb.cell; have hz : cp < w'.heap.size := (by have := hb.size; (try simp at this); omega); have hz0 : w.heap.size < w'.heap.size := (by have := hb.size; (try simp at this); omega); have hx' := hid hb; clear hb; rw [H3.out]))
    go_ret
    refine ⟨ret_bool (by rw [knows3_eq, H1.out]; rfl), ?_⟩
    (repeat (first | exact Ext.refl _ | refine Ext.alloc ?_ _ | refine Ext.drewN ?_ _ | refine Ext.drew ?_ | refine Ext.trans ?_ (Hid.out (by assumption))))
  | false =>
    have H1 := hid h1
    clear h1
    cases h2 : ps.any (fun x => idEq x.id i) with
    | true =>
      have H2 := hid h2
      clear h2
      go_enter Try.func37, Try.ntmps37
      go_wp2_with (first | (go_at_call 27; refine (has_any s ls i _ (HL.out.ext (by (repeat (first | exact Ext.refl _ | refine Ext.alloc ?_ _ | refine Ext.drewN ?_ _ | refine Ext.drew ?_ | refine Ext.trans ?_ (Hid.out (by assumption))))))).mono ?_; rintro e w' ⟨rfl, hb⟩; have hc := hb.cell; have hz : cp < w'.heap.size := (by have := hb.size; (try simp at this); omega); have hz0 : w.heap.size < w'.heap.size := (by have := hb.size; (try simp at this); omega); have hx' := hid hb; clear hb; rw [H1.out]) | (go_at_call 28; refine (promised_any s ps i _ (HP.out.ext (by (repeat (first | exact Ext.refl _ | refine Ext.alloc ?_ _ | refine Ext.drewN ?_ _ | refine Ext.drew ?_ | refine Ext.trans ?_ (Hid.out (by assumption))))))).mono ?_; rintro e w' ⟨rfl, hb⟩; have hc := hb.cell; have hz : cp < w'.heap.size := (by have := hb.size; (try simp at this); omega); have hz0 : w.heap.size < w'.heap.size := (by have := hb.size; (try simp at this); omega); have hx' := hid hb; clear hb; rw [H2.out]) | (go_at_call 29; refine (aborted_any s bs i _ (HB.out.ext (by (repeat (first | exact Ext.refl _ | refine Ext.alloc ?_ _ | refine Ext.drewN ?_ _ | refine Ext.drew ?_ | refine Ext.trans ?_ (Hid.out (by assumption))))))).mono ?_; rintro e w' ⟨rfl, hb⟩; have hc := hb.cell; have hz : cp < w'.heap.size := (by have := hb.size; (try simp at this); omega); have hz0 : w.heap.size < w'.heap.size := (by have := hb.size; (try simp at this); omega); have hx' := hid hb; clear hb; rw [H3.out]))
      go_ret
      refine ⟨ret_bool (by rw [knows3_eq, H1.out, H2.out]; rfl), ?_⟩
      (repeat (first | exact Ext.refl _ | refine Ext.alloc ?_ _ | refine Ext.drewN ?_ _ | refine Ext.drew ?_ | refine Ext.trans ?_ (Hid.out (by assumption))))
    | false =>
      have H2 := hid h2
      clear h2
      cases h3 : bs.any (fun x => idEq x i) with
      | true =>
        have H3 := hid h3
        clear h3
        go_enter Try.func37, Try.ntmps37
        go_wp2_with (first | (go_at_call 27; refine (has_any s ls i _ (HL.out.ext (by (repeat (first | exact Ext.refl _ | refine Ext.alloc ?_ _ | refine Ext.drewN ?_ _ | refine Ext.drew ?_ | refine Ext.trans ?_ (Hid.out (by assumption))))))).mono ?_; rintro e w' ⟨rfl, hb⟩; have hc := hb.cell; have hz : cp < w'.heap.size := (by have := hb.size; (try simp at this); omega); have hz0 : w.heap.size < w'.heap.size := (by have := hb.size; (try simp at this); omega); have hx' := hid hb; clear hb; rw [H1.out]) | (go_at_call 28; refine (promised_any s ps i _ (HP.out.ext (by (repeat (first | exact Ext.refl _ | refine Ext.alloc ?_ _ | refine Ext.drewN ?_ _ | refine Ext.drew ?_ | refine Ext.trans ?_ (Hid.out (by assumption))))))).mono ?_; rintro e w' ⟨rfl, hb⟩; have hc := hb.cell; have hz : cp < w'.heap.size := (by have := hb.size; (try simp at this); omega); have hz0 : w.heap.size < w'.heap.size := (by have := hb.size; (try simp at this); omega); have hx' := hid hb; clear hb; rw [H2.out]) | (go_at_call 29; refine (aborted_any s bs i _ (HB.out.ext (by (repeat (first | exact Ext.refl _ | refine Ext.alloc ?_ _ | refine Ext.drewN ?_ _ | refine Ext.drew ?_ | refine Ext.trans ?_ (Hid.out (by assumption))))))).mono ?_; rintro e w' ⟨rfl, hb⟩; have hc := hb.cell; have hz : cp < w'.heap.size := (by have := hb.size; (try simp at this); omega); have hz0 : w.heap.size < w'.heap.size := (by have := hb.size; (try simp at this); omega); have hx' := hid hb; clear hb; rw [H3.out]))
        go_ret
        refine ⟨ret_bool (by rw [knows3_eq, H1.out, H2.out, H3.out]; rfl), ?_⟩
        (repeat (first | exact Ext.refl _ | refine Ext.alloc ?_ _ | refine Ext.drewN ?_ _ | refine Ext.drew ?_ | refine Ext.trans ?_ (Hid.out (by assumption))))
      | false =>
        have H3 := hid h3
        clear h3
        go_enter Try.func37, Try.ntmps37
        go_wp2_with (first | (go_at_call 27; refine (has_any s ls i _ (HL.out.ext (by (repeat (first | exact Ext.refl _ | refine Ext.alloc ?_ _ | refine Ext.drewN ?_ _ | refine Ext.drew ?_ | refine Ext.trans ?_ (Hid.out (by assumption))))))).mono ?_; rintro e w' ⟨rfl, hb⟩; have hc := hb.cell; have hz : cp < w'.heap.size := (by have := hb.size; (try simp at this); omega); have hz0 : w.heap.size < w'.heap.size := (by have := hb.size; (try simp at this); omega); have hx' := hid hb; clear hb; rw [H1.out]) | (go_at_call 28; refine (promised_any s ps i _ (HP.out.ext (by (repeat (first | exact Ext.refl _ | refine Ext.alloc ?_ _ | refine Ext.drewN ?_ _ | refine Ext.drew ?_ | refine Ext.trans ?_ (Hid.out (by assumption))))))).mono ?_; rintro e w' ⟨rfl, hb⟩; have hc := hb.cell; have hz : cp < w'.heap.size := (by have := hb.size; (try simp at this); omega); have hz0 : w.heap.size < w'.heap.size := (by have := hb.size; (try simp at this); omega); have hx' := hid hb; clear hb; rw [H2.out]) | (go_at_call 29; refine (aborted_any s bs i _ (HB.out.ext (by (repeat (first | exact Ext.refl _ | refine Ext.alloc ?_ _ | refine Ext.drewN ?_ _ | refine Ext.drew ?_ | refine Ext.trans ?_ (Hid.out (by assumption))))))).mono ?_; rintro e w' ⟨rfl, hb⟩; have hc := hb.cell; have hz : cp < w'.heap.size := (by have := hb.size; (try simp at this); omega); have hz0 : w.heap.size < w'.heap.size := (by have := hb.size; (try simp at this); omega); have hx' := hid hb; clear hb; rw [H3.out]))
        go_ret
        refine ⟨ret_bool (by rw [knows3_eq, H1.out, H2.out, H3.out]; rfl), ?_⟩
        (repeat (first | exact Ext.refl _ | refine Ext.alloc ?_ _ | refine Ext.drewN ?_ _ | refine Ext.drew ?_ | refine Ext.trans ?_ (Hid.out (by assumption))))

set_option maxRecDepth 100000 in
set_option maxHeartbeats 4000000 in
theorem promise_any (s : StV) (ls ps : List EV) (bs : List Id) (la : Option Addr) (ln lc : Nat) (xs : List EP) (w : World)
    (hL : Sl w 8 EV.cs s.l.a s.l.n s.l.c ls) (hP : Sl w 8 EV.cs s.p.a s.p.n s.p.c ps) (hB : Sl w 3 Id.cs s.b.a s.b.n s.b.c bs) (hX : Ents w la ln lc xs) (hsm : ∀ p, p ∈ xs → Small p.d)
    (hn1 : s.p.n ≤ 1000000) (hn2 : ln ≤ 1000000) :
    Calls Try.prog 16 #[.agg #[.int .u64 s.life, .slice s.l.a s.l.n s.l.c, .slice s.p.a s.p.n s.p.c, .slice s.b.a s.b.n s.b.c], .slice la ln lc] w (RetPr (promOf (knows3 ls ps bs) s.p.n (xs.map (·.d))).1 (promOf (knows3 ls ps bs) s.p.n (xs.map (·.d))).2 w) := by
  obtain ⟨i0, hi, hz0, hz1, hz2⟩ := info_parts infoE
  obtain ⟨j0, hj, hy0, hy1, hy2⟩ := info_parts infoId
  obtain rfl := hX.sl.neq
  have hm := hX.sl.max
  have hl := hX.sl.len
  unfold maxLen at hm
  generalize hds : xs.map (·.d) = ds
  have hdl : ds.length = xs.length := by rw [← hds, List.length_map]
  have HDS := hid hds
  have HDL := hid hdl
  have HL := hid hL
  have HP := hid hP
  have HB := hid hB
  have HX := hid hX
  have HSMA := hid hsm
  have I1 := hid hi
  have I2 := hid hz0
  have I3 := hid hz1
  have I4 := hid hz2
  have J1 := hid hj
  have J2 := hid hy0
  have J3 := hid hy1
  have J4 := hid hy2
  clear hL hP hB hX hsm hi hz0 hz1 hz2 hj hy0 hy1 hy2 hds hdl
  go_enter Try.func16, Try.ntmps16
  go_wp2_with fail
  go_step3
  go_wp2_with fail
  go_step3
  go_wp2_with fail
  go_loopg [6, 7, 14] (xs.length) (fun g ov rv st wr => ∃ (k : Nat) (aa : Option Addr) (m cp : Nat) (bb : Option Addr) (r cr : Nat) (ys : List EP), g + k = xs.length ∧ st = .int .i64 k ∧ ov = .slice aa m cp ∧ rv = .slice bb r cr ∧
    Hid (Own wr (w.alloc (Obj.cells #[.int .u64 s.life, .slice s.l.a s.l.n s.l.c, .slice s.p.a s.p.n s.p.c, .slice s.b.a s.b.n s.b.c] 27)).heap.size 50 8 EP.cs aa m cp ys ∧ ys.map (·.d) = (promOf (knows3 ls ps bs) s.p.n (ds.take k)).1 ∧ (∀ y, y ∈ ys → EntryOwn wr (w.alloc (Obj.cells #[.int .u64 s.life, .slice s.l.a s.l.n s.l.c, .slice s.p.a s.p.n s.p.c, .slice s.b.a s.b.n s.b.c] 27)).heap.size y.x y.d) ∧ Own wr (w.alloc (Obj.cells #[.int .u64 s.life, .slice s.l.a s.l.n s.l.c, .slice s.p.a s.p.n s.p.c, .slice s.b.a s.b.n s.b.c] 27)).heap.size 30 3 Id.cs bb r cr (promOf (knows3 ls ps bs) s.p.n (ds.take k)).2) ∧ Hid (Ext (w.alloc (Obj.cells #[.int .u64 s.life, .slice s.l.a s.l.n s.l.c, .slice s.p.a s.p.n s.p.c, .slice s.b.a s.b.n s.b.c] 27)) wr))
  case atStart => exact ⟨0, none, 0, 0, none, 0, 0, [], by omega, rfl, rfl, rfl, ⟨Own.nil _ _ _ EP.wid, rfl, (fun y hy => by cases hy), Own.nil _ _ _ Id.wid⟩, Ext.refl _⟩
  case round =>
    obtain ⟨k, aa, m, cp, bb, r, cr, ys, hg, rfl, rfl, rfl, hown, hx⟩ := hrel
    by_cases hk : k < xs.length
    · obtain ⟨b, o, rfl, hc⟩ := HX.out.sl.get k hk
      have hE : Ext w wr := Ext.trans ((Ext.refl w).alloc _) hx.out
      obtain ⟨c0, c1, c2, c3, c4, c5, c6, c7⟩ := cells8 (w := wr) (b := b) (o := o + k * 8) (x := xs[k].x) (fun j v hj => hE.keep (hc j v hj))
      have s0 : wr.cell? ⟨w.heap.size, 0, none⟩ = some (.int .u64 s.life) := hx.out.keep (by simp)
      have s1 : wr.cell? ⟨w.heap.size, 1, none⟩ = some (.slice s.l.a s.l.n s.l.c) := hx.out.keep (by simp)
      have s2 : wr.cell? ⟨w.heap.size, 2, none⟩ = some (.slice s.p.a s.p.n s.p.c) := hx.out.keep (by simp)
      have s3 : wr.cell? ⟨w.heap.size, 3, none⟩ = some (.slice s.b.a s.b.n s.b.c) := hx.out.keep (by simp)
      have hz0 : w.heap.size < wr.heap.size := by have := hx.out.size; simp at this; omega
      have hz1 : w.heap.size < wr.heap.size + 1 := by omega
      have HV := hid ((HX.out.is xs[k] (List.getElem_mem hk)).ext hE)
      have HSM := hid (HSMA.out xs[k] (List.getElem_mem hk))
      have hkd : k < ds.length := by rw [HDL.out]; exact hk
      have hdk : ds[k] = xs[k].d := by have := HDS.out; subst this; simp
      have HID := hid HV.out.id
      have Hs := hid (show promOf (knows3 ls ps bs) s.p.n (ds.take (k + 1)) = promStep (knows3 ls ps bs) s.p.n (promOf (knows3 ls ps bs) s.p.n (ds.take k)) xs[k].d from by rw [prom_succ hkd, hdk])
      have hany : ∀ i, (promOf (knows3 ls ps bs) s.p.n (ds.take k)).1.any (fun x => idEq x.id i) = (ys.map (·.x)).any (fun x => idEq x.id i) := by
        intro i
        rw [← hown.out.2.1, List.any_map, List.any_map]
        have h := hown.out.2.2.1
        clear hown
        induction ys with
        | nil => rfl
        | cons y l ih => rw [List.any_cons, List.any_cons, ih (fun z hz => h z (List.mem_cons_of_mem _ hz))]; simp only [Function.comp]; rw [(h y (List.mem_cons_self ..)).id]
      have Hany := hid (hany xs[k].x.id)
      have hml : m + r ≤ k := by
        have h1 := hown.out.1.neq
        have h2 := congrArg List.length hown.out.2.1
        have h3 := hown.out.2.2.2.neq
        have h4 := prom_len (knows3 ls ps bs) s.p.n (ds.take k) ([], [])
        have h5 : (ds.take k).length ≤ k := List.length_take_le _ _
        rw [List.length_map] at h2
        unfold promOf at h2 h3
        simp at h4
        omega
      have Hmn := hid (show m = (promOf (knows3 ls ps bs) s.p.n (ds.take k)).1.length by rw [← hown.out.2.1, List.length_map]; exact hown.out.1.neq)
      clear hc hE hkd hdk hany
      have b0 : (0 : Int) ≤ (k : Int) := by omega
      have b1 : (k : Int) < (xs.length : Int) := by omega
      cases h1 : knows3 ls ps bs xs[k].x.id with
      | true =>
        have H1 := hid h1
        clear h1
        go_wp2_with (first | (go_at_call 37; refine (known_any s ls ps bs xs[k].x.id w.heap.size _ (HL.out.ext (Ext.trans ((Ext.refl w).alloc _) (Ext.trans hx.out (by (repeat (first | exact Ext.refl _ | refine Ext.alloc ?_ _ | refine Ext.drewN ?_ _ | refine Ext.drew ?_ | refine Ext.trans ?_ (Hid.out (by assumption)))))))) (HP.out.ext (Ext.trans ((Ext.refl w).alloc _) (Ext.trans hx.out (by (repeat (first | exact Ext.refl _ | refine Ext.alloc ?_ _ | refine Ext.drewN ?_ _ | refine Ext.drew ?_ | refine Ext.trans ?_ (Hid.out (by assumption)))))))) (HB.out.ext (Ext.trans ((Ext.refl w).alloc _) (Ext.trans hx.out (by (repeat (first | exact Ext.refl _ | refine Ext.alloc ?_ _ | refine Ext.drewN ?_ _ | refine Ext.drew ?_ | refine Ext.trans ?_ (Hid.out (by assumption)))))))) (Ext.keep (W := wr) (by (repeat (first | exact Ext.refl _ | refine Ext.alloc ?_ _ | refine Ext.drewN ?_ _ | refine Ext.drew ?_ | refine Ext.trans ?_ (Hid.out (by assumption))))) s0) (Ext.keep (W := wr) (by (repeat (first | exact Ext.refl _ | refine Ext.alloc ?_ _ | refine Ext.drewN ?_ _ | refine Ext.drew ?_ | refine Ext.trans ?_ (Hid.out (by assumption))))) s1) (Ext.keep (W := wr) (by (repeat (first | exact Ext.refl _ | refine Ext.alloc ?_ _ | refine Ext.drewN ?_ _ | refine Ext.drew ?_ | refine Ext.trans ?_ (Hid.out (by assumption))))) s2) (Ext.keep (W := wr) (by (repeat (first | exact Ext.refl _ | refine Ext.alloc ?_ _ | refine Ext.drewN ?_ _ | refine Ext.drew ?_ | refine Ext.trans ?_ (Hid.out (by assumption))))) s3)).mono ?_; rintro e w' ⟨rfl, hb⟩; have hc := hb.cell; have hz0 : w.heap.size < w'.heap.size := (by have := hb.size; (try simp at this); omega); have hz1 : wr.heap.size < w'.heap.size := (by have := hb.size; (try simp at this); omega); have hx' := hid hb; clear hb; rw [H1.out]) | (go_at_call 38; refine (vof_any _ _ _ (ys.map (·.x)) xs[k].x.id _ ((Sl.map (fun p : EP => p.x) hown.out.1.sl EV.wid).ext (by (repeat (first | exact Ext.refl _ | refine Ext.alloc ?_ _ | refine Ext.drewN ?_ _ | refine Ext.drew ?_ | refine Ext.trans ?_ (Hid.out (by assumption))))))).mono ?_; rintro e w' ⟨rfl, hb⟩; have hc := hb.cell; have hz0 : w.heap.size < w'.heap.size := (by have := hb.size; (try simp at this); omega); have hz1 : wr.heap.size < w'.heap.size := (by have := hb.size; (try simp at this); omega); have hx' := hid hb; clear hb; rw [H2.out]) | (go_at_call 39; refine (contains_any _ _ _ (promOf (knows3 ls ps bs) s.p.n (ds.take k)).2 xs[k].x.id _ (hown.out.2.2.2.sl.ext (by (repeat (first | exact Ext.refl _ | refine Ext.alloc ?_ _ | refine Ext.drewN ?_ _ | refine Ext.drew ?_ | refine Ext.trans ?_ (Hid.out (by assumption))))))).mono ?_; rintro e w' ⟨rfl, hb⟩; have hc := hb.cell; have hz0 : w.heap.size < w'.heap.size := (by have := hb.size; (try simp at this); omega); have hz1 : wr.heap.size < w'.heap.size := (by have := hb.size; (try simp at this); omega); have hx' := hid hb; clear hb; rw [H3.out]))
        go_roundg (gk - 1)
        case measure => omega
        case rel => exact ⟨k + 1, aa, m, cp, bb, r, cr, ys, by omega, by go_num, rfl, rfl, (by rw [Hs.out, prom_keep (by rw [← HID.out]; rw [H1.out]; simp)]; exact ⟨hown.out.1.ext (by (repeat (first | exact Ext.refl _ | refine Ext.alloc ?_ _ | refine Ext.drewN ?_ _ | refine Ext.drew ?_ | refine Ext.trans ?_ (Hid.out (by assumption))))), hown.out.2.1, fun y hy => (hown.out.2.2.1 y hy).ext (by (repeat (first | exact Ext.refl _ | refine Ext.alloc ?_ _ | refine Ext.drewN ?_ _ | refine Ext.drew ?_ | refine Ext.trans ?_ (Hid.out (by assumption))))), hown.out.2.2.2.ext (by (repeat (first | exact Ext.refl _ | refine Ext.alloc ?_ _ | refine Ext.drewN ?_ _ | refine Ext.drew ?_ | refine Ext.trans ?_ (Hid.out (by assumption)))))⟩), (by (repeat (first | exact Ext.refl _ | refine Ext.alloc ?_ _ | refine Ext.drewN ?_ _ | refine Ext.drew ?_ | refine Ext.trans ?_ (Hid.out (by assumption)))))⟩
      | false =>
        have H1 := hid h1
        clear h1
        cases h2 : (ys.map (·.x)).any (fun x => idEq x.id xs[k].x.id) with
        | true =>
          have H2 := hid h2
          clear h2
          go_wp2_with (first | (go_at_call 37; refine (known_any s ls ps bs xs[k].x.id w.heap.size _ (HL.out.ext (Ext.trans ((Ext.refl w).alloc _) (Ext.trans hx.out (by (repeat (first | exact Ext.refl _ | refine Ext.alloc ?_ _ | refine Ext.drewN ?_ _ | refine Ext.drew ?_ | refine Ext.trans ?_ (Hid.out (by assumption)))))))) (HP.out.ext (Ext.trans ((Ext.refl w).alloc _) (Ext.trans hx.out (by (repeat (first | exact Ext.refl _ | refine Ext.alloc ?_ _ | refine Ext.drewN ?_ _ | refine Ext.drew ?_ | refine Ext.trans ?_ (Hid.out (by assumption)))))))) (HB.out.ext (Ext.trans ((Ext.refl w).alloc _) (Ext.trans hx.out (by (repeat (first | exact Ext.refl _ | refine Ext.alloc ?_ _ | refine Ext.drewN ?_ _ | refine Ext.drew ?_ | refine Ext.trans ?_ (Hid.out (by assumption)))))))) (Ext.keep (W := wr) (by (repeat (first | exact Ext.refl _ | refine Ext.alloc ?_ _ | refine Ext.drewN ?_ _ | refine Ext.drew ?_ | refine Ext.trans ?_ (Hid.out (by assumption))))) s0) (Ext.keep (W := wr) (by (repeat (first | exact Ext.refl _ | refine Ext.alloc ?_ _ | refine Ext.drewN ?_ _ | refine Ext.drew ?_ | refine Ext.trans ?_ (Hid.out (by assumption))))) s1) (Ext.keep (W := wr) (by (repeat (first | exact Ext.refl _ | refine Ext.alloc ?_ _ | refine Ext.drewN ?_ _ | refine Ext.drew ?_ | refine Ext.trans ?_ (Hid.out (by assumption))))) s2) (Ext.keep (W := wr) (by (repeat (first | exact Ext.refl _ | refine Ext.alloc ?_ _ | refine Ext.drewN ?_ _ | refine Ext.drew ?_ | refine Ext.trans ?_ (Hid.out (by assumption))))) s3)).mono ?_; rintro e w' ⟨rfl, hb⟩; have hc := hb.cell; have hz0 : w.heap.size < w'.heap.size := (by have := hb.size; (try simp at this); omega); have hz1 : wr.heap.size < w'.heap.size := (by have := hb.size; (try simp at this); omega); have hx' := hid hb; clear hb; rw [H1.out]) | (go_at_call 38; refine (vof_any _ _ _ (ys.map (·.x)) xs[k].x.id _ ((Sl.map (fun p : EP => p.x) hown.out.1.sl EV.wid).ext (by (repeat (first | exact Ext.refl _ | refine Ext.alloc ?_ _ | refine Ext.drewN ?_ _ | refine Ext.drew ?_ | refine Ext.trans ?_ (Hid.out (by assumption))))))).mono ?_; rintro e w' ⟨rfl, hb⟩; have hc := hb.cell; have hz0 : w.heap.size < w'.heap.size := (by have := hb.size; (try simp at this); omega); have hz1 : wr.heap.size < w'.heap.size := (by have := hb.size; (try simp at this); omega); have hx' := hid hb; clear hb; rw [H2.out]) | (go_at_call 39; refine (contains_any _ _ _ (promOf (knows3 ls ps bs) s.p.n (ds.take k)).2 xs[k].x.id _ (hown.out.2.2.2.sl.ext (by (repeat (first | exact Ext.refl _ | refine Ext.alloc ?_ _ | refine Ext.drewN ?_ _ | refine Ext.drew ?_ | refine Ext.trans ?_ (Hid.out (by assumption))))))).mono ?_; rintro e w' ⟨rfl, hb⟩; have hc := hb.cell; have hz0 : w.heap.size < w'.heap.size := (by have := hb.size; (try simp at this); omega); have hz1 : wr.heap.size < w'.heap.size := (by have := hb.size; (try simp at this); omega); have hx' := hid hb; clear hb; rw [H3.out]))
          go_roundg (gk - 1)
          case measure => omega
          case rel => exact ⟨k + 1, aa, m, cp, bb, r, cr, ys, by omega, by go_num, rfl, rfl, (by rw [Hs.out, prom_keep (by rw [← HID.out]; rw [H1.out, Hany.out, H2.out]; simp)]; exact ⟨hown.out.1.ext (by (repeat (first | exact Ext.refl _ | refine Ext.alloc ?_ _ | refine Ext.drewN ?_ _ | refine Ext.drew ?_ | refine Ext.trans ?_ (Hid.out (by assumption))))), hown.out.2.1, fun y hy => (hown.out.2.2.1 y hy).ext (by (repeat (first | exact Ext.refl _ | refine Ext.alloc ?_ _ | refine Ext.drewN ?_ _ | refine Ext.drew ?_ | refine Ext.trans ?_ (Hid.out (by assumption))))), hown.out.2.2.2.ext (by (repeat (first | exact Ext.refl _ | refine Ext.alloc ?_ _ | refine Ext.drewN ?_ _ | refine Ext.drew ?_ | refine Ext.trans ?_ (Hid.out (by assumption)))))⟩), (by (repeat (first | exact Ext.refl _ | refine Ext.alloc ?_ _ | refine Ext.drewN ?_ _ | refine Ext.drew ?_ | refine Ext.trans ?_ (Hid.out (by assumption)))))⟩
        | false =>
          have H2 := hid h2
          clear h2
          cases h3 : (promOf (knows3 ls ps bs) s.p.n (ds.take k)).2.any (fun x => idEq x xs[k].x.id) with
          | true =>
            have H3 := hid h3
            clear h3
            go_wp2_with (first | (go_at_call 37; refine (known_any s ls ps bs xs[k].x.id w.heap.size _ (HL.out.ext (Ext.trans ((Ext.refl w).alloc _) (Ext.trans hx.out (by (repeat (first | exact Ext.refl _ | refine Ext.alloc ?_ _ | refine Ext.drewN ?_ _ | refine Ext.drew ?_ | refine Ext.trans ?_ (Hid.out (by assumption)))))))) (HP.out.ext (Ext.trans ((Ext.refl w).alloc _) (Ext.trans hx.out (by (repeat (first | exact Ext.refl _ | refine Ext.alloc ?_ _ | refine Ext.drewN ?_ _ | refine Ext.drew ?_ | refine Ext.trans ?_ (Hid.out (by assumption)))))))) (HB.out.ext (Ext.trans ((Ext.refl w).alloc _) (Ext.trans hx.out (by (repeat (first | exact Ext.refl _ | refine Ext.alloc ?_ _ | refine Ext.drewN ?_ _ | refine Ext.drew ?_ | refine Ext.trans ?_ (Hid.out (by assumption)))))))) (Ext.keep (W := wr) (by (repeat (first | exact Ext.refl _ | refine Ext.alloc ?_ _ | refine Ext.drewN ?_ _ | refine Ext.drew ?_ | refine Ext.trans ?_ (Hid.out (by assumption))))) s0) (Ext.keep (W := wr) (by (repeat (first | exact Ext.refl _ | refine Ext.alloc ?_ _ | refine Ext.drewN ?_ _ | refine Ext.drew ?_ | refine Ext.trans ?_ (Hid.out (by assumption))))) s1) (Ext.keep (W := wr) (by (repeat (first | exact Ext.refl _ | refine Ext.alloc ?_ _ | refine Ext.drewN ?_ _ | refine Ext.drew ?_ | refine Ext.trans ?_ (Hid.out (by assumption))))) s2) (Ext.keep (W := wr) (by (repeat (first | exact Ext.refl _ | refine Ext.alloc ?_ _ | refine Ext.drewN ?_ _ | refine Ext.drew ?_ | refine Ext.trans ?_ (Hid.out (by assumption))))) s3)).mono ?_; rintro e w' ⟨rfl, hb⟩; have hc := hb.cell; have hz0 : w.heap.size < w'.heap.size := (by have := hb.size; (try simp at this); omega); have hz1 : wr.heap.size < w'.heap.size := (by have := hb.size; (try simp at this); omega); have hx' := hid hb; clear hb; rw [H1.out]) | (go_at_call 38; refine (vof_any _ _ _ (ys.map (·.x)) xs[k].x.id _ ((Sl.map (fun p : EP => p.x) hown.out.1.sl EV.wid).ext (by (repeat (first | exact Ext.refl _ | refine Ext.alloc ?_ _ | refine Ext.drewN ?_ _ | refine Ext.drew ?_ | refine Ext.trans ?_ (Hid.out (by assumption))))))).mono ?_; rintro e w' ⟨rfl, hb⟩; have hc := hb.cell; have hz0 : w.heap.size < w'.heap.size := (by have := hb.size; (try simp at this); omega); have hz1 : wr.heap.size < w'.heap.size := (by have := hb.size; (try simp at this); omega); have hx' := hid hb; clear hb; rw [H2.out]) | (go_at_call 39; refine (contains_any _ _ _ (promOf (knows3 ls ps bs) s.p.n (ds.take k)).2 xs[k].x.id _ (hown.out.2.2.2.sl.ext (by (repeat (first | exact Ext.refl _ | refine Ext.alloc ?_ _ | refine Ext.drewN ?_ _ | refine Ext.drew ?_ | refine Ext.trans ?_ (Hid.out (by assumption))))))).mono ?_; rintro e w' ⟨rfl, hb⟩; have hc := hb.cell; have hz0 : w.heap.size < w'.heap.size := (by have := hb.size; (try simp at this); omega); have hz1 : wr.heap.size < w'.heap.size := (by have := hb.size; (try simp at this); omega); have hx' := hid hb; clear hb; rw [H3.out]))
            go_roundg (gk - 1)
            case measure => omega
            case rel => exact ⟨k + 1, aa, m, cp, bb, r, cr, ys, by omega, by go_num, rfl, rfl, (by rw [Hs.out, prom_keep (by rw [← HID.out]; rw [H1.out, Hany.out, H2.out, H3.out]; simp)]; exact ⟨hown.out.1.ext (by (repeat (first | exact Ext.refl _ | refine Ext.alloc ?_ _ | refine Ext.drewN ?_ _ | refine Ext.drew ?_ | refine Ext.trans ?_ (Hid.out (by assumption))))), hown.out.2.1, fun y hy => (hown.out.2.2.1 y hy).ext (by (repeat (first | exact Ext.refl _ | refine Ext.alloc ?_ _ | refine Ext.drewN ?_ _ | refine Ext.drew ?_ | refine Ext.trans ?_ (Hid.out (by assumption))))), hown.out.2.2.2.ext (by (repeat (first | exact Ext.refl _ | refine Ext.alloc ?_ _ | refine Ext.drewN ?_ _ | refine Ext.drew ?_ | refine Ext.trans ?_ (Hid.out (by assumption)))))⟩), (by (repeat (first | exact Ext.refl _ | refine Ext.alloc ?_ _ | refine Ext.drewN ?_ _ | refine Ext.drew ?_ | refine Ext.trans ?_ (Hid.out (by assumption)))))⟩
          | false =>
            have H3 := hid h3
            clear h3
            by_cases hful : s.p.n + m < 6
            · have hfi : (s.p.n : Int) + (m : Int) < 6 := by omega
              go_wp2_with (first | (at_builtin; refine app1 (ys := ys) rfl (.tmp 41) (.tmp 44) 24 rfl i0 _ 96 Try.underlying24 I1.out I2.out I3.out I4.out rfl (by decide) rfl (hown.out.1.ext (by (repeat (first | exact Ext.refl _ | refine Ext.alloc ?_ _ | refine Ext.drewN ?_ _ | refine Ext.drew ?_ | refine Ext.trans ?_ (Hid.out (by assumption)))))) ⟨x', xs[k].d⟩ _ rfl (news_alloc (cs := EP.cs ⟨x', xs[k].d⟩) rfl) (EP.one _) (by omega) (by decide) (Ext.size (by (repeat (first | exact Ext.refl _ | refine Ext.alloc ?_ _ | refine Ext.drewN ?_ _ | refine Ext.drew ?_ | refine Ext.trans ?_ (Hid.out (by assumption)))))) ?_; intro g cap' w3 hown3 hgrow; have HO3 := hid hown3; have HG := hid hgrow; clear hown3 hgrow) | (go_at_call 40; refine (vwhole_any xs[k].x xs[k].d _ (HV.out.ext (by (repeat (first | exact Ext.refl _ | refine Ext.alloc ?_ _ | refine Ext.drewN ?_ _ | refine Ext.drew ?_ | refine Ext.trans ?_ (Hid.out (by assumption)))))) HSM.out).mono ?_; rintro e w' ⟨x', rfl, hEO, hb⟩; have hb0 := hb.size; have HEO := hid hEO; have hx' := hid hb; clear hb hEO) | (go_at_call 37; refine (known_any s ls ps bs xs[k].x.id w.heap.size _ (HL.out.ext (Ext.trans ((Ext.refl w).alloc _) (Ext.trans hx.out (by (repeat (first | exact Ext.refl _ | refine Ext.alloc ?_ _ | refine Ext.drewN ?_ _ | refine Ext.drew ?_ | refine Ext.trans ?_ (Hid.out (by assumption)))))))) (HP.out.ext (Ext.trans ((Ext.refl w).alloc _) (Ext.trans hx.out (by (repeat (first | exact Ext.refl _ | refine Ext.alloc ?_ _ | refine Ext.drewN ?_ _ | refine Ext.drew ?_ | refine Ext.trans ?_ (Hid.out (by assumption)))))))) (HB.out.ext (Ext.trans ((Ext.refl w).alloc _) (Ext.trans hx.out (by (repeat (first | exact Ext.refl _ | refine Ext.alloc ?_ _ | refine Ext.drewN ?_ _ | refine Ext.drew ?_ | refine Ext.trans ?_ (Hid.out (by assumption)))))))) (Ext.keep (W := wr) (by (repeat (first | exact Ext.refl _ | refine Ext.alloc ?_ _ | refine Ext.drewN ?_ _ | refine Ext.drew ?_ | refine Ext.trans ?_ (Hid.out (by assumption))))) s0) (Ext.keep (W := wr) (by (repeat (first | exact Ext.refl _ | refine Ext.alloc ?_ _ | refine Ext.drewN ?_ _ | refine Ext.drew ?_ | refine Ext.trans ?_ (Hid.out (by assumption))))) s1) (Ext.keep (W := wr) (by (repeat (first | exact Ext.refl _ | refine Ext.alloc ?_ _ | refine Ext.drewN ?_ _ | refine Ext.drew ?_ | refine Ext.trans ?_ (Hid.out (by assumption))))) s2) (Ext.keep (W := wr) (by (repeat (first | exact Ext.refl _ | refine Ext.alloc ?_ _ | refine Ext.drewN ?_ _ | refine Ext.drew ?_ | refine Ext.trans ?_ (Hid.out (by assumption))))) s3)).mono ?_; rintro e w' ⟨rfl, hb⟩; have hc := hb.cell; have hz0 : w.heap.size < w'.heap.size := (by have := hb.size; (try simp at this); omega); have hz1 : wr.heap.size < w'.heap.size := (by have := hb.size; (try simp at this); omega); have hx' := hid hb; clear hb; rw [H1.out]) | (go_at_call 38; refine (vof_any _ _ _ (ys.map (·.x)) xs[k].x.id _ ((Sl.map (fun p : EP => p.x) hown.out.1.sl EV.wid).ext (by (repeat (first | exact Ext.refl _ | refine Ext.alloc ?_ _ | refine Ext.drewN ?_ _ | refine Ext.drew ?_ | refine Ext.trans ?_ (Hid.out (by assumption))))))).mono ?_; rintro e w' ⟨rfl, hb⟩; have hc := hb.cell; have hz0 : w.heap.size < w'.heap.size := (by have := hb.size; (try simp at this); omega); have hz1 : wr.heap.size < w'.heap.size := (by have := hb.size; (try simp at this); omega); have hx' := hid hb; clear hb; rw [H2.out]) | (go_at_call 39; refine (contains_any _ _ _ (promOf (knows3 ls ps bs) s.p.n (ds.take k)).2 xs[k].x.id _ (hown.out.2.2.2.sl.ext (by (repeat (first | exact Ext.refl _ | refine Ext.alloc ?_ _ | refine Ext.drewN ?_ _ | refine Ext.drew ?_ | refine Ext.trans ?_ (Hid.out (by assumption))))))).mono ?_; rintro e w' ⟨rfl, hb⟩; have hc := hb.cell; have hz0 : w.heap.size < w'.heap.size := (by have := hb.size; (try simp at this); omega); have hz1 : wr.heap.size < w'.heap.size := (by have := hb.size; (try simp at this); omega); have hx' := hid hb; clear hb; rw [H3.out]))
              go_roundg (gk - 1)
              case measure => omega
              case rel =>
                refine ⟨k + 1, _, _, _, bb, r, cr, ys ++ [⟨x', xs[k].d⟩], by omega, by go_num, rfl, rfl, ?_, HG.out.ext (hown.out.1.ext (by (repeat (first | exact Ext.refl _ | refine Ext.alloc ?_ _ | refine Ext.drewN ?_ _ | refine Ext.drew ?_ | refine Ext.trans ?_ (Hid.out (by assumption)))))) (Nat.le_refl _) (by (repeat (first | exact Ext.refl _ | refine Ext.alloc ?_ _ | refine Ext.drewN ?_ _ | refine Ext.drew ?_ | refine Ext.trans ?_ (Hid.out (by assumption)))))⟩
                rw [Hs.out, prom_yes (by rw [← HID.out]; rw [H1.out, Hany.out, H2.out, H3.out]; rfl) (by rw [← Hmn.out]; exact hful)]
                refine ⟨HO3.out, by rw [List.map_append, hown.out.2.1]; rfl, fun y hy => ?_, HG.out.own2 (hown.out.1.ext (by (repeat (first | exact Ext.refl _ | refine Ext.alloc ?_ _ | refine Ext.drewN ?_ _ | refine Ext.drew ?_ | refine Ext.trans ?_ (Hid.out (by assumption)))))) (hown.out.2.2.2.ext (by (repeat (first | exact Ext.refl _ | refine Ext.alloc ?_ _ | refine Ext.drewN ?_ _ | refine Ext.drew ?_ | refine Ext.trans ?_ (Hid.out (by assumption)))))) (by decide)⟩
                rcases List.mem_append.1 hy with hy | hy
                · exact ((hown.out.2.2.1 y hy).ext (by (repeat (first | exact Ext.refl _ | refine Ext.alloc ?_ _ | refine Ext.drewN ?_ _ | refine Ext.drew ?_ | refine Ext.trans ?_ (Hid.out (by assumption)))))).grow HG.out (hown.out.1.ext (by (repeat (first | exact Ext.refl _ | refine Ext.alloc ?_ _ | refine Ext.drewN ?_ _ | refine Ext.drew ?_ | refine Ext.trans ?_ (Hid.out (by assumption)))))) (by decide) (by decide) (by decide)
                · obtain rfl := List.mem_singleton.1 hy
                  exact ((HEO.out.mono (Ext.size (by (repeat (first | exact Ext.refl _ | refine Ext.alloc ?_ _ | refine Ext.drewN ?_ _ | refine Ext.drew ?_ | refine Ext.trans ?_ (Hid.out (by assumption))))))).ext (by (repeat (first | exact Ext.refl _ | refine Ext.alloc ?_ _ | refine Ext.drewN ?_ _ | refine Ext.drew ?_ | refine Ext.trans ?_ (Hid.out (by assumption)))))).grow HG.out (hown.out.1.ext (by (repeat (first | exact Ext.refl _ | refine Ext.alloc ?_ _ | refine Ext.drewN ?_ _ | refine Ext.drew ?_ | refine Ext.trans ?_ (Hid.out (by assumption)))))) (by decide) (by decide) (by decide)
            · have hfi : ¬ (s.p.n : Int) + (m : Int) < 6 := by omega
              go_wp2_with (first | (at_builtin; refine app1 (ys := (promOf (knows3 ls ps bs) s.p.n (ds.take k)).2) rfl (.tmp 46) (.tmp 49) 25 rfl j0 _ 24 Try.underlying25 J1.out J2.out J3.out J4.out rfl (by decide) rfl (hown.out.2.2.2.ext (by (repeat (first | exact Ext.refl _ | refine Ext.alloc ?_ _ | refine Ext.drewN ?_ _ | refine Ext.drew ?_ | refine Ext.trans ?_ (Hid.out (by assumption)))))) xs[k].x.id _ rfl (news_alloc (cs := Id.cs xs[k].x.id) rfl) (Id.one _) (by omega) (by decide) (Ext.size (by (repeat (first | exact Ext.refl _ | refine Ext.alloc ?_ _ | refine Ext.drewN ?_ _ | refine Ext.drew ?_ | refine Ext.trans ?_ (Hid.out (by assumption)))))) ?_; intro g cap' w3 hown3 hgrow; have HO3 := hid hown3; have HG := hid hgrow; clear hown3 hgrow) | (go_at_call 40; refine (vwhole_any xs[k].x xs[k].d _ (HV.out.ext (by (repeat (first | exact Ext.refl _ | refine Ext.alloc ?_ _ | refine Ext.drewN ?_ _ | refine Ext.drew ?_ | refine Ext.trans ?_ (Hid.out (by assumption)))))) HSM.out).mono ?_; rintro e w' ⟨x', rfl, hEO, hb⟩; have hb0 := hb.size; have HEO := hid hEO; have hx' := hid hb; clear hb hEO) | (go_at_call 37; refine (known_any s ls ps bs xs[k].x.id w.heap.size _ (HL.out.ext (Ext.trans ((Ext.refl w).alloc _) (Ext.trans hx.out (by (repeat (first | exact Ext.refl _ | refine Ext.alloc ?_ _ | refine Ext.drewN ?_ _ | refine Ext.drew ?_ | refine Ext.trans ?_ (Hid.out (by assumption)))))))) (HP.out.ext (Ext.trans ((Ext.refl w).alloc _) (Ext.trans hx.out (by (repeat (first | exact Ext.refl _ | refine Ext.alloc ?_ _ | refine Ext.drewN ?_ _ | refine Ext.drew ?_ | refine Ext.trans ?_ (Hid.out (by assumption)))))))) (HB.out.ext (Ext.trans ((Ext.refl w).alloc _) (Ext.trans hx.out (by (repeat (first | exact Ext.refl _ | refine Ext.alloc ?_ _ | refine Ext.drewN ?_ _ | refine Ext.drew ?_ | refine Ext.trans ?_ (Hid.out (by assumption)))))))) (Ext.keep (W := wr) (by (repeat (first | exact Ext.refl _ | refine Ext.alloc ?_ _ | refine Ext.drewN ?_ _ | refine Ext.drew ?_ | refine Ext.trans ?_ (Hid.out (by assumption))))) s0) (Ext.keep (W := wr) (by (repeat (first | exact Ext.refl _ | refine Ext.alloc ?_ _ | refine Ext.drewN ?_ _ | refine Ext.drew ?_ | refine Ext.trans ?_ (Hid.out (by assumption))))) s1) (Ext.keep (W := wr) (by (repeat (first | exact Ext.refl _ | refine Ext.alloc ?_ _ | refine Ext.drewN ?_ _ | refine Ext.drew ?_ | refine Ext.trans ?_ (Hid.out (by assumption))))) s2) (Ext.keep (W := wr) (by (repeat (first | exact Ext.refl _ | refine Ext.alloc ?_ _ | refine Ext.drewN ?_ _ | refine Ext.drew ?_ | refine Ext.trans ?_ (Hid.out (by assumption))))) s3)).mono ?_; rintro e w' ⟨rfl, hb⟩; have hc := hb.cell; have hz0 : w.heap.size < w'.heap.size := (by have := hb.size; (try simp at this); omega); have hz1 : wr.heap.size < w'.heap.size := (by have := hb.size; (try simp at this); omega); have hx' := hid hb; clear hb; rw [H1.out]) | (go_at_call 38; refine (vof_any _ _ _ (ys.map (·.x)) xs[k].x.id _ ((Sl.map (fun p : EP => p.x) hown.out.1.sl EV.wid).ext (by (repeat (first | exact Ext.refl _ | refine Ext.alloc ?_ _ | refine Ext.drewN ?_ _ | refine Ext.drew ?_ | refine Ext.trans ?_ (Hid.out (by assumption))))))).mono ?_; rintro e w' ⟨rfl, hb⟩; have hc := hb.cell; have hz0 : w.heap.size < w'.heap.size := (by have := hb.size; (try simp at this); omega); have hz1 : wr.heap.size < w'.heap.size := (by have := hb.size; (try simp at this); omega); have hx' := hid hb; clear hb; rw [H2.out]) | (go_at_call 39; refine (contains_any _ _ _ (promOf (knows3 ls ps bs) s.p.n (ds.take k)).2 xs[k].x.id _ (hown.out.2.2.2.sl.ext (by (repeat (first | exact Ext.refl _ | refine Ext.alloc ?_ _ | refine Ext.drewN ?_ _ | refine Ext.drew ?_ | refine Ext.trans ?_ (Hid.out (by assumption))))))).mono ?_; rintro e w' ⟨rfl, hb⟩; have hc := hb.cell; have hz0 : w.heap.size < w'.heap.size := (by have := hb.size; (try simp at this); omega); have hz1 : wr.heap.size < w'.heap.size := (by have := hb.size; (try simp at this); omega); have hx' := hid hb; clear hb; rw [H3.out]))
              go_roundg (gk - 1)
              case measure => omega
              case rel =>
                refine ⟨k + 1, aa, m, cp, _, _, _, ys, by omega, by go_num, rfl, rfl, ?_, HG.out.ext (hown.out.2.2.2.ext (by (repeat (first | exact Ext.refl _ | refine Ext.alloc ?_ _ | refine Ext.drewN ?_ _ | refine Ext.drew ?_ | refine Ext.trans ?_ (Hid.out (by assumption)))))) (Nat.le_refl _) (by (repeat (first | exact Ext.refl _ | refine Ext.alloc ?_ _ | refine Ext.drewN ?_ _ | refine Ext.drew ?_ | refine Ext.trans ?_ (Hid.out (by assumption)))))⟩
                rw [Hs.out, prom_no (by rw [← HID.out]; rw [H1.out, Hany.out, H2.out, H3.out]; rfl) (by rw [← Hmn.out]; exact hful)]
                exact ⟨HG.out.own2 (hown.out.2.2.2.ext (by (repeat (first | exact Ext.refl _ | refine Ext.alloc ?_ _ | refine Ext.drewN ?_ _ | refine Ext.drew ?_ | refine Ext.trans ?_ (Hid.out (by assumption)))))) (hown.out.1.ext (by (repeat (first | exact Ext.refl _ | refine Ext.alloc ?_ _ | refine Ext.drewN ?_ _ | refine Ext.drew ?_ | refine Ext.trans ?_ (Hid.out (by assumption)))))) (by decide), hown.out.2.1, fun y hy => ((hown.out.2.2.1 y hy).ext (by (repeat (first | exact Ext.refl _ | refine Ext.alloc ?_ _ | refine Ext.drewN ?_ _ | refine Ext.drew ?_ | refine Ext.trans ?_ (Hid.out (by assumption)))))).grow HG.out (hown.out.2.2.2.ext (by (repeat (first | exact Ext.refl _ | refine Ext.alloc ?_ _ | refine Ext.drewN ?_ _ | refine Ext.drew ?_ | refine Ext.trans ?_ (Hid.out (by assumption)))))) (by decide) (by decide) (by decide), by rw [← HID.out]; exact HO3.out⟩
    · have hk' : ds.take k = ds := List.take_of_length_le (by rw [HDL.out]; omega)
      rw [hk'] at hown
      clear hk'
      go_wp2
      rw [Exit.noGoto_ret]
      go_ret2
      exact ⟨aa, m, cp, bb, r, cr, ys, rfl, ⟨hown.out.1.sl, fun p hp => (hown.out.2.2.1 p hp).is⟩, hown.out.2.1, hown.out.2.2.2.sl, (by (repeat (first | exact Ext.refl _ | refine Ext.alloc ?_ _ | refine Ext.drewN ?_ _ | refine Ext.drew ?_ | refine Ext.trans ?_ (Hid.out (by assumption)))))⟩
end Go.Proofs.Ytncadipipomebaa
