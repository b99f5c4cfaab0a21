/- What a statement's row tells of its arguments, opened: slices, identities, votes, entries, messages, states. -/
import Derived.Test.YtncadipipomebaaFew
import Derived.Deep.Slices
import Derived.ProofKit
import Derived.OpenShut
import Derived.Lib.SmallJoins
namespace Go.Proofs.Ytncadipipomebaa
open Go.RowKit Go.WideShapes Go.ChangeShapes

theorem list_of {α : Type} {Q : Nat → α → Prop} : ∀ n, (∀ i, i < n → ∃ y, Q i y) → ∃ ys : List α, ys.length = n ∧ ∀ i y, ys[i]? = some y → Q i y
  | 0, _ => ⟨[], rfl, fun i y h => by simp at h⟩
  | n + 1, h => by
    obtain ⟨ys, hl, hy⟩ := list_of n (fun i hi => h i (by omega))
    obtain ⟨z, hz⟩ := h n (by omega)
    refine ⟨ys ++ [z], by simp [hl], fun i y hi => ?_⟩
    by_cases hin : i < ys.length
    · rw [List.getElem?_append_left hin] at hi; exact hy i y hi
    · rw [List.getElem?_append_right (by omega)] at hi
      have h0 : i - ys.length = 0 := by
        cases hk : i - ys.length with
        | zero => rfl
        | succ k => rw [hk] at hi; simp at hi
      rw [h0] at hi
      simp at hi
      subst hi
      rw [show i = n by omega]; exact hz

section
variable {H : Type} {enc : TypeId × Value → H} {P : Program} {w : World} {base : Nat} {spare : Nat → Bool} {held : Bool}
/-- One field of a struct's reading. -/
theorem fld {t : TypeId} {fs : Array Field} {fuel : Nat} {cs : List Value} {x : DataW H × List MemPlace} (ht : P.underlying t = some (.struct fs)) (h : DataW.trod enc P w base spare held fuel t cs = some x)
    (i : Nat) (f : Field) (hf : fs[i]? = some f) (o k : Nat) (hk : P.cellsOf f.type = k) (ho : f.offset = o) : ∃ n y, DataW.trod enc P w base spare held n f.type ((cs.drop o).take k) = some y := by
  obtain ⟨xs, n, _, _, _, hlen, hx⟩ := DataW.trod_struct ht h
  have hi : i < xs.length := by rw [hlen]; exact (Array.getElem?_eq_some_iff.1 hf).1
  have := hx i f hf
  rw [hk, ho, List.getElem?_eq_getElem hi] at this
  exact ⟨n, _, this⟩
theorem fld_len {t : TypeId} {fs : Array Field} {fuel : Nat} {cs : List Value} {x : DataW H × List MemPlace} (ht : P.underlying t = some (.struct fs)) (h : DataW.trod enc P w base spare held fuel t cs = some x) : cs.length = P.cellsOf t := by
  obtain ⟨xs, n, _, _, hl, _⟩ := DataW.trod_struct ht h
  exact hl
/-- A slice's reading: elements each of which is opened. -/
theorem open_sl {α : Type} {c : α → List Value} {R : α → Prop} {sz : Nat} {t e : TypeId} {fuel : Nat} {cs : List Value} {x : DataW H × List MemPlace} (ht : P.underlying t = some (.slice e)) (hc : P.cellsOf e = sz) (hsz : 0 < sz)
    (hw : ∀ y, (c y).length = sz) (hel : ∀ fuel cs x, DataW.trod enc P w base spare held fuel e cs = some x → ∃ y, cs = c y ∧ R y) (h : DataW.trod enc P w base spare held fuel t cs = some x) :
    ∃ a n cap ys, cs = [.slice a n cap] ∧ Sl w sz c a n cap ys ∧ ∀ y, y ∈ ys → R y := by
  rcases Go.Deep.open_slice ht h with ⟨rfl, _⟩ | ⟨a, len, cap, m, n, D, Pl, rfl, hb, hl, hm, hmm, _, hx⟩
  · exact ⟨none, 0, 0, [], rfl, Sl.nil _ hw, fun y hy => by cases hy⟩
  have hlm : len ≤ m := by rw [hmm]; split <;> omega
  have each : ∀ i, i < len → ∃ y, (∀ j v, (c y)[j]? = some v → w.cell? ((a.add (i * sz)).add j) = some v) ∧ R y := by
    intro i hi
    obtain ⟨cs', h1, h2⟩ := hx i (by omega)
    rw [hc] at h1
    obtain ⟨_, _, hcell⟩ := World.cells?_some h1
    obtain ⟨y, rfl, hy⟩ := hel _ _ _ h2
    refine ⟨y, fun j v hj => ?_, hy⟩
    have hjs : j < sz := by rw [← hw y]; exact (List.getElem?_eq_some_iff.1 hj).1
    rw [hcell j hjs, hj]
  obtain ⟨ys, hlen, hys⟩ := list_of (Q := fun i y => (∀ j v, (c y)[j]? = some v → w.cell? ((a.add (i * sz)).add j) = some v) ∧ R y) len each
  refine ⟨some a, len, cap, ys, rfl, ⟨hlen.symm, hl, hm, (fun h => by cases h), hw, fun k z hk => ?_⟩, fun y hy => ?_⟩
  · obtain ⟨b, o, sp⟩ := a
    have hk' : k < len := by rw [← hlen]; exact (List.getElem?_eq_some_iff.1 hk).1
    obtain ⟨y0, hy0, _⟩ := each 0 (by omega)
    have hz : 0 < (c y0).length := by rw [hw]; exact hsz
    have h0 := hy0 0 _ (List.getElem?_eq_getElem hz)
    have hsp : sp = none := by
      simp only [Nat.zero_mul, Addr.add, if_pos, World.cell?] at h0
      cases sp with
      | none => rfl
      | some q => simp at h0; split at h0 <;> simp at h0
    subst hsp
    refine ⟨b, o, rfl, fun j v hj => ?_⟩
    have := (hys k z hk).1 j v hj
    have e1 : ∀ n m : Nat, (Addr.mk b n none).add m = ⟨b, n + m, none⟩ := by intro n m; unfold Addr.add; split <;> simp_all
    rw [e1, e1] at this
    exact this
  · obtain ⟨i, hi, rfl⟩ := List.getElem_of_mem hy
    exact (hys i _ (List.getElem?_eq_getElem hi)).2
end
section
variable {H : Type} {enc : TypeId × Value → H} {w : World} {base : Nat} {spare : Nat → Bool} {held : Bool}
theorem open_Id {fuel : Nat} {cs : List Value} {x : DataW H × List MemPlace} (h : DataW.trod enc Try.prog w base spare held fuel 30 cs = some x) : ∃ y : Id, cs = y.cs := by
  have hl : cs.length = 3 := (fld_len Try.underlying30 h).trans (by kernel_rfl)
  obtain ⟨n0, y0, h0⟩ := fld Try.underlying30 h 0 _ rfl 0 1 (by kernel_rfl) rfl
  obtain ⟨n1, y1, h1⟩ := fld Try.underlying30 h 1 _ rfl 1 1 (by kernel_rfl) rfl
  obtain ⟨n2, y2, h2⟩ := fld Try.underlying30 h 2 _ rfl 2 1 (by kernel_rfl) rfl
  match cs, hl with
  | [c0, c1, c2], _ =>
    obtain ⟨a0, e0, _, _⟩ := DataW.trod_int Try.underlying3 h0
    obtain ⟨a1, e1, _, _⟩ := DataW.trod_int Try.underlying23 h1
    obtain ⟨a2, e2, _, _⟩ := DataW.trod_int Try.underlying23 h2
    simp at e0
    simp at e1
    simp at e2
    subst e0 e1 e2; exact ⟨⟨a0, a1, a2⟩, rfl⟩

theorem open_V {fuel : Nat} {cs : List Value} {x : DataW H × List MemPlace} (h : DataW.trod enc Try.prog w base spare held fuel 45 cs = some x) : ∃ y : V, cs = y.cs := by
  have hl : cs.length = 4 := (fld_len Try.underlying45 h).trans (by kernel_rfl)
  obtain ⟨n0, y0, h0⟩ := fld Try.underlying45 h 0 _ rfl 0 3 (by kernel_rfl) rfl
  obtain ⟨n1, y1, h1⟩ := fld Try.underlying45 h 1 _ rfl 3 1 (by kernel_rfl) rfl
  match cs, hl with
  | [c0, c1, c2, c3], _ =>
    obtain ⟨a0, e0⟩ := open_Id h0
    obtain ⟨a1, e1, _⟩ := DataW.trod_bool Try.underlying4 h1
    simp [Id.cs] at e0
    simp at e1
    obtain ⟨rfl, rfl, rfl⟩ := e0; subst e1; exact ⟨⟨a0, a1⟩, rfl⟩

theorem open_Val {fuel : Nat} {cs : List Value} {x : DataW H × List MemPlace} (h : DataW.trod enc Try.prog w base spare held fuel 95 cs = some x) : ∃ (k n : Int) (s : ByteArray), cs = [.int .i64 k, .int .i64 n, .string s] := by
  have hl : cs.length = 3 := (fld_len Try.underlying95 h).trans (by kernel_rfl)
  obtain ⟨n0, y0, h0⟩ := fld Try.underlying95 h 0 _ rfl 0 1 (by kernel_rfl) rfl
  obtain ⟨n1, y1, h1⟩ := fld Try.underlying95 h 1 _ rfl 1 1 (by kernel_rfl) rfl
  obtain ⟨n2, y2, h2⟩ := fld Try.underlying95 h 2 _ rfl 2 1 (by kernel_rfl) rfl
  match cs, hl with
  | [c0, c1, c2], _ =>
    obtain ⟨a0, e0, _, _⟩ := DataW.trod_int Try.underlying3 h0
    obtain ⟨a1, e1, _, _⟩ := DataW.trod_int Try.underlying2 h1
    obtain ⟨a2, e2, _, _⟩ := DataW.trod_string Try.underlying9 h2
    simp at e0
    simp at e1
    simp at e2
    subst e0 e1 e2; exact ⟨a0, a1, a2, rfl⟩

theorem open_T {fuel : Nat} {cs : List Value} {x : DataW H × List MemPlace} (h : DataW.trod enc Try.prog w base spare held fuel 97 cs = some x) : ∃ y : T, cs = y.cs := by
  have hl : cs.length = 5 := (fld_len Try.underlying97 h).trans (by kernel_rfl)
  obtain ⟨n0, y0, h0⟩ := fld Try.underlying97 h 0 _ rfl 0 1 (by kernel_rfl) rfl
  obtain ⟨n1, y1, h1⟩ := fld Try.underlying97 h 1 _ rfl 1 1 (by kernel_rfl) rfl
  obtain ⟨n2, y2, h2⟩ := fld Try.underlying97 h 2 _ rfl 2 3 (by kernel_rfl) rfl
  match cs, hl with
  | [c0, c1, c2, c3, c4], _ =>
    obtain ⟨a0, e0, _, _⟩ := DataW.trod_string Try.underlying9 h0
    obtain ⟨a1, e1, _, _⟩ := DataW.trod_int Try.underlying3 h1
    simp at e0
    simp at e1
    obtain ⟨p, q, r, e2⟩ := open_Val h2; simp at e2; obtain ⟨rfl, rfl, rfl⟩ := e2; subst e0 e1; exact ⟨⟨a0, a1, p, q, r⟩, rfl⟩

theorem open_A {fuel : Nat} {cs : List Value} {x : DataW H × List MemPlace} (h : DataW.trod enc Try.prog w base spare held fuel 99 cs = some x) : ∃ y : AT, cs = y.cs := by
  have hl : cs.length = 4 := (fld_len Try.underlying99 h).trans (by kernel_rfl)
  obtain ⟨n0, y0, h0⟩ := fld Try.underlying99 h 0 _ rfl 0 1 (by kernel_rfl) rfl
  obtain ⟨n1, y1, h1⟩ := fld Try.underlying99 h 1 _ rfl 1 3 (by kernel_rfl) rfl
  match cs, hl with
  | [c0, c1, c2, c3], _ =>
    obtain ⟨a0, e0, _, _⟩ := DataW.trod_string Try.underlying9 h0
    simp at e0
    obtain ⟨p, q, r, e1⟩ := open_Val h1; simp at e1; obtain ⟨rfl, rfl, rfl⟩ := e1; subst e0; exact ⟨⟨a0, p, q, r⟩, rfl⟩

theorem open_Ids {fuel : Nat} {cs : List Value} {x : DataW H × List MemPlace} (h : DataW.trod enc Try.prog w base spare held fuel 25 cs = some x) : ∃ a n cap ys, cs = [.slice a n cap] ∧ Sl w 3 Id.cs a n cap ys := by
  obtain ⟨a, n, cap, ys, e, s, _⟩ := open_sl (c := Id.cs) (sz := 3) (R := fun _ => True) Try.underlying25 (by kernel_rfl) (by decide) (fun _ => rfl) (fun _ _ _ k => let ⟨y, e⟩ := open_Id k; ⟨y, e, trivial⟩) h
  exact ⟨a, n, cap, ys, e, s⟩

theorem open_Vs {fuel : Nat} {cs : List Value} {x : DataW H × List MemPlace} (h : DataW.trod enc Try.prog w base spare held fuel 37 cs = some x) : ∃ a n cap ys, cs = [.slice a n cap] ∧ Sl w 4 V.cs a n cap ys := by
  obtain ⟨a, n, cap, ys, e, s, _⟩ := open_sl (c := V.cs) (sz := 4) (R := fun _ => True) Try.underlying37 (by kernel_rfl) (by decide) (fun _ => rfl) (fun _ _ _ k => let ⟨y, e⟩ := open_V k; ⟨y, e, trivial⟩) h
  exact ⟨a, n, cap, ys, e, s⟩

theorem open_Ts {fuel : Nat} {cs : List Value} {x : DataW H × List MemPlace} (h : DataW.trod enc Try.prog w base spare held fuel 47 cs = some x) : ∃ a n cap ys, cs = [.slice a n cap] ∧ Sl w 5 T.cs a n cap ys := by
  obtain ⟨a, n, cap, ys, e, s, _⟩ := open_sl (c := T.cs) (sz := 5) (R := fun _ => True) Try.underlying47 (by kernel_rfl) (by decide) T.wid (fun _ _ _ k => let ⟨y, e⟩ := open_T k; ⟨y, e, trivial⟩) h
  exact ⟨a, n, cap, ys, e, s⟩

theorem open_As {fuel : Nat} {cs : List Value} {x : DataW H × List MemPlace} (h : DataW.trod enc Try.prog w base spare held fuel 88 cs = some x) : ∃ a n cap ys, cs = [.slice a n cap] ∧ Sl w 4 AT.cs a n cap ys := by
  obtain ⟨a, n, cap, ys, e, s, _⟩ := open_sl (c := AT.cs) (sz := 4) (R := fun _ => True) Try.underlying88 (by kernel_rfl) (by decide) AT.wid (fun _ _ _ k => let ⟨y, e⟩ := open_A k; ⟨y, e, trivial⟩) h
  exact ⟨a, n, cap, ys, e, s⟩

theorem open_EvV {fuel : Nat} {cs : List Value} {x : DataW H × List MemPlace} (h : DataW.trod enc Try.prog w base spare held fuel 88 cs = some x) : ∃ y : EvV, cs = y.cs ∧ Sl w 4 AT.cs y.v.a y.v.n y.v.c y.ats := by
  obtain ⟨a, n, cap, ys, e, s⟩ := open_As h
  exact ⟨⟨⟨a, n, cap⟩, ys⟩, e, s⟩

theorem open_Evs {fuel : Nat} {cs : List Value} {x : DataW H × List MemPlace} (h : DataW.trod enc Try.prog w base spare held fuel 48 cs = some x) : ∃ a n cap es, cs = [.slice a n cap] ∧ Evs w a n cap es := by
  obtain ⟨a, n, cap, ys, e, s, r⟩ := open_sl (c := EvV.cs) (R := fun y => Sl w 4 AT.cs y.v.a y.v.n y.v.c y.ats) Try.underlying48 (by kernel_rfl) (by decide) EvV.wid (fun _ _ _ k => open_EvV k) h
  exact ⟨a, n, cap, _, e, ys, rfl, s, r⟩

theorem open_E {fuel : Nat} {cs : List Value} {x : DataW H × List MemPlace} (h : DataW.trod enc Try.prog w base spare held fuel 50 cs = some x) : ∃ p : EP, cs = p.cs ∧ EntryIs w p.x p.d := by
  have hl : cs.length = 8 := (fld_len Try.underlying50 h).trans (by kernel_rfl)
  obtain ⟨n0, y0, h0⟩ := fld Try.underlying50 h 0 _ rfl 0 1 (by kernel_rfl) rfl
  obtain ⟨n1, y1, h1⟩ := fld Try.underlying50 h 1 _ rfl 1 3 (by kernel_rfl) rfl
  obtain ⟨n2, y2, h2⟩ := fld Try.underlying50 h 2 _ rfl 4 1 (by kernel_rfl) rfl
  obtain ⟨n3, y3, h3⟩ := fld Try.underlying50 h 3 _ rfl 5 1 (by kernel_rfl) rfl
  obtain ⟨n4, y4, h4⟩ := fld Try.underlying50 h 4 _ rfl 6 1 (by kernel_rfl) rfl
  obtain ⟨n5, y5, h5⟩ := fld Try.underlying50 h 5 _ rfl 7 1 (by kernel_rfl) rfl
  match cs, hl with
  | [c0, c1, c2, c3, c4, c5, c6, c7], _ =>
    obtain ⟨a0, e0, _, _⟩ := DataW.trod_int Try.underlying3 h0
    obtain ⟨a1, e1⟩ := open_Id h1
    obtain ⟨a2, e2, _, _⟩ := DataW.trod_int Try.underlying3 h2
    obtain ⟨a3, e3, _, _⟩ := DataW.trod_int Try.underlying23 h3
    obtain ⟨b4, n4, k4, z4, e4, s4⟩ := open_Ts h4
    obtain ⟨b5, n5, k5, z5, e5, s5⟩ := open_Evs h5
    simp at e0
    simp [Id.cs] at e1
    simp at e2
    simp at e3
    simp at e4
    simp at e5
    obtain ⟨rfl, rfl, rfl⟩ := e1; subst e0 e2 e3 e4 e5; exact ⟨⟨⟨a0, a1, a2, a3, ⟨b4, n4, k4⟩, ⟨b5, n5, k5⟩⟩, ⟨a0, a1, a2, a3, z4, z5⟩⟩, rfl, rfl, rfl, rfl, rfl, s4, s5⟩

theorem open_Es {fuel : Nat} {cs : List Value} {x : DataW H × List MemPlace} (h : DataW.trod enc Try.prog w base spare held fuel 24 cs = some x) : ∃ a n cap ps, cs = [.slice a n cap] ∧ Ents w a n cap ps := by
  obtain ⟨a, n, cap, ys, e, s, r⟩ := open_sl (c := EP.cs) (R := fun p => EntryIs w p.x p.d) Try.underlying24 (by kernel_rfl) (by decide) EP.wid (fun _ _ _ k => open_E k) h
  exact ⟨a, n, cap, ys, e, s, r⟩

theorem open_M {fuel : Nat} {cs : List Value} {x : DataW H × List MemPlace} (h : DataW.trod enc Try.prog w base spare held fuel 41 cs = some x) : ∃ m : Kid, cs = m.cs ∧ Sl w 4 V.cs m.m.v.a m.m.v.n m.m.v.c m.vs ∧ ∃ qs es ps, MsgIs w m.m qs es ps := by
  have hl : cs.length = 8 := (fld_len Try.underlying41 h).trans (by kernel_rfl)
  obtain ⟨n0, y0, h0⟩ := fld Try.underlying41 h 0 _ rfl 0 1 (by kernel_rfl) rfl
  obtain ⟨n1, y1, h1⟩ := fld Try.underlying41 h 1 _ rfl 1 1 (by kernel_rfl) rfl
  obtain ⟨n2, y2, h2⟩ := fld Try.underlying41 h 2 _ rfl 2 1 (by kernel_rfl) rfl
  obtain ⟨n3, y3, h3⟩ := fld Try.underlying41 h 3 _ rfl 3 1 (by kernel_rfl) rfl
  obtain ⟨n4, y4, h4⟩ := fld Try.underlying41 h 4 _ rfl 4 1 (by kernel_rfl) rfl
  obtain ⟨n5, y5, h5⟩ := fld Try.underlying41 h 5 _ rfl 5 1 (by kernel_rfl) rfl
  obtain ⟨n6, y6, h6⟩ := fld Try.underlying41 h 6 _ rfl 6 1 (by kernel_rfl) rfl
  obtain ⟨n7, y7, h7⟩ := fld Try.underlying41 h 7 _ rfl 7 1 (by kernel_rfl) rfl
  match cs, hl with
  | [c0, c1, c2, c3, c4, c5, c6, c7], _ =>
    obtain ⟨a0, e0, _, _⟩ := DataW.trod_int Try.underlying3 h0
    obtain ⟨a1, e1, _, _⟩ := DataW.trod_int Try.underlying23 h1
    obtain ⟨b2, n2, k2, z2, e2, s2⟩ := open_Vs h2
    obtain ⟨b3, n3, k3, z3, e3, s3⟩ := open_Es h3
    obtain ⟨b4, n4, k4, z4, e4, s4⟩ := open_Es h4
    obtain ⟨b5, n5, k5, z5, e5, s5⟩ := open_Es h5
    obtain ⟨b6, n6, k6, z6, e6, s6⟩ := open_Ids h6
    obtain ⟨b7, n7, k7, z7, e7, s7⟩ := open_Ids h7
    simp at e0
    simp at e1
    simp at e2
    simp at e3
    simp at e4
    simp at e5
    simp at e6
    simp at e7
    subst e0 e1 e2 e3 e4 e5 e6 e7; exact ⟨⟨⟨a0, a1, ⟨b2, n2, k2⟩, ⟨b3, n3, k3⟩, ⟨b4, n4, k4⟩, ⟨b5, n5, k5⟩, ⟨b6, n6, k6⟩, ⟨b7, n7, k7⟩⟩, z2⟩, rfl, s2, z3, z4, z5, s3, s4, s5⟩

theorem Kid.wid (m : Kid) : m.cs.length = 8 := rfl
theorem open_Ms {fuel : Nat} {cs : List Value} {x : DataW H × List MemPlace} (h : DataW.trod enc Try.prog w base spare held fuel 28 cs = some x) : ∃ a n cap kids, cs = [.slice a n cap] ∧ Kids3 w a n cap kids := by
  obtain ⟨a, n, cap, ys, e, s, r⟩ := open_sl (c := Kid.cs) (R := fun m => Sl w 4 V.cs m.m.v.a m.m.v.n m.m.v.c m.vs ∧ ∃ qs es ps, MsgIs w m.m qs es ps) Try.underlying28 (by kernel_rfl) (by decide) Kid.wid (fun _ _ _ k => open_M k) h
  exact ⟨a, n, cap, ys, e, ⟨s, fun m hm => (r m hm).1⟩, fun m hm => (r m hm).2⟩

theorem open_S {fuel : Nat} {cs : List Value} {x : DataW H × List MemPlace} (h : DataW.trod enc Try.prog w base spare held fuel 27 cs = some x) : ∃ (s : StV) (ls ps : List EP) (bs : List Id), cs = [.int .u64 s.life, .slice s.l.a s.l.n s.l.c, .slice s.p.a s.p.n s.p.c, .slice s.b.a s.b.n s.b.c] ∧ StIs w s ls ps bs := by
  have hl : cs.length = 4 := (fld_len Try.underlying27 h).trans (by kernel_rfl)
  obtain ⟨n0, y0, h0⟩ := fld Try.underlying27 h 0 _ rfl 0 1 (by kernel_rfl) rfl
  obtain ⟨n1, y1, h1⟩ := fld Try.underlying27 h 1 _ rfl 1 1 (by kernel_rfl) rfl
  obtain ⟨n2, y2, h2⟩ := fld Try.underlying27 h 2 _ rfl 2 1 (by kernel_rfl) rfl
  obtain ⟨n3, y3, h3⟩ := fld Try.underlying27 h 3 _ rfl 3 1 (by kernel_rfl) rfl
  match cs, hl with
  | [c0, c1, c2, c3], _ =>
    obtain ⟨a0, e0, _, _⟩ := DataW.trod_int Try.underlying23 h0
    obtain ⟨b1, n1, k1, z1, e1, s1⟩ := open_Es h1
    obtain ⟨b2, n2, k2, z2, e2, s2⟩ := open_Es h2
    obtain ⟨b3, n3, k3, z3, e3, s3⟩ := open_Ids h3
    simp at e0
    simp at e1
    simp at e2
    simp at e3
    subst e0 e1 e2 e3; exact ⟨⟨a0, ⟨b1, n1, k1⟩, ⟨b2, n2, k2⟩, ⟨b3, n3, k3⟩⟩, z1, z2, z3, rfl, s1, s2, s3⟩

theorem arg_Ids {r : Reach} {b0 : Nat} {v : Value} {d : DataW H} {p : List MemPlace} (hv : Value.okWide Try.prog w r b0 25 v) (h : DataW.Trod enc Try.prog w base spare held 25 v d p) : ∃ a n cap ys, v = .slice a n cap ∧ Sl w 3 Id.cs a n cap ys := by
  obtain ⟨a, n, cap, rfl⟩ := okWide_slice Try.underlying25 hv
  obtain ⟨fuel, hf⟩ := h
  obtain ⟨a', n', cap', ys, e, s⟩ := open_Ids hf
  simp [Value.cells] at e
  obtain ⟨rfl, rfl, rfl⟩ := e
  exact ⟨_, _, _, ys, rfl, s⟩

theorem arg_Vs {r : Reach} {b0 : Nat} {v : Value} {d : DataW H} {p : List MemPlace} (hv : Value.okWide Try.prog w r b0 37 v) (h : DataW.Trod enc Try.prog w base spare held 37 v d p) : ∃ a n cap ys, v = .slice a n cap ∧ Sl w 4 V.cs a n cap ys := by
  obtain ⟨a, n, cap, rfl⟩ := okWide_slice Try.underlying37 hv
  obtain ⟨fuel, hf⟩ := h
  obtain ⟨a', n', cap', ys, e, s⟩ := open_Vs hf
  simp [Value.cells] at e
  obtain ⟨rfl, rfl, rfl⟩ := e
  exact ⟨_, _, _, ys, rfl, s⟩

theorem arg_Es {r : Reach} {b0 : Nat} {v : Value} {d : DataW H} {p : List MemPlace} (hv : Value.okWide Try.prog w r b0 24 v) (h : DataW.Trod enc Try.prog w base spare held 24 v d p) : ∃ a n cap ys, v = .slice a n cap ∧ Ents w a n cap ys := by
  obtain ⟨a, n, cap, rfl⟩ := okWide_slice Try.underlying24 hv
  obtain ⟨fuel, hf⟩ := h
  obtain ⟨a', n', cap', ys, e, s⟩ := open_Es hf
  simp [Value.cells] at e
  obtain ⟨rfl, rfl, rfl⟩ := e
  exact ⟨_, _, _, ys, rfl, s⟩

theorem arg_Ms {r : Reach} {b0 : Nat} {v : Value} {d : DataW H} {p : List MemPlace} (hv : Value.okWide Try.prog w r b0 28 v) (h : DataW.Trod enc Try.prog w base spare held 28 v d p) : ∃ a n cap ys, v = .slice a n cap ∧ Kids3 w a n cap ys := by
  obtain ⟨a, n, cap, rfl⟩ := okWide_slice Try.underlying28 hv
  obtain ⟨fuel, hf⟩ := h
  obtain ⟨a', n', cap', ys, e, s⟩ := open_Ms hf
  simp [Value.cells] at e
  obtain ⟨rfl, rfl, rfl⟩ := e
  exact ⟨_, _, _, ys, rfl, s⟩

theorem arg_Id {r : Reach} {b0 : Nat} {v : Value} {d : DataW H} {p : List MemPlace} (hv : Value.okWide Try.prog w r b0 30 v) (h : DataW.Trod enc Try.prog w base spare held 30 v d p) : ∃ y : Id, v = .agg #[.int .i64 y.b, .int .u64 y.l, .int .u64 y.s] := by
  obtain ⟨cs, rfl, _⟩ := okWide_struct Try.underlying30 hv
  obtain ⟨fuel, hf⟩ := h
  obtain ⟨y, e⟩ := open_Id hf
  have e' := congrArg List.toArray e
  simp only [Value.cells, Array.toArray_toList] at e'
  subst e'
  exact ⟨y, rfl⟩

theorem arg_S {r : Reach} {b0 : Nat} {v : Value} {d : DataW H} {p : List MemPlace} (hv : Value.okWide Try.prog w r b0 27 v) (h : DataW.Trod enc Try.prog w base spare held 27 v d p) : ∃ (s : StV) (ls ps : List EP) (bs : List Id), v = .agg #[.int .u64 s.life, .slice s.l.a s.l.n s.l.c, .slice s.p.a s.p.n s.p.c, .slice s.b.a s.b.n s.b.c] ∧ StIs w s ls ps bs := by
  obtain ⟨cs, rfl, _⟩ := okWide_struct Try.underlying27 hv
  obtain ⟨fuel, hf⟩ := h
  obtain ⟨s, ls, ps, bs, e, k⟩ := open_S hf
  have e' := congrArg List.toArray e
  simp only [Value.cells, Array.toArray_toList] at e'
  subst e'
  exact ⟨s, ls, ps, bs, rfl, k⟩

theorem arg_M {r : Reach} {b0 : Nat} {v : Value} {d : DataW H} {p : List MemPlace} (hv : Value.okWide Try.prog w r b0 41 v) (h : DataW.Trod enc Try.prog w base spare held 41 v d p) : ∃ (m : Kid), v = .agg #[.int .i64 m.m.k, .int .u64 m.m.h, .slice m.m.v.a m.m.v.n m.m.v.c, .slice m.m.q.a m.m.q.n m.m.q.c, .slice m.m.e.a m.m.e.n m.m.e.c, .slice m.m.p.a m.m.p.n m.m.p.c, .slice m.m.b.a m.m.b.n m.m.b.c, .slice m.m.d.a m.m.d.n m.m.d.c] ∧ Sl w 4 V.cs m.m.v.a m.m.v.n m.m.v.c m.vs ∧ ∃ qs es ps, MsgIs w m.m qs es ps := by
  obtain ⟨cs, rfl, _⟩ := okWide_struct Try.underlying41 hv
  obtain ⟨fuel, hf⟩ := h
  obtain ⟨m, e, k⟩ := open_M hf
  have e' := congrArg List.toArray e
  simp only [Value.cells, Array.toArray_toList] at e'
  subst e'
  exact ⟨m, rfl, k⟩

end
end Go.Proofs.Ytncadipipomebaa
