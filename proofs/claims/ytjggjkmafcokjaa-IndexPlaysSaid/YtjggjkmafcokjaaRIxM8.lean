/- The document's index: its data in memory; plain words of it. -/
import Derived.Test.YtjggjkmafcokjaaUndP8
import Derived.Test.YtjggjkmafcokjaaRChkM8
import Derived.Deep.DeepCutAuto
import Derived.BigQuiet
import Derived.IntWalk
import Derived.Test.YtjggjkmafcokjaaSrtC8
set_option linter.unusedVariables false
set_option linter.unusedSimpArgs false
namespace Go.Proofs.Ytjggjkmafcokjaa
open Go.RowKit

/-- an item: its number, its filter's slice, and what this holds -/
structure ItemV where
  id : Int
  f : SV
  ts : List T
def ItemV.cs (x : ItemV) : List Value := [.int .u64 x.id, .slice x.f.a x.f.n x.f.c]
theorem ItemV.wid (x : ItemV) : x.cs.length = 2 := rfl
theorem ItemV.one (x : ItemV) : ∀ u ∈ x.cs, u.oneCell' = true := by
  intro u hu
  simp only [ItemV.cs, List.mem_cons, List.not_mem_nil, or_false] at hu
  rcases hu with rfl | rfl <;> rfl
theorem cellsI8 {w : World} {b o : Nat} {x : ItemV} (h : CellsAt w b o x.cs) : w.cell? ⟨b, o, none⟩ = some (.int .u64 x.id) ∧ w.cell? ⟨b, o + 1, none⟩ = some (.slice x.f.a x.f.n x.f.c) := ⟨h 0 _ rfl, h 1 _ rfl⟩
/-- The document's index in memory: its struct lies at block q. -/
structure RIx (w : World) (q : Nat) (a : Option Addr) (n c : Nat) (ys : List ItemV) : Prop where
  hq : w.heap[q]? = some (.cells #[.slice a n c] 29 (0, 0))
  sl : Sl w 2 ItemV.cs a n c ys
  it : ∀ y, y ∈ ys → Sl w 5 T.cs y.f.a y.f.n y.f.c y.ts
  fm : ∀ ad, a = some ad → ∃ b o, ad = ⟨b, o, .none⟩
theorem RIx.cell {w : World} {q : Nat} {a : Option Addr} {n c : Nat} {ys : List ItemV} (h : RIx w q a n c ys) : w.cell? ⟨q, 0, none⟩ = some (.slice a n c) := by
  unfold World.cell?; rw [h.hq]; rfl
theorem RIx.free {w : World} {q : Nat} {a : Option Addr} {n c : Nat} {ys : List ItemV} (h : RIx w q a n c ys) : w.frozen? ⟨q, 0, none⟩ = false := by
  simp [World.frozen?, h.hq]
theorem RIx.lt {w : World} {q : Nat} {a : Option Addr} {n c : Nat} {ys : List ItemV} (h : RIx w q a n c ys) : q < w.heap.size := lt_of_cell h.cell
theorem RIx.ext {w w' : World} {q : Nat} {a : Option Addr} {n c : Nat} {ys : List ItemV} (h : RIx w q a n c ys) (hx : Ext w w') : RIx w' q a n c ys :=
  ⟨(hx.block q h.lt).trans h.hq, h.sl.ext hx, fun y hy => (h.it y hy).ext hx, h.fm⟩
/-- a place among numbers that rise -/
structure AtIs (ys : List ItemV) (id : Int) (k : Nat) : Prop where
  le : k ≤ ys.length
  lo : ∀ j, (h : j < ys.length) → j < k → ys[j].id < id
  up : (h : k < ys.length) → ¬ ys[k].id < id
/-- the numbers rise, and are an index's -/
structure RelF (ys : List ItemV) (fd : Int → Option (List T)) : Prop where
  up : ys.Pairwise (fun x y => x.id < y.id)
  is : ∀ x ts, fd x = some ts ↔ ∃ y, y ∈ ys ∧ y.id = x ∧ y.ts = ts
theorem RelF.nil : RelF [] (fun _ => none) := ⟨List.Pairwise.nil, fun x ts => by simp⟩
theorem AtIs.later {ys : List ItemV} {id : Int} {k : Nat} (h : AtIs ys id k) (hu : ys.Pairwise (fun x y => x.id < y.id)) {j : Nat} (hj : j < ys.length) (hkj : k < j) : id < ys[j].id := by
  have h1 := h.up (by omega)
  have := (List.pairwise_iff_getElem.1 hu) k j (by omega) hj hkj
  omega
theorem RelF.hit {ys : List ItemV} {fd : Int → Option (List T)} {id : Int} {k : Nat} (h : RelF ys fd) (hk : k < ys.length) (he : ys[k].id = id) : fd id = some ys[k].ts := (h.is id _).2 ⟨ys[k], List.getElem_mem hk, he, rfl⟩
theorem RelF.miss {ys : List ItemV} {fd : Int → Option (List T)} {id : Int} {k : Nat} (h : RelF ys fd) (ha : AtIs ys id k) (hn : ¬ ∃ hk : k < ys.length, ys[k].id = id) : fd id = none := by
  cases e : fd id with
  | none => rfl
  | some ts =>
    obtain ⟨y, hy, he, _⟩ := (h.is id ts).1 e
    obtain ⟨j, hj, rfl⟩ := List.getElem_of_mem hy
    exfalso
    rcases Nat.lt_trichotomy j k with hjk | hjk | hjk
    · have := ha.lo j hj hjk; omega
    · subst hjk; exact hn ⟨hj, he⟩
    · have := ha.later h.up hj hjk; omega
theorem mem_split {ys : List ItemV} {k : Nat} (y : ItemV) : y ∈ ys ↔ (y ∈ ys.take k ∨ y ∈ ys.drop k) := by
  conv => lhs; rw [← List.take_append_drop k ys]
  exact List.mem_append
theorem RelF.put {ys : List ItemV} {fd : Int → Option (List T)} {id : Int} {k : Nat} (h : RelF ys fd) (ha : AtIs ys id k) (hn : ¬ ∃ hk : k < ys.length, ys[k].id = id) (y : ItemV) (hy : y.id = id) :
    RelF (ys.take k ++ [y] ++ ys.drop k) (fun x => if x = id then some y.ts else fd x) := by
  have hmiss := h.miss ha hn
  have hlo : ∀ z, z ∈ ys.take k → z.id < id := fun z hz => by
    obtain ⟨j, hj, rfl⟩ := List.getElem_of_mem hz
    rw [List.length_take] at hj
    rw [List.getElem_take]
    exact ha.lo j (by omega) (by omega)
  have hup : ∀ z, z ∈ ys.drop k → id < z.id := fun z hz => by
    obtain ⟨j, hj, rfl⟩ := List.getElem_of_mem hz
    rw [List.length_drop] at hj
    rw [List.getElem_drop]
    by_cases hj0 : j = 0
    · subst hj0
      have h1 := ha.up (by omega)
      have h2 : ¬ ys[k].id = id := fun e => hn ⟨by omega, e⟩
      simp only [Nat.add_zero]
      omega
    · exact ha.later h.up (by omega) (by omega)
  refine ⟨?_, fun x ts => ?_⟩
  · rw [List.pairwise_append]
    refine ⟨?_, h.up.sublist (List.drop_sublist k ys), ?_⟩
    · rw [List.pairwise_append]
      exact ⟨h.up.sublist (List.take_sublist k ys), List.pairwise_singleton _ _, fun a ha' b hb => by rw [List.mem_singleton] at hb; subst hb; rw [hy]; exact hlo a ha'⟩
    · intro a ha' b hb
      have hbu := hup b hb
      rcases List.mem_append.1 ha' with ha' | ha'
      · have := hlo a ha'; omega
      · rw [List.mem_singleton] at ha'; subst ha'; rw [hy]; exact hbu
  · by_cases e : x = id
    · subst e
      rw [if_pos rfl]
      constructor
      · intro e; cases e; exact ⟨y, by simp, hy, rfl⟩
      · rintro ⟨z, hz, hz1, rfl⟩
        rcases List.mem_append.1 hz with hz | hz
        · rcases List.mem_append.1 hz with hz | hz
          · have := hlo z hz; omega
          · rw [List.mem_singleton] at hz; rw [hz]
        · have := hup z hz; omega
    · rw [if_neg e, h.is]
      constructor
      · rintro ⟨z, hz, hz1, hz2⟩
        refine ⟨z, ?_, hz1, hz2⟩
        rcases (mem_split (k := k) z).1 hz with hz | hz
        · exact List.mem_append_left _ (List.mem_append_left _ hz)
        · exact List.mem_append_right _ hz
      · rintro ⟨z, hz, hz1, hz2⟩
        refine ⟨z, ?_, hz1, hz2⟩
        rcases List.mem_append.1 hz with hz | hz
        · rcases List.mem_append.1 hz with hz | hz
          · exact (mem_split (k := k) z).2 (.inl hz)
          · rw [List.mem_singleton] at hz; subst hz; exact absurd (hz1.symm.trans hy) e
        · exact (mem_split (k := k) z).2 (.inr hz)
theorem RelF.del {ys : List ItemV} {fd : Int → Option (List T)} {id : Int} {k : Nat} (h : RelF ys fd) (hk : k < ys.length) (he : ys[k].id = id) :
    RelF (ys.take k ++ ys.drop (k + 1)) (fun x => if x = id then none else fd x) := by
  have hp := List.pairwise_iff_getElem.1 h.up
  have hlo : ∀ z, z ∈ ys.take k → z.id < id := fun z hz => by
    obtain ⟨j, hj, rfl⟩ := List.getElem_of_mem hz
    rw [List.length_take] at hj
    rw [List.getElem_take, ← he]
    exact hp j k (by omega) hk (by omega)
  have hup : ∀ z, z ∈ ys.drop (k + 1) → id < z.id := fun z hz => by
    obtain ⟨j, hj, rfl⟩ := List.getElem_of_mem hz
    rw [List.length_drop] at hj
    rw [List.getElem_drop, ← he]
    exact hp k (k + 1 + j) hk (by omega) (by omega)
  refine ⟨?_, fun x ts => ?_⟩
  · rw [List.pairwise_append]
    exact ⟨h.up.sublist (List.take_sublist k ys), h.up.sublist (List.drop_sublist (k + 1) ys), fun a ha b hb => by have := hlo a ha; have := hup b hb; omega⟩
  · have hms : ∀ z, z ∈ ys ↔ (z ∈ ys.take k ∨ z = ys[k] ∨ z ∈ ys.drop (k + 1)) := fun z => by
      rw [mem_split (k := k) z, List.drop_eq_getElem_cons hk, List.mem_cons]
    by_cases e : x = id
    · subst e
      rw [if_pos rfl]
      constructor
      · intro e; cases e
      · rintro ⟨z, hz, hz1, _⟩
        rcases List.mem_append.1 hz with hz | hz
        · have := hlo z hz; omega
        · have := hup z hz; omega
    · rw [if_neg e, h.is]
      constructor
      · rintro ⟨z, hz, hz1, hz2⟩
        refine ⟨z, List.mem_append.2 ?_, hz1, hz2⟩
        rcases (hms z).1 hz with hz | hz | hz
        · exact .inl hz
        · subst hz; exact absurd (hz1.symm.trans he) e
        · exact .inr hz
      · rintro ⟨z, hz, hz1, hz2⟩
        refine ⟨z, (hms z).2 ?_, hz1, hz2⟩
        rcases List.mem_append.1 hz with hz | hz
        · exact .inl hz
        · exact .inr (.inr hz)
/-- the document's answer of a match -/
def matR (ys : List ItemV) (es : List AT) : List Int := (ys.filter (fun y => matchesT y.ts es)).map (·.id)
theorem matR_up {ys : List ItemV} (es : List AT) (h : ys.Pairwise (fun x y => x.id < y.id)) : (matR ys es).Pairwise (· < ·) := by
  unfold matR
  rw [List.pairwise_map]
  exact List.Pairwise.filter _ h
theorem matR_mem {ys : List ItemV} {fd : Int → Option (List T)} {es : List AT} (h : RelF ys fd) (x : Int) : x ∈ matR ys es ↔ ∃ ts, fd x = some ts ∧ matchesT ts es = true := by
  unfold matR
  rw [List.mem_map]
  constructor
  · rintro ⟨y, hy, rfl⟩
    rw [List.mem_filter] at hy
    exact ⟨y.ts, (h.is _ _).2 ⟨y, hy.1, rfl, rfl⟩, hy.2⟩
  · rintro ⟨ts, hf, hm⟩
    obtain ⟨y, hy, rfl, rfl⟩ := (h.is _ _).1 hf
    exact ⟨y, List.mem_filter.2 ⟨hy, hm⟩, rfl⟩
theorem matR_eq {ys : List ItemV} {fd : Int → Option (List T)} {es : List AT} {zs : List Int} (h : RelF ys fd) (h1 : zs.Nodup) (h2 : Rise zs 0 zs.length) (h3 : ∀ x, x ∈ zs ↔ ∃ ts, fd x = some ts ∧ matchesT ts es = true) : zs = matR ys es := by
  have hp := matR_up es h.up
  refine List.Perm.eq_of_pairwise (le := fun a b : Int => a ≤ b) (fun a b _ _ => Int.le_antisymm) (rise_pair h2) (hp.imp (fun h => Int.le_of_lt h)) ?_
  exact (List.perm_ext_iff_of_nodup h1 (hp.imp (fun h => by omega))).2 (fun x => by rw [h3, matR_mem h])
end Go.Proofs.Ytjggjkmafcokjaa

namespace Go.Proofs.Ytjggjkmafcokjaa
open Go.RowKit

/-- a place, and whether what stands there is it -/
def RetAt (ys : List ItemV) (id : Int) (w : World) (e : Ending) (w' : World) : Prop :=
  ∃ (k : Nat) (K : Bool), e = .returned (.tuple #[.int .i64 k, .bool K]) ∧ AtIs ys id k ∧ (K = true ↔ ∃ h : k < ys.length, ys[k].id = id) ∧ Ext w w'
set_option maxRecDepth 100000 in
set_option maxHeartbeats 4000000 in
theorem rat_any (q : Nat) (a : Option Addr) (n c : Nat) (ys : List ItemV) (id : Int) (w : World) (h : RIx w q a n c ys) :
    Calls Try.prog 29 #[.pointer (some ⟨q, 0, none⟩), .int .u64 id] w (RetAt ys id w) := by
  obtain rfl := h.sl.neq
  have hl := h.sl.len
  have hm := h.sl.max
  unfold maxLen at hm
  have C0 := hid h.cell
  have HS := hid h.sl
  clear h
  go_enter Try.func29, Try.ntmps29
  go_wp2_with fail
  go_loopg [6] (ys.length) (fun g st wr => ∃ k : Nat, g + k = ys.length ∧ st = .int .i64 k ∧ Hid (∀ j, (h : j < ys.length) → j < k → ys[j].id < id) ∧ Hid (Ext w wr))
  case atStart => exact ⟨0, by omega, rfl, hid (fun j _ h => by omega), Ext.refl _⟩
  case round =>
    obtain ⟨k, hg, rfl, hlo, hx⟩ := hrel
    have c0 := hx.out.keep C0.out
    by_cases hk : k < ys.length
    · obtain ⟨b, o, rfl, hcs⟩ := HS.out.get k hk
      obtain ⟨D0, D1⟩ := cellsI8 hcs
      have d0 := hx.out.keep D0
      clear hcs D0 D1
      have b0 : (0 : Int) ≤ (k : Int) := by omega
      have b1 : (k : Int) < (ys.length : Int) := by omega
      by_cases hi : ys[k].id < id
      · have HI := hid hi
        go_wp2
        go_roundg (gk - 1)
        case measure => omega
        case rel => exact ⟨k + 1, by omega, by go_num, hid (fun j h1 h2 => by
          by_cases e : j = k
          · subst e; exact HI.out
          · exact hlo.out j h1 (by omega)), (by (repeat (first | exact Ext.refl _ | refine Ext.alloc ?_ _ | refine Ext.drewN ?_ _ | refine Ext.drew ?_ | refine Ext.trans ?_ (Hid.out (by assumption)))))⟩
      · have HI := hid hi
        have HA := hid (show AtIs ys id k from ⟨by omega, hlo.out, fun _ => hi⟩)
        clear hi
        have f0 : decide (ys[k].id < id) = false := decide_eq_false HI.out
        have q1 : decide ((k : Int) < (ys.length : Int)) = true := decide_eq_true b1
        have q2 : decide (k < ys.length) = true := decide_eq_true hk
        by_cases he : ys[k].id = id
        · have e0 : (ys[k].id == id) = true := by simp [he]
          have HE := hid he
          clear he
          go_wp2_with fail
          go_quiet (fail)
          go_wp2
          go_ret2
          exact ⟨k, true, rfl, HA.out, ⟨fun _ => ⟨hk, HE.out⟩, fun _ => rfl⟩, (by (repeat (first | exact Ext.refl _ | refine Ext.alloc ?_ _ | refine Ext.drewN ?_ _ | refine Ext.drew ?_ | refine Ext.trans ?_ (Hid.out (by assumption)))))⟩
        · have e0 : (ys[k].id == id) = false := by simp [he]
          have HE := hid he
          clear he
          go_wp2_with fail
          go_quiet (fail)
          go_wp2
          go_ret2
          exact ⟨k, false, rfl, HA.out, ⟨(fun h => by cases h), (fun h => by obtain ⟨_, h⟩ := h; exact absurd h HE.out)⟩, (by (repeat (first | exact Ext.refl _ | refine Ext.alloc ?_ _ | refine Ext.drewN ?_ _ | refine Ext.drew ?_ | refine Ext.trans ?_ (Hid.out (by assumption)))))⟩
    · have hkk : k = ys.length := by omega
      subst hkk
      have HA := hid (show AtIs ys id ys.length from ⟨Nat.le_refl _, hlo.out, fun h => by omega⟩)
      have q1 : decide ((ys.length : Int) < (ys.length : Int)) = false := decide_eq_false (by omega)
      go_wp2_with fail
      go_quiet (fail)
      go_wp2
      go_ret2
      exact ⟨ys.length, false, rfl, HA.out, ⟨(fun h => by cases h), (fun h => by obtain ⟨h, _⟩ := h; omega)⟩, (by (repeat (first | exact Ext.refl _ | refine Ext.alloc ?_ _ | refine Ext.drewN ?_ _ | refine Ext.drew ?_ | refine Ext.trans ?_ (Hid.out (by assumption)))))⟩
/-- the filter of a number -/
def RetRFlt (fd : Int → Option (List T)) (id : Int) (w : World) (e : Ending) (w' : World) : Prop :=
  ∃ aa n c, e = .returned (.tuple #[.slice aa n c, .bool (fd id).isSome]) ∧ Sl w' 5 T.cs aa n c ((fd id).getD []) ∧ Ext w w'
set_option maxRecDepth 100000 in
set_option maxHeartbeats 4000000 in
theorem rflt_any (q : Nat) (a : Option Addr) (n c : Nat) (ys : List ItemV) (fd : Int → Option (List T)) (id : Int) (w : World) (h : RIx w q a n c ys) (hr : RelF ys fd) :
    Calls Try.prog 20 #[.pointer (some ⟨q, 0, none⟩), .int .u64 id] w (RetRFlt fd id w) := by
  have hat := rat_any q a n c ys id w h
  obtain rfl := h.sl.neq
  have H := hid h
  have HR := hid hr
  clear h hr
  go_enter Try.func20, Try.ntmps20
  go_wp2_with fail
  refine hat.mono ?_
  rintro e w1 ⟨k, K, rfl, ha, hK, hb⟩
  have HA := hid ha
  have HK := hid hK
  have hx := hid hb
  clear ha hK hb hat
  cases K with
  | false =>
    have hd : fd id = none := HR.out.miss HA.out (fun h => by have := HK.out.2 h; cases this)
    go_wp2
    go_ret2
    exact ⟨none, 0, 0, by rw [hd]; rfl, by rw [hd]; exact Sl.nil _ T.wid, (by (repeat (first | exact Ext.refl _ | refine Ext.alloc ?_ _ | refine Ext.drewN ?_ _ | refine Ext.drew ?_ | refine Ext.trans ?_ (Hid.out (by assumption)))))⟩
  | true =>
    obtain ⟨hk, he⟩ := HK.out.1 rfl
    have hd : fd id = some ys[k].ts := HR.out.hit hk he
    have HD := hid hd
    have HE := hid he
    clear hd he
    have c0 := hx.out.keep H.out.cell
    obtain ⟨b, o, rfl, hcs⟩ := H.out.sl.get k hk
    obtain ⟨D0, D1⟩ := cellsI8 hcs
    have d1 := hx.out.keep D1
    clear hcs D0 D1
    have b0 : (0 : Int) ≤ (k : Int) := by omega
    have b1 : (k : Int) < (ys.length : Int) := by omega
    go_wp2
    go_ret2
    exact ⟨_, _, _, by rw [HD.out]; rfl, by rw [HD.out]; exact (H.out.it _ (List.getElem_mem hk)).ext (by (repeat (first | exact Ext.refl _ | refine Ext.alloc ?_ _ | refine Ext.drewN ?_ _ | refine Ext.drew ?_ | refine Ext.trans ?_ (Hid.out (by assumption))))), (by (repeat (first | exact Ext.refl _ | refine Ext.alloc ?_ _ | refine Ext.drewN ?_ _ | refine Ext.drew ?_ | refine Ext.trans ?_ (Hid.out (by assumption)))))⟩
theorem matR_take {ys : List ItemV} {es : List AT} {k : Nat} (hk : k < ys.length) : matR (ys.take (k + 1)) es = matR (ys.take k) es ++ (if matchesT ys[k].ts es = true then [ys[k].id] else []) := by
  unfold matR
  rw [List.take_succ_eq_append_getElem hk, List.filter_append, List.map_append]
  congr 1
  by_cases h : matchesT ys[k].ts es = true
  · simp [h]
  · simp [h]
/-- the numbers that match, by the document -/
def RetRMat (ys : List ItemV) (es : List AT) (w : World) (e : Ending) (w' : World) : Prop :=
  ∃ aa n c, e = .returned (.slice aa n c) ∧ Sl w' 1 uC aa n c (matR ys es) ∧ Ext w w'
set_option maxRecDepth 100000 in
set_option maxHeartbeats 4000000 in
theorem rmat_any (q : Nat) (a : Option Addr) (n c : Nat) (ys : List ItemV) (ea : Option Addr) (en ec : Nat) (es : List AT) (w : World) (h : RIx w q a n c ys) (hE : Sl w 4 AT.cs ea en ec es) (hn : n ≤ 1000) :
    Calls Try.prog 18 #[.pointer (some ⟨q, 0, none⟩), .slice ea en ec] w (RetRMat ys es w) := by
  obtain ⟨i0, hi, hz0, hz1, hz2⟩ := info_parts infoU
  have I1 := hid hi
  have I2 := hid hz0
  have I3 := hid hz1
  have I4 := hid hz2
  clear hi hz0 hz1 hz2
  obtain rfl := h.sl.neq
  have H := hid h
  have HE := hid hE
  clear h hE
  go_enter Try.func18, Try.ntmps18
  go_wp2_with fail
  go_loopg [5, 6] (ys.length) (fun g ov st wr => ∃ (k : Nat) (aa : Option Addr) (m cp : Nat), g + k = ys.length ∧ st = .int .i64 k ∧ ov = .slice aa m cp ∧ m ≤ k ∧ Hid (Own wr w.heap.size 30 1 uC aa m cp (matR (ys.take k) es)) ∧ Hid (Ext w wr))
  case atStart => exact ⟨0, none, 0, 0, by omega, rfl, rfl, by omega, Own.nil _ _ _ uC.wid, Ext.refl _⟩
  case round =>
    obtain ⟨k, aa, m, cp, hg, rfl, rfl, hmk, HO, hx⟩ := hrel
    have c0 := hx.out.keep H.out.cell
    by_cases hk : k < ys.length
    · obtain ⟨b, o, rfl, hcs⟩ := H.out.sl.get k hk
      obtain ⟨D0, D1⟩ := cellsI8 hcs
      have D0 := hid D0
      have C0 := hid H.out.cell
      have d1 := hx.out.keep D1
      have HT := hid (H.out.it _ (List.getElem_mem hk))
      clear hcs D1
      have b0 : (0 : Int) ≤ (k : Int) := by omega
      have b1 : (k : Int) < (ys.length : Int) := by omega
      go_wp2_with fail
      refine (rmatches_any _ _ _ ys[k].ts _ _ _ es _ (HT.out.ext (by (repeat (first | exact Ext.refl _ | refine Ext.alloc ?_ _ | refine Ext.drewN ?_ _ | refine Ext.drew ?_ | refine Ext.trans ?_ (Hid.out (by assumption)))))) (HE.out.ext (by (repeat (first | exact Ext.refl _ | refine Ext.alloc ?_ _ | refine Ext.drewN ?_ _ | refine Ext.drew ?_ | refine Ext.trans ?_ (Hid.out (by assumption))))))).mono ?_
      rintro e w5 ⟨rfl, hb⟩
      have hx5 := hid (hx.out.trans hb)
      have HO5 := hid (HO.out.ext hb)
      clear c0 d1 hx HO hb
      have HO := HO5
      clear HO5
      have c0 := hx5.out.keep C0.out
      have d0 := hx5.out.keep D0.out
      cases hm : matchesT ys[k].ts es with
      | false =>
        have HM := hid (show matR (ys.take (k + 1)) es = matR (ys.take k) es from by rw [matR_take hk, hm]; simp)
        clear hm
        go_wp2
        go_roundg (gk - 1)
        case measure => omega
        case rel => exact ⟨k + 1, aa, m, cp, by omega, by go_num, rfl, by omega, hid (by rw [HM.out]; exact HO.out.ext (by (repeat (first | exact Ext.refl _ | refine Ext.alloc ?_ _ | refine Ext.drewN ?_ _ | refine Ext.drew ?_ | refine Ext.trans ?_ (Hid.out (by assumption)))))), (by (repeat (first | exact Ext.refl _ | refine Ext.alloc ?_ _ | refine Ext.drewN ?_ _ | refine Ext.drew ?_ | refine Ext.trans ?_ (Hid.out (by assumption)))))⟩
      | true =>
        have HM := hid (show matR (ys.take (k + 1)) es = matR (ys.take k) es ++ [ys[k].id] from by rw [matR_take hk, hm]; simp)
        clear hm
        go_wp2_with (at_builtin; go_loud (refine app1 (c := uC) (ys := matR (ys.take k) es) rfl (.tmp 28) (.tmp 37) 42 rfl i0 _ 8 Try.underlying42 I1.out I2.out I3.out I4.out rfl (by decide) rfl (HO.out.ext (by (repeat (first | exact Ext.refl _ | refine Ext.alloc ?_ _ | refine Ext.drewN ?_ _ | refine Ext.drew ?_ | refine Ext.trans ?_ (Hid.out (by assumption)))))) ys[k].id _ rfl (news_alloc (cs := uC ys[k].id) rfl) (uC.one _) (by omega) (by decide) (Ext.size (W := w) (by (repeat (first | exact Ext.refl _ | refine Ext.alloc ?_ _ | refine Ext.drewN ?_ _ | refine Ext.drew ?_ | refine Ext.trans ?_ (Hid.out (by assumption)))))) ?_; intro g6 cap6 w6 hown6 hgrow6; have HO6 := hid hown6; have HX6 := hid (hgrow6.ext (HO.out.ext (by (repeat (first | exact Ext.refl _ | refine Ext.alloc ?_ _ | refine Ext.drewN ?_ _ | refine Ext.drew ?_ | refine Ext.trans ?_ (Hid.out (by assumption)))))) (Nat.le_refl _) (show Ext w _ from (by (repeat (first | exact Ext.refl _ | refine Ext.alloc ?_ _ | refine Ext.drewN ?_ _ | refine Ext.drew ?_ | refine Ext.trans ?_ (Hid.out (by assumption))))))); clear hown6 hgrow6))
        go_roundg (gk - 1)
        case measure => omega
        case rel => exact ⟨k + 1, _, m + 1, cap6, by omega, by go_num, rfl, by omega, hid (by rw [HM.out]; exact HO6.out), HX6⟩
    · have hkk : k = ys.length := by omega
      subst hkk
      have HS := HO.out.sl
      rw [List.take_of_length_le (Nat.le_refl _)] at HS
      have HS := hid HS
      clear HO
      go_wp2
      go_ret
      exact ⟨aa, m, cp, rfl, HS.out.ext (by (repeat (first | exact Ext.refl _ | refine Ext.alloc ?_ _ | refine Ext.drewN ?_ _ | refine Ext.drew ?_ | refine Ext.trans ?_ (Hid.out (by assumption))))), (by (repeat (first | exact Ext.refl _ | refine Ext.alloc ?_ _ | refine Ext.drewN ?_ _ | refine Ext.drew ?_ | refine Ext.trans ?_ (Hid.out (by assumption)))))⟩
end Go.Proofs.Ytjggjkmafcokjaa

