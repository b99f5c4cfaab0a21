/- Votes and reports: what reports say of an entry. -/
import Derived.Test.YtncadipipomebaaIdsB
namespace Go.Proofs.Ytncadipipomebaa
open Go.RowKit

/-- a vote -/
structure V where
  id : Id
  yes : Bool
def V.cs (v : V) : List Value := [.int .i64 v.id.b, .int .u64 v.id.l, .int .u64 v.id.s, .bool v.yes]
theorem cells4 {w : World} {b o : Nat} {x : V} (h : CellsAt w b o x.cs) :
    w.cell? ⟨b, o, none⟩ = some (.int .i64 x.id.b) ∧ w.cell? ⟨b, o + 1, none⟩ = some (.int .u64 x.id.l) ∧ w.cell? ⟨b, o + 2, none⟩ = some (.int .u64 x.id.s) ∧ w.cell? ⟨b, o + 3, none⟩ = some (.bool x.yes) :=
  ⟨h 0 _ rfl, h 1 _ rfl, h 2 _ rfl, h 3 _ rfl⟩
/-- a message, as its cells -/
structure MV where
  k : Int
  h : Int
  v : SV
  q : SV
  e : SV
  p : SV
  b : SV
  d : SV
def MV.cs (x : MV) : List Value := [.int .i64 x.k, .int .u64 x.h, .slice x.v.a x.v.n x.v.c, .slice x.q.a x.q.n x.q.c, .slice x.e.a x.e.n x.e.c, .slice x.p.a x.p.n x.p.c, .slice x.b.a x.b.n x.b.c, .slice x.d.a x.d.n x.d.c]
theorem cellsM {w : World} {b o : Nat} {x : MV} (h : CellsAt w b o x.cs) :
    w.cell? ⟨b, o, none⟩ = some (.int .i64 x.k) ∧ w.cell? ⟨b, o + 1, none⟩ = some (.int .u64 x.h) ∧ w.cell? ⟨b, o + 2, none⟩ = some (.slice x.v.a x.v.n x.v.c) ∧ w.cell? ⟨b, o + 3, none⟩ = some (.slice x.q.a x.q.n x.q.c) ∧
    w.cell? ⟨b, o + 4, none⟩ = some (.slice x.e.a x.e.n x.e.c) ∧ w.cell? ⟨b, o + 5, none⟩ = some (.slice x.p.a x.p.n x.p.c) ∧ w.cell? ⟨b, o + 6, none⟩ = some (.slice x.b.a x.b.n x.b.c) ∧ w.cell? ⟨b, o + 7, none⟩ = some (.slice x.d.a x.d.n x.d.c) :=
  ⟨h 0 _ rfl, h 1 _ rfl, h 2 _ rfl, h 3 _ rfl, h 4 _ rfl, h 5 _ rfl, h 6 _ rfl, h 7 _ rfl⟩

def veq (v u : V) : Bool := idEq v.id u.id && (v.yes == u.yes)
theorem veq_comm (v u : V) : veq v u = veq u v := by
  unfold veq; rw [idEq_comm]; cases v.yes <;> cases u.yes <;> rfl
theorem run_eqV (b l s : Int) (y : Bool) (b' l' s' : Int) (y' : Bool) (w : World) :
    (binOp .eql 45 (.agg #[.int .i64 b, .int .u64 l, .int .u64 s, .bool y]) (.agg #[.int .i64 b', .int .u64 l', .int .u64 s', .bool y'])).run Try.prog w = .ok (.bool (veq ⟨⟨b', l', s'⟩, y'⟩ ⟨⟨b, l, s⟩, y⟩)) w := by
  rw [veq_comm]
  unfold veq idEq
  by_cases h1 : b = b' <;> by_cases h2 : l = l' <;> by_cases h3 : s = s' <;> cases y <;> cases y' <;> simp [h1, h2, h3, go_sem]

/-- the place of a vote -/
theorem indexV_any (a : Option Addr) (n cap : Nat) (xs : List V) (v : V) (w : World) (hS : Sl w 4 V.cs a n cap xs) :
    Calls Try.prog 67 #[.slice a n cap, .agg #[.int .i64 v.id.b, .int .u64 v.id.l, .int .u64 v.id.s, .bool v.yes]] w fun e w' => e = .returned (.int .i64 (idxBy (fun x : V => veq x v) xs)) ∧ Ext w w' := by
  obtain rfl := hS.neq
  have hm := hS.max
  have hl := hS.len
  unfold maxLen at hm
  have HS := hid hS
  clear hS
  go_enter Try.func67, Try.ntmps67
  go_wp2_with fail
  go_loopg [5, 8] (xs.length) (fun g _ st wr => ∃ k : Nat, g + k = xs.length ∧ st = .int .i64 k ∧ Hid ((xs.take k).any (fun x : V => veq x v) = false) ∧ Hid (Ext (w.alloc (Obj.cells #[.int .i64 v.id.b, .int .u64 v.id.l, .int .u64 v.id.s, .bool v.yes] 45)) wr))
  case atStart => exact ⟨0, by omega, rfl, rfl, Ext.refl _⟩
  case round =>
    obtain ⟨k, hg, rfl, hno, hx⟩ := hrel
    have i0 : wr.cell? ⟨w.heap.size, 0, none⟩ = some (.int .i64 v.id.b) := hx.out.keep (by simp)
    have i1 : wr.cell? ⟨w.heap.size, 1, none⟩ = some (.int .u64 v.id.l) := hx.out.keep (by simp)
    have i2 : wr.cell? ⟨w.heap.size, 2, none⟩ = some (.int .u64 v.id.s) := hx.out.keep (by simp)
    have i3 : wr.cell? ⟨w.heap.size, 3, none⟩ = some (.bool v.yes) := hx.out.keep (by simp)
    by_cases hk : k < xs.length
    · obtain ⟨b, o, rfl, hc⟩ := HS.out.get k hk
      have hE : Ext w wr := Ext.trans (by (repeat (first | exact Ext.refl _ | refine Ext.alloc ?_ _ | refine Ext.drewN ?_ _ | refine Ext.drew ?_ | refine Ext.trans ?_ (Hid.out (by assumption))))) hx.out
      obtain ⟨c0, c1, c2, c3⟩ := cells4 (w := wr) (b := b) (o := o + k * 4) (x := xs[k]) (fun j v hj => hE.keep (hc j v hj))
      clear hc hE
      have b0 : (0 : Int) ≤ (k : Int) := by omega
      have b1 : (k : Int) < (xs.length : Int) := by omega
      have heq := run_eqV v.id.b v.id.l v.id.s v.yes xs[k].id.b xs[k].id.l xs[k].id.s xs[k].yes
      cases he : veq xs[k] v with
      | true =>
        have He := hid he
        have he' : veq ⟨⟨xs[k].id.b, xs[k].id.l, xs[k].id.s⟩, xs[k].yes⟩ ⟨⟨v.id.b, v.id.l, v.id.s⟩, v.yes⟩ = true := he
        clear he
        go_wp2_with fail
        go_quiet (fail)
        go_wp2
        go_ret
        refine ⟨ret_int (idx_found (p := (fun x : V => veq x v)) hk hno.out He.out), ?_⟩
        (repeat (first | exact Ext.refl _ | refine Ext.alloc ?_ _ | refine Ext.drewN ?_ _ | refine Ext.drew ?_ | refine Ext.trans ?_ (Hid.out (by assumption))))
      | false =>
        have He := hid he
        have he' : veq ⟨⟨xs[k].id.b, xs[k].id.l, xs[k].id.s⟩, xs[k].yes⟩ ⟨⟨v.id.b, v.id.l, v.id.s⟩, v.yes⟩ = false := he
        clear he
        go_wp2_with fail
        go_quiet (fail)
        go_wp2
        go_roundg (gk - 1)
        case measure => omega
        case rel => exact ⟨k + 1, by omega, by go_num, any_take (p := (fun x : V => veq x v)) hk hno.out He.out, (by (repeat (first | exact Ext.refl _ | refine Ext.alloc ?_ _ | refine Ext.drewN ?_ _ | refine Ext.drew ?_ | refine Ext.trans ?_ (Hid.out (by assumption)))))⟩
    · go_wp2
      go_ret
      refine ⟨ret_int (idx_none (any_none (p := (fun x : V => veq x v)) hno.out hk)), ?_⟩
      (repeat (first | exact Ext.refl _ | refine Ext.alloc ?_ _ | refine Ext.drewN ?_ _ | refine Ext.drew ?_ | refine Ext.trans ?_ (Hid.out (by assumption))))

theorem containsV_any (a : Option Addr) (n cap : Nat) (xs : List V) (v : V) (w : World) (hS : Sl w 4 V.cs a n cap xs) :
    Calls Try.prog 50 #[.slice a n cap, .agg #[.int .i64 v.id.b, .int .u64 v.id.l, .int .u64 v.id.s, .bool v.yes]] w fun e w' => e = .returned (.bool (xs.any (fun x : V => veq x v))) ∧ Ext w w' := by
  have HS := hid hS
  clear hS
  go_enter Try.func50, Try.ntmps50
  go_wp2_with (go_at_call 67; refine (indexV_any _ _ _ xs v _ (HS.out.ext ((Ext.refl _).alloc _))).mono ?_; rintro e w' ⟨rfl, hb⟩; have hx := hid hb; clear hb)
  go_ret
  refine ⟨ret_bool (idx_ge _ _), ?_⟩
  (repeat (first | exact Ext.refl _ | refine Ext.alloc ?_ _ | refine Ext.drewN ?_ _ | refine Ext.drew ?_ | refine Ext.trans ?_ (Hid.out (by assumption))))

/-- the place of the first member that a closure says yes to -/
theorem indexFuncV_any (a : Option Addr) (n cap : Nat) (xs : List V) (p : V → Bool) (fn : Nat) (cp : Addr) (w : World) (hS : Sl w 4 V.cs a n cap xs)
    (hf : ∀ args w, (callFunc fn args).run Try.prog w = .ok (.enter fn args) w)
    (hp : ∀ x, x ∈ xs → ∀ w', Ext w w' → Calls Try.prog fn #[.agg #[.int .i64 x.id.b, .int .u64 x.id.l, .int .u64 x.id.s, .bool x.yes], .pointer (some cp)] w' fun e w'' => e = .returned (.bool (p x)) ∧ Ext w' w'') :
    Calls Try.prog 66 #[.slice a n cap, .func (.func fn) #[] #[.pointer (some cp)]] w fun e w' => e = .returned (.int .i64 (idxBy p xs)) ∧ Ext w w' := by
  obtain rfl := hS.neq
  have hm := hS.max
  have hl := hS.len
  unfold maxLen at hm
  have HS := hid hS
  clear hS
  have HP := hid hp
  clear hp
  go_enter Try.func66, Try.ntmps66
  go_wp2_with fail
  go_loopg [5, 8] (xs.length) (fun g _ st wr => ∃ k : Nat, g + k = xs.length ∧ st = .int .i64 k ∧ Hid ((xs.take k).any p = false) ∧ Hid (Ext (w) wr))
  case atStart => exact ⟨0, by omega, rfl, rfl, Ext.refl _⟩
  case round =>
    obtain ⟨k, hg, rfl, hno, hx⟩ := hrel
    by_cases hk : k < xs.length
    · obtain ⟨b, o, rfl, hc⟩ := HS.out.get k hk
      have hE : Ext w wr := Ext.trans (by (repeat (first | exact Ext.refl _ | refine Ext.alloc ?_ _ | refine Ext.drewN ?_ _ | refine Ext.drew ?_ | refine Ext.trans ?_ (Hid.out (by assumption))))) hx.out
      obtain ⟨c0, c1, c2, c3⟩ := cells4 (w := wr) (b := b) (o := o + k * 4) (x := xs[k]) (fun j v hj => hE.keep (hc j v hj))
      clear hc hE
      have b0 : (0 : Int) ≤ (k : Int) := by omega
      have b1 : (k : Int) < (xs.length : Int) := by omega
      cases he : p xs[k] with
      | true =>
        have He := hid he
        clear he
        go_wp2_with fail
        refine (HP.out xs[k] (List.getElem_mem hk) _ hx.out).mono ?_
        rintro e w1 ⟨rfl, hb⟩
        have hy := hid hb
        clear hb
        rw [He.out]
        go_wp2
        go_ret
        refine ⟨ret_int (idx_found (p := p) hk hno.out He.out), ?_⟩
        (repeat (first | exact Ext.refl _ | refine Ext.alloc ?_ _ | refine Ext.drewN ?_ _ | refine Ext.drew ?_ | refine Ext.trans ?_ (Hid.out (by assumption))))
      | false =>
        have He := hid he
        clear he
        go_wp2_with fail
        refine (HP.out xs[k] (List.getElem_mem hk) _ hx.out).mono ?_
        rintro e w1 ⟨rfl, hb⟩
        have hy := hid hb
        clear hb
        rw [He.out]
        go_wp2
        go_roundg (gk - 1)
        case measure => omega
        case rel => exact ⟨k + 1, by omega, by go_num, any_take (p := p) hk hno.out He.out, (by (repeat (first | exact Ext.refl _ | refine Ext.alloc ?_ _ | refine Ext.drewN ?_ _ | refine Ext.drew ?_ | refine Ext.trans ?_ (Hid.out (by assumption)))))⟩
    · go_wp2
      go_ret
      refine ⟨ret_int (idx_none (any_none (p := p) hno.out hk)), ?_⟩
      (repeat (first | exact Ext.refl _ | refine Ext.alloc ?_ _ | refine Ext.drewN ?_ _ | refine Ext.drew ?_ | refine Ext.trans ?_ (Hid.out (by assumption))))

theorem containsFuncV_any (a : Option Addr) (n cap : Nat) (xs : List V) (p : V → Bool) (fn : Nat) (cp : Addr) (w : World) (hS : Sl w 4 V.cs a n cap xs)
    (hf : ∀ args w, (callFunc fn args).run Try.prog w = .ok (.enter fn args) w)
    (hp : ∀ x, x ∈ xs → ∀ w', Ext w w' → Calls Try.prog fn #[.agg #[.int .i64 x.id.b, .int .u64 x.id.l, .int .u64 x.id.s, .bool x.yes], .pointer (some cp)] w' fun e w'' => e = .returned (.bool (p x)) ∧ Ext w' w'') :
    Calls Try.prog 47 #[.slice a n cap, .func (.func fn) #[] #[.pointer (some cp)]] w fun e w' => e = .returned (.bool (xs.any p)) ∧ Ext w w' := by
  have HS := hid hS
  have HP := hid hp
  have HF := hid hf
  clear hS hp hf
  go_enter Try.func47, Try.ntmps47
  go_wp2_with (go_at_call 66; refine (indexFuncV_any _ _ _ xs p fn cp _ HS.out HF.out HP.out).mono ?_; rintro e w' ⟨rfl, hb⟩; have hx := hid hb; clear hb)
  go_ret
  refine ⟨ret_bool (idx_ge _ _), ?_⟩
  (repeat (first | exact Ext.refl _ | refine Ext.alloc ?_ _ | refine Ext.drewN ?_ _ | refine Ext.drew ?_ | refine Ext.trans ?_ (Hid.out (by assumption))))

theorem tally1_any (x : V) (i : Id) (cp : Nat) (w : World) (h0 : w.cell? ⟨cp, 0, none⟩ = some (.int .i64 i.b)) (h1 : w.cell? ⟨cp, 1, none⟩ = some (.int .u64 i.l)) (h2 : w.cell? ⟨cp, 2, none⟩ = some (.int .u64 i.s)) :
    Calls Try.prog 48 #[.agg #[.int .i64 x.id.b, .int .u64 x.id.l, .int .u64 x.id.s, .bool x.yes], .pointer (some ⟨cp, 0, none⟩)] w fun e w' => e = .returned (.bool (idEq x.id i)) ∧ Ext w w' := by
  have heq := run_eqId x.id.b x.id.l x.id.s i.b i.l i.s
  have k0 := ((Ext.refl w).alloc (Obj.cells #[.int .i64 x.id.b, .int .u64 x.id.l, .int .u64 x.id.s, .bool x.yes] 45)).keep h0
  have k1 := ((Ext.refl w).alloc (Obj.cells #[.int .i64 x.id.b, .int .u64 x.id.l, .int .u64 x.id.s, .bool x.yes] 45)).keep h1
  have k2 := ((Ext.refl w).alloc (Obj.cells #[.int .i64 x.id.b, .int .u64 x.id.l, .int .u64 x.id.s, .bool x.yes] 45)).keep h2
  go_enter Try.func48, Try.ntmps48
  go_wp2
  go_ret
  refine ⟨rfl, ?_⟩
  (repeat (first | exact Ext.refl _ | refine Ext.alloc ?_ _ | refine Ext.drewN ?_ _ | refine Ext.drew ?_ | refine Ext.trans ?_ (Hid.out (by assumption))))

/-- what a report's votes hold -/
def hasV (vs : List V) (i : Id) (y : Bool) : Bool := vs.any fun x => veq x ⟨i, y⟩
theorem says1_any (x : MV) (vs : List V) (y : Bool) (i : Id) (cp : Nat) (w : World) (hS : Sl w 4 V.cs x.v.a x.v.n x.v.c vs)
    (h0 : w.cell? ⟨cp, 0, none⟩ = some (.int .i64 i.b)) (h1 : w.cell? ⟨cp, 1, none⟩ = some (.int .u64 i.l)) (h2 : w.cell? ⟨cp, 2, none⟩ = some (.int .u64 i.s)) :
    Calls Try.prog 49 #[.agg #[.int .i64 x.k, .int .u64 x.h, .slice x.v.a x.v.n x.v.c, .slice x.q.a x.q.n x.q.c, .slice x.e.a x.e.n x.e.c, .slice x.p.a x.p.n x.p.c, .slice x.b.a x.b.n x.b.c, .slice x.d.a x.d.n x.d.c], .bool y, .pointer (some ⟨cp, 0, none⟩)] w fun e w' => e = .returned (.bool (hasV vs i y)) ∧ Ext w w' := by
  have HS := hid hS
  have k0 := ((Ext.refl w).alloc (Obj.cells #[.int .i64 x.k, .int .u64 x.h, .slice x.v.a x.v.n x.v.c, .slice x.q.a x.q.n x.q.c, .slice x.e.a x.e.n x.e.c, .slice x.p.a x.p.n x.p.c, .slice x.b.a x.b.n x.b.c, .slice x.d.a x.d.n x.d.c] 41)).keep h0
  have k1 := ((Ext.refl w).alloc (Obj.cells #[.int .i64 x.k, .int .u64 x.h, .slice x.v.a x.v.n x.v.c, .slice x.q.a x.q.n x.q.c, .slice x.e.a x.e.n x.e.c, .slice x.p.a x.p.n x.p.c, .slice x.b.a x.b.n x.b.c, .slice x.d.a x.d.n x.d.c] 41)).keep h1
  have k2 := ((Ext.refl w).alloc (Obj.cells #[.int .i64 x.k, .int .u64 x.h, .slice x.v.a x.v.n x.v.c, .slice x.q.a x.q.n x.q.c, .slice x.e.a x.e.n x.e.c, .slice x.p.a x.p.n x.p.c, .slice x.b.a x.b.n x.b.c, .slice x.d.a x.d.n x.d.c] 41)).keep h2
  clear hS
  go_enter Try.func49, Try.ntmps49
  go_wp2_with (go_at_call 50; refine (containsV_any _ _ _ vs ⟨i, y⟩ _ (HS.out.ext ((Ext.refl _).alloc _))).mono ?_; rintro e w' ⟨rfl, hb⟩; have hx := hid hb; clear hb)
  go_ret
  refine ⟨rfl, ?_⟩
  (repeat (first | exact Ext.refl _ | refine Ext.alloc ?_ _ | refine Ext.drewN ?_ _ | refine Ext.drew ?_ | refine Ext.trans ?_ (Hid.out (by assumption))))

/-- a report with its votes -/
structure Kid where
  m : MV
  vs : List V
def Kid.cs (x : Kid) : List Value := x.m.cs
/-- what reports say: 1: all of them yes; 2: one of them no; else 0 -/
def saysOf (kids : List Kid) (i : Id) : Int := if (kids.any fun m => hasV m.vs i false) = true then 2 else if (kids.all fun m => hasV m.vs i true) = true then 1 else 0
theorem says_two {kids : List Kid} {i : Id} {k : Nat} (hk : k < kids.length) (h : hasV kids[k].vs i false = true) : 2 = saysOf kids i := by
  unfold saysOf; rw [if_pos (any_found (p := fun m : Kid => hasV m.vs i false) hk h).symm]
/-- the count so far -/
def sayTo (l : List Kid) (i : Id) : Int := if (l.all fun m => hasV m.vs i true) = true then 1 else 0
theorem sayTo_succ {kids : List Kid} {i : Id} {k : Nat} (hk : k < kids.length) : sayTo (kids.take (k + 1)) i = if hasV kids[k].vs i true = true then sayTo (kids.take k) i else 0 := by
  unfold sayTo; rw [List.take_succ_eq_append_getElem hk, List.all_append]
  cases h : hasV kids[k].vs i true <;> simp [h]
theorem says_end {kids : List Kid} {i : Id} {k : Nat} (h : (kids.take k).any (fun m => hasV m.vs i false) = false) (hk : ¬ k < kids.length) : sayTo (kids.take k) i = saysOf kids i := by
  rw [List.take_of_length_le (by omega)] at h ⊢
  unfold saysOf sayTo; rw [h]; rfl

/-- Reports as a slice, each with its votes. -/
structure Kids (w : World) (a : Option Addr) (n cap : Nat) (kids : List Kid) : Prop where
  sl : Sl w 8 Kid.cs a n cap kids
  votes : ∀ m, m ∈ kids → Sl w 4 V.cs m.m.v.a m.m.v.n m.m.v.c m.vs
theorem Kids.ext {w w' : World} {a : Option Addr} {n cap : Nat} {kids : List Kid} (h : Kids w a n cap kids) (hx : Ext w w') : Kids w' a n cap kids :=
  ⟨h.sl.ext hx, fun m hm => (h.votes m hm).ext hx⟩

set_option maxHeartbeats 1000000 in
theorem says_any (a : Option Addr) (n cap : Nat) (xs : List Kid) (i : Id) (w : World) (hS : Kids w a n cap xs) :
    Calls Try.prog 25 #[.slice a n cap, .agg #[.int .i64 i.b, .int .u64 i.l, .int .u64 i.s]] w fun e w' => e = .returned (.int .i64 (saysOf xs i)) ∧ Ext w w' := by
  obtain rfl := hS.sl.neq
  have hm := hS.sl.max
  have hl := hS.sl.len
  unfold maxLen at hm
  have HS := hid hS
  clear hS
  go_enter Try.func25, Try.ntmps25
  go_wp2_with fail
  go_step3
  go_wp2_with fail
  go_step3
  go_wp2_with fail
  go_loopg [6, 12] (xs.length) (fun g sy st wr => ∃ k : Nat, g + k = xs.length ∧ st = .int .i64 k ∧ sy = .int .i64 (sayTo (xs.take k) i) ∧ Hid ((xs.take k).any (fun m : Kid => hasV m.vs i false) = false) ∧ Hid (Ext (w.alloc (Obj.cells #[.int .i64 i.b, .int .u64 i.l, .int .u64 i.s] 30)) wr))
  case atStart => exact ⟨0, by omega, rfl, rfl, rfl, Ext.refl _⟩
  case round =>
    obtain ⟨k, hg, rfl, rfl, hno, hx⟩ := hrel
    by_cases hk : k < xs.length
    · obtain ⟨b, o, rfl, hc⟩ := HS.out.sl.get k hk
      have hE : Ext w wr := Ext.trans (by (repeat (first | exact Ext.refl _ | refine Ext.alloc ?_ _ | refine Ext.drewN ?_ _ | refine Ext.drew ?_ | refine Ext.trans ?_ (Hid.out (by assumption))))) hx.out
      obtain ⟨c0, c1, c2, c3, c4, c5, c6, c7⟩ := cellsM (w := wr) (b := b) (o := o + k * 8) (x := xs[k].m) (fun j v hj => hE.keep (hc j v hj))
      have i0 : wr.cell? ⟨w.heap.size, 0, none⟩ = some (.int .i64 i.b) := hx.out.keep (by simp)
      have i1 : wr.cell? ⟨w.heap.size, 1, none⟩ = some (.int .u64 i.l) := hx.out.keep (by simp)
      have i2 : wr.cell? ⟨w.heap.size, 2, none⟩ = some (.int .u64 i.s) := hx.out.keep (by simp)
      have hz : w.heap.size < wr.heap.size := by have := hx.out.size; simp at this; omega
      have HV := hid ((HS.out.votes xs[k] (List.getElem_mem hk)).ext hE)
      have Hs := hid (sayTo_succ (i := i) hk)
      clear hc hE
      have b0 : (0 : Int) ≤ (k : Int) := by omega
      have b1 : (k : Int) < (xs.length : Int) := by omega
      cases hn : hasV xs[k].vs i false with
      | true =>
        have Hn := hid hn
        clear hn
        go_wp2_with (go_at_call 49; go_must (refine (says1_any xs[k].m xs[k].vs false i w.heap.size _ (HV.out.ext (by (repeat (first | exact Ext.refl _ | refine Ext.alloc ?_ _ | refine Ext.drewN ?_ _ | refine Ext.drew ?_ | refine Ext.trans ?_ (Hid.out (by assumption)))))) (Ext.keep (W := wr) (by (repeat (first | exact Ext.refl _ | refine Ext.alloc ?_ _ | refine Ext.drewN ?_ _ | refine Ext.drew ?_ | refine Ext.trans ?_ (Hid.out (by assumption))))) i0) (Ext.keep (W := wr) (by (repeat (first | exact Ext.refl _ | refine Ext.alloc ?_ _ | refine Ext.drewN ?_ _ | refine Ext.drew ?_ | refine Ext.trans ?_ (Hid.out (by assumption))))) i1) (Ext.keep (W := wr) (by (repeat (first | exact Ext.refl _ | refine Ext.alloc ?_ _ | refine Ext.drewN ?_ _ | refine Ext.drew ?_ | refine Ext.trans ?_ (Hid.out (by assumption))))) i2)).mono ?_); rintro e w' ⟨rfl, hb⟩; have hy := hid hb; clear hb; rw [Hn.out])
        rw [Exit.noGoto_ret]
        go_wp2
        go_ret
        refine ⟨ret_int (says_two hk Hn.out), ?_⟩
        (repeat (first | exact Ext.refl _ | refine Ext.alloc ?_ _ | refine Ext.drewN ?_ _ | refine Ext.drew ?_ | refine Ext.trans ?_ (Hid.out (by assumption))))
      | false =>
        have Hn := hid hn
        clear hn
        cases hy : hasV xs[k].vs i true with
        | true =>
          have Hy := hid hy
          clear hy
          go_wp2_with fail
          go_must (refine (says1_any xs[k].m xs[k].vs false i w.heap.size _ (HV.out.ext (by (repeat (first | exact Ext.refl _ | refine Ext.alloc ?_ _ | refine Ext.drewN ?_ _ | refine Ext.drew ?_ | refine Ext.trans ?_ (Hid.out (by assumption)))))) (Ext.keep (W := wr) (by (repeat (first | exact Ext.refl _ | refine Ext.alloc ?_ _ | refine Ext.drewN ?_ _ | refine Ext.drew ?_ | refine Ext.trans ?_ (Hid.out (by assumption))))) i0) (Ext.keep (W := wr) (by (repeat (first | exact Ext.refl _ | refine Ext.alloc ?_ _ | refine Ext.drewN ?_ _ | refine Ext.drew ?_ | refine Ext.trans ?_ (Hid.out (by assumption))))) i1) (Ext.keep (W := wr) (by (repeat (first | exact Ext.refl _ | refine Ext.alloc ?_ _ | refine Ext.drewN ?_ _ | refine Ext.drew ?_ | refine Ext.trans ?_ (Hid.out (by assumption))))) i2)).mono ?_)
          rintro e w' ⟨rfl, hb⟩
          have hq := hb.cell
          have hy := hid hb
          clear hb
          rw [Hn.out]
          go_wp2_with fail
          go_must (refine (says1_any xs[k].m xs[k].vs true i w.heap.size _ (HV.out.ext (by (repeat (first | exact Ext.refl _ | refine Ext.alloc ?_ _ | refine Ext.drewN ?_ _ | refine Ext.drew ?_ | refine Ext.trans ?_ (Hid.out (by assumption)))))) (Ext.keep (W := wr) (by (repeat (first | exact Ext.refl _ | refine Ext.alloc ?_ _ | refine Ext.drewN ?_ _ | refine Ext.drew ?_ | refine Ext.trans ?_ (Hid.out (by assumption))))) i0) (Ext.keep (W := wr) (by (repeat (first | exact Ext.refl _ | refine Ext.alloc ?_ _ | refine Ext.drewN ?_ _ | refine Ext.drew ?_ | refine Ext.trans ?_ (Hid.out (by assumption))))) i1) (Ext.keep (W := wr) (by (repeat (first | exact Ext.refl _ | refine Ext.alloc ?_ _ | refine Ext.drewN ?_ _ | refine Ext.drew ?_ | refine Ext.trans ?_ (Hid.out (by assumption))))) i2)).mono ?_)
          rintro e w' ⟨rfl, hb⟩
          have hy := hid hb
          clear hb
          rw [Hy.out]
          go_wp2
          go_roundg (gk - 1)
          case measure => omega
          case rel => exact ⟨k + 1, by omega, by go_num, by rw [Hs.out, if_pos Hy.out], any_take (p := fun m : Kid => hasV m.vs i false) hk hno.out Hn.out, (by (repeat (first | exact Ext.refl _ | refine Ext.alloc ?_ _ | refine Ext.drewN ?_ _ | refine Ext.drew ?_ | refine Ext.trans ?_ (Hid.out (by assumption)))))⟩
        | false =>
          have Hy := hid hy
          clear hy
          go_wp2_with fail
          go_must (refine (says1_any xs[k].m xs[k].vs false i w.heap.size _ (HV.out.ext (by (repeat (first | exact Ext.refl _ | refine Ext.alloc ?_ _ | refine Ext.drewN ?_ _ | refine Ext.drew ?_ | refine Ext.trans ?_ (Hid.out (by assumption)))))) (Ext.keep (W := wr) (by (repeat (first | exact Ext.refl _ | refine Ext.alloc ?_ _ | refine Ext.drewN ?_ _ | refine Ext.drew ?_ | refine Ext.trans ?_ (Hid.out (by assumption))))) i0) (Ext.keep (W := wr) (by (repeat (first | exact Ext.refl _ | refine Ext.alloc ?_ _ | refine Ext.drewN ?_ _ | refine Ext.drew ?_ | refine Ext.trans ?_ (Hid.out (by assumption))))) i1) (Ext.keep (W := wr) (by (repeat (first | exact Ext.refl _ | refine Ext.alloc ?_ _ | refine Ext.drewN ?_ _ | refine Ext.drew ?_ | refine Ext.trans ?_ (Hid.out (by assumption))))) i2)).mono ?_)
          rintro e w' ⟨rfl, hb⟩
          have hq := hb.cell
          have hy := hid hb
          clear hb
          rw [Hn.out]
          go_wp2_with fail
          go_must (refine (says1_any xs[k].m xs[k].vs true i w.heap.size _ (HV.out.ext (by (repeat (first | exact Ext.refl _ | refine Ext.alloc ?_ _ | refine Ext.drewN ?_ _ | refine Ext.drew ?_ | refine Ext.trans ?_ (Hid.out (by assumption)))))) (Ext.keep (W := wr) (by (repeat (first | exact Ext.refl _ | refine Ext.alloc ?_ _ | refine Ext.drewN ?_ _ | refine Ext.drew ?_ | refine Ext.trans ?_ (Hid.out (by assumption))))) i0) (Ext.keep (W := wr) (by (repeat (first | exact Ext.refl _ | refine Ext.alloc ?_ _ | refine Ext.drewN ?_ _ | refine Ext.drew ?_ | refine Ext.trans ?_ (Hid.out (by assumption))))) i1) (Ext.keep (W := wr) (by (repeat (first | exact Ext.refl _ | refine Ext.alloc ?_ _ | refine Ext.drewN ?_ _ | refine Ext.drew ?_ | refine Ext.trans ?_ (Hid.out (by assumption))))) i2)).mono ?_)
          rintro e w' ⟨rfl, hb⟩
          have hy := hid hb
          clear hb
          rw [Hy.out]
          go_wp2
          go_roundg (gk - 1)
          case measure => omega
          case rel => exact ⟨k + 1, by omega, by go_num, by rw [Hs.out, if_neg (by rw [Hy.out]; simp)], any_take (p := fun m : Kid => hasV m.vs i false) hk hno.out Hn.out, (by (repeat (first | exact Ext.refl _ | refine Ext.alloc ?_ _ | refine Ext.drewN ?_ _ | refine Ext.drew ?_ | refine Ext.trans ?_ (Hid.out (by assumption)))))⟩
    · go_wp2
      rw [Exit.noGoto_ret]
      go_wp2
      go_ret
      refine ⟨ret_int (says_end hno.out hk), ?_⟩
      (repeat (first | exact Ext.refl _ | refine Ext.alloc ?_ _ | refine Ext.drewN ?_ _ | refine Ext.drew ?_ | refine Ext.trans ?_ (Hid.out (by assumption))))

end Go.Proofs.Ytncadipipomebaa
