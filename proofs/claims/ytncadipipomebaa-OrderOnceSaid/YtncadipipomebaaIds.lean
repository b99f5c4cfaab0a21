/- IDs and entries as their cells; whether one of some is of an ID: the walks of the small functions that ask it. -/
import Derived.Test.YtncadipipomebaaProg
import Derived.Test.YtncadipipomebaaBase
namespace Go.Proofs.Ytncadipipomebaa
open Go.RowKit

/-- an ID -/
structure Id where
  b : Int
  l : Int
  s : Int
deriving DecidableEq, Inhabited
def Id.cs (i : Id) : List Value := [.int .i64 i.b, .int .u64 i.l, .int .u64 i.s]
/-- a slice's value -/
structure SV where
  a : Option Addr
  n : Nat
  c : Nat
/-- an entry, as its cells -/
structure EV where
  k : Int
  id : Id
  c : Int
  u : Int
  f : SV
  e : SV
def EV.cs (x : EV) : List Value := [.int .i64 x.k, .int .i64 x.id.b, .int .u64 x.id.l, .int .u64 x.id.s, .int .i64 x.c, .int .u64 x.u, .slice x.f.a x.f.n x.f.c, .slice x.e.a x.e.n x.e.c]

def idEq (i j : Id) : Bool := decide (i.b = j.b) && decide (i.l = j.l) && decide (i.s = j.s)
theorem idEq_iff (i j : Id) : idEq i j = decide (i = j) := by
  obtain ⟨a, b, c⟩ := i; obtain ⟨x, y, z⟩ := j
  rw [Bool.eq_iff_iff]
  simp [idEq, and_assoc]
theorem run_eqId (b l s b' l' s' : Int) (w : World) :
    (binOp .eql 30 (.agg #[.int .i64 b, .int .u64 l, .int .u64 s]) (.agg #[.int .i64 b', .int .u64 l', .int .u64 s'])).run Try.prog w = .ok (.bool (idEq ⟨b, l, s⟩ ⟨b', l', s'⟩)) w := by
  unfold idEq
  by_cases h1 : b = b' <;> by_cases h2 : l = l' <;> simp [h1, h2, go_sem]
  split <;> simp_all

theorem idEq_comm (i j : Id) : idEq i j = idEq j i := by
  rw [idEq_iff, idEq_iff, Bool.eq_iff_iff]; simp [eq_comm]
theorem run_eqId' (b l s b' l' s' : Int) (w : World) :
    (binOp .eql 30 (.agg #[.int .i64 b, .int .u64 l, .int .u64 s]) (.agg #[.int .i64 b', .int .u64 l', .int .u64 s'])).run Try.prog w = .ok (.bool (idEq ⟨b', l', s'⟩ ⟨b, l, s⟩)) w := by
  rw [run_eqId, idEq_comm]

theorem cells8 {w : World} {b o : Nat} {x : EV} (h : CellsAt w b o x.cs) :
    w.cell? ⟨b, o, none⟩ = some (.int .i64 x.k) ∧ w.cell? ⟨b, o + 1, none⟩ = some (.int .i64 x.id.b) ∧ w.cell? ⟨b, o + 2, none⟩ = some (.int .u64 x.id.l) ∧ w.cell? ⟨b, o + 3, none⟩ = some (.int .u64 x.id.s) ∧
    w.cell? ⟨b, o + 4, none⟩ = some (.int .i64 x.c) ∧ w.cell? ⟨b, o + 5, none⟩ = some (.int .u64 x.u) ∧ w.cell? ⟨b, o + 6, none⟩ = some (.slice x.f.a x.f.n x.f.c) ∧ w.cell? ⟨b, o + 7, none⟩ = some (.slice x.e.a x.e.n x.e.c) :=
  ⟨h 0 _ rfl, h 1 _ rfl, h 2 _ rfl, h 3 _ rfl, h 4 _ rfl, h 5 _ rfl, h 6 _ rfl, h 7 _ rfl⟩

theorem cells3 {w : World} {b o : Nat} {x : Id} (h : CellsAt w b o x.cs) :
    w.cell? ⟨b, o, none⟩ = some (.int .i64 x.b) ∧ w.cell? ⟨b, o + 1, none⟩ = some (.int .u64 x.l) ∧ w.cell? ⟨b, o + 2, none⟩ = some (.int .u64 x.s) :=
  ⟨h 0 _ rfl, h 1 _ rfl, h 2 _ rfl⟩

/-- whether one of some entries is of an ID -/
theorem of_any (a : Option Addr) (n cap : Nat) (xs : List EV) (i : Id) (w : World) (hS : Sl w 8 EV.cs a n cap xs) :
    Calls Try.prog 52 #[.slice a n cap, .agg #[.int .i64 i.b, .int .u64 i.l, .int .u64 i.s]] w fun e w' => e = .returned (.bool (xs.any (fun x : EV => idEq x.id i))) ∧ Ext w w' := by
  obtain rfl := hS.neq
  have hm := hS.max
  have hl := hS.len
  unfold maxLen at hm
  have HS := hid hS
  clear hS
  go_enter Try.func52, Try.ntmps52
  go_wp2_with fail
  go_loopg [5, 8] (xs.length) (fun g _ st wr => ∃ k : Nat, g + k = xs.length ∧ st = .int .i64 k ∧ Hid ((xs.take k).any (fun x : EV => idEq x.id i) = false) ∧ Hid (Ext (w.alloc (Obj.cells #[.int .i64 i.b, .int .u64 i.l, .int .u64 i.s] 30)) wr))
  case atStart => exact ⟨0, by omega, rfl, rfl, Ext.refl _⟩
  case round =>
    obtain ⟨k, hg, rfl, hno, hx⟩ := hrel
    have i0 : wr.cell? ⟨w.heap.size, 0, none⟩ = some (.int .i64 i.b) := hx.out.keep (by simp)
    have i1 : wr.cell? ⟨w.heap.size, 1, none⟩ = some (.int .u64 i.l) := hx.out.keep (by simp)
    have i2 : wr.cell? ⟨w.heap.size, 2, none⟩ = some (.int .u64 i.s) := hx.out.keep (by simp)
    by_cases hk : k < xs.length
    · obtain ⟨b, o, rfl, hc⟩ := HS.out.get k hk
      have hE : Ext w wr := Ext.trans (by (repeat (first | exact Ext.refl _ | refine Ext.alloc ?_ _ | refine Ext.drewN ?_ _ | refine Ext.drew ?_ | refine Ext.trans ?_ (Hid.out (by assumption))))) hx.out
      obtain ⟨c0, c1, c2, c3, c4, c5, c6, c7⟩ := cells8 (w := wr) (b := b) (o := o + k * 8) (x := xs[k]) (fun j v hj => hE.keep (hc j v hj))
      clear hc hE
      have b0 : (0 : Int) ≤ (k : Int) := by omega
      have b1 : (k : Int) < (xs.length : Int) := by omega
      have heq := run_eqId xs[k].id.b xs[k].id.l xs[k].id.s i.b i.l i.s
      cases he : idEq xs[k].id i with
      | true =>
        have He := hid he
        have he' : idEq ⟨xs[k].id.b, xs[k].id.l, xs[k].id.s⟩ ⟨i.b, i.l, i.s⟩ = true := he
        clear he
        go_wp2_with fail
        go_quiet (fail)
        go_wp2
        go_ret
        refine ⟨ret_bool (any_found (p := (fun x : EV => idEq x.id i)) hk He.out), ?_⟩
        (repeat (first | exact Ext.refl _ | refine Ext.alloc ?_ _ | refine Ext.drewN ?_ _ | refine Ext.drew ?_ | refine Ext.trans ?_ (Hid.out (by assumption))))
      | false =>
        have He := hid he
        have he' : idEq ⟨xs[k].id.b, xs[k].id.l, xs[k].id.s⟩ ⟨i.b, i.l, i.s⟩ = false := he
        clear he
        go_wp2_with fail
        go_quiet (fail)
        go_wp2
        go_roundg (gk - 1)
        case measure => omega
        case rel => exact ⟨k + 1, by omega, by go_num, any_take (p := (fun x : EV => idEq x.id i)) hk hno.out He.out, (by (repeat (first | exact Ext.refl _ | refine Ext.alloc ?_ _ | refine Ext.drewN ?_ _ | refine Ext.drew ?_ | refine Ext.trans ?_ (Hid.out (by assumption)))))⟩
    · go_wp2
      go_ret
      refine ⟨ret_bool (any_none (p := (fun x : EV => idEq x.id i)) hno.out hk), ?_⟩
      (repeat (first | exact Ext.refl _ | refine Ext.alloc ?_ _ | refine Ext.drewN ?_ _ | refine Ext.drew ?_ | refine Ext.trans ?_ (Hid.out (by assumption))))

/-- the same, by the document -/
theorem among_any (a : Option Addr) (n cap : Nat) (xs : List EV) (i : Id) (w : World) (hS : Sl w 8 EV.cs a n cap xs) :
    Calls Try.prog 63 #[.slice a n cap, .agg #[.int .i64 i.b, .int .u64 i.l, .int .u64 i.s]] w fun e w' => e = .returned (.bool (xs.any (fun x : EV => idEq x.id i))) ∧ Ext w w' := by
  obtain rfl := hS.neq
  have hm := hS.max
  have hl := hS.len
  unfold maxLen at hm
  have HS := hid hS
  clear hS
  go_enter Try.func63, Try.ntmps63
  go_wp2_with fail
  go_loopg [5] (xs.length) (fun g st wr => ∃ k : Nat, g + k = xs.length ∧ st = .int .i64 k ∧ Hid ((xs.take k).any (fun x : EV => idEq x.id i) = false) ∧ Hid (Ext (w.alloc (Obj.cells #[.int .i64 i.b, .int .u64 i.l, .int .u64 i.s] 30)) wr))
  case atStart => exact ⟨0, by omega, rfl, rfl, Ext.refl _⟩
  case round =>
    obtain ⟨k, hg, rfl, hno, hx⟩ := hrel
    have i0 : wr.cell? ⟨w.heap.size, 0, none⟩ = some (.int .i64 i.b) := hx.out.keep (by simp)
    have i1 : wr.cell? ⟨w.heap.size, 1, none⟩ = some (.int .u64 i.l) := hx.out.keep (by simp)
    have i2 : wr.cell? ⟨w.heap.size, 2, none⟩ = some (.int .u64 i.s) := hx.out.keep (by simp)
    by_cases hk : k < xs.length
    · obtain ⟨b, o, rfl, hc⟩ := HS.out.get k hk
      have hE : Ext w wr := Ext.trans (by (repeat (first | exact Ext.refl _ | refine Ext.alloc ?_ _ | refine Ext.drewN ?_ _ | refine Ext.drew ?_ | refine Ext.trans ?_ (Hid.out (by assumption))))) hx.out
      obtain ⟨c0, c1, c2, c3, c4, c5, c6, c7⟩ := cells8 (w := wr) (b := b) (o := o + k * 8) (x := xs[k]) (fun j v hj => hE.keep (hc j v hj))
      clear hc hE
      have b0 : (0 : Int) ≤ (k : Int) := by omega
      have b1 : (k : Int) < (xs.length : Int) := by omega
      have heq := run_eqId xs[k].id.b xs[k].id.l xs[k].id.s i.b i.l i.s
      cases he : idEq xs[k].id i with
      | true =>
        have He := hid he
        have he' : idEq ⟨xs[k].id.b, xs[k].id.l, xs[k].id.s⟩ ⟨i.b, i.l, i.s⟩ = true := he
        clear he
        go_wp2_with fail
        go_quiet (fail)
        go_wp2
        go_ret
        refine ⟨ret_bool (any_found (p := (fun x : EV => idEq x.id i)) hk He.out), ?_⟩
        (repeat (first | exact Ext.refl _ | refine Ext.alloc ?_ _ | refine Ext.drewN ?_ _ | refine Ext.drew ?_ | refine Ext.trans ?_ (Hid.out (by assumption))))
      | false =>
        have He := hid he
        have he' : idEq ⟨xs[k].id.b, xs[k].id.l, xs[k].id.s⟩ ⟨i.b, i.l, i.s⟩ = false := he
        clear he
        go_wp2_with fail
        go_quiet (fail)
        go_wp2
        go_roundg (gk - 1)
        case measure => omega
        case rel => exact ⟨k + 1, by omega, by go_num, any_take (p := (fun x : EV => idEq x.id i)) hk hno.out He.out, (by (repeat (first | exact Ext.refl _ | refine Ext.alloc ?_ _ | refine Ext.drewN ?_ _ | refine Ext.drew ?_ | refine Ext.trans ?_ (Hid.out (by assumption)))))⟩
    · go_wp2
      go_ret
      refine ⟨ret_bool (any_none (p := (fun x : EV => idEq x.id i)) hno.out hk), ?_⟩
      (repeat (first | exact Ext.refl _ | refine Ext.alloc ?_ _ | refine Ext.drewN ?_ _ | refine Ext.drew ?_ | refine Ext.trans ?_ (Hid.out (by assumption))))

/-- the same, by the document -/
theorem rof_any (a : Option Addr) (n cap : Nat) (xs : List EV) (i : Id) (w : World) (hS : Sl w 8 EV.cs a n cap xs) :
    Calls Try.prog 44 #[.slice a n cap, .agg #[.int .i64 i.b, .int .u64 i.l, .int .u64 i.s]] w fun e w' => e = .returned (.bool (xs.any (fun x : EV => idEq x.id i))) ∧ Ext w w' := by
  obtain rfl := hS.neq
  have hm := hS.max
  have hl := hS.len
  unfold maxLen at hm
  have HS := hid hS
  clear hS
  go_enter Try.func44, Try.ntmps44
  go_wp2_with fail
  go_loopg [5] (xs.length) (fun g st wr => ∃ k : Nat, g + k = xs.length ∧ st = .int .i64 k ∧ Hid ((xs.take k).any (fun x : EV => idEq x.id i) = false) ∧ Hid (Ext (w.alloc (Obj.cells #[.int .i64 i.b, .int .u64 i.l, .int .u64 i.s] 30)) wr))
  case atStart => exact ⟨0, by omega, rfl, rfl, Ext.refl _⟩
  case round =>
    obtain ⟨k, hg, rfl, hno, hx⟩ := hrel
    have i0 : wr.cell? ⟨w.heap.size, 0, none⟩ = some (.int .i64 i.b) := hx.out.keep (by simp)
    have i1 : wr.cell? ⟨w.heap.size, 1, none⟩ = some (.int .u64 i.l) := hx.out.keep (by simp)
    have i2 : wr.cell? ⟨w.heap.size, 2, none⟩ = some (.int .u64 i.s) := hx.out.keep (by simp)
    by_cases hk : k < xs.length
    · obtain ⟨b, o, rfl, hc⟩ := HS.out.get k hk
      have hE : Ext w wr := Ext.trans (by (repeat (first | exact Ext.refl _ | refine Ext.alloc ?_ _ | refine Ext.drewN ?_ _ | refine Ext.drew ?_ | refine Ext.trans ?_ (Hid.out (by assumption))))) hx.out
      obtain ⟨c0, c1, c2, c3, c4, c5, c6, c7⟩ := cells8 (w := wr) (b := b) (o := o + k * 8) (x := xs[k]) (fun j v hj => hE.keep (hc j v hj))
      clear hc hE
      have b0 : (0 : Int) ≤ (k : Int) := by omega
      have b1 : (k : Int) < (xs.length : Int) := by omega
      have heq := run_eqId xs[k].id.b xs[k].id.l xs[k].id.s i.b i.l i.s
      cases he : idEq xs[k].id i with
      | true =>
        have He := hid he
        have he' : idEq ⟨xs[k].id.b, xs[k].id.l, xs[k].id.s⟩ ⟨i.b, i.l, i.s⟩ = true := he
        clear he
        go_wp2_with fail
        go_quiet (fail)
        go_wp2
        go_ret
        refine ⟨ret_bool (any_found (p := (fun x : EV => idEq x.id i)) hk He.out), ?_⟩
        (repeat (first | exact Ext.refl _ | refine Ext.alloc ?_ _ | refine Ext.drewN ?_ _ | refine Ext.drew ?_ | refine Ext.trans ?_ (Hid.out (by assumption))))
      | false =>
        have He := hid he
        have he' : idEq ⟨xs[k].id.b, xs[k].id.l, xs[k].id.s⟩ ⟨i.b, i.l, i.s⟩ = false := he
        clear he
        go_wp2_with fail
        go_quiet (fail)
        go_wp2
        go_roundg (gk - 1)
        case measure => omega
        case rel => exact ⟨k + 1, by omega, by go_num, any_take (p := (fun x : EV => idEq x.id i)) hk hno.out He.out, (by (repeat (first | exact Ext.refl _ | refine Ext.alloc ?_ _ | refine Ext.drewN ?_ _ | refine Ext.drew ?_ | refine Ext.trans ?_ (Hid.out (by assumption)))))⟩
    · go_wp2
      go_ret
      refine ⟨ret_bool (any_none (p := (fun x : EV => idEq x.id i)) hno.out hk), ?_⟩
      (repeat (first | exact Ext.refl _ | refine Ext.alloc ?_ _ | refine Ext.drewN ?_ _ | refine Ext.drew ?_ | refine Ext.trans ?_ (Hid.out (by assumption))))

/-- whether an ID is among some -/
theorem rin_any (a : Option Addr) (n cap : Nat) (xs : List Id) (i : Id) (w : World) (hS : Sl w 3 Id.cs a n cap xs) :
    Calls Try.prog 45 #[.slice a n cap, .agg #[.int .i64 i.b, .int .u64 i.l, .int .u64 i.s]] w fun e w' => e = .returned (.bool (xs.any (fun x : Id => idEq x i))) ∧ Ext w w' := by
  obtain rfl := hS.neq
  have hm := hS.max
  have hl := hS.len
  unfold maxLen at hm
  have HS := hid hS
  clear hS
  go_enter Try.func45, Try.ntmps45
  go_wp2_with fail
  go_loopg [5] (xs.length) (fun g st wr => ∃ k : Nat, g + k = xs.length ∧ st = .int .i64 k ∧ Hid ((xs.take k).any (fun x : Id => idEq x i) = false) ∧ Hid (Ext (w.alloc (Obj.cells #[.int .i64 i.b, .int .u64 i.l, .int .u64 i.s] 30)) wr))
  case atStart => exact ⟨0, by omega, rfl, rfl, Ext.refl _⟩
  case round =>
    obtain ⟨k, hg, rfl, hno, hx⟩ := hrel
    have i0 : wr.cell? ⟨w.heap.size, 0, none⟩ = some (.int .i64 i.b) := hx.out.keep (by simp)
    have i1 : wr.cell? ⟨w.heap.size, 1, none⟩ = some (.int .u64 i.l) := hx.out.keep (by simp)
    have i2 : wr.cell? ⟨w.heap.size, 2, none⟩ = some (.int .u64 i.s) := hx.out.keep (by simp)
    by_cases hk : k < xs.length
    · obtain ⟨b, o, rfl, hc⟩ := HS.out.get k hk
      have hE : Ext w wr := Ext.trans (by (repeat (first | exact Ext.refl _ | refine Ext.alloc ?_ _ | refine Ext.drewN ?_ _ | refine Ext.drew ?_ | refine Ext.trans ?_ (Hid.out (by assumption))))) hx.out
      obtain ⟨c0, c1, c2⟩ := cells3 (w := wr) (b := b) (o := o + k * 3) (x := xs[k]) (fun j v hj => hE.keep (hc j v hj))
      clear hc hE
      have b0 : (0 : Int) ≤ (k : Int) := by omega
      have b1 : (k : Int) < (xs.length : Int) := by omega
      have heq := run_eqId xs[k].b xs[k].l xs[k].s i.b i.l i.s
      cases he : idEq xs[k] i with
      | true =>
        have He := hid he
        have he' : idEq ⟨xs[k].b, xs[k].l, xs[k].s⟩ ⟨i.b, i.l, i.s⟩ = true := he
        clear he
        go_wp2_with fail
        go_quiet (fail)
        go_wp2
        go_ret
        refine ⟨ret_bool (any_found (p := (fun x : Id => idEq x i)) hk He.out), ?_⟩
        (repeat (first | exact Ext.refl _ | refine Ext.alloc ?_ _ | refine Ext.drewN ?_ _ | refine Ext.drew ?_ | refine Ext.trans ?_ (Hid.out (by assumption))))
      | false =>
        have He := hid he
        have he' : idEq ⟨xs[k].b, xs[k].l, xs[k].s⟩ ⟨i.b, i.l, i.s⟩ = false := he
        clear he
        go_wp2_with fail
        go_quiet (fail)
        go_wp2
        go_roundg (gk - 1)
        case measure => omega
        case rel => exact ⟨k + 1, by omega, by go_num, any_take (p := (fun x : Id => idEq x i)) hk hno.out He.out, (by (repeat (first | exact Ext.refl _ | refine Ext.alloc ?_ _ | refine Ext.drewN ?_ _ | refine Ext.drew ?_ | refine Ext.trans ?_ (Hid.out (by assumption)))))⟩
    · go_wp2
      go_ret
      refine ⟨ret_bool (any_none (p := (fun x : Id => idEq x i)) hno.out hk), ?_⟩
      (repeat (first | exact Ext.refl _ | refine Ext.alloc ?_ _ | refine Ext.drewN ?_ _ | refine Ext.drew ?_ | refine Ext.trans ?_ (Hid.out (by assumption))))

/-- the place of an ID -/
theorem indexId_any (a : Option Addr) (n cap : Nat) (xs : List Id) (i : Id) (w : World) (hS : Sl w 3 Id.cs a n cap xs) :
    Calls Try.prog 62 #[.slice a n cap, .agg #[.int .i64 i.b, .int .u64 i.l, .int .u64 i.s]] w fun e w' => e = .returned (.int .i64 (idxBy (fun x : Id => idEq x i) xs)) ∧ Ext w w' := by
  obtain rfl := hS.neq
  have hm := hS.max
  have hl := hS.len
  unfold maxLen at hm
  have HS := hid hS
  clear hS
  go_enter Try.func62, Try.ntmps62
  go_wp2_with fail
  go_loopg [5, 8] (xs.length) (fun g _ st wr => ∃ k : Nat, g + k = xs.length ∧ st = .int .i64 k ∧ Hid ((xs.take k).any (fun x : Id => idEq x i) = false) ∧ Hid (Ext (w.alloc (Obj.cells #[.int .i64 i.b, .int .u64 i.l, .int .u64 i.s] 30)) wr))
  case atStart => exact ⟨0, by omega, rfl, rfl, Ext.refl _⟩
  case round =>
    obtain ⟨k, hg, rfl, hno, hx⟩ := hrel
    have i0 : wr.cell? ⟨w.heap.size, 0, none⟩ = some (.int .i64 i.b) := hx.out.keep (by simp)
    have i1 : wr.cell? ⟨w.heap.size, 1, none⟩ = some (.int .u64 i.l) := hx.out.keep (by simp)
    have i2 : wr.cell? ⟨w.heap.size, 2, none⟩ = some (.int .u64 i.s) := hx.out.keep (by simp)
    by_cases hk : k < xs.length
    · obtain ⟨b, o, rfl, hc⟩ := HS.out.get k hk
      have hE : Ext w wr := Ext.trans (by (repeat (first | exact Ext.refl _ | refine Ext.alloc ?_ _ | refine Ext.drewN ?_ _ | refine Ext.drew ?_ | refine Ext.trans ?_ (Hid.out (by assumption))))) hx.out
      obtain ⟨c0, c1, c2⟩ := cells3 (w := wr) (b := b) (o := o + k * 3) (x := xs[k]) (fun j v hj => hE.keep (hc j v hj))
      clear hc hE
      have b0 : (0 : Int) ≤ (k : Int) := by omega
      have b1 : (k : Int) < (xs.length : Int) := by omega
      have heq := run_eqId' i.b i.l i.s xs[k].b xs[k].l xs[k].s
      cases he : idEq xs[k] i with
      | true =>
        have He := hid he
        have he' : idEq ⟨xs[k].b, xs[k].l, xs[k].s⟩ ⟨i.b, i.l, i.s⟩ = true := he
        clear he
        go_wp2_with fail
        go_quiet (fail)
        go_wp2
        go_ret
        refine ⟨ret_int (idx_found (p := (fun x : Id => idEq x i)) hk hno.out He.out), ?_⟩
        (repeat (first | exact Ext.refl _ | refine Ext.alloc ?_ _ | refine Ext.drewN ?_ _ | refine Ext.drew ?_ | refine Ext.trans ?_ (Hid.out (by assumption))))
      | false =>
        have He := hid he
        have he' : idEq ⟨xs[k].b, xs[k].l, xs[k].s⟩ ⟨i.b, i.l, i.s⟩ = false := he
        clear he
        go_wp2_with fail
        go_quiet (fail)
        go_wp2
        go_roundg (gk - 1)
        case measure => omega
        case rel => exact ⟨k + 1, by omega, by go_num, any_take (p := (fun x : Id => idEq x i)) hk hno.out He.out, (by (repeat (first | exact Ext.refl _ | refine Ext.alloc ?_ _ | refine Ext.drewN ?_ _ | refine Ext.drew ?_ | refine Ext.trans ?_ (Hid.out (by assumption)))))⟩
    · go_wp2
      go_ret
      refine ⟨ret_int (idx_none (any_none (p := (fun x : Id => idEq x i)) hno.out hk)), ?_⟩
      (repeat (first | exact Ext.refl _ | refine Ext.alloc ?_ _ | refine Ext.drewN ?_ _ | refine Ext.drew ?_ | refine Ext.trans ?_ (Hid.out (by assumption))))

end Go.Proofs.Ytncadipipomebaa
