/- States by value, and what is asked of them; entries sought by a closure. -/
import Derived.Test.YtncadipipomebaaIds
namespace Go.Proofs.Ytncadipipomebaa
open Go.RowKit

/-- a state, as its cells -/
structure StV where
  life : Int
  l : SV
  p : SV
  b : SV

theorem contains_any (a : Option Addr) (n cap : Nat) (xs : List Id) (i : Id) (w : World) (hS : Sl w 3 Id.cs a n cap xs) :
    Calls Try.prog 39 #[.slice a n cap, .agg #[.int .i64 i.b, .int .u64 i.l, .int .u64 i.s]] w fun e w' => e = .returned (.bool (xs.any (fun x : Id => idEq x i))) ∧ Ext w w' := by
  have HS := hid hS
  clear hS
  go_enter Try.func39, Try.ntmps39
  go_wp2_with (go_at_call 62; refine (indexId_any _ _ _ xs i _ (HS.out.ext ((Ext.refl _).alloc _))).mono ?_; rintro e w' ⟨rfl, hb⟩; have hx := hid hb; clear hb)
  go_ret
  refine ⟨ret_bool (idx_ge _ _), ?_⟩
  (repeat (first | exact Ext.refl _ | refine Ext.alloc ?_ _ | refine Ext.drewN ?_ _ | refine Ext.drew ?_ | refine Ext.trans ?_ (Hid.out (by assumption))))

theorem has_any (s : StV) (xs : List EV) (i : Id) (w : World) (hS : Sl w 8 EV.cs s.l.a s.l.n s.l.c xs) :
    Calls Try.prog 27 #[.agg #[.int .u64 s.life, .slice s.l.a s.l.n s.l.c, .slice s.p.a s.p.n s.p.c, .slice s.b.a s.b.n s.b.c], .agg #[.int .i64 i.b, .int .u64 i.l, .int .u64 i.s]] w fun e w' => e = .returned (.bool (xs.any (fun x : EV => idEq x.id i))) ∧ Ext w w' := by
  have HS := hid hS
  clear hS
  go_enter Try.func27, Try.ntmps27
  go_wp2_with (go_at_call 52; refine (of_any _ _ _ xs i _ (HS.out.ext (((Ext.refl _).alloc _).alloc _))).mono ?_; rintro e w' ⟨rfl, hb⟩; have hx := hid hb; clear hb)
  go_ret
  refine ⟨rfl, ?_⟩
  (repeat (first | exact Ext.refl _ | refine Ext.alloc ?_ _ | refine Ext.drewN ?_ _ | refine Ext.drew ?_ | refine Ext.trans ?_ (Hid.out (by assumption))))

theorem promised_any (s : StV) (xs : List EV) (i : Id) (w : World) (hS : Sl w 8 EV.cs s.p.a s.p.n s.p.c xs) :
    Calls Try.prog 28 #[.agg #[.int .u64 s.life, .slice s.l.a s.l.n s.l.c, .slice s.p.a s.p.n s.p.c, .slice s.b.a s.b.n s.b.c], .agg #[.int .i64 i.b, .int .u64 i.l, .int .u64 i.s]] w fun e w' => e = .returned (.bool (xs.any (fun x : EV => idEq x.id i))) ∧ Ext w w' := by
  have HS := hid hS
  clear hS
  go_enter Try.func28, Try.ntmps28
  go_wp2_with (go_at_call 52; refine (of_any _ _ _ xs i _ (HS.out.ext (((Ext.refl _).alloc _).alloc _))).mono ?_; rintro e w' ⟨rfl, hb⟩; have hx := hid hb; clear hb)
  go_ret
  refine ⟨rfl, ?_⟩
  (repeat (first | exact Ext.refl _ | refine Ext.alloc ?_ _ | refine Ext.drewN ?_ _ | refine Ext.drew ?_ | refine Ext.trans ?_ (Hid.out (by assumption))))

theorem aborted_any (s : StV) (xs : List Id) (i : Id) (w : World) (hS : Sl w 3 Id.cs s.b.a s.b.n s.b.c xs) :
    Calls Try.prog 29 #[.agg #[.int .u64 s.life, .slice s.l.a s.l.n s.l.c, .slice s.p.a s.p.n s.p.c, .slice s.b.a s.b.n s.b.c], .agg #[.int .i64 i.b, .int .u64 i.l, .int .u64 i.s]] w fun e w' => e = .returned (.bool (xs.any (fun x : Id => idEq x i))) ∧ Ext w w' := by
  have HS := hid hS
  clear hS
  go_enter Try.func29, Try.ntmps29
  go_wp2_with (go_at_call 39; refine (contains_any _ _ _ xs i _ (HS.out.ext (((Ext.refl _).alloc _).alloc _))).mono ?_; rintro e w' ⟨rfl, hb⟩; have hx := hid hb; clear hb)
  go_ret
  refine ⟨rfl, ?_⟩
  (repeat (first | exact Ext.refl _ | refine Ext.alloc ?_ _ | refine Ext.drewN ?_ _ | refine Ext.drew ?_ | refine Ext.trans ?_ (Hid.out (by assumption))))

theorem rhas_any (s : StV) (xs : List EV) (i : Id) (w : World) (hS : Sl w 8 EV.cs s.l.a s.l.n s.l.c xs) :
    Calls Try.prog 41 #[.agg #[.int .u64 s.life, .slice s.l.a s.l.n s.l.c, .slice s.p.a s.p.n s.p.c, .slice s.b.a s.b.n s.b.c], .agg #[.int .i64 i.b, .int .u64 i.l, .int .u64 i.s]] w fun e w' => e = .returned (.bool (xs.any (fun x : EV => idEq x.id i))) ∧ Ext w w' := by
  have HS := hid hS
  clear hS
  go_enter Try.func41, Try.ntmps41
  go_wp2_with (go_at_call 63; refine (among_any _ _ _ xs i _ (HS.out.ext (((Ext.refl _).alloc _).alloc _))).mono ?_; rintro e w' ⟨rfl, hb⟩; have hx := hid hb; clear hb)
  go_ret
  refine ⟨rfl, ?_⟩
  (repeat (first | exact Ext.refl _ | refine Ext.alloc ?_ _ | refine Ext.drewN ?_ _ | refine Ext.drew ?_ | refine Ext.trans ?_ (Hid.out (by assumption))))

theorem rpromised_any (s : StV) (xs : List EV) (i : Id) (w : World) (hS : Sl w 8 EV.cs s.p.a s.p.n s.p.c xs) :
    Calls Try.prog 42 #[.agg #[.int .u64 s.life, .slice s.l.a s.l.n s.l.c, .slice s.p.a s.p.n s.p.c, .slice s.b.a s.b.n s.b.c], .agg #[.int .i64 i.b, .int .u64 i.l, .int .u64 i.s]] w fun e w' => e = .returned (.bool (xs.any (fun x : EV => idEq x.id i))) ∧ Ext w w' := by
  have HS := hid hS
  clear hS
  go_enter Try.func42, Try.ntmps42
  go_wp2_with (go_at_call 63; refine (among_any _ _ _ xs i _ (HS.out.ext (((Ext.refl _).alloc _).alloc _))).mono ?_; rintro e w' ⟨rfl, hb⟩; have hx := hid hb; clear hb)
  go_ret
  refine ⟨rfl, ?_⟩
  (repeat (first | exact Ext.refl _ | refine Ext.alloc ?_ _ | refine Ext.drewN ?_ _ | refine Ext.drew ?_ | refine Ext.trans ?_ (Hid.out (by assumption))))

/-- whether an ID is aborted, by the document -/
theorem raborted_any (life : Int) (sl sp : Value) (a : Option Addr) (n cap : Nat) (xs : List Id) (i : Id) (w : World) (hS : Sl w 3 Id.cs a n cap xs) :
    Calls Try.prog 43 #[.agg #[.int .u64 life, sl, sp, .slice a n cap], .agg #[.int .i64 i.b, .int .u64 i.l, .int .u64 i.s]] w fun e w' => e = .returned (.bool (xs.any (fun x : Id => idEq x i))) ∧ Ext w w' := by
  obtain rfl := hS.neq
  have hm := hS.max
  have hl := hS.len
  unfold maxLen at hm
  have HS := hid hS
  clear hS
  go_enter Try.func43, Try.ntmps43
  go_wp2_with fail
  go_loopg [5] (xs.length) (fun g st wr => ∃ k : Nat, g + k = xs.length ∧ st = .int .i64 k ∧ Hid ((xs.take k).any (fun x : Id => idEq x i) = false) ∧ Hid (Ext ((w.alloc (Obj.cells #[.int .u64 life, sl, sp, .slice a xs.length cap] 27)).alloc (Obj.cells #[.int .i64 i.b, .int .u64 i.l, .int .u64 i.s] 30)) wr))
  case atStart => exact ⟨0, by omega, rfl, rfl, Ext.refl _⟩
  case round =>
    obtain ⟨k, hg, rfl, hno, hx⟩ := hrel
    have i0 : wr.cell? ⟨w.heap.size + 1, 0, none⟩ = some (.int .i64 i.b) := hx.out.keep (by simp)
    have i1 : wr.cell? ⟨w.heap.size + 1, 1, none⟩ = some (.int .u64 i.l) := hx.out.keep (by simp)
    have i2 : wr.cell? ⟨w.heap.size + 1, 2, none⟩ = some (.int .u64 i.s) := hx.out.keep (by simp)
    have j3 : wr.cell? ⟨w.heap.size, 3, none⟩ = some (.slice a xs.length cap) := hx.out.keep (by simp)
    by_cases hk : k < xs.length
    · obtain ⟨b, o, rfl, hc⟩ := HS.out.get k hk
      have hE : Ext w wr := Ext.trans (by (repeat (first | exact Ext.refl _ | refine Ext.alloc ?_ _ | refine Ext.drewN ?_ _ | refine Ext.drew ?_ | refine Ext.trans ?_ (Hid.out (by assumption))))) hx.out
      obtain ⟨c0, c1, c2⟩ := cells3 (w := wr) (b := b) (o := o + k * 3) (x := xs[k]) (fun j v hj => hE.keep (hc j v hj))
      clear hc hE
      have b0 : (0 : Int) ≤ (k : Int) := by omega
      have b1 : (k : Int) < (xs.length : Int) := by omega
      have heq := run_eqId xs[k].b xs[k].l xs[k].s i.b i.l i.s
      cases he : idEq xs[k] i with
      | true =>
        have He := hid he
        have he' : idEq ⟨xs[k].b, xs[k].l, xs[k].s⟩ ⟨i.b, i.l, i.s⟩ = true := he
        clear he
        go_wp2_with fail
        go_quiet (fail)
        go_wp2
        go_ret
        refine ⟨ret_bool (any_found (p := (fun x : Id => idEq x i)) hk He.out), ?_⟩
        (repeat (first | exact Ext.refl _ | refine Ext.alloc ?_ _ | refine Ext.drewN ?_ _ | refine Ext.drew ?_ | refine Ext.trans ?_ (Hid.out (by assumption))))
      | false =>
        have He := hid he
        have he' : idEq ⟨xs[k].b, xs[k].l, xs[k].s⟩ ⟨i.b, i.l, i.s⟩ = false := he
        clear he
        go_wp2_with fail
        go_quiet (fail)
        go_wp2
        go_roundg (gk - 1)
        case measure => omega
        case rel => exact ⟨k + 1, by omega, by go_num, any_take (p := (fun x : Id => idEq x i)) hk hno.out He.out, (by (repeat (first | exact Ext.refl _ | refine Ext.alloc ?_ _ | refine Ext.drewN ?_ _ | refine Ext.drew ?_ | refine Ext.trans ?_ (Hid.out (by assumption)))))⟩
    · go_wp2
      go_ret
      refine ⟨ret_bool (any_none (p := (fun x : Id => idEq x i)) hno.out hk), ?_⟩
      (repeat (first | exact Ext.refl _ | refine Ext.alloc ?_ _ | refine Ext.drewN ?_ _ | refine Ext.drew ?_ | refine Ext.trans ?_ (Hid.out (by assumption))))

/-- the place of the first member that a closure says yes to -/
theorem indexFuncE_any (a : Option Addr) (n cap : Nat) (xs : List EV) (p : EV → Bool) (fn : Nat) (cp : Addr) (w : World) (hS : Sl w 8 EV.cs a n cap xs)
    (hf : ∀ args w, (callFunc fn args).run Try.prog w = .ok (.enter fn args) w)
    (hp : ∀ x, x ∈ xs → ∀ w', Ext w w' → Calls Try.prog fn #[.agg #[.int .i64 x.k, .int .i64 x.id.b, .int .u64 x.id.l, .int .u64 x.id.s, .int .i64 x.c, .int .u64 x.u, .slice x.f.a x.f.n x.f.c, .slice x.e.a x.e.n x.e.c], .pointer (some cp)] w' fun e w'' => e = .returned (.bool (p x)) ∧ Ext w' w'') :
    Calls Try.prog 70 #[.slice a n cap, .func (.func fn) #[] #[.pointer (some cp)]] w fun e w' => e = .returned (.int .i64 (idxBy p xs)) ∧ Ext w w' := by
  obtain rfl := hS.neq
  have hm := hS.max
  have hl := hS.len
  unfold maxLen at hm
  have HS := hid hS
  clear hS
  have HP := hid hp
  clear hp
  go_enter Try.func70, Try.ntmps70
  go_wp2_with fail
  go_loopg [5, 8] (xs.length) (fun g _ st wr => ∃ k : Nat, g + k = xs.length ∧ st = .int .i64 k ∧ Hid ((xs.take k).any p = false) ∧ Hid (Ext (w) wr))
  case atStart => exact ⟨0, by omega, rfl, rfl, Ext.refl _⟩
  case round =>
    obtain ⟨k, hg, rfl, hno, hx⟩ := hrel
    by_cases hk : k < xs.length
    · obtain ⟨b, o, rfl, hc⟩ := HS.out.get k hk
      have hE : Ext w wr := Ext.trans (by (repeat (first | exact Ext.refl _ | refine Ext.alloc ?_ _ | refine Ext.drewN ?_ _ | refine Ext.drew ?_ | refine Ext.trans ?_ (Hid.out (by assumption))))) hx.out
      obtain ⟨c0, c1, c2, c3, c4, c5, c6, c7⟩ := cells8 (w := wr) (b := b) (o := o + k * 8) (x := xs[k]) (fun j v hj => hE.keep (hc j v hj))
      clear hc hE
      have b0 : (0 : Int) ≤ (k : Int) := by omega
      have b1 : (k : Int) < (xs.length : Int) := by omega
      cases he : p xs[k] with
      | true =>
        have He := hid he
        clear he
        go_wp2_with fail
        refine (HP.out xs[k] (List.getElem_mem hk) _ hx.out).mono ?_
        rintro e w1 ⟨rfl, hb⟩
        have hy := hid hb
        clear hb
        rw [He.out]
        go_wp2
        go_ret
        refine ⟨ret_int (idx_found (p := p) hk hno.out He.out), ?_⟩
        (repeat (first | exact Ext.refl _ | refine Ext.alloc ?_ _ | refine Ext.drewN ?_ _ | refine Ext.drew ?_ | refine Ext.trans ?_ (Hid.out (by assumption))))
      | false =>
        have He := hid he
        clear he
        go_wp2_with fail
        refine (HP.out xs[k] (List.getElem_mem hk) _ hx.out).mono ?_
        rintro e w1 ⟨rfl, hb⟩
        have hy := hid hb
        clear hb
        rw [He.out]
        go_wp2
        go_roundg (gk - 1)
        case measure => omega
        case rel => exact ⟨k + 1, by omega, by go_num, any_take (p := p) hk hno.out He.out, (by (repeat (first | exact Ext.refl _ | refine Ext.alloc ?_ _ | refine Ext.drewN ?_ _ | refine Ext.drew ?_ | refine Ext.trans ?_ (Hid.out (by assumption)))))⟩
    · go_wp2
      go_ret
      refine ⟨ret_int (idx_none (any_none (p := p) hno.out hk)), ?_⟩
      (repeat (first | exact Ext.refl _ | refine Ext.alloc ?_ _ | refine Ext.drewN ?_ _ | refine Ext.drew ?_ | refine Ext.trans ?_ (Hid.out (by assumption))))

theorem containsFuncE_any (a : Option Addr) (n cap : Nat) (xs : List EV) (p : EV → Bool) (fn : Nat) (cp : Addr) (w : World) (hS : Sl w 8 EV.cs a n cap xs)
    (hf : ∀ args w, (callFunc fn args).run Try.prog w = .ok (.enter fn args) w)
    (hp : ∀ x, x ∈ xs → ∀ w', Ext w w' → Calls Try.prog fn #[.agg #[.int .i64 x.k, .int .i64 x.id.b, .int .u64 x.id.l, .int .u64 x.id.s, .int .i64 x.c, .int .u64 x.u, .slice x.f.a x.f.n x.f.c, .slice x.e.a x.e.n x.e.c], .pointer (some cp)] w' fun e w'' => e = .returned (.bool (p x)) ∧ Ext w' w'') :
    Calls Try.prog 60 #[.slice a n cap, .func (.func fn) #[] #[.pointer (some cp)]] w fun e w' => e = .returned (.bool (xs.any p)) ∧ Ext w w' := by
  have HS := hid hS
  have HP := hid hp
  have HF := hid hf
  clear hS hp hf
  go_enter Try.func60, Try.ntmps60
  go_wp2_with (go_at_call 70; refine (indexFuncE_any _ _ _ xs p fn cp _ HS.out HF.out HP.out).mono ?_; rintro e w' ⟨rfl, hb⟩; have hx := hid hb; clear hb)
  go_ret
  refine ⟨ret_bool (idx_ge _ _), ?_⟩
  (repeat (first | exact Ext.refl _ | refine Ext.alloc ?_ _ | refine Ext.drewN ?_ _ | refine Ext.drew ?_ | refine Ext.trans ?_ (Hid.out (by assumption))))

theorem vof1_any (x : EV) (i : Id) (cp : Nat) (w : World) (h0 : w.cell? ⟨cp, 0, none⟩ = some (.int .i64 i.b)) (h1 : w.cell? ⟨cp, 1, none⟩ = some (.int .u64 i.l)) (h2 : w.cell? ⟨cp, 2, none⟩ = some (.int .u64 i.s)) :
    Calls Try.prog 61 #[.agg #[.int .i64 x.k, .int .i64 x.id.b, .int .u64 x.id.l, .int .u64 x.id.s, .int .i64 x.c, .int .u64 x.u, .slice x.f.a x.f.n x.f.c, .slice x.e.a x.e.n x.e.c], .pointer (some ⟨cp, 0, none⟩)] w fun e w' => e = .returned (.bool (idEq x.id i)) ∧ Ext w w' := by
  have heq := run_eqId x.id.b x.id.l x.id.s i.b i.l i.s
  have k0 := ((Ext.refl w).alloc (Obj.cells #[.int .i64 x.k, .int .i64 x.id.b, .int .u64 x.id.l, .int .u64 x.id.s, .int .i64 x.c, .int .u64 x.u, .slice x.f.a x.f.n x.f.c, .slice x.e.a x.e.n x.e.c] 50)).keep h0
  have k1 := ((Ext.refl w).alloc (Obj.cells #[.int .i64 x.k, .int .i64 x.id.b, .int .u64 x.id.l, .int .u64 x.id.s, .int .i64 x.c, .int .u64 x.u, .slice x.f.a x.f.n x.f.c, .slice x.e.a x.e.n x.e.c] 50)).keep h1
  have k2 := ((Ext.refl w).alloc (Obj.cells #[.int .i64 x.k, .int .i64 x.id.b, .int .u64 x.id.l, .int .u64 x.id.s, .int .i64 x.c, .int .u64 x.u, .slice x.f.a x.f.n x.f.c, .slice x.e.a x.e.n x.e.c] 50)).keep h2
  go_enter Try.func61, Try.ntmps61
  go_wp2
  go_ret
  refine ⟨rfl, ?_⟩
  (repeat (first | exact Ext.refl _ | refine Ext.alloc ?_ _ | refine Ext.drewN ?_ _ | refine Ext.drew ?_ | refine Ext.trans ?_ (Hid.out (by assumption))))

theorem vof_any (a : Option Addr) (n cap : Nat) (xs : List EV) (i : Id) (w : World) (hS : Sl w 8 EV.cs a n cap xs) :
    Calls Try.prog 38 #[.slice a n cap, .agg #[.int .i64 i.b, .int .u64 i.l, .int .u64 i.s]] w fun e w' => e = .returned (.bool (xs.any (fun x : EV => idEq x.id i))) ∧ Ext w w' := by
  have HS := hid hS
  clear hS
  go_enter Try.func38, Try.ntmps38
  go_wp2_with (go_at_call 60; refine (containsFuncE_any _ _ _ xs (fun x : EV => idEq x.id i) _ _ _ (HS.out.ext ((Ext.refl _).alloc _)) (fun _ _ => by kernel_rfl) (fun x _ w' hw => vof1_any x i _ w' (hw.keep (by simp)) (hw.keep (by simp)) (hw.keep (by simp)))).mono ?_; rintro e w' ⟨rfl, hb⟩; have hx := hid hb; clear hb)
  go_ret
  refine ⟨rfl, ?_⟩
  (repeat (first | exact Ext.refl _ | refine Ext.alloc ?_ _ | refine Ext.drewN ?_ _ | refine Ext.drew ?_ | refine Ext.trans ?_ (Hid.out (by assumption))))

theorem oof1_any (x : EV) (i : Id) (cp : Nat) (w : World) (h0 : w.cell? ⟨cp, 0, none⟩ = some (.int .i64 i.b)) (h1 : w.cell? ⟨cp, 1, none⟩ = some (.int .u64 i.l)) (h2 : w.cell? ⟨cp, 2, none⟩ = some (.int .u64 i.s)) :
    Calls Try.prog 68 #[.agg #[.int .i64 x.k, .int .i64 x.id.b, .int .u64 x.id.l, .int .u64 x.id.s, .int .i64 x.c, .int .u64 x.u, .slice x.f.a x.f.n x.f.c, .slice x.e.a x.e.n x.e.c], .pointer (some ⟨cp, 0, none⟩)] w fun e w' => e = .returned (.bool (idEq x.id i)) ∧ Ext w w' := by
  have heq := run_eqId x.id.b x.id.l x.id.s i.b i.l i.s
  have k0 := ((Ext.refl w).alloc (Obj.cells #[.int .i64 x.k, .int .i64 x.id.b, .int .u64 x.id.l, .int .u64 x.id.s, .int .i64 x.c, .int .u64 x.u, .slice x.f.a x.f.n x.f.c, .slice x.e.a x.e.n x.e.c] 50)).keep h0
  have k1 := ((Ext.refl w).alloc (Obj.cells #[.int .i64 x.k, .int .i64 x.id.b, .int .u64 x.id.l, .int .u64 x.id.s, .int .i64 x.c, .int .u64 x.u, .slice x.f.a x.f.n x.f.c, .slice x.e.a x.e.n x.e.c] 50)).keep h1
  have k2 := ((Ext.refl w).alloc (Obj.cells #[.int .i64 x.k, .int .i64 x.id.b, .int .u64 x.id.l, .int .u64 x.id.s, .int .i64 x.c, .int .u64 x.u, .slice x.f.a x.f.n x.f.c, .slice x.e.a x.e.n x.e.c] 50)).keep h2
  go_enter Try.func68, Try.ntmps68
  go_wp2
  go_ret
  refine ⟨rfl, ?_⟩
  (repeat (first | exact Ext.refl _ | refine Ext.alloc ?_ _ | refine Ext.drewN ?_ _ | refine Ext.drew ?_ | refine Ext.trans ?_ (Hid.out (by assumption))))

theorem oof_any (a : Option Addr) (n cap : Nat) (xs : List EV) (i : Id) (w : World) (hS : Sl w 8 EV.cs a n cap xs) :
    Calls Try.prog 54 #[.slice a n cap, .agg #[.int .i64 i.b, .int .u64 i.l, .int .u64 i.s]] w fun e w' => e = .returned (.bool (xs.any (fun x : EV => idEq x.id i))) ∧ Ext w w' := by
  have HS := hid hS
  clear hS
  go_enter Try.func54, Try.ntmps54
  go_wp2_with (go_at_call 60; refine (containsFuncE_any _ _ _ xs (fun x : EV => idEq x.id i) _ _ _ (HS.out.ext ((Ext.refl _).alloc _)) (fun _ _ => by kernel_rfl) (fun x _ w' hw => oof1_any x i _ w' (hw.keep (by simp)) (hw.keep (by simp)) (hw.keep (by simp)))).mono ?_; rintro e w' ⟨rfl, hb⟩; have hx := hid hb; clear hb)
  go_ret
  refine ⟨rfl, ?_⟩
  (repeat (first | exact Ext.refl _ | refine Ext.alloc ?_ _ | refine Ext.drewN ?_ _ | refine Ext.drew ?_ | refine Ext.trans ?_ (Hid.out (by assumption))))

end Go.Proofs.Ytncadipipomebaa
