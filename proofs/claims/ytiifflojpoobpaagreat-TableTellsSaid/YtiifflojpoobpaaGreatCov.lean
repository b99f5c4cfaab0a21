/- Which filter covers which: the walks of the program's some, Covers. -/
import Derived.Test.YtiifflojpoobpaaGreatImp
set_option linter.unusedVariables false
set_option linter.unusedSimpArgs false
namespace Go.Proofs.YtiifflojpoobpaaGreat
open Go.RowKit

theorem someT_any (a : Option Addr) (n cap : Nat) (xs : List T) (p : T → Bool) (fn : Nat) (cp : Addr) (w : World) (hS : Sl w 5 T.cs a n cap xs)
    (hf : ∀ args w, (callFunc fn args).run Tryz.prog w = .ok (.enter fn args) w)
    (hp : ∀ x, x ∈ xs → ∀ w', Ext w w' → Calls Tryz.prog fn #[.agg #[.string x.nm, .int .i64 x.op, .int .i64 x.k, .int .i64 x.n, .string x.s], .pointer (some cp)] w' fun e w'' => e = .returned (.bool (p x)) ∧ Ext w' w'') :
    Calls Tryz.prog 67 #[.slice a n cap, .func (.func fn) #[] #[.pointer (some cp)]] w fun e w' => e = .returned (.bool (xs.any p)) ∧ Ext w w' := by
  obtain rfl := hS.neq
  have hm := hS.max
  have hl := hS.len
  unfold maxLen at hm
  have HS := hid hS
  clear hS
  have HP := hid hp
  clear hp
  go_enter Tryz.func67, Tryz.ntmps67
  go_wp2_with fail
  go_loopg [9] (xs.length) (fun g st wr => ∃ k : Nat, g + k = xs.length ∧ st = .int .i64 k ∧ Hid ((xs.take k).any p = false) ∧ Hid (Ext w wr))
  case atStart => exact ⟨0, by omega, rfl, rfl, Ext.refl _⟩
  case round =>
    obtain ⟨k, hg, rfl, hno, hx⟩ := hrel
    by_cases hk : k < xs.length
    · obtain ⟨b, o, rfl, hc⟩ := HS.out.get k hk
      obtain ⟨c0, c1, c2, c3, c4⟩ := cellsT (w := wr) (b := b) (o := o + k * 5) (x := xs[k]) (fun j v hj => hx.out.keep (hc j v hj))
      clear hc
      have b0 : (0 : Int) ≤ (k : Int) := by omega
      have b1 : (k : Int) < (xs.length : Int) := by omega
      cases he : p xs[k] with
      | true =>
        have He := hid he
        clear he
        go_wp2_with fail
        refine (HP.out xs[k] (List.getElem_mem hk) _ (hx.out.alloc _)).mono ?_
        rintro e w1 ⟨rfl, hb⟩
        have hy := hid hb
        clear hb
        rw [He.out]
        go_wp2
        go_ret
        refine ⟨ret_bool (any_found (p := p) hk He.out), ?_⟩
        (repeat (first | exact Ext.refl _ | refine Ext.alloc ?_ _ | refine Ext.drewN ?_ _ | refine Ext.drew ?_ | refine Ext.trans ?_ (Hid.out (by assumption))))
      | false =>
        have He := hid he
        clear he
        go_wp2_with fail
        refine (HP.out xs[k] (List.getElem_mem hk) _ (hx.out.alloc _)).mono ?_
        rintro e w1 ⟨rfl, hb⟩
        have hy := hid hb
        clear hb
        rw [He.out]
        go_wp2
        go_roundg (gk - 1)
        case measure => omega
        case rel => exact ⟨k + 1, by omega, by go_num, any_take (p := p) hk hno.out He.out, (by (repeat (first | exact Ext.refl _ | refine Ext.alloc ?_ _ | refine Ext.drewN ?_ _ | refine Ext.drew ?_ | refine Ext.trans ?_ (Hid.out (by assumption)))))⟩
    · go_wp2
      go_ret
      refine ⟨ret_bool (any_none (p := p) hno.out hk), ?_⟩
      (repeat (first | exact Ext.refl _ | refine Ext.alloc ?_ _ | refine Ext.drewN ?_ _ | refine Ext.drew ?_ | refine Ext.trans ?_ (Hid.out (by assumption))))
theorem cov1_any (x t : T) (cp : Nat) (w : World) (h0 : w.cell? ⟨cp, 0, none⟩ = some (.string t.nm)) (h1 : w.cell? ⟨cp, 1, none⟩ = some (.int .i64 t.op)) (h2 : w.cell? ⟨cp, 2, none⟩ = some (.int .i64 t.k)) (h3 : w.cell? ⟨cp, 3, none⟩ = some (.int .i64 t.n)) (h4 : w.cell? ⟨cp, 4, none⟩ = some (.string t.s)) :
    Calls Tryz.prog 68 #[.agg #[.string x.nm, .int .i64 x.op, .int .i64 x.k, .int .i64 x.n, .string x.s], .pointer (some ⟨cp, 0, none⟩)] w fun e w' => e = .returned (.bool (impT x.ts t.ts)) ∧ Ext w w' := by
  have k0 := ((Ext.refl w).alloc (Obj.cells #[.string x.nm, .int .i64 x.op, .int .i64 x.k, .int .i64 x.n, .string x.s] 50)).keep h0
  have k1 := ((Ext.refl w).alloc (Obj.cells #[.string x.nm, .int .i64 x.op, .int .i64 x.k, .int .i64 x.n, .string x.s] 50)).keep h1
  have k2 := ((Ext.refl w).alloc (Obj.cells #[.string x.nm, .int .i64 x.op, .int .i64 x.k, .int .i64 x.n, .string x.s] 50)).keep h2
  have k3 := ((Ext.refl w).alloc (Obj.cells #[.string x.nm, .int .i64 x.op, .int .i64 x.k, .int .i64 x.n, .string x.s] 50)).keep h3
  have k4 := ((Ext.refl w).alloc (Obj.cells #[.string x.nm, .int .i64 x.op, .int .i64 x.k, .int .i64 x.n, .string x.s] 50)).keep h4
  go_enter Tryz.func68, Tryz.ntmps68
  go_wp2_with (go_at_call 69; refine (implies_any x t _).mono ?_; rintro e w' ⟨rfl, hb⟩; have hx := hid hb; clear hb)
  go_ret
  refine ⟨rfl, ?_⟩
  (repeat (first | exact Ext.refl _ | refine Ext.alloc ?_ _ | refine Ext.drewN ?_ _ | refine Ext.drew ?_ | refine Ext.trans ?_ (Hid.out (by assumption))))
/-- whether one filter matches all that another one does, as far as tests tell -/
def cov (f g : List T) : Bool := f.all fun t => g.any fun b => impT b.ts t.ts
theorem cov_take {f g : List T} {k : Nat} (hk : k < f.length) (h : cov (f.take k) g = true) (he : g.any (fun b => impT b.ts f[k].ts) = true) : cov (f.take (k + 1)) g = true := by
  unfold cov at *; rw [List.take_succ_eq_append_getElem hk, List.all_append, h]; simpa using he
theorem cov_no {f g : List T} {k : Nat} (hk : k < f.length) (he : g.any (fun b => impT b.ts f[k].ts) = false) : false = cov f g := by
  unfold cov
  rw [eq_comm, List.all_eq_false]
  exact ⟨f[k], List.getElem_mem hk, by rw [he]; decide⟩
theorem covers_any (fa ga : Option Addr) (fl gl fc gc : Nat) (xs ys : List T) (w : World) (hF : Sl w 5 T.cs fa fl fc xs) (hG : Sl w 5 T.cs ga gl gc ys) :
    Calls Tryz.prog 58 #[.slice fa fl fc, .slice ga gl gc] w fun e w' => e = .returned (.bool (cov xs ys)) ∧ Ext w w' := by
  obtain rfl := hF.neq
  have hm := hF.max
  have hl := hF.len
  unfold maxLen at hm
  have HF := hid hF
  have HG := hid hG
  clear hF hG
  go_enter Tryz.func58, Tryz.ntmps58
  go_wp2_with fail
  go_loopg [9] (xs.length) (fun g st wr => ∃ k : Nat, g + k = xs.length ∧ st = .int .i64 k ∧ Hid (cov (xs.take k) ys = true) ∧ Hid (Ext w wr))
  case atStart => exact ⟨0, by omega, rfl, rfl, Ext.refl _⟩
  case round =>
    obtain ⟨k, hg, rfl, hok, hx⟩ := hrel
    by_cases hk : k < xs.length
    · obtain ⟨b, o, rfl, hc⟩ := HF.out.get k hk
      obtain ⟨c0, c1, c2, c3, c4⟩ := cellsT (w := wr) (b := b) (o := o + k * 5) (x := xs[k]) (fun j v hj => hx.out.keep (hc j v hj))
      have j0 : (wr.alloc (Obj.cells #[.string xs[k].nm, .int .i64 xs[k].op, .int .i64 xs[k].k, .int .i64 xs[k].n, .string xs[k].s] 50)).cell? ⟨wr.heap.size, 0, none⟩ = some (.string xs[k].nm) := cellH (heap_alloc_new _ _) rfl
      have j1 : (wr.alloc (Obj.cells #[.string xs[k].nm, .int .i64 xs[k].op, .int .i64 xs[k].k, .int .i64 xs[k].n, .string xs[k].s] 50)).cell? ⟨wr.heap.size, 1, none⟩ = some (.int .i64 xs[k].op) := cellH (heap_alloc_new _ _) rfl
      have j2 : (wr.alloc (Obj.cells #[.string xs[k].nm, .int .i64 xs[k].op, .int .i64 xs[k].k, .int .i64 xs[k].n, .string xs[k].s] 50)).cell? ⟨wr.heap.size, 2, none⟩ = some (.int .i64 xs[k].k) := cellH (heap_alloc_new _ _) rfl
      have j3 : (wr.alloc (Obj.cells #[.string xs[k].nm, .int .i64 xs[k].op, .int .i64 xs[k].k, .int .i64 xs[k].n, .string xs[k].s] 50)).cell? ⟨wr.heap.size, 3, none⟩ = some (.int .i64 xs[k].n) := cellH (heap_alloc_new _ _) rfl
      have j4 : (wr.alloc (Obj.cells #[.string xs[k].nm, .int .i64 xs[k].op, .int .i64 xs[k].k, .int .i64 xs[k].n, .string xs[k].s] 50)).cell? ⟨wr.heap.size, 4, none⟩ = some (.string xs[k].s) := cellH (heap_alloc_new _ _) rfl
      clear hc
      have b0 : (0 : Int) ≤ (k : Int) := by omega
      have b1 : (k : Int) < (xs.length : Int) := by omega
      cases he : ys.any (fun b => impT b.ts xs[k].ts) with
      | false =>
        have He := hid he
        clear he
        go_wp2_with (go_at_call 67; refine (someT_any _ _ _ ys (fun b => impT b.ts xs[k].ts) _ _ _ (HG.out.ext (by (repeat (first | exact Ext.refl _ | refine Ext.alloc ?_ _ | refine Ext.drewN ?_ _ | refine Ext.drew ?_ | refine Ext.trans ?_ (Hid.out (by assumption)))))) (fun _ _ => by kernel_rfl) (fun x _ w' hw => cov1_any x xs[k] _ w' (hw.keep j0) (hw.keep j1) (hw.keep j2) (hw.keep j3) (hw.keep j4))).mono ?_; rintro e w' ⟨he, hb⟩; rw [He.out] at he; subst he; have hy := hid hb; clear hb)
        go_ret
        refine ⟨ret_bool (cov_no hk He.out), ?_⟩
        (repeat (first | exact Ext.refl _ | refine Ext.alloc ?_ _ | refine Ext.drewN ?_ _ | refine Ext.drew ?_ | refine Ext.trans ?_ (Hid.out (by assumption))))
      | true =>
        have He := hid he
        clear he
        go_wp2_with (go_at_call 67; refine (someT_any _ _ _ ys (fun b => impT b.ts xs[k].ts) _ _ _ (HG.out.ext (by (repeat (first | exact Ext.refl _ | refine Ext.alloc ?_ _ | refine Ext.drewN ?_ _ | refine Ext.drew ?_ | refine Ext.trans ?_ (Hid.out (by assumption)))))) (fun _ _ => by kernel_rfl) (fun x _ w' hw => cov1_any x xs[k] _ w' (hw.keep j0) (hw.keep j1) (hw.keep j2) (hw.keep j3) (hw.keep j4))).mono ?_; rintro e w' ⟨he, hb⟩; rw [He.out] at he; subst he; have hy := hid hb; clear hb)
        go_roundg (gk - 1)
        case measure => omega
        case rel => exact ⟨k + 1, by omega, by go_num, cov_take hk hok.out He.out, (by (repeat (first | exact Ext.refl _ | refine Ext.alloc ?_ _ | refine Ext.drewN ?_ _ | refine Ext.drew ?_ | refine Ext.trans ?_ (Hid.out (by assumption)))))⟩
    · have hk' : xs.take k = xs := List.take_of_length_le (by omega)
      rw [hk'] at hok
      clear hk'
      go_wp2
      go_ret
      refine ⟨ret_bool hok.out.symm, ?_⟩
      (repeat (first | exact Ext.refl _ | refine Ext.alloc ?_ _ | refine Ext.drewN ?_ _ | refine Ext.drew ?_ | refine Ext.trans ?_ (Hid.out (by assumption))))
end Go.Proofs.YtiifflojpoobpaaGreat
