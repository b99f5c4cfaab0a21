/- Whether one of some filters matches an event: the walk of the program's Any. -/
import Derived.Test.YtiifflojpoobpaaGreatMatches
import Derived.Test.YtiifflojpoobpaaGreatRedP
set_option linter.unusedVariables false
set_option linter.unusedSimpArgs false
namespace Go.Proofs.YtiifflojpoobpaaGreat
open Go.RowKit

theorem someF_any (a : Option Addr) (n cap : Nat) (xs : List FV) (p : FV → Bool) (fn : Nat) (cp : Addr) (w : World) (hS : Flts w a n cap xs)
    (hf : ∀ args w, (callFunc fn args).run Tryz.prog w = .ok (.enter fn args) w)
    (hp : ∀ x, x ∈ xs → ∀ w', Ext w w' → Calls Tryz.prog fn #[.slice x.v.a x.v.n x.v.c, .pointer (some cp)] w' fun e w'' => e = .returned (.bool (p x)) ∧ Ext w' w'') :
    Calls Tryz.prog 62 #[.slice a n cap, .func (.func fn) #[] #[.pointer (some cp)]] w fun e w' => e = .returned (.bool (xs.any p)) ∧ Ext w w' := by
  obtain rfl := hS.sl.neq
  have hm := hS.sl.max
  have hl := hS.sl.len
  unfold maxLen at hm
  have HS := hid hS
  clear hS
  have HP := hid hp
  clear hp
  go_enter Tryz.func62, Tryz.ntmps62
  go_wp2_with fail
  go_loopg [6, 9] (xs.length) (fun g _ st wr => ∃ k : Nat, g + k = xs.length ∧ st = .int .i64 k ∧ Hid ((xs.take k).any p = false) ∧ Hid (Ext w wr))
  case atStart => exact ⟨0, by omega, rfl, rfl, Ext.refl _⟩
  case round =>
    obtain ⟨k, hg, rfl, hno, hx⟩ := hrel
    by_cases hk : k < xs.length
    · obtain ⟨b, o, rfl, hc⟩ := HS.out.sl.get k hk
      have c0 := cellsF (w := wr) (b := b) (o := o + k * 1) (x := xs[k]) (fun j v hj => hx.out.keep (hc j v hj))
      rw [Nat.mul_one] at c0
      clear hc
      have b0 : (0 : Int) ≤ (k : Int) := by omega
      have b1 : (k : Int) < (xs.length : Int) := by omega
      cases he : p xs[k] with
      | true =>
        have He := hid he
        clear he
        go_wp2_with fail
        refine (HP.out xs[k] (List.getElem_mem hk) _ hx.out).mono ?_
        rintro e w1 ⟨rfl, hb⟩
        have hy := hid hb
        clear hb
        rw [He.out]
        go_wp2
        go_ret
        refine ⟨ret_bool (any_found (p := p) hk He.out), ?_⟩
        (repeat (first | exact Ext.refl _ | refine Ext.alloc ?_ _ | refine Ext.drewN ?_ _ | refine Ext.drew ?_ | refine Ext.trans ?_ (Hid.out (by assumption))))
      | false =>
        have He := hid he
        clear he
        go_wp2_with fail
        refine (HP.out xs[k] (List.getElem_mem hk) _ hx.out).mono ?_
        rintro e w1 ⟨rfl, hb⟩
        have hy := hid hb
        clear hb
        rw [He.out]
        go_wp2
        go_roundg (gk - 1)
        case measure => omega
        case rel => exact ⟨k + 1, by omega, by go_num, any_take (p := p) hk hno.out He.out, (by (repeat (first | exact Ext.refl _ | refine Ext.alloc ?_ _ | refine Ext.drewN ?_ _ | refine Ext.drew ?_ | refine Ext.trans ?_ (Hid.out (by assumption)))))⟩
    · go_wp2
      go_ret
      refine ⟨ret_bool (any_none (p := p) hno.out hk), ?_⟩
      (repeat (first | exact Ext.refl _ | refine Ext.alloc ?_ _ | refine Ext.drewN ?_ _ | refine Ext.drew ?_ | refine Ext.trans ?_ (Hid.out (by assumption))))
theorem any1_any (x : FV) (ea : Option Addr) (en ec : Nat) (es : List AT) (cp : Nat) (w : World) (hF : Sl w 5 T.cs x.v.a x.v.n x.v.c x.ts) (hE : Sl w 4 AT.cs ea en ec es) (h0 : w.cell? ⟨cp, 0, none⟩ = some (.slice ea en ec)) :
    Calls Tryz.prog 63 #[.slice x.v.a x.v.n x.v.c, .pointer (some ⟨cp, 0, none⟩)] w fun e w' => e = .returned (.bool (matchesT x.ts es)) ∧ Ext w w' := by
  have HF := hid hF
  have HE := hid hE
  clear hF hE
  go_enter Tryz.func63, Tryz.ntmps63
  go_wp2_with (go_at_call 51; refine (matches_any _ _ _ x.ts _ _ _ es _ (HF.out.ext (by (repeat (first | exact Ext.refl _ | refine Ext.alloc ?_ _ | refine Ext.drewN ?_ _ | refine Ext.drew ?_ | refine Ext.trans ?_ (Hid.out (by assumption)))))) (HE.out.ext (by (repeat (first | exact Ext.refl _ | refine Ext.alloc ?_ _ | refine Ext.drewN ?_ _ | refine Ext.drew ?_ | refine Ext.trans ?_ (Hid.out (by assumption))))))).mono ?_; rintro e w' ⟨rfl, hb⟩; have hx := hid hb; clear hb)
  go_ret
  refine ⟨rfl, ?_⟩
  (repeat (first | exact Ext.refl _ | refine Ext.alloc ?_ _ | refine Ext.drewN ?_ _ | refine Ext.drew ?_ | refine Ext.trans ?_ (Hid.out (by assumption))))
theorem any_any (a : Option Addr) (n cap : Nat) (xs : List FV) (ea : Option Addr) (en ec : Nat) (es : List AT) (w : World) (hS : Flts w a n cap xs) (hE : Sl w 4 AT.cs ea en ec es) :
    Calls Tryz.prog 43 #[.slice a n cap, .slice ea en ec] w fun e w' => e = .returned (.bool (xs.any fun x => matchesT x.ts es)) ∧ Ext w w' := by
  have HS := hid hS
  have HE := hid hE
  clear hS hE
  go_enter Tryz.func43, Tryz.ntmps43
  go_wp2_with (go_at_call 62; refine (someF_any _ _ _ xs (fun x => matchesT x.ts es) _ _ _ (HS.out.ext (by (repeat (first | exact Ext.refl _ | refine Ext.alloc ?_ _ | refine Ext.drewN ?_ _ | refine Ext.drew ?_ | refine Ext.trans ?_ (Hid.out (by assumption)))))) (fun _ _ => by kernel_rfl) (fun x hx w' hw => any1_any x ea en ec es _ w' ((HS.out.ts x hx).ext (Ext.trans (by (repeat (first | exact Ext.refl _ | refine Ext.alloc ?_ _ | refine Ext.drewN ?_ _ | refine Ext.drew ?_ | refine Ext.trans ?_ (Hid.out (by assumption))))) hw)) (HE.out.ext (Ext.trans (by (repeat (first | exact Ext.refl _ | refine Ext.alloc ?_ _ | refine Ext.drewN ?_ _ | refine Ext.drew ?_ | refine Ext.trans ?_ (Hid.out (by assumption))))) hw)) (hw.keep (by simp)))).mono ?_; rintro e w' ⟨rfl, hb⟩; have hx := hid hb; clear hb)
  go_ret
  refine ⟨rfl, ?_⟩
  (repeat (first | exact Ext.refl _ | refine Ext.alloc ?_ _ | refine Ext.drewN ?_ _ | refine Ext.drew ?_ | refine Ext.trans ?_ (Hid.out (by assumption))))
end Go.Proofs.YtiifflojpoobpaaGreat
