/- A client's batch: the walks of the library's ContainsFunc and of the program's Batch. -/
import Derived.Test.YtiifflojpoobpaaGreatApp2
import Derived.Test.YtiifflojpoobpaaGreatEvs15
import Derived.Test.YtiifflojpoobpaaGreatMatches
import Derived.Laws.EntriesVeiled
set_option linter.unusedVariables false
set_option linter.unusedSimpArgs false
namespace Go.Proofs.YtiifflojpoobpaaGreat
open Go.RowKit

theorem indexS_any (a : Option Addr) (n cap : Nat) (xs : List SB) (p : SB → Bool) (fn : Nat) (cp : Addr) (w : World) (hS : Sl w 3 SB.cs a n cap xs)
    (hf : ∀ args w, (callFunc fn args).run Tryz.prog w = .ok (.enter fn args) w)
    (hp : ∀ x, x ∈ xs → ∀ w', Ext w w' → Calls Tryz.prog fn #[.agg #[.int .i64 x.c, .int .u64 x.u, .slice x.f.a x.f.n x.f.c], .pointer (some cp)] w' fun e w'' => e = .returned (.bool (p x)) ∧ Ext w' w'') :
    Calls Tryz.prog 65 #[.slice a n cap, .func (.func fn) #[] #[.pointer (some cp)]] w fun e w' => e = .returned (.int .i64 (idxBy p xs)) ∧ Ext w w' := by
  obtain rfl := hS.neq
  have hm := hS.max
  have hl := hS.len
  unfold maxLen at hm
  have HS := hid hS
  clear hS
  have HP := hid hp
  clear hp
  go_enter Tryz.func65, Tryz.ntmps65
  go_wp2_with fail
  go_loopg [5, 8] (xs.length) (fun g _ st wr => ∃ k : Nat, g + k = xs.length ∧ st = .int .i64 k ∧ Hid ((xs.take k).any p = false) ∧ Hid (Ext w wr))
  case atStart => exact ⟨0, by omega, rfl, rfl, Ext.refl _⟩
  case round =>
    obtain ⟨k, hg, rfl, hno, hx⟩ := hrel
    by_cases hk : k < xs.length
    · obtain ⟨b, o, rfl, hc⟩ := HS.out.get k hk
      obtain ⟨c0, c1, c2⟩ := cellsSB (w := wr) (b := b) (o := o + k * 3) (x := xs[k]) (fun j v hj => hx.out.keep (hc j v hj))
      clear hc
      have b0 : (0 : Int) ≤ (k : Int) := by omega
      have b1 : (k : Int) < (xs.length : Int) := by omega
      cases he : p xs[k] with
      | true =>
        have He := hid he
        clear he
        go_wp2_with fail
        refine (HP.out xs[k] (List.getElem_mem hk) _ hx.out).mono ?_
        rintro e w1 ⟨rfl, hb⟩
        have hy := hid hb
        clear hb
        rw [He.out]
        go_wp2
        go_ret
        refine ⟨ret_int (idx_found (p := p) hk hno.out He.out), ?_⟩
        (repeat (first | exact Ext.refl _ | refine Ext.alloc ?_ _ | refine Ext.drewN ?_ _ | refine Ext.drew ?_ | refine Ext.trans ?_ (Hid.out (by assumption))))
      | false =>
        have He := hid he
        clear he
        go_wp2_with fail
        refine (HP.out xs[k] (List.getElem_mem hk) _ hx.out).mono ?_
        rintro e w1 ⟨rfl, hb⟩
        have hy := hid hb
        clear hb
        rw [He.out]
        go_wp2
        go_roundg (gk - 1)
        case measure => omega
        case rel => exact ⟨k + 1, by omega, by go_num, any_take (p := p) hk hno.out He.out, (by (repeat (first | exact Ext.refl _ | refine Ext.alloc ?_ _ | refine Ext.drewN ?_ _ | refine Ext.drew ?_ | refine Ext.trans ?_ (Hid.out (by assumption)))))⟩
    · go_wp2
      go_ret
      refine ⟨ret_int (idx_none (any_none (p := p) hno.out hk)), ?_⟩
      (repeat (first | exact Ext.refl _ | refine Ext.alloc ?_ _ | refine Ext.drewN ?_ _ | refine Ext.drew ?_ | refine Ext.trans ?_ (Hid.out (by assumption))))
theorem someS_any (a : Option Addr) (n cap : Nat) (xs : List SB) (p : SB → Bool) (fn : Nat) (cp : Addr) (w : World) (hS : Sl w 3 SB.cs a n cap xs)
    (hf : ∀ args w, (callFunc fn args).run Tryz.prog w = .ok (.enter fn args) w)
    (hp : ∀ x, x ∈ xs → ∀ w', Ext w w' → Calls Tryz.prog fn #[.agg #[.int .i64 x.c, .int .u64 x.u, .slice x.f.a x.f.n x.f.c], .pointer (some cp)] w' fun e w'' => e = .returned (.bool (p x)) ∧ Ext w' w'') :
    Calls Tryz.prog 49 #[.slice a n cap, .func (.func fn) #[] #[.pointer (some cp)]] w fun e w' => e = .returned (.bool (xs.any p)) ∧ Ext w w' := by
  have HS := hid hS
  have HP := hid hp
  clear hS hp
  go_enter Tryz.func49, Tryz.ntmps49
  go_wp2_with fail
  refine (indexS_any _ _ _ xs p fn cp _ (HS.out.ext (by (repeat (first | exact Ext.refl _ | refine Ext.alloc ?_ _ | refine Ext.drewN ?_ _ | refine Ext.drew ?_ | refine Ext.trans ?_ (Hid.out (by assumption)))))) hf (fun x hx w' hw => HP.out x hx w' (Ext.trans (by (repeat (first | exact Ext.refl _ | refine Ext.alloc ?_ _ | refine Ext.drewN ?_ _ | refine Ext.drew ?_ | refine Ext.trans ?_ (Hid.out (by assumption))))) hw))).mono ?_
  rintro e w1 ⟨rfl, hb⟩
  have hy := hid hb
  clear hb
  go_wp2
  go_ret
  refine ⟨ret_bool (idx_ge p xs), ?_⟩
  (repeat (first | exact Ext.refl _ | refine Ext.alloc ?_ _ | refine Ext.drewN ?_ _ | refine Ext.drew ?_ | refine Ext.trans ?_ (Hid.out (by assumption))))
theorem batch1_any (x : SB) (pb : Nat) (c : Int) (w : World) (hc : w.cell? ⟨pb, 0, none⟩ = some (.int .i64 c)) :
    Calls Tryz.prog 47 #[.agg #[.int .i64 x.c, .int .u64 x.u, .slice x.f.a x.f.n x.f.c], .pointer (some ⟨pb, 0, none⟩)] w fun e w' => e = .returned (.bool (decide (x.c = c))) ∧ Ext w w' := by
  have k0 := ((Ext.refl w).alloc (Obj.cells #[.int .i64 x.c, .int .u64 x.u, .slice x.f.a x.f.n x.f.c] 57)).keep hc
  go_enter Tryz.func47, Tryz.ntmps47
  go_wp2
  all_goals
    go_ret
    refine ⟨ret_bool (by rw [Bool.eq_iff_iff]; simp), ?_⟩
    (repeat (first | exact Ext.refl _ | refine Ext.alloc ?_ _ | refine Ext.drewN ?_ _ | refine Ext.drew ?_ | refine Ext.trans ?_ (Hid.out (by assumption))))
theorem batch21_any (x : SB) (pb : Nat) (ea : Option Addr) (en ec : Nat) (es : List AT) (w : World) (hF : Sl w 5 T.cs x.f.a x.f.n x.f.c x.ts) (hE : Sl w 4 AT.cs ea en ec es) (hc : w.cell? ⟨pb, 0, none⟩ = some (.slice ea en ec)) :
    Calls Tryz.prog 50 #[.agg #[.int .i64 x.c, .int .u64 x.u, .slice x.f.a x.f.n x.f.c], .pointer (some ⟨pb, 0, none⟩)] w fun e w' => e = .returned (.bool (matchesT x.ts es)) ∧ Ext w w' := by
  have k0 := ((Ext.refl w).alloc (Obj.cells #[.int .i64 x.c, .int .u64 x.u, .slice x.f.a x.f.n x.f.c] 57)).keep hc
  have HF := hid hF
  have HE := hid hE
  clear hF hE
  go_enter Tryz.func50, Tryz.ntmps50
  go_wp2_with fail
  refine (matches_any _ _ _ x.ts _ _ _ es _ (HF.out.ext (by (repeat (first | exact Ext.refl _ | refine Ext.alloc ?_ _ | refine Ext.drewN ?_ _ | refine Ext.drew ?_ | refine Ext.trans ?_ (Hid.out (by assumption)))))) (HE.out.ext (by (repeat (first | exact Ext.refl _ | refine Ext.alloc ?_ _ | refine Ext.drewN ?_ _ | refine Ext.drew ?_ | refine Ext.trans ?_ (Hid.out (by assumption))))))).mono ?_
  rintro e w1 ⟨rfl, hb⟩
  have hy := hid hb
  clear hb
  go_wp2
  go_ret
  refine ⟨rfl, ?_⟩
  (repeat (first | exact Ext.refl _ | refine Ext.alloc ?_ _ | refine Ext.drewN ?_ _ | refine Ext.drew ?_ | refine Ext.trans ?_ (Hid.out (by assumption))))
theorem batch2_any (x : EvV) (pb : Nat) (a : Option Addr) (n cap : Nat) (xs : List SB) (w : World) (hE : Sl w 4 AT.cs x.v.a x.v.n x.v.c x.ats) (hS : Subs w a n cap xs) (hc : w.cell? ⟨pb, 0, none⟩ = some (.slice a n cap)) :
    Calls Tryz.prog 48 #[.slice x.v.a x.v.n x.v.c, .pointer (some ⟨pb, 0, none⟩)] w fun e w' => e = .returned (.bool (xs.any fun s => matchesT s.ts x.ats)) ∧ Ext w w' := by
  have k0 := ((Ext.refl w).alloc (Obj.cells #[.slice x.v.a x.v.n x.v.c] 55)).keep hc
  have HS := hid hS
  have HE := hid hE
  clear hS hE
  go_enter Tryz.func48, Tryz.ntmps48
  go_wp2_with fail
  refine (someS_any _ _ _ xs (fun s => matchesT s.ts x.ats) 50 ⟨w.heap.size, 0, none⟩ _ (HS.out.sl.ext (by (repeat (first | exact Ext.refl _ | refine Ext.alloc ?_ _ | refine Ext.drewN ?_ _ | refine Ext.drew ?_ | refine Ext.trans ?_ (Hid.out (by assumption)))))) (fun _ _ => by kernel_rfl) (fun s hs w' hw => batch21_any s w.heap.size _ _ _ x.ats w' (((HS.out.ts s hs).ext (by (repeat (first | exact Ext.refl _ | refine Ext.alloc ?_ _ | refine Ext.drewN ?_ _ | refine Ext.drew ?_ | refine Ext.trans ?_ (Hid.out (by assumption)))))).ext hw) ((HE.out.ext (by (repeat (first | exact Ext.refl _ | refine Ext.alloc ?_ _ | refine Ext.drewN ?_ _ | refine Ext.drew ?_ | refine Ext.trans ?_ (Hid.out (by assumption)))))).ext hw) (hw.keep (by simp)))).mono ?_
  rintro e w1 ⟨rfl, hb⟩
  have hy := hid hb
  clear hb
  go_wp2
  go_ret
  refine ⟨rfl, ?_⟩
  (repeat (first | exact Ext.refl _ | refine Ext.alloc ?_ _ | refine Ext.drewN ?_ _ | refine Ext.drew ?_ | refine Ext.trans ?_ (Hid.out (by assumption))))
end Go.Proofs.YtiifflojpoobpaaGreat
