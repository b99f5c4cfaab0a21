/- What a covered filter matches the covering one does: the statement's walk. -/
import Derived.Test.YtclmbonippjhoaaAwake07
set_option linter.unusedVariables false
set_option linter.unusedSimpArgs false
namespace Go.Proofs.Ytclmbonippjhoaa
open Go.RowKit

theorem two_flts {w : World} {B : Nat} {t : TypeId} {fr : Nat × Nat} {fa ga : Option Addr} {fn gn fc gc : Nat} {fs gs : List T} (h : w.heap[B]? = some (.cells #[.slice fa fn fc, .slice ga gn gc] t fr)) (hF : Sl w 5 T.cs fa fn fc fs) (hG : Sl w 5 T.cs ga gn gc gs) :
    Flts w (some ⟨B, 0, none⟩) 2 2 [⟨⟨fa, fn, fc⟩, fs⟩, ⟨⟨ga, gn, gc⟩, gs⟩] :=
  ⟨sl_ofBlock _ FV.wid rfl (by simp) h rfl, fun x hx => by
    simp only [List.mem_cons, List.not_mem_nil, or_false] at hx
    rcases hx with rfl | rfl
    · exact hF
    · exact hG⟩
set_option maxRecDepth 100000 in
set_option maxHeartbeats 4000000 in
theorem sound07_any (fa : Option Addr) (fn fc : Nat) (fs : List T) (ga : Option Addr) (gn gc : Nat) (gs : List T) (ea : Option Addr) (en ec : Nat) (es : List AT) (w : World) (hF : Sl w 5 T.cs fa fn fc fs) (hG : Sl w 5 T.cs ga gn gc gs) (hE : Sl w 4 AT.cs ea en ec es) :
    Calls Try.prog 13 #[.slice fa fn fc, .slice ga gn gc, .slice ea en ec] w fun e w' => e = .returned (.bool true) ∧ Ext w w' := by
  have HF := hid hF
  have HG := hid hG
  have HE := hid hE
  clear hF hG hE
  go_enter Try.func13, Try.ntmps13
  go_wp2_with fail
  refine (awake07_any w).mono ?_
  rintro e w1 ⟨rfl, hb⟩
  have hx1 := hid hb
  clear hb
  go_wp2_with fail
  refine (few07_any _ _ _ _ _ (two_flts (t := 29) (fr := (0, 0)) (by (repeat (first | (refine heap_new ?_; (simp; done)) | refine heap_old (by first | (simp; done) | (simp; omega)) ?_))) (HF.out.ext (by (repeat (first | exact Ext.refl _ | refine Ext.alloc ?_ _ | refine Ext.drewN ?_ _ | refine Ext.drew ?_ | refine Ext.trans ?_ (Hid.out (by assumption)))))) (HG.out.ext (by (repeat (first | exact Ext.refl _ | refine Ext.alloc ?_ _ | refine Ext.drewN ?_ _ | refine Ext.drew ?_ | refine Ext.trans ?_ (Hid.out (by assumption)))))))).mono ?_
  rintro e w2 ⟨f1, rfl, hf, hb⟩
  have hx2 := hid (Ext.trans ((Ext.refl w1).alloc _) hb)
  clear hb hf
  cases f1
  · go_wp2
    go_ret
    refine ⟨rfl, ?_⟩
    (repeat (first | exact Ext.refl _ | refine Ext.alloc ?_ _ | refine Ext.drewN ?_ _ | refine Ext.drew ?_ | refine Ext.trans ?_ (Hid.out (by assumption))))
  go_wp2_with fail
  refine (few04_any _ _ _ es _ (HE.out.ext (by (repeat (first | exact Ext.refl _ | refine Ext.alloc ?_ _ | refine Ext.drewN ?_ _ | refine Ext.drew ?_ | refine Ext.trans ?_ (Hid.out (by assumption))))))).mono ?_
  rintro e w3 ⟨f2, rfl, hf, hb⟩
  have hx3 := hid hb
  clear hb hf
  cases f2
  · go_wp2
    go_ret
    refine ⟨rfl, ?_⟩
    (repeat (first | exact Ext.refl _ | refine Ext.alloc ?_ _ | refine Ext.drewN ?_ _ | refine Ext.drew ?_ | refine Ext.trans ?_ (Hid.out (by assumption))))
  go_wp2_with fail
  refine (may_any _ _ _ _ _ (two_flts (t := 29) (fr := (0, 0)) (by (repeat (first | (refine heap_new ?_; (simp; done)) | refine heap_old (by first | (simp; done) | (simp; omega)) ?_))) (HF.out.ext (by (repeat (first | exact Ext.refl _ | refine Ext.alloc ?_ _ | refine Ext.drewN ?_ _ | refine Ext.drew ?_ | refine Ext.trans ?_ (Hid.out (by assumption)))))) (HG.out.ext (by (repeat (first | exact Ext.refl _ | refine Ext.alloc ?_ _ | refine Ext.drewN ?_ _ | refine Ext.drew ?_ | refine Ext.trans ?_ (Hid.out (by assumption)))))))).mono ?_
  rintro e w4 ⟨f3, rfl, hf, hb⟩
  have hx4 := hid (Ext.trans ((Ext.refl w3).alloc _) hb)
  have HC := hid hf
  clear hb hf
  cases f3
  · go_wp2
    go_ret
    refine ⟨rfl, ?_⟩
    (repeat (first | exact Ext.refl _ | refine Ext.alloc ?_ _ | refine Ext.drewN ?_ _ | refine Ext.drew ?_ | refine Ext.trans ?_ (Hid.out (by assumption))))
  have hgk := hid (chk_ok (HC.out rfl _ (List.mem_cons_of_mem _ (List.mem_cons_self ..)))).2
  clear HC
  go_wp2_with fail
  refine (chkE_any _ _ _ es _ (HE.out.ext (by (repeat (first | exact Ext.refl _ | refine Ext.alloc ?_ _ | refine Ext.drewN ?_ _ | refine Ext.drew ?_ | refine Ext.trans ?_ (Hid.out (by assumption))))))).mono ?_
  rintro e w5 ⟨z, rfl, hz, hz2, hb⟩
  have hx5 := hid hb
  clear hb
  rcases hz2 with rfl | rfl
  · have hek := hid (hz rfl)
    clear hz
    go_wp2_with fail
    refine (covers_any _ _ _ _ _ _ fs gs _ (HF.out.ext (by (repeat (first | exact Ext.refl _ | refine Ext.alloc ?_ _ | refine Ext.drewN ?_ _ | refine Ext.drew ?_ | refine Ext.trans ?_ (Hid.out (by assumption)))))) (HG.out.ext (by (repeat (first | exact Ext.refl _ | refine Ext.alloc ?_ _ | refine Ext.drewN ?_ _ | refine Ext.drew ?_ | refine Ext.trans ?_ (Hid.out (by assumption))))))).mono ?_
    rintro e w6 ⟨rfl, hb⟩
    have hx6 := hid hb
    clear hb
    cases hcov : cov fs gs with
    | false =>
      clear hcov
      go_wp2
      go_ret
      refine ⟨rfl, ?_⟩
      (repeat (first | exact Ext.refl _ | refine Ext.alloc ?_ _ | refine Ext.drewN ?_ _ | refine Ext.drew ?_ | refine Ext.trans ?_ (Hid.out (by assumption))))
    | true =>
      have HCV := hid hcov
      clear hcov
      go_wp2_with fail
      refine (matches_any _ _ _ gs _ _ _ es _ (HG.out.ext (by (repeat (first | exact Ext.refl _ | refine Ext.alloc ?_ _ | refine Ext.drewN ?_ _ | refine Ext.drew ?_ | refine Ext.trans ?_ (Hid.out (by assumption)))))) (HE.out.ext (by (repeat (first | exact Ext.refl _ | refine Ext.alloc ?_ _ | refine Ext.drewN ?_ _ | refine Ext.drew ?_ | refine Ext.trans ?_ (Hid.out (by assumption))))))).mono ?_
      rintro e w7 ⟨rfl, hb⟩
      have hx7 := hid hb
      clear hb
      cases hmg : matchesT gs es with
      | false =>
        clear hmg
        go_wp2
        go_ret
        refine ⟨rfl, ?_⟩
        (repeat (first | exact Ext.refl _ | refine Ext.alloc ?_ _ | refine Ext.drewN ?_ _ | refine Ext.drew ?_ | refine Ext.trans ?_ (Hid.out (by assumption))))
      | true =>
        have hmf := cov_sound hgk.out hek.out HCV.out hmg
        have HMF := hid hmf
        clear hmg hmf
        go_wp2_with fail
        refine (matches_any _ _ _ fs _ _ _ es _ (HF.out.ext (by (repeat (first | exact Ext.refl _ | refine Ext.alloc ?_ _ | refine Ext.drewN ?_ _ | refine Ext.drew ?_ | refine Ext.trans ?_ (Hid.out (by assumption)))))) (HE.out.ext (by (repeat (first | exact Ext.refl _ | refine Ext.alloc ?_ _ | refine Ext.drewN ?_ _ | refine Ext.drew ?_ | refine Ext.trans ?_ (Hid.out (by assumption))))))).mono ?_
        rintro e w8 ⟨rfl, hb⟩
        have hx8 := hid hb
        clear hb
        rw [HMF.out]
        go_wp2
        go_ret
        refine ⟨rfl, ?_⟩
        (repeat (first | exact Ext.refl _ | refine Ext.alloc ?_ _ | refine Ext.drewN ?_ _ | refine Ext.drew ?_ | refine Ext.trans ?_ (Hid.out (by assumption))))
  · clear hz
    go_wp2
    go_ret
    refine ⟨rfl, ?_⟩
    (repeat (first | exact Ext.refl _ | refine Ext.alloc ?_ _ | refine Ext.drewN ?_ _ | refine Ext.drew ?_ | refine Ext.trans ?_ (Hid.out (by assumption))))
end Go.Proofs.Ytclmbonippjhoaa
