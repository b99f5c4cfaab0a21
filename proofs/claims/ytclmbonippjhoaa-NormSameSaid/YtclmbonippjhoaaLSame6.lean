/- A filter, and its norm, match the same events: the statement's walk. -/
import Derived.Test.YtclmbonippjhoaaAwake06
set_option linter.unusedVariables false
set_option linter.unusedSimpArgs false
namespace Go.Proofs.Ytclmbonippjhoaa
open Go.RowKit

set_option maxRecDepth 100000 in
set_option maxHeartbeats 4000000 in
theorem same06_any (fa : Option Addr) (fn fc : Nat) (fs : List T) (ea : Option Addr) (en ec : Nat) (es : List AT) (w : World) (hF : Sl w 5 T.cs fa fn fc fs) (hE : Sl w 4 AT.cs ea en ec es) :
    Calls Try.prog 8 #[.slice fa fn fc, .slice ea en ec] w fun e w' => e = .returned (.bool true) ∧ Ext w w' := by
  obtain rfl := hF.neq
  have HF := hid hF
  have HE := hid hE
  clear hF hE
  go_enter Try.func8, Try.ntmps8
  go_wp2_with fail
  refine (awake06_any w).mono ?_
  rintro e w1 ⟨rfl, hb⟩
  have hx1 := hid hb
  clear hb
  go_wp2_with fail
  refine (few05_any _ _ _ fs _ (HF.out.ext (by (repeat (first | exact Ext.refl _ | refine Ext.alloc ?_ _ | refine Ext.drewN ?_ _ | refine Ext.drew ?_ | refine Ext.trans ?_ (Hid.out (by assumption))))))).mono ?_
  rintro e w2 ⟨f1, rfl, hf, hb⟩
  have hx2 := hid hb
  have HFW := hid hf
  clear hb hf
  cases f1
  · skip
    go_wp2
    go_ret
    refine ⟨rfl, ?_⟩
    (repeat (first | exact Ext.refl _ | refine Ext.alloc ?_ _ | refine Ext.drewN ?_ _ | refine Ext.drew ?_ | refine Ext.trans ?_ (Hid.out (by assumption))))
  have hlen : fs.length ≤ 10 := HFW.out rfl
  clear HFW
  go_wp2_with fail
  refine (few04_any _ _ _ es _ (HE.out.ext (by (repeat (first | exact Ext.refl _ | refine Ext.alloc ?_ _ | refine Ext.drewN ?_ _ | refine Ext.drew ?_ | refine Ext.trans ?_ (Hid.out (by assumption))))))).mono ?_
  rintro e w3 ⟨f2, rfl, hf, hb⟩
  have hx3 := hid hb
  clear hb hf
  cases f2
  · skip
    go_wp2
    go_ret
    refine ⟨rfl, ?_⟩
    (repeat (first | exact Ext.refl _ | refine Ext.alloc ?_ _ | refine Ext.drewN ?_ _ | refine Ext.drew ?_ | refine Ext.trans ?_ (Hid.out (by assumption))))
  go_wp2_with fail
  refine (chkF_any _ _ _ fs _ (HF.out.ext (by (repeat (first | exact Ext.refl _ | refine Ext.alloc ?_ _ | refine Ext.drewN ?_ _ | refine Ext.drew ?_ | refine Ext.trans ?_ (Hid.out (by assumption))))))).mono ?_
  rintro e w4 ⟨rfl, hb⟩
  have hx4 := hid hb
  clear hb
  cases hck : chkB fs with
  | false =>
    have h0 : errF false = 50 := rfl
    rw [h0]
    clear h0 hck
    go_wp2
    go_ret
    refine ⟨rfl, ?_⟩
    (repeat (first | exact Ext.refl _ | refine Ext.alloc ?_ _ | refine Ext.drewN ?_ _ | refine Ext.drew ?_ | refine Ext.trans ?_ (Hid.out (by assumption))))
  | true =>
    have h0 : errF true = 0 := rfl
    rw [h0]
    have HCK := hid hck
    clear h0 hck
    go_wp2_with fail
    refine (chkE_any _ _ _ es _ (HE.out.ext (by (repeat (first | exact Ext.refl _ | refine Ext.alloc ?_ _ | refine Ext.drewN ?_ _ | refine Ext.drew ?_ | refine Ext.trans ?_ (Hid.out (by assumption))))))).mono ?_
    rintro e w5 ⟨z, rfl, hz, hz2, hb⟩
    have hx5 := hid hb
    clear hb
    rcases hz2 with rfl | rfl
    · have hek := hid (hz rfl)
      clear hz
      obtain ⟨v, hv⟩ : ∃ v, v = matchesT fs es := ⟨_, rfl⟩
      have HV := hid hv.symm
      have HV2 := hid ((norm_matches (chk_ok HCK.out).2 hek.out).trans hv.symm)
      have HC2 := hid (show errF (chkB (normT fs)) = 0 from by rw [norm_chk HCK.out]; rfl)
      have hnl := norm_len fs
      clear hv
      go_wp2_with fail
      refine (norm_any _ _ _ fs _ (HF.out.ext (by (repeat (first | exact Ext.refl _ | refine Ext.alloc ?_ _ | refine Ext.drewN ?_ _ | refine Ext.drew ?_ | refine Ext.trans ?_ (Hid.out (by assumption)))))) hlen).mono ?_
      rintro e w6 ⟨na, nn, nc, rfl, hown, hb⟩
      have HN := hid hown.sl
      have hx6 := hid hb
      obtain rfl := HN.out.neq
      have hnl' : ((normT fs).length : Int) ≤ (fs.length : Int) := by omega
      clear hown hb
      go_wp2_with fail
      refine (matches_any _ _ _ (normT fs) _ _ _ es _ (HN.out.ext (by (repeat (first | exact Ext.refl _ | refine Ext.alloc ?_ _ | refine Ext.drewN ?_ _ | refine Ext.drew ?_ | refine Ext.trans ?_ (Hid.out (by assumption)))))) (HE.out.ext (by (repeat (first | exact Ext.refl _ | refine Ext.alloc ?_ _ | refine Ext.drewN ?_ _ | refine Ext.drew ?_ | refine Ext.trans ?_ (Hid.out (by assumption))))))).mono ?_
      rintro e w7 ⟨he, hb⟩
      rw [HV2.out] at he
      subst he
      have hx7 := hid hb
      clear hb
      go_wp2_with fail
      refine (matches_any _ _ _ fs _ _ _ es _ (HF.out.ext (by (repeat (first | exact Ext.refl _ | refine Ext.alloc ?_ _ | refine Ext.drewN ?_ _ | refine Ext.drew ?_ | refine Ext.trans ?_ (Hid.out (by assumption)))))) (HE.out.ext (by (repeat (first | exact Ext.refl _ | refine Ext.alloc ?_ _ | refine Ext.drewN ?_ _ | refine Ext.drew ?_ | refine Ext.trans ?_ (Hid.out (by assumption))))))).mono ?_
      rintro e w8 ⟨he, hb⟩
      rw [HV.out] at he
      subst he
      have hx8 := hid hb
      clear hb
      cases v
      · go_wp2_with fail
        refine (chkF_any _ _ _ (normT fs) _ (HN.out.ext (by (repeat (first | exact Ext.refl _ | refine Ext.alloc ?_ _ | refine Ext.drewN ?_ _ | refine Ext.drew ?_ | refine Ext.trans ?_ (Hid.out (by assumption))))))).mono ?_
        rintro e w9 ⟨he, hb⟩
        rw [HC2.out] at he
        subst he
        have hx9 := hid hb
        clear hb
        go_wp2
        go_ret
        refine ⟨rfl, ?_⟩
        (repeat (first | exact Ext.refl _ | refine Ext.alloc ?_ _ | refine Ext.drewN ?_ _ | refine Ext.drew ?_ | refine Ext.trans ?_ (Hid.out (by assumption))))
      · go_wp2_with fail
        refine (chkF_any _ _ _ (normT fs) _ (HN.out.ext (by (repeat (first | exact Ext.refl _ | refine Ext.alloc ?_ _ | refine Ext.drewN ?_ _ | refine Ext.drew ?_ | refine Ext.trans ?_ (Hid.out (by assumption))))))).mono ?_
        rintro e w9 ⟨he, hb⟩
        rw [HC2.out] at he
        subst he
        have hx9 := hid hb
        clear hb
        go_wp2
        go_ret
        refine ⟨rfl, ?_⟩
        (repeat (first | exact Ext.refl _ | refine Ext.alloc ?_ _ | refine Ext.drewN ?_ _ | refine Ext.drew ?_ | refine Ext.trans ?_ (Hid.out (by assumption))))
    · clear hz
      go_wp2
      go_ret
      refine ⟨rfl, ?_⟩
      (repeat (first | exact Ext.refl _ | refine Ext.alloc ?_ _ | refine Ext.drewN ?_ _ | refine Ext.drew ?_ | refine Ext.trans ?_ (Hid.out (by assumption))))
end Go.Proofs.Ytclmbonippjhoaa
