/- Whether a filter covers another one, and what filters are reduced to, are what the document says: the statement's walk. -/
import Derived.Test.YtclmbonippjhoaaLSound
import Derived.Test.YtclmbonippjhoaaRReduce
set_option linter.unusedVariables false
set_option linter.unusedSimpArgs false
namespace Go.Proofs.Ytclmbonippjhoaa
open Go.RowKit

set_option maxRecDepth 100000 in
set_option maxHeartbeats 4000000 in
theorem tells07_any (fa : Option Addr) (fn fc : Nat) (fs : List T) (ga : Option Addr) (gn gc : Nat) (gs : List T) (la : Option Addr) (ln lc : Nat) (xs : List FV) (ea : Option Addr) (en ec : Nat) (es : List AT) (w : World) (hF : Sl w 5 T.cs fa fn fc fs) (hG : Sl w 5 T.cs ga gn gc gs) (hX : Flts w la ln lc xs) (hE : Sl w 4 AT.cs ea en ec es) :
    Calls Try.prog 9 #[.slice fa fn fc, .slice ga gn gc, .slice la ln lc, .slice ea en ec] w fun e w' => e = .returned (.bool true) ∧ Ext w w' := by
  obtain rfl := hX.sl.neq
  have hm := hX.sl.max
  have hl := hX.sl.len
  unfold maxLen at hm
  have HF := hid hF
  have HG := hid hG
  have HX := hid hX
  have HE := hid hE
  clear hF hG hX hE
  obtain ⟨v1, hv1⟩ : ∃ v, v = cov fs gs := ⟨_, rfl⟩
  obtain ⟨v2, hv2⟩ : ∃ v, v = xs.any (fun x => matchesT x.ts es) := ⟨_, rfl⟩
  have HV1 := hid hv1
  have HV2 := hid hv2
  clear hv1 hv2
  go_enter Try.func9, Try.ntmps9
  go_wp2_with fail
  refine (awake07_any w).mono ?_
  rintro e w1 ⟨rfl, hb⟩
  have hx1 := hid hb
  clear hb
  go_wp2_with fail
  refine (few07_any _ _ _ _ _ (two_flts (t := 29) (fr := (0, 0)) (by (repeat (first | (refine heap_new ?_; (simp; done)) | refine heap_old (by first | (simp; done) | (simp; omega)) ?_))) (HF.out.ext (by (repeat (first | exact Ext.refl _ | refine Ext.alloc ?_ _ | refine Ext.drewN ?_ _ | refine Ext.drew ?_ | refine Ext.trans ?_ (Hid.out (by assumption)))))) (HG.out.ext (by (repeat (first | exact Ext.refl _ | refine Ext.alloc ?_ _ | refine Ext.drewN ?_ _ | refine Ext.drew ?_ | refine Ext.trans ?_ (Hid.out (by assumption)))))))).mono ?_
  rintro e w2 ⟨f1, rfl, hf, hb⟩
  have hx2 := hid (Ext.trans ((Ext.refl w1).alloc _) hb)
  clear hb hf
  cases f1
  · skip
    go_wp2
    go_ret
    refine ⟨rfl, ?_⟩
    (repeat (first | exact Ext.refl _ | refine Ext.alloc ?_ _ | refine Ext.drewN ?_ _ | refine Ext.drew ?_ | refine Ext.trans ?_ (Hid.out (by assumption))))
  go_wp2_with fail
  refine (few07_any _ _ _ xs _ (HX.out.ext (by (repeat (first | exact Ext.refl _ | refine Ext.alloc ?_ _ | refine Ext.drewN ?_ _ | refine Ext.drew ?_ | refine Ext.trans ?_ (Hid.out (by assumption))))))).mono ?_
  rintro e w3 ⟨f2, rfl, hf, hb⟩
  have hx3 := hid hb
  have HFW := hid hf
  clear hb hf
  cases f2
  · skip
    go_wp2
    go_ret
    refine ⟨rfl, ?_⟩
    (repeat (first | exact Ext.refl _ | refine Ext.alloc ?_ _ | refine Ext.drewN ?_ _ | refine Ext.drew ?_ | refine Ext.trans ?_ (Hid.out (by assumption))))
  have hlen : xs.length ≤ 12 := (HFW.out rfl).1
  have HT := hid (HFW.out rfl).2
  clear HFW
  go_wp2_with fail
  refine (few04_any _ _ _ es _ (HE.out.ext (by (repeat (first | exact Ext.refl _ | refine Ext.alloc ?_ _ | refine Ext.drewN ?_ _ | refine Ext.drew ?_ | refine Ext.trans ?_ (Hid.out (by assumption))))))).mono ?_
  rintro e w4 ⟨f3, rfl, hf, hb⟩
  have hx4 := hid hb
  clear hb hf
  cases f3
  · skip
    go_wp2
    go_ret
    refine ⟨rfl, ?_⟩
    (repeat (first | exact Ext.refl _ | refine Ext.alloc ?_ _ | refine Ext.drewN ?_ _ | refine Ext.drew ?_ | refine Ext.trans ?_ (Hid.out (by assumption))))
  go_wp2_with fail
  refine (reduce_any _ _ _ xs _ (HX.out.ext (by (repeat (first | exact Ext.refl _ | refine Ext.alloc ?_ _ | refine Ext.drewN ?_ _ | refine Ext.drew ?_ | refine Ext.trans ?_ (Hid.out (by assumption)))))) (by omega) (fun x hx => ?_)).mono ?_
  · rw [(HX.out.ts x hx).neq]
    exact Nat.le_trans (HT.out x hx) (by decide)
  rintro e w5 ⟨a5, n5, c5, y5, rfl, hown, hmap, hb⟩
  have HF5 := hid hown.flts
  have HM5 := hid hmap
  have hx5 := hid hb
  clear hb hown hmap
  go_wp2_with fail
  refine (rreduce_any _ _ _ xs _ (HX.out.ext (by (repeat (first | exact Ext.refl _ | refine Ext.alloc ?_ _ | refine Ext.drewN ?_ _ | refine Ext.drew ?_ | refine Ext.trans ?_ (Hid.out (by assumption)))))) (by omega)).mono ?_
  rintro e w6 ⟨a6, n6, c6, y6, rfl, hfl, hmap, hb⟩
  have HF6 := hid hfl
  have HM6 := hid hmap
  have hx6 := hid hb
  clear hb hfl hmap
  go_wp2_with fail
  refine (same07_any _ _ _ _ _ _ y5 y6 _ (HF5.out.ext (by (repeat (first | exact Ext.refl _ | refine Ext.alloc ?_ _ | refine Ext.drewN ?_ _ | refine Ext.drew ?_ | refine Ext.trans ?_ (Hid.out (by assumption)))))) HF6.out (HM5.out.trans HM6.out.symm)).mono ?_
  rintro e w7 ⟨rfl, hb⟩
  have hx7 := hid hb
  clear hb
  go_wp2_with fail
  refine (covers_any _ _ _ _ _ _ fs gs _ (HF.out.ext (by (repeat (first | exact Ext.refl _ | refine Ext.alloc ?_ _ | refine Ext.drewN ?_ _ | refine Ext.drew ?_ | refine Ext.trans ?_ (Hid.out (by assumption)))))) (HG.out.ext (by (repeat (first | exact Ext.refl _ | refine Ext.alloc ?_ _ | refine Ext.drewN ?_ _ | refine Ext.drew ?_ | refine Ext.trans ?_ (Hid.out (by assumption))))))).mono ?_
  rintro e w8 ⟨he, hb⟩
  rw [← HV1.out] at he
  subst he
  have hx8 := hid hb
  clear hb
  go_wp2_with fail
  refine (rcovers_any _ _ _ _ _ _ fs gs _ (HF.out.ext (by (repeat (first | exact Ext.refl _ | refine Ext.alloc ?_ _ | refine Ext.drewN ?_ _ | refine Ext.drew ?_ | refine Ext.trans ?_ (Hid.out (by assumption)))))) (HG.out.ext (by (repeat (first | exact Ext.refl _ | refine Ext.alloc ?_ _ | refine Ext.drewN ?_ _ | refine Ext.drew ?_ | refine Ext.trans ?_ (Hid.out (by assumption))))))).mono ?_
  rintro e w9 ⟨he, hb⟩
  rw [← HV1.out] at he
  subst he
  have hx9 := hid hb
  clear hb
  cases v1
  · go_wp2_with fail
    refine (any_any _ _ _ xs _ _ _ es _ (HX.out.ext (by (repeat (first | exact Ext.refl _ | refine Ext.alloc ?_ _ | refine Ext.drewN ?_ _ | refine Ext.drew ?_ | refine Ext.trans ?_ (Hid.out (by assumption)))))) (HE.out.ext (by (repeat (first | exact Ext.refl _ | refine Ext.alloc ?_ _ | refine Ext.drewN ?_ _ | refine Ext.drew ?_ | refine Ext.trans ?_ (Hid.out (by assumption))))))).mono ?_
    rintro e w10 ⟨he, hb⟩
    rw [← HV2.out] at he
    subst he
    have hx10 := hid hb
    clear hb
    go_wp2_with fail
    refine (rany_any _ _ _ xs _ _ _ es _ (HX.out.ext (by (repeat (first | exact Ext.refl _ | refine Ext.alloc ?_ _ | refine Ext.drewN ?_ _ | refine Ext.drew ?_ | refine Ext.trans ?_ (Hid.out (by assumption)))))) (HE.out.ext (by (repeat (first | exact Ext.refl _ | refine Ext.alloc ?_ _ | refine Ext.drewN ?_ _ | refine Ext.drew ?_ | refine Ext.trans ?_ (Hid.out (by assumption))))))).mono ?_
    rintro e w11 ⟨he, hb⟩
    rw [← HV2.out] at he
    subst he
    have hx11 := hid hb
    clear hb
    cases v2
    · skip
      go_wp2
      go_ret
      refine ⟨rfl, ?_⟩
      (repeat (first | exact Ext.refl _ | refine Ext.alloc ?_ _ | refine Ext.drewN ?_ _ | refine Ext.drew ?_ | refine Ext.trans ?_ (Hid.out (by assumption))))
    · skip
      go_wp2
      go_ret
      refine ⟨rfl, ?_⟩
      (repeat (first | exact Ext.refl _ | refine Ext.alloc ?_ _ | refine Ext.drewN ?_ _ | refine Ext.drew ?_ | refine Ext.trans ?_ (Hid.out (by assumption))))
  · go_wp2_with fail
    refine (any_any _ _ _ xs _ _ _ es _ (HX.out.ext (by (repeat (first | exact Ext.refl _ | refine Ext.alloc ?_ _ | refine Ext.drewN ?_ _ | refine Ext.drew ?_ | refine Ext.trans ?_ (Hid.out (by assumption)))))) (HE.out.ext (by (repeat (first | exact Ext.refl _ | refine Ext.alloc ?_ _ | refine Ext.drewN ?_ _ | refine Ext.drew ?_ | refine Ext.trans ?_ (Hid.out (by assumption))))))).mono ?_
    rintro e w10 ⟨he, hb⟩
    rw [← HV2.out] at he
    subst he
    have hx10 := hid hb
    clear hb
    go_wp2_with fail
    refine (rany_any _ _ _ xs _ _ _ es _ (HX.out.ext (by (repeat (first | exact Ext.refl _ | refine Ext.alloc ?_ _ | refine Ext.drewN ?_ _ | refine Ext.drew ?_ | refine Ext.trans ?_ (Hid.out (by assumption)))))) (HE.out.ext (by (repeat (first | exact Ext.refl _ | refine Ext.alloc ?_ _ | refine Ext.drewN ?_ _ | refine Ext.drew ?_ | refine Ext.trans ?_ (Hid.out (by assumption))))))).mono ?_
    rintro e w11 ⟨he, hb⟩
    rw [← HV2.out] at he
    subst he
    have hx11 := hid hb
    clear hb
    cases v2
    · skip
      go_wp2
      go_ret
      refine ⟨rfl, ?_⟩
      (repeat (first | exact Ext.refl _ | refine Ext.alloc ?_ _ | refine Ext.drewN ?_ _ | refine Ext.drew ?_ | refine Ext.trans ?_ (Hid.out (by assumption))))
    · skip
      go_wp2
      go_ret
      refine ⟨rfl, ?_⟩
      (repeat (first | exact Ext.refl _ | refine Ext.alloc ?_ _ | refine Ext.drewN ?_ _ | refine Ext.drew ?_ | refine Ext.trans ?_ (Hid.out (by assumption))))
end Go.Proofs.Ytclmbonippjhoaa
