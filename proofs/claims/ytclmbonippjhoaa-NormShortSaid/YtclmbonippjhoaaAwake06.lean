/- Chapter 06: the statements' head. -/
import Derived.Test.YtclmbonippjhoaaNormP
import Derived.Test.YtclmbonippjhoaaSameD
import Derived.Deep.RegionHeld3
set_option linter.unusedVariables false
set_option linter.unusedSimpArgs false
namespace Go.Proofs.Ytclmbonippjhoaa
open Go.RowKit

theorem sl_of {α : Type} {w : World} {sz : Nat} {c : α → List Value} {B n : Nat} {t : TypeId} {fr : Nat × Nat} (xs : List α) (hw : ∀ x, (c x).length = sz) (hn : n = xs.length) (hm : xs.length ≤ 1000)
    {cs : Array Value} (h : w.heap[B]? = some (.cells cs t fr)) (hcs : cs.toList = xs.flatMap c) : Sl w sz c (some ⟨B, 0, none⟩) n n xs :=
  ⟨hn, Nat.le_refl _, by rw [hn]; simp only [maxLen]; omega, (fun h => by cases h), hw, fun k x hk => ⟨B, 0, rfl, fun j v hj => by
    have := flatMap_at hw xs k x hk j v hj
    rw [← hcs] at this
    rw [Nat.zero_add]
    simp only [World.cell?, h]
    simpa using this⟩⟩
def tT (op n : Int) : T := ⟨⟨#[112]⟩, op, 1, n, ⟨#[]⟩⟩
def tI (c : UInt8) : T := ⟨⟨#[c]⟩, 8, 0, 0, ⟨#[]⟩⟩
theorem tT_ts (op n : Int) : (tT op n).ts = ⟨[112], op, ⟨1, n, []⟩⟩ := by simp [tT, T.ts, T.v, Lib.toList_data]
theorem tI_ts (c : UInt8) : (tI c).ts = ⟨[c], 8, ⟨0, 0, []⟩⟩ := by simp [tI, T.ts, T.v, Lib.toList_data]
theorem imp_p1 : impT (tT 5 3).ts (tT 6 2).ts = true := by rw [tT_ts, tT_ts]; decide
theorem imp_p2 : impT (tT 6 3).ts (tT 5 3).ts = false := by rw [tT_ts, tT_ts]; decide
theorem ord_p : ordT (tI 97).ts (tT 3 5).ts = -1 := by rw [tT_ts, tI_ts]; decide
theorem norm_p : normT [tI 112, tT 3 9, tT 3 5, tI 97] = [tI 97, tT 3 5] := by
  have hs : sortT [tI 112, tT 3 9, tT 3 5, tI 97] = [tI 97, tT 3 5, tT 3 9, tI 112] := by
    rw [sort_eq (List.reverse_perm [tI 112, tT 3 9, tT 3 5, tI 97]).symm]
    refine sort_self ?_
    simp only [List.reverse_cons, List.reverse_nil, List.nil_append, List.cons_append, List.pairwise_cons, List.mem_cons, List.not_mem_nil, or_false, List.Pairwise.nil, and_true, forall_eq_or_imp, forall_eq, tT_ts, tI_ts]
    exact ⟨⟨by decide, by decide, by decide⟩, ⟨by decide, by decide⟩, by decide, fun _ h => h.elim⟩
  unfold normT
  rw [hs]
  have h1 : impT (tT 3 5).ts (tI 97).ts = false := by rw [tT_ts, tI_ts]; decide
  have h2 : impT (tT 3 9).ts (tI 97).ts = false := by rw [tT_ts, tI_ts]; decide
  have h3 : impT (tI 112).ts (tI 97).ts = false := by rw [tI_ts, tI_ts]; decide
  have h4 : impT (tI 97).ts (tT 3 5).ts = false := by rw [tT_ts, tI_ts]; decide
  have h5 : impT (tT 3 9).ts (tT 3 5).ts = false := by rw [tT_ts, tT_ts]; decide
  have h6 : impT (tI 112).ts (tT 3 5).ts = false := by rw [tT_ts, tI_ts]; decide
  have h7 : impT (tT 3 5).ts (tT 3 9).ts = true := by rw [tT_ts, tT_ts]; decide
  have h8 : impT (tT 3 5).ts (tI 112).ts = true := by rw [tT_ts, tI_ts]; decide
  simp [nrm, h1, h2, h3, h4, h5, h6, h7, h8]
set_option maxHeartbeats 1000000 in
theorem test06_any (op n : Int) (w : World) : Calls Try.prog 39 #[.int .i64 op, .int .i64 n] w fun e w' => e = .returned (.agg #[.string ⟨#[112]⟩, .int .i64 op, .int .i64 1, .int .i64 n, .string ⟨#[]⟩]) ∧ Ext w w' := by
  go_enter Try.func39, Try.ntmps39
  go_wp2_with fail
  refine (int_any _ _).mono ?_
  rintro e w1 ⟨rfl, hb⟩
  have hB := hb.blk (heap_alloc_new _ _)
  have z0 : w1.cell? ⟨w.heap.size, 0, none⟩ = some (.string ⟨#[]⟩) := cellH hB rfl
  have z1 : w1.cell? ⟨w.heap.size, 1, none⟩ = some (.int .i64 0) := cellH hB rfl
  have z2 : w1.cell? ⟨w.heap.size, 2, none⟩ = some (.int .i64 0) := cellH hB rfl
  have z3 : w1.cell? ⟨w.heap.size, 3, none⟩ = some (.int .i64 0) := cellH hB rfl
  have z4 : w1.cell? ⟨w.heap.size, 4, none⟩ = some (.string ⟨#[]⟩) := cellH hB rfl
  have hfz := hb.frozen
  have hz : w.heap.size < w1.heap.size := lt_of_cell z0
  have hx := hid (Ext.trans ((Ext.refl w).alloc _) hb)
  clear hb hB
  go_wp2_with fail
  exact bodyPost_ret (v := .agg #[.string ⟨#[112]⟩, .int .i64 op, .int .i64 1, .int .i64 n, .string ⟨#[]⟩]) (by simp [results, Try.results39, go_sem, z0, z1, z2, z3, z4]) rfl ⟨rfl, by repeat (first | exact hx.out | refine Ext.setCell ?_ (by simp) _)⟩
theorem two_t {w : World} {aa : Option Addr} {n c : Nat} {a b : T} (h : Sl w 5 T.cs aa n c [a, b]) : ∃ bl o, n = 2 ∧ aa = some ⟨bl, o, none⟩ ∧ CellsAt w bl o a.cs ∧ CellsAt w bl (o + 5) b.cs ∧ 2 ≤ c := by
  obtain ⟨bl, o, ha, hc⟩ := h.get 0 (by simp)
  obtain ⟨b2, o2, hb, hd⟩ := h.get 1 (by simp)
  rw [ha] at hb
  simp only [Option.some.injEq, Addr.mk.injEq, and_true] at hb
  obtain ⟨rfl, rfl⟩ := hb
  rw [Nat.zero_mul, Nat.add_zero] at hc
  rw [Nat.one_mul] at hd
  have hl := h.len
  have hn : n = 2 := h.neq
  exact ⟨bl, o, hn, ha, hc, hd, by omega⟩
set_option maxRecDepth 100000 in
set_option maxHeartbeats 4000000 in
theorem awake06_any (w : World) : Calls Try.prog 15 #[] w fun e w' => e = .returned (.bool true) ∧ Ext w w' := by
  go_enter Try.func15, Try.ntmps15
  go_wp2_with fail
  refine (test06_any _ _ _).mono ?_
  rintro e w1 ⟨rfl, hb⟩
  have hx1 := hid hb
  clear hb
  go_wp2_with fail
  refine (test06_any _ _ _).mono ?_
  rintro e w2 ⟨rfl, hb⟩
  have hx2 := hid hb
  clear hb
  go_wp2_with fail
  refine (norm_any _ _ _ [tI 112, tT 3 9, tT 3 5, tI 97] _ (sl_of _ T.wid rfl (by simp) (t := 25) (fr := (0, 0)) (by (repeat (first | (refine heap_new ?_; (simp; done)) | refine heap_old (by first | (simp; done) | (simp; omega)) ?_))) rfl) (by decide)).mono ?_
  rintro e w3 ⟨la, ln, lc, rfl, hown, hb⟩
  rw [norm_p] at hown
  obtain ⟨bl, o, rfl, rfl, ha, hc, hl2⟩ := two_t hown.sl
  obtain ⟨c0, c1, c2, c3, c4⟩ := cellsT ha
  obtain ⟨d0, d1, d2, d3, d4⟩ := cellsT hc
  simp only [tI, tT] at c0 c1 c2 c3 c4 d0 d1 d2 d3 d4
  have hx3 := hid (Ext.trans ((Ext.refl w2).alloc _) hb)
  have CA := hid (show impT (T.ts ⟨⟨#[112]⟩, 5, 1, 3, ⟨#[]⟩⟩) (T.ts ⟨⟨#[112]⟩, 6, 1, 2, ⟨#[]⟩⟩) = true from imp_p1)
  have CB := hid (show impT (T.ts ⟨⟨#[112]⟩, 6, 1, 3, ⟨#[]⟩⟩) (T.ts ⟨⟨#[112]⟩, 5, 1, 3, ⟨#[]⟩⟩) = false from imp_p2)
  have CO := hid (show ordT (T.ts ⟨⟨#[97]⟩, 8, 0, 0, ⟨#[]⟩⟩) (T.ts ⟨⟨#[112]⟩, 3, 1, 5, ⟨#[]⟩⟩) = -1 from ord_p)
  have hq0 : 0 < 2 := by decide
  have hq1 : 1 < 2 := by decide
  clear hown ha hc hb
  go_wp2_with fail
  go_region_held3 (fun w' => w'.cell? ⟨bl, o, none⟩ = some (.string ⟨#[97]⟩) ∧ w'.cell? ⟨bl, o + 1, none⟩ = some (.int .i64 8) ∧ w'.cell? ⟨bl, o + 2, none⟩ = some (.int .i64 0) ∧ w'.cell? ⟨bl, o + 3, none⟩ = some (.int .i64 0) ∧ w'.cell? ⟨bl, o + 4, none⟩ = some (.string ⟨#[]⟩) ∧ w'.cell? ⟨bl, o + 5, none⟩ = some (.string ⟨#[112]⟩) ∧ w'.cell? ⟨bl, o + 5 + 1, none⟩ = some (.int .i64 3) ∧ w'.cell? ⟨bl, o + 5 + 2, none⟩ = some (.int .i64 1) ∧ w'.cell? ⟨bl, o + 5 + 3, none⟩ = some (.int .i64 5) ∧ w'.cell? ⟨bl, o + 5 + 4, none⟩ = some (.string ⟨#[]⟩))
    (first | (go_split_ands; refine ⟨?_, ?_, ?_, ?_, ?_, ?_, ?_, ?_, ?_, ?_⟩ <;> exact (Hid.out hy).keep (by assumption)) | go_keep)
    (first | (go_at_call 39; refine (test06_any _ _ _).mono ?_; rintro e wq ⟨rfl, hb⟩; have hy := hid hb; clear hb) | (go_at_call 19; refine (implies_any ⟨_, _, _, _, _⟩ ⟨_, _, _, _, _⟩ _).mono ?_; rintro e wq ⟨he, hb⟩; (first | rw [CA.out] at he | rw [CB.out] at he); subst he; have hy := hid hb; clear hb) | (go_at_call 24; refine (order06_any ⟨_, _, _, _, _⟩ ⟨_, _, _, _, _⟩ _).mono ?_; rintro e wq ⟨he, hb⟩; rw [CO.out] at he; subst he; have hy := hid hb; clear hb))
  all_goals
    go_wp2
    go_ret
    refine ⟨rfl, ?_⟩
    (repeat (first | exact Ext.refl _ | refine Ext.alloc ?_ _ | refine Ext.drewN ?_ _ | refine Ext.drew ?_ | refine Ext.trans ?_ (Hid.out (by assumption))))
end Go.Proofs.Ytclmbonippjhoaa
