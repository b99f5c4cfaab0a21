/- Words. -/
import Derived.BigQuiet
import Derived.Carry
import Derived.ChangeMaps4
import Derived.Conc.LoneSelect
import Derived.Conc.LoneSelectN
import Derived.Deep.AppendLies
import Derived.Deep.CutBlock
import Derived.Deep.DeepCutAuto
import Derived.Deep.DeepMust
import Derived.Deep.DrawnRows
import Derived.Deep.LoopGhost
import Derived.Deep.QuietTactic
import Derived.Deep.RegionHeld3
import Derived.Deep.RegionLaw
import Derived.Deep.Slices
import Derived.DeepKeys4
import Derived.Ground.SlsfProg
import Derived.IntWalk
import Derived.Laws.AppendOwnNone
import Derived.Laws.CopyOwn
import Derived.Laws.EntriesVeiled
import Derived.Laws.IdiomCopy
import Derived.Laws.OwnMore
import Derived.Lib.BufferMore
import Derived.Lib.SmallJoins
import Derived.Lib.Strings
import Derived.LoopIn
import Derived.LoopNIn
import Derived.MapKept
import Derived.Maps.AppendAt
import Derived.Maps.OwnIn
import Derived.Maps.OwnOps
import Derived.Maps.OwnSet
import Derived.Maps.RangeWalk
import Derived.OneCell
import Derived.OpenShut
import Derived.Outline
import Derived.OwnWalkIn
import Derived.ProofKit
import Derived.RangeFuncBound
import Derived.RangeFuncBox
import Derived.RangeFuncCalls
import Derived.RangeFuncKeeps
import Derived.RangeFuncLeaves
import Derived.RangeFuncNested
import Derived.RangeFuncSeq
import Derived.RangeFuncWrites
import Derived.RegionIn
import Derived.Shelf.Abstract
import Derived.Shelf.AbstractIn
import Derived.Shelf.RegionOpen
import Derived.Shelf.SlGeneric
import Derived.Shelf.SlSortCmp.NoneTotal
import Derived.Sort.Grow
import Derived.Sort.MapsRangeIn
import Derived.TacticsInMore
import Derived.Test.YtfiiblnenhdlhaaGreatProg
import Derived.WalkKit
import Derived.WalkLawsBesides
import Derived.WalkSpells
import GoSem.Op.String
set_option linter.unusedVariables false
set_option linter.unusedSimpArgs false
set_option linter.defProp false
set_option maxRecDepth 100000
set_option maxHeartbeats 4000000
namespace Go.Proofs.YtfiiblnenhdlhaaGreat
open Go.RowKit Tryz
abbrev ye:=World->Prop
abbrev eZ:=Nat->Prop
abbrev aC:=World
abbrev eg:=List UInt8
abbrev bl:=Option Addr
abbrev YX:=@List.filter_cons_of_pos
abbrev Xn:=@Array.toList_setIfInBounds
abbrev W1:=@Array.getElem?_setIfInBounds
abbrev VV:=@World.putObj_heap_other
abbrev T6:=@List.mem_iff_getElem
abbrev TX:=@List.eraseIdx_cons_succ
abbrev TN:=@List.eraseIdx_sublist
abbrev TM:=@List.nodup_append
abbrev TE:=@List.filter_cons_of_neg
abbrev Th:=@List.flatMap_nil
abbrev Te:=@List.map_eq_nil_iff
abbrev SU:=@Nat.le_add_right
abbrev SR:=@Array.getElem?_modify
abbrev SP:=@List.mem_flatMap
abbrev SK:=@Nat.div_lt_of_lt_mul
abbrev SJ:=@Nat.mul_le_mul_right
abbrev Sr:=@World.cell?_setCell_same
abbrev Sq:=@List.filter_congr
abbrev Sl:=@List.filter_eq_self
abbrev Sf:=@List.ext_getElem
abbrev Se:=@Array.size_setIfInBounds
abbrev R9:=@List.getElem?_drop
abbrev RW:=@Go.run_underlying
abbrev RV:=@Array.getElem?_push
abbrev RL:=@List.getElem?_cons_zero
abbrev RJ:=@List.findIdx?_eq_none_iff
abbrev QX:=@List.getElem_range
abbrev QB:=@Nat.lt_succ_self
abbrev PV:=@Array.getD_eq_getD_getElem?
abbrev Pz:=@underlying156
abbrev Pb:=@List.mem_iff_getElem?
abbrev Pa:=@List.mem_append_left
abbrev O7:=@Nat.le_max_left
abbrev OW:=@underlying114
abbrev OU:=@List.drop_drop
abbrev Om:=@Nat.lt_of_le_of_lt
abbrev N3:=@Nat.le_succ_of_le
abbrev NU:=@List.take_append_drop
abbrev NQ:=@Nat.lt_of_succ_lt
abbrev NC:=@List.drop_eq_nil_of_le
abbrev Ny:=@Nat.le_mul_of_pos_right
abbrev Nw:=@List.all_append
abbrev Nn:=@Array.getElem?_eq_none
abbrev Nk:=@Bool.or_eq_false_iff
abbrev Ng:=@underlying38
abbrev MU:=@Nat.ne_of_gt
abbrev MG:=@Nat.mul_comm
abbrev LM:=@List.filter_nil
abbrev LD:=@List.ext_getElem?
abbrev Lw:=@List.map_nil
abbrev Lu:=@List.sum_cons
abbrev Ln:=@List.append_toArray
abbrev Lm:=@List.push_toArray
abbrev Ll:=@Array.replicate_zero
abbrev Lk:=@Array.replicate_succ
abbrev K6:=@List.drop_of_length_le
abbrev KY:=@underlying342
abbrev KX:=@List.mem_of_mem_drop
abbrev KJ:=@underlying34
abbrev KI:=@List.filter_map
abbrev KB:=@underlying36
abbrev Ky:=@List.all_eq_false
abbrev Kt:=@List.flatMap_singleton
abbrev Ks:=@World.cell?_of_block
abbrev Kr:=@List.getElem?_append_right
abbrev Kp:=@List.any_eq_false
abbrev QM:=@underlying85
abbrev JE:=@List.length_range
abbrev JD:=@underlying158
abbrev IZ:=@Option.bind_some
abbrev IV:=@List.nodup_cons
abbrev Iy:=@List.range_succ
abbrev Iv:=@List.size_toArray
abbrev Is:=@List.filter_cons
abbrev Ij:=@List.map_map
abbrev H4:=@of_decide_eq_true
abbrev H3:=@decide_eq_decide
abbrev HY:=@Nat.add_mul
abbrev HX:=@List.getElem?_cons_succ
abbrev HW:=@List.getElem?_append_left
abbrev G5:=@IntWalk.u64_in
abbrev T4:=@Option.getD_some
abbrev GY:=@List.getElem?_set
abbrev GO:=@List.length_singleton
abbrev GM:=@Bool.not_eq_true
abbrev Gp:=@Int.natCast_add
abbrev Gn:=@List.cons_append
abbrev Gl:=@Nat.mod_eq_of_lt
abbrev aBc:=@Go.wp_at_succ
abbrev aBd:=@Go.wp_at_zero
abbrev Gc:=@Option.map_some
abbrev Gb:=@List.mem_or_eq_of_mem_set
abbrev Ga:=@List.map_set
abbrev F9:=@underlying64
abbrev H9:=@and_true
abbrev F1:=@beq_iff_eq
abbrev E6:=@List.getElem_map
abbrev EX:=@callsIn_wide
abbrev EC:=@List.take_zero
abbrev Et:=@Array.getElem?_eq_some_iff
abbrev Eo:=@Bool.not_eq_true'
abbrev D9:=@underlying79
abbrev Da:=@underlying5
abbrev CT:=@List.length_set
abbrev CP:=@Bool.false_and
abbrev CM:=@List.length_drop
abbrev CG:=@Lib.toList_data
abbrev BS:=@List.prefix_refl
abbrev C7:=@Nat.eq_zero_or_pos
abbrev Bt:=@List.mem_of_mem_take
abbrev Bk:=@List.eq_nil_of_length_eq_zero
abbrev Bi:=@List.any_eq_true
abbrev Bh:=@Nat.lt_or_ge
abbrev AL:=@List.mem_of_getElem?
abbrev Ak:=@List.foldl_append
abbrev Ad:=@List.all_eq_true
abbrev Ab:=@List.drop_eq_getElem_cons
abbrev z7:=@decide_eq_false_iff_not
abbrev zE:=@wpAnyH_ready
abbrev zy:=@List.getElem?_eq_none
abbrev za:=@underlying9
abbrev yW:=@underlying22
abbrev yU:=@List.filter_append
abbrev yR:=@List.any_map
abbrev xC:=@wpOp_step
abbrev xk:=@List.getD_eq_getElem?_getD
abbrev xd:=@List.mem_range
abbrev w9:=@Option.some.inj
abbrev wV:=@Bool.and_false
abbrev wP:=@Bool.eq_iff_iff
abbrev vP:=@List.length_filter_le
abbrev vN:=@List.flatMap_append
abbrev vK:=@Bool.or_eq_true
abbrev vc:=@Nat.ne_of_lt
abbrev aiN:=@cell_of_one
abbrev uo:=@Nat.add_zero
abbrev ue:=@or_false
abbrev ud:=@List.getElem?_eq_some_iff
abbrev tG:=@List.nodup_nil
abbrev aiM:=@underlying42
abbrev aiL:=@underlying31
abbrev tk:=@World.cell?_setCell_other
abbrev tf:=@wpList_plain
abbrev tb:=@List.not_mem_nil
abbrev sf:=@List.map_cons
abbrev ry:=@List.foldl_cons
abbrev qn:=@underlying139
abbrev pH:=@List.length_nil
abbrev pA:=@List.mem_filter
abbrev pf:=@List.setIfInBounds_toArray
abbrev o1:=@List.mem_cons_self
abbrev oy:=@List.mem_cons
abbrev ow:=@Nat.zero_add
abbrev og:=@wpAnyH_done
abbrev oD:=@List.set_cons_succ
abbrev oC:=@List.set_cons_zero
abbrev nH:=@List.mem_map_of_mem
abbrev ny:=@List.flatMap_cons
abbrev nK:=@underlying107
abbrev ni:=@List.mem_cons_of_mem
abbrev nd:=@List.getElem?_map
abbrev nc:=@List.append_nil
abbrev mN:=@List.nil_append
abbrev nF:=@List.length_take
abbrev mK:=@underlying227
abbrev pX:=@Exit.noGoto_ret
abbrev mu:=@heap_alloc_new
abbrev me:=@List.length_cons
abbrev l9:=@Nat.le_succ
abbrev lU:=@List.mem_map
abbrev lu:=@Nat.le_of_lt
abbrev ke:=@bodyPost_ret
abbrev kN:=@Int.toNat_natCast
abbrev jT:=@decide_eq_true_eq
abbrev jS:=@Bool.and_eq_true
abbrev jg:=@List.mem_singleton
abbrev jf:=@decide_eq_true
abbrev je:=@decide_eq_false
abbrev jd:=@Nat.mul_one
abbrev iU:=@List.take_of_length_le
abbrev ig:=@List.append_assoc
abbrev ie:=@List.mem_append
abbrev iv:=@List.take_succ_eq_append_getElem
abbrev gz:=@Nat.zero_le
abbrev fQ:=@Nat.lt_of_lt_of_le
abbrev fT:=@List.map_append
abbrev ft:=@underlying3
abbrev fB:=@info_parts
abbrev eK:=@List.getElem?_eq_getElem
abbrev eH:=@congrArg
abbrev ek:=@Nat.le_trans
abbrev c9:=@List.length_append
abbrev cT:=@List.getElem_mem
abbrev cx:=@List.length_map
abbrev bJ:=@Nat.le_refl
abbrev bc:=@if_pos
abbrev aV:=@if_neg
abbrev aa:=Hid
def bQ {p:Prop} (h:p:=by kernel_rfl):p:=h
def J {p:Prop} (h:p:=by omega):p:=h
def ah {p:Prop} (h:p:=by decide):p:=h
def A2 {p:Prop} (h:p:=by go_simp;(first|done|with_reducible rfl)):p:=h
def ej {p q:Prop} (k:q) (h:q->p:=by intro k;(try dsimp only)<;>(try simp only[Act.put,List.setIfInBounds_toArray,List.set_cons_zero,List.set_cons_succ]);exact k):p:=h k
instance:Coe Int Value:=⟨λx=>.int .i64 x⟩
instance:Coe Nat Value:=⟨λp=>.pointer (some ⟨p,0,none⟩)⟩
instance:Coe Bool Value:=⟨λp=>.bool p⟩
instance:Coe ByteArray Value:=⟨λp=>.string p⟩
structure mr where
def ae (_:Int):mr:=⟨⟩
def bo (_:Int):mr:=⟨⟩
def ao (_:Option Addr) (_ _:Nat):mr:=⟨⟩
def aP:mr:=⟨⟩
def av:mr:=⟨⟩
def aw:mr:=⟨⟩
instance (x:Int):CoeDep mr (ae x) Value:=⟨.int .u64 x⟩
instance (x:Int):CoeDep mr (bo x) Value:=⟨.int .i64 x⟩
instance (a:Option Addr) (n c:Nat):CoeDep mr (ao a n c) Value:=⟨.slice a n c⟩
instance:CoeDep mr aP Value:=⟨.slice none 0 0⟩
instance:CoeDep mr av Value:=⟨.int .i64 0⟩
instance:CoeDep mr aw Value:=⟨.int .u64 0⟩
def lD:mr:=⟨⟩
instance:CoeDep mr lD Obj:=⟨.cells #[.int .u64 0,.slice none 0 0,.slice none 0 0,.slice none 0 0] 44⟩
def qJ:mr:=⟨⟩
instance:CoeDep mr qJ Obj:=⟨.cells #[.int .i64 0,.int .i64 0,.int .u64 0,.int .u64 0,.int .i64 0,.int .u64 0,.slice none 0 0,.slice none 0 0] 66⟩
def hr:mr:=⟨⟩
instance:CoeDep mr hr Obj:=⟨.cells #[.int .i64 0,.int .u64 0,.int .u64 0] 54⟩
def JW:mr:=⟨⟩
instance:CoeDep mr JW Obj:=⟨.cells #[.int .i64 0,.int .u64 0,.slice none 0 0,.slice none 0 0,.slice none 0 0,.slice none 0 0,.slice none 0 0,.slice none 0 0] 232⟩
def aky:mr:=⟨⟩
instance:CoeDep mr aky Obj:=⟨.cells #[.int .i64 0,.int .u64 0,.int .i64 0,.int .i64 0,.int .u64 0,.int .u64 0,.int .i64 0,.int .u64 0,Value.slice none 0 0,Value.slice none 0 0,.int .i64 0,.int .u64 0,.int .u64 0] 169⟩
def azC:mr:=⟨⟩
instance:CoeDep mr azC Obj:=⟨.cells #[.string ⟨#[112]⟩,.int .i64 1,.int .i64 5,.string ⟨#[]⟩] 77⟩
def azD:mr:=⟨⟩
instance:CoeDep mr azD Obj:=⟨.cells #[.int .i64 1,.int .u64 0,.slice none 0 0,.slice none 0 0,.slice none 0 0,.slice none 0 0,.slice none 0 0,.slice none 0 0] 232⟩
def azE:mr:=⟨⟩
instance:CoeDep mr azE Obj:=⟨.cells #[.int .i64 2,.int .u64 0,.slice none 0 0,.slice none 0 0,.slice none 0 0,.slice none 0 0,.slice none 0 0,.slice none 0 0] 232⟩
def WR:mr:=⟨⟩
instance:CoeDep mr WR Obj:=⟨.cells #[.int .i64 0,.int .i64 0,.string ⟨#[]⟩] 74⟩
def azF:mr:=⟨⟩
instance:CoeDep mr azF Obj:=⟨.cells #[.int .i64 (-1),.int .i64 0] 3⟩
def Bw:mr:=⟨⟩
instance:CoeDep mr Bw Obj:=⟨.cells #[.slice none 0 0] 42⟩
def akz (p:Prop):Prop:=(λ_=>p) (@AllReadyH)
def akz.out {p:Prop} (h:akz p):p:=h
def akt {p:Prop} (h:p:=by simp):p:=h
abbrev aS:=Calls prog
instance (b o:Nat):CoeDep (Nat×Nat) (b,o) Addr:=⟨⟨b,o,none⟩⟩
instance (w:World) (o:Nat):CoeDep (World×Nat) (w,o) Addr:=⟨⟨w.heap.size,o,none⟩⟩
instance:Coe World Nat:=⟨λw=>w.heap.size⟩
def aBe {a0 cE ch q:Prop} (k:aa a0->aa cE->aa ch->q):a0->cE->ch->q:=k
def aBf {a0 cE ch a3 q:Prop} (k:aa a0->aa cE->aa ch->aa a3->q):a0->cE->ch->a3->q:=k
def aBg {a0 cE ch a3 a4 q:Prop} (k:aa a0->aa cE->aa ch->aa a3->aa a4->q):a0->cE->ch->a3->a4->q:=k
def aBh {a0 cE ch a3 a4 a5 q:Prop} (k:aa a0->aa cE->aa ch->aa a3->aa a4->aa a5->q):a0->cE->ch->a3->a4->a5->q:=k
def M8 {a0 cE ch a3 a4 a5 r7 q:Prop} (k:aa a0->aa cE->aa ch->aa a3->aa a4->aa a5->aa r7->q):a0->cE->ch->a3->a4->a5->r7->q:=k
def aBi {a0 cE ch a3 a4 a5 r7 nP q:Prop} (k:aa a0->aa cE->aa ch->aa a3->aa a4->aa a5->aa r7->aa nP->q):a0->cE->ch->a3->a4->a5->r7->nP->q:=k
def qv {p:Prop} (h:p:=by first|assumption|(unfold gw;omega)):p:=h
def gA {p:Prop} (h:p:=by(repeat (first|(refine e2 ?_;(simp;done))|refine aaZ (by first|(simp;done)|(simp;omega)) ?_))):p:=h
instance (w:World) (k o:Nat):CoeDep (World×Nat×Nat) (w,k,o) Addr:=⟨⟨w.heap.size+k,o,none⟩⟩
instance:Coe World Value:=⟨λw=>.pointer (some ⟨w.heap.size,0,none⟩)⟩
instance (w:World) (k:Nat):CoeDep (World×Nat) (w,k) Value:=⟨.pointer (some ⟨w.heap.size+k,0,none⟩)⟩
structure bY (q:Prop):Prop where
 o:q
variable {p q:Prop}
def N1(k:q) (h:bY q->p:=by
 intro aW;by_cases hk:k<cD.length
 ·clear aW;obtain⟨b,o,rfl,al⟩:=jv.out.aF.get k hk;have b7:Z w wr:=Z.trans (((Z.trans (((Z.refl w).alloc _).alloc _) bz.out)).setCell (bJ _) _) X.out;have d0:=Ep (w:=wr) (b:=b) (o:=o+k*1) (x:=cD[k]) (λj v aD=>b7.ag (al j v aD));rw[jd]at d0;have bV:=I ((jv.out.dt cD[k] (cT hk)).ext b7);have amy:cD[k].v.n<=100:=by rw[bV.out.neq];exact dG.out _ (cT hk)
  have ho:m<=100:=by
   have af:=eH List.length aJ.out.2.1;rw[cx,cx,nF]at af;have an:=aJ.out.1.neq;omega
  have NN:(w1:Nat)<=(wr:Nat):=by have:=X.out.size;simpa[World.setCell]using this
  clear al b7;have b0:(0:Int)<=(k:Int):=J;have bf:(k:Int)<(cD.length:Int):=J;clear cO c1 c2 cV dF dH eJ eM gn eI hn hL ib k6 pC uj uX y0;go_wp2_with (first|(at_builtin;refine ace (ys:=cD[k].dt) rfl (.const aP) (.tmp 18) 34 77 rfl eB _ 48 KJ lQ.out lR.out lS.out lT.out rfl ah rfl w1 rfl bV.out cI.cQ J ah NN ?_;intro ac Nj aN akA cn azG;have cd:=I akA;have bq:=I cn;clear akA cn azG)|(at_builtin;refine hc (ys:=ys) rfl (.tmp 17) (.tmp 20) 64 rfl dK _ 24 F9 eY.out e5.out e6.out e7.out rfl ah rfl (aJ.out.1.ext (bq.out.alloc _)) ⟨⟨ac,cD[k].v.n,Nj⟩,cD[k].dt⟩ _ rfl (fi (cs:=eu.cs ⟨⟨ac,cD[k].v.n,Nj⟩,cD[k].dt⟩) rfl) (eu.cQ _) J ah (ek NN (bq.out.alloc _).size) ?_;intro g aBj a6 gd b2;have cK:=I gd;have b9:=I b2;clear gd b2));go_roundg (gk - 1);case measure=>omega
  case rel=>
   have ru:=aJ.out.1.ext (bq.out.alloc (.cells #[ao ac cD[k].v.n Nj] 34));refine⟨k+1,_,_,_,ys++[⟨⟨ac,cD[k].v.n,Nj⟩,cD[k].dt⟩],J,by go_num,rfl,⟨cK.out,?_,λy hy=>?_⟩,b9.out.ext ru (by simp[World.setCell]) (Z.trans X.out (bq.out.alloc _))⟩;exact abN
   ·rcases ie.1 hy with hy|hy
    ·have qW:=(aJ.out.2.2 y hy).ext (bq.out.alloc (.cells #[ao ac cD[k].v.n Nj] 34));exact b9.out.bS qW (ru.gT qW ah)
    ·obtain rfl:=jg.1 hy;have qW:=cd.out.ext ((Z.refl aN).alloc (.cells #[ao ac cD[k].v.n Nj] 34));exact b9.out.bS qW (ru.gT qW ah)
 revert hk
 exact aW.1):p:=h ⟨k⟩
def N2(k:q) (h:bY q->p:=by
 intro aW;have dV:wr.cell? (w,0)=some ↑hl:=X.out.ag ((tk _ _ _ _ (by simp)).trans cO);have q1:wr.cell? (w,1)=some ↑ma.b:=X.out.ag ((tk _ _ _ _ (by simp)).trans c1);have dk:wr.cell? (w,2)=some ↑(ae ma.l):=X.out.ag ((tk _ _ _ _ (by simp)).trans c2);have eP:wr.cell? (w,3)=some ↑(ae ma.s):=X.out.ag ((tk _ _ _ _ (by simp)).trans cV);have gV:wr.cell? (w,4)=some ↑iI:=X.out.ag ((tk _ _ _ _ (by simp)).trans dF);have mO:wr.cell? (w,5)=some ↑(ae mb):=X.out.ag ((tk _ _ _ _ (by simp)).trans dH);have vV:wr.cell? (w,6)=some ↑(ao aA fn dE):=X.out.ag (Sr _ _ _ eJ);have Br:wr.cell? (w,7)=some ↑(ao dL cD.length dO):=X.out.ag ((tk _ _ _ _ (by simp)).trans eM);have lr:wr.cell? (w,1,0)=some ↑av:=X.out.ag ((tk _ _ _ _ (by simp)).trans gn);have gM:wr.cell? (w,1,1)=some ↑av:=X.out.ag ((tk _ _ _ _ (by simp)).trans eI);have kM:wr.cell? (w,1,2)=some ↑aw:=X.out.ag ((tk _ _ _ _ (by simp)).trans hn);have oG:wr.cell? (w,1,3)=some ↑aw:=X.out.ag ((tk _ _ _ _ (by simp)).trans hL);have aBs:wr.cell? (w,1,4)=some ↑av:=X.out.ag ((tk _ _ _ _ (by simp)).trans ib);have aBt:wr.cell? (w,1,5)=some ↑aw:=X.out.ag ((tk _ _ _ _ (by simp)).trans k6);have w6:wr.cell? (w,1,6)=some ↑aP:=X.out.ag ((tk _ _ _ _ (by simp)).trans pC);have vW:wr.cell? (w,1,7)=some ↑aP:=X.out.ag ((tk _ _ _ _ (by simp)).trans uj);have KQ:∀j,wr.frozen? ⟨(w:Nat),j,none⟩=false:=λj=>(X.out.frozen _ _ (by simpa[World.setCell]using tn)).trans (by simp[uX]);have KR:∀j,wr.frozen? ⟨(w:Nat)+1,j,none⟩=false:=λj=>(X.out.frozen _ _ (by simpa[World.setCell]using w5)).trans (by simp[y0]);skip;have hf:Z w wr:=Z.trans (((Z.trans (((Z.refl w).alloc _).alloc _) bz.out)).setCell (bJ _) _) X.out;have Ev:=(c7.out.jD (p:=(w,6)) (Nat.lt_succ_of_lt (QB _)) (ao aA fn dE)).ext X.out;replace Ev:=I Ev;replace hf:=I hf;revert dV q1 dk eP gV mO vV Br lr gM kM oG aBs aBt w6 vW KQ KR Ev hf
 exact aW.1):p:=h ⟨k⟩
def N0(k:q) (h:bY q->p:=by
 intro aW;go_wp2_with (at_builtin;go_must (refine ace (ys:=d.ts) rfl _ _ 36 154 rfl ct _ 56 KB bO.out bL.out bM.out bP.out rfl ah rfl (w.heap.size+1+1) rfl (db.out.ext (((Z.refl w).alloc _).alloc _)) T.cQ J ah (by simp) ?_);intro aA dE w1 jc br azH;go_must (have cO:w1.cell? (w,0)=some ↑hl:=br.ag (by simp);have c1:w1.cell? (w,1)=some ↑ma.b:=br.ag (by simp);have c2:w1.cell? (w,2)=some ↑(ae ma.l):=br.ag (by simp);have cV:w1.cell? (w,3)=some ↑(ae ma.s):=br.ag (by simp);have dF:w1.cell? (w,4)=some ↑iI:=br.ag (by simp);have dH:w1.cell? (w,5)=some ↑(ae mb):=br.ag (by simp);have eJ:w1.cell? (w,6)=some ↑(ao eS fn eT):=br.ag (by simp);have eM:w1.cell? (w,7)=some ↑(ao dL cD.length dO):=br.ag (by simp);have gn:w1.cell? (w,1,0)=some ↑av:=br.ag (by simp);have eI:w1.cell? (w,1,1)=some ↑av:=br.ag (by simp);have hn:w1.cell? (w,1,2)=some ↑aw:=br.ag (by simp);have hL:w1.cell? (w,1,3)=some ↑aw:=br.ag (by simp);have ib:w1.cell? (w,1,4)=some ↑av:=br.ag (by simp);have k6:w1.cell? (w,1,5)=some ↑aw:=br.ag (by simp);have pC:w1.cell? (w,1,6)=some ↑aP:=br.ag (by simp);have uj:w1.cell? (w,1,7)=some ↑aP:=br.ag (by simp);have uX:∀j,w1.frozen? ⟨(w:Nat),j,none⟩=false:=λj=>(br.frozen _ _ (by simp;omega)).trans (by simp);have y0:∀j,w1.frozen? ⟨(w:Nat)+1,j,none⟩=false:=λj=>(br.frozen _ _ (by simp)).trans (by simp);have c7:=I jc;have bz:=I br;have w5:(w:Nat)+1<(w1:Nat):=(by have:=br.size;simp at this;omega);have tn:(w:Nat)<(w1:Nat):=J;clear jc br azH))
 go_loopg [3,13] (cD.length) (λg e4 st wr=>∃(k:Nat) (ab:Option Addr) (m aR:Nat) (ys:List eu),g+k=cD.length/\st=.int .i64 k/\e4=.slice ab m aR/\
  aa (aH wr w1 34 1 eu.cs ab m aR ys/\ys.map (·.dt)=(cD.take k).map (·.dt)/\∀y,y∈ys->aH wr w1 77 4 cI.cs y.v.a y.v.n y.v.c y.dt)/\aa (Z (w1.setCell (w,6) (ao aA fn dE)) wr))
 case atStart=>clear aW;exact abM
 rename_i kq mJ rn sw Kl RF;revert aA dE w1 cO c1 c2 cV dF dH eJ eM gn eI hn hL ib k6 pC uj uX y0 c7 bz w5 tn kq mJ gk wr u3 u5 u13 u14 u15 u16 u17 u18 u19 u20 u21 u22 hrel rn sw Kl RF
 exact aW.1):p:=h ⟨k⟩
def D8(k:q) (h:bY q->p:=by
 intro aW;have g3:=FV dI x.z x.i.b (ae x.i.l) (ae x.i.s) x.st x.b x.cp x.vG x.up;have iY:=FW (w:=aN) (R:=(wr:Nat)+1) x.z x.i.b (ae x.i.l) (ae x.i.s) x.st x.b x.cp x.vG x.up;obtain⟨a6,vq⟩:∃a6,(((((((((aN.setCell (wr,1,0) x.z).setCell (wr,1,1) x.i.b).setCell (wr,1,2) (ae x.i.l)).setCell (wr,1,3) (ae x.i.s)).setCell (wr,1,4) x.st).setCell (wr,1,5) x.b).setCell (wr,1,6) x.cp).setCell (wr,1,7) x.vG).setCell (wr,1,8) x.up)=a6:=⟨_,rfl⟩;rw[vq]at g3 iY;rw[vq];clear vq;obtain⟨cA,cR,cS,du,dw,dx,dB,dy,jH⟩:=xE g3;have eA:Z a6 (a6.alloc x):=(Z.refl a6).alloc _;replace eA:=I eA;have qd:=I (cw.ayr bz J lV iY eA);replace iY:=I iY;clear g3;revert a6 cA cR cS du dw dx dB dy jH eA qd iY
 exact aW.1):p:=h ⟨k⟩
def Pt(k:q) (h:bY q->p:=by
 intro aW;skip;have b6:=I hk;have kF:(w1.alloc (Obj.map #[⟨.int .i64 1,.func (.func 135) #[] #[.pointer (some (w,1,0)),w],0⟩,⟨.int .i64 2,.func (.func 136) #[] #[.pointer (some (w,1,0)),w],1⟩,⟨.int .i64 3,.func (.func 140) #[] #[.pointer (some (w,1,0)),w],2⟩,⟨.int .i64 4,.func (.func 142) #[] #[w,.pointer (some (w,1,0))],3⟩,⟨.int .i64 5,.func (.func 143) #[] #[w,.pointer (some (w,1,0))],4⟩] 5)).heap[(w1:Nat)]?=some (Obj.map #[⟨.int .i64 1,.func (.func 135) #[] #[.pointer (some (w,1,0)),w],0⟩,⟨.int .i64 2,.func (.func 136) #[] #[.pointer (some (w,1,0)),w],1⟩,⟨.int .i64 3,.func (.func 140) #[] #[.pointer (some (w,1,0)),w],2⟩,⟨.int .i64 4,.func (.func 142) #[] #[w,.pointer (some (w,1,0))],3⟩,⟨.int .i64 5,.func (.func 143) #[] #[w,.pointer (some (w,1,0))],4⟩] 5):=e2 rfl;have eI:=((Z.refl w1).alloc (Obj.map #[⟨.int .i64 1,.func (.func 135) #[] #[.pointer (some (w,1,0)),w],0⟩,⟨.int .i64 2,.func (.func 136) #[] #[.pointer (some (w,1,0)),w],1⟩,⟨.int .i64 3,.func (.func 140) #[] #[.pointer (some (w,1,0)),w],2⟩,⟨.int .i64 4,.func (.func 142) #[] #[w,.pointer (some (w,1,0))],3⟩,⟨.int .i64 5,.func (.func 143) #[] #[w,.pointer (some (w,1,0))],4⟩] 5)).ag gn;revert b6 kF eI
 exact aW.1):p:=h ⟨k⟩
def HQ(k:q) (h:bY q->p:=by
 intro aW;have b3:Z w ((w.alloc o).alloc (.cells #[av,av,aw,aw,av,aP,av,av,.bool false] 83)):=U;have iC:((w.alloc o).alloc (.cells #[av,av,aw,aw,av,aP,av,av,.bool false] 83)).heap.size=(w:Nat)+2:=by simp
 have fZ:((w.alloc o).alloc (.cells #[av,av,aw,aw,av,aP,av,av,.bool false] 83)).heap[(w:Nat)]?=some (o:Obj):=gA;have bE:((w.alloc o).alloc (.cells #[av,av,aw,aw,av,aP,av,av,.bool false] 83)).heap[(w:Nat)+1]?=some (.cells #[av,av,aw,aw,av,aP,av,av,.bool false] 83):=gA;have ku:=h.cell (R:=(w:Nat)+1) b3 J J;have lK:=h.DZ (R:=(w:Nat)) J;have fC:=h.DZ (R:=(w:Nat)+1) J;revert b3 iC fZ bE ku lK fC
 exact aW.1):p:=h ⟨k⟩
def jC(k:q) (h:bY q->p:=by
 intro aW;refine aE _ _ (by(try dsimp only);exact⟨Z.ag (W:=dT) U PX,Z.ay (W:=dT) U wA⟩) λbd=>ej ?_;revert bd
 exact aW.1):p:=h ⟨k⟩
def a'(h:p:=by
 obtain⟨u0,u1,u2,u3,u4,u5,u6,u7,vn⟩:=kr bx;have WS:=BF (S:=λx=>x=B) (aI.refl _ dR) (R:=B) (.inl rfl) x.k x.id.b (ae x.id.l) (ae x.id.s) x.c (ae x.u) x.f x.e;have RG:=(B2.ext ix).jD WS bx ah ah ah;have aaJ:=PE bx x.k x.id.b (ae x.id.l) (ae x.id.s) x.c (ae x.u) x.f x.e;have sK:=dX.agd bx WS;have Km:=(WS.block _ (bZ (ix.ay PG)) J).trans (ix.ay PG);have Gu:=BF (pG.trans (.of ix)) (R:=B) (.inr J) x.k x.id.b (ae x.id.l) (ae x.id.s) x.c (ae x.u) x.f x.e;refine h9 14 λK aE=>?_;go_simp;refine aE _ _ (by(try dsimp only);exact RG.box) λbd=>ej ?_;refine de 15 ?_;refine og bQ ?_ _;generalize World.setCell _ (B,7) _=e1 at RG aaJ sK Km Gu ⊢;replace RG:=I RG;replace sK:=I sK;replace Gu:=I Gu;clear u0 u1 u2 u3 u4 u5 u6 u7 vn WS bx ix dX bd fH;obtain⟨u0,u1,u2,u3,u4,u5,u6,u7⟩:=lM aaJ;obtain⟨z0,cZ,z2,z3,z4,z5,gx,fE,mT⟩:=kr Km;replace Km:=I Km;clear aaJ;go_wp2_with fail;have B6:=BF (S:=λx=>x=(w:Nat)) (aI.refl _ e1) (R:=(w:Nat)) (.inl rfl) x.k x.id.b (ae x.id.l) (ae x.id.s) x.c (ae x.u) x.f x.e;have f8:=PE Km x.k x.id.b (ae x.id.l) (ae x.id.s) x.c (ae x.u) x.f x.e;have akB:=RG.jD B6 Km ah ah ah;have akC:=sK.agd Km B6;have akD:=BF Gu (R:=(w:Nat)) (.inr (bJ _)) x.k x.id.b (ae x.id.l) (ae x.id.s) x.c (ae x.u) x.f x.e;generalize World.setCell _ (w,7) _=dc at f8 akB akC akD ⊢;clear u0 u1 u2 u3 u4 u5 u6 u7 z0 cZ z2 z3 z4 z5 gx fE mT B6;obtain⟨z0,cZ,z2,z3,z4,z5,gx,fE⟩:=lM f8
 refine ke (v:=.agg #[x.k,x.id.b,ae x.id.l,ae x.id.s,x.c,ae x.u,x.f,x.e]) (by simp[results,results235,go_sem,z0,cZ,z2,z3,z4,z5,gx,fE]) rfl ⟨x,rfl,akC,akB,akD⟩):p:=h
def aby(h:p:=by
 obtain⟨ct,bO,bL,bM,bP⟩:=fB Sd;obtain rfl:=ar.neq;have hm:=ar.max;unfold maxLen at hm;change aa _ at ar b8 bO bL bM bP;go_enter func165,ntmps165;go_wp2_with fail;go_loopg [5,10] (xs.length) (λg e4 st wr=>∃(k:Nat) (aA:Option Addr) (m aR:Nat),g+k=xs.length/\st=.int .i64 k/\e4=.slice aA m aR/\m<=k/\aa (aH wr w 256 3 cu.cs aA m aR ((xs.take k).filter p))/\aa (Z w wr));case atStart=>exact⟨0,none,0,0,J,rfl,rfl,J,aH.nil _ _ _ cu.bI,Z.refl _⟩
 case round=>
  obtain⟨k,aA,m,aR,bC,rfl,rfl,ho,aJ,X⟩:=hrel;have lO:=aJ.aF.max;unfold maxLen at lO;by_cases hk:k<xs.length
  ·obtain⟨b,o,rfl,al⟩:=ar.get k hk;obtain⟨cO,c1,c2⟩:=Sb (w:=wr) (b:=b) (o:=o+k*3) (x:=xs[k]) (λj v aD=>X.ag (al j v aD));clear al;refine jU ?_;intro b0 bf;cases he:p xs[k]with
   |true=>
    change aa _ at he;go_wp2_with fail;refine(b8 xs[k] (cT hk) _ (X.alloc _)).mono ?_;rintro e w1⟨rfl,hy⟩;have d0:w1.cell? (wr,0)=some ↑xs[k].c:=hy.ag (by simp);have lP:w1.cell? (wr,1)=some ↑(ae xs[k].u):=hy.ag (by simp);have jE:w1.cell? (wr,2)=some ↑xs[k].f:=hy.ag (by simp);change aa _ at hy;rw[he.out];go_wp2_with (at_builtin;refine hc (ys:=(xs.take k).filter p) rfl (.tmp 17) (.tmp 19) 199 rfl ct _ 40 underlying199 bO bL bM bP rfl ah rfl (aJ.ext U) xs[k] _ rfl (fi (cs:=cu.cs xs[k]) rfl) (cu.cQ _) J ah (Z.size U) ?_;intro g dE a6 gd b2;have cK:=I gd;have b9:=I b2;clear gd b2);exact abA
   |false=>
    change aa _ at he;go_wp2_with fail;refine qQ (b8 xs[k] (cT hk) _ (X.alloc _)) λw1 hy=>?_;exact abB
  ·refine sy ?_;intro cb;rw[cb]at aJ;clear cb;go_wp2;go_ret
   exact⟨aA,m,aR,rfl,aJ,U⟩):p:=h
def ahL(h:p:=by
 clear eO;go_wp2_with fail;refine(VE _ U).mono ?_;rintro e a6⟨⟨hl,r4,na,mc,lW,sB,sC,sD⟩,rfl,wG,c0⟩;have MF:hl=1:=wG.k.trans ho;subst MF;have HU:(w:Nat)<=(wc:Nat):=Z.size U;have cK:=I (wG.mono (aBw:=(w:Nat)) HU);change aa _ at ho;replace c0:=I c0;clear wG HU;have dI:=gF.out;rw[bc (by rw[ho.out];simp)]at dI;obtain⟨aBk,qi⟩:=cK.nZ;replace qi:=I qi;obtain⟨n0,lr,f0,e0,zK,WT,aaK,azI,Hq⟩:=(H.ext (w':=a6.alloc (.cells #[bo 1,ae r4,na,mc,lW,sB,sC,sD] 232)) U).iO;have pF:=auL WT;have azJ:=I (H.ext (w':=a6.alloc (.cells #[bo 1,ae r4,na,mc,lW,sB,sC,sD] 232)) U).box;have azK:=I (show(a6.alloc (.cells #[bo 1,ae r4,na,mc,lW,sB,sC,sD] 232)).heap[(a6:Nat)]?=some (.cells #[bo 1,ae r4,na,mc,lW,sB,sC,sD] 232)from e2 rfl);have AQ:n0<=1000:=J;have xn:=I (show cv M (a6.alloc (.cells #[bo 1,ae r4,na,mc,lW,sB,sC,sD] 232)) (λw=>tP w ⟨1,r4,na,mc,lW,sB,sC,sD⟩ m)from(cK.b5 gW).step (.of U) (b4.ep _ _));replace dI:=I dI;replace zK:=I zK;replace WT:=I WT;replace aaK:=I aaK;replace Hq:=I Hq;clear azI pF;go_wp2_with fail;refine BU 6 (λw'=>Z (a6.alloc (.cells #[bo 1,ae r4,na,mc,lW,sB,sC,sD] 232)) w') (λbd=>?_);refine gR 0 ?_;refine gR 1 ?_;refine gR 2 ?_;refine l1 3 (·.ay azJ) ?_;refine gR 4 ?_;refine l1 5 (·.ay azK) ?_;refine kW 6 λK aE=>?_;refine PS rfl (PR _ _ _ rfl DO underlying157 rfl (zK.ext U) (by unfold maxLen;omega) rfl rfl (DP (uG J J)) qi ?_);intro bA DK Fm;refine aE _ _ (absurd rfl ·) λ_=>ej ?_;refine Ds bQ ?_ _;have o8:aI (·=v.kY) (a6.alloc (.cells #[bo 1,ae r4,na,mc,lW,sB,sC,sD] 232)) bA:=(aI.of (show Z _ _ from U)).trans (Vr Fm);have WU:=H.ext (w':=a6.alloc (.cells #[bo 1,ae r4,na,mc,lW,sB,sC,sD] 232)) U;obtain⟨BZ,zJ⟩:=WU.auM o8 (AZ.put WT aaK Hq Dz DK rfl o8 (WU.sub _ WU.bS.2.1) xn);have WL:=auO b6 (fr:=fr) dG;clear DK Fm o8 WU;go_wp2_with fail;refine(ahe BZ WL cg hm kd).mono ?_;rintro e c4⟨aaL,Gw,xt,rfl,zc,aaM⟩;rw[dI.out]at zc;go_wp2;go_ret
 exact⟨0,aaL,Gw,xt,rfl,zc,(zJ.trans aaM).cN U⟩):p:=h
def ND(h:p:=by
 refine jU ?_;intro b0 bf;cases he:p xs[k]with
 |true=>
  change aa _ at he;go_wp2_with fail;refine KE ?_;intro w1 hy;rw[he.out];go_wp2;go_ret;refine⟨jk (No (p:=p) hk eO he),?_⟩;exact U
 |false=>
  change aa _ at he;go_wp2_with fail;refine KE ?_;intro w1 hy
  exact W4):p:=h
def SQ(h:p:=by
 rw[c9,<-cd.neq]at xb;have v8:fI<=100040:=J;replace jE:=dz.ag jE;change aa _ at cK dz;clear xb eP;go_wp2_with (refine XZ rfl (.tmp 25) 9 107 5 rfl za nK Da rfl J ?_;intro cB aBl Dd q0 Yb;have If:=I Dd;have eQ:=I q0;clear Dd q0 Yb);refine(Iw _ _ _ _ _ _ _ _ _ (cK.aF.ext eQ) If J J).mono ?_;rintro e bA⟨a5,hM,dH,rfl,hq,ez⟩;change aa _ at hq ez;go_wp2;go_ret;refine⟨a5,hM,dH,rfl,?_,U⟩;have h:=hq.mono (aBw:=(w:Nat)) (Z.size U);unfold Aq;rw[ig,ig]at h;rw[ig]
 exact h):p:=h
def jU(k:q) (h:bY q->p:=by
 intro aW;have b0:(0:Int)<=(k:Int):=J;have bf:(k:Int)<(xs.length:Int):=J;revert b0 bf
 exact aW.1):p:=h ⟨k⟩
def aax(h:p:=by
 rw[<-kO];rintro aBm w1⟨M',eF,rfl,J6,DY⟩;have bE:=(DY.ee.block _ J oU).trans jt;have aaN:¬eF (w.heap.size+1):=λk=>(DY.f.new _ k).elim oU (λz=>by omega);obtain⟨u1,u2,u3,vn⟩:=qu bE;replace J6:=I J6;replace DY:=I DY;replace aaN:=I aaN;replace bE:=I bE;replace kO:=I kO;go_wp2_with fail;obtain⟨c4,vC⟩:∃c4,(((w1.setCell (w,1,0) r.2.1.b).setCell (w,1,1) (ae r.2.1.l)).setCell (w,1,2) (ae r.2.1.s))=c4:=⟨_,rfl⟩;have f0:=Ht bE r.2.1.b (ae r.2.1.l) (ae r.2.1.s);have lI:=xS (S:=λx=>x=(w:Nat)+1) (aI.refl _ w1) (R:=(w:Nat)+1) (.inl rfl) 0 1 2 r.2.1.b (ae r.2.1.l) (ae r.2.1.s);rw[vC]at f0 lI;rw[vC];obtain⟨z0,cZ,z2⟩:=jm f0;refine⟨rfl,_,(by simp[results,results36,go_sem,z0,cZ,z2];rfl),?_⟩
 exact⟨M',eF,rfl,J6.store (DY.m.up _ (.inr rfl)) aaN lI,DY.cell b3 J lI⟩):p:=h
def Pu(h:p:=by
 rintro e aN⟨rfl,eh⟩;change aa _ at eh;clear bT eI;cases ad:(fl d r).isSome with
 |true=>
  exact akE
 |false=>
  exact akE):p:=h
def P'(k:q) (h:bY q->p:=by
 intro aW;go_wp2_with fail;refine CQ bQ bQ ?_;repeat (first|go_big_quiet_step ((first|(go_at_call 17;exact Calls.nX (oF v.s (au.map (·.x)) xs[k].x.id _ (bg.out.ext (Hj.out.trans (fu.ck _)))) (eH Value.bool P5.out))|(go_at_call 92;exact Calls.nX (H' (H.out.ext (Hj.out.trans (fu.ck _))) kd.out xs[k].x.id ag7) (eH Value.bool P7.out))))|quiet_step ((first|(go_at_call 17;exact Calls.nX (oF v.s (au.map (·.x)) xs[k].x.id _ (bg.out.ext (Hj.out.trans (fu.ck _)))) (eH Value.bool P5.out))|(go_at_call 92;exact Calls.nX (H' (H.out.ext (Hj.out.trans (fu.ck _))) kd.out xs[k].x.id ag7) (eH Value.bool P7.out)))))
 refine Je ?_;intro cW gK;revert cW gK
 exact aW.1):p:=h ⟨k⟩
def MV(h:p:=by
 refine de 11 ?_;refine de 12 ?_;refine og bQ ?_ _;go_wp2;go_ret2;obtain⟨iS,hW,mZ,eI,hn,hL,ib,k6,pC⟩:=k1.wE (dd:=dd) (p:=(dZ).heap.size) bg.eq vB QZ Q1 hq Q2 yv pG rF zV Q0 (show Z (dZ) _ from U) (bJ _) (e2 rfl)
 exact⟨_,iS,hW,mZ,rfl,eI,hn,hL,ib,k6,pC⟩):p:=h
def Q3(k:q) (h:bY q->p:=by
 intro aW;refine IP (ys0:= []) (ys:=c.hs) (c:=dP) rfl (.const aP) (.tmp 64) 22 3 rfl ct _ 8 yW bO bL bM bP rfl ah rfl (aH.nil (dD) bA 3 dP.tD) (show Z bA _ from U).size rfl (i7.ext U) dP.nD J ah J ?_;intro hb kT dZ ir b2;simp only[ow]at ir ⊢;have tV:=I (b2.ext (aH.nil (dD) (dD).heap.size 3 dP.tD) (bJ _) (Z.refl (dD)));replace ir:=I ir;clear b2;revert hb kT dZ tV ir
 exact aW.1):p:=h ⟨k⟩
def abg(h:p:=by
 ·have o6:((xs.map (·.ts)).drop (k+1)).take eU=(xs.map (·.ts)).drop (k+1):=iU (by rw[CM,cx];omega);rw[o6]at R7;clear o6;have aBn:xs[k].v.n<=10000:=abd.out _ (cT hk);go_wp2_with (first|(go_at_call 329;refine(alz _ _ _ xs[k].ts _ (eh.out.ext U) J).mono ?_;rintro e cW⟨vX,Gf,h7,rfl,Gg,En⟩;change aa _ at Gg En)|(at_builtin;refine hc (ys:=ys) rfl (.tmp 40) (.tmp 43) 350 rfl ct _ 24 underlying350 bO.out bL.out bM.out bP.out rfl ah rfl (aJ.out.aF.ext U) ⟨⟨vX,Gf,h7⟩,xs[k].ts⟩ _ rfl (fi (cs:=lN.cs ⟨⟨vX,Gf,h7⟩,xs[k].ts⟩) rfl) (lN.cQ _) J ah (Z.size U) ?_;intro g dE a6 gd b2;have cK:=I gd;have b9:=I b2;clear gd b2));go_roundg (G - 1);case measure=>omega
  case rel=>
   refine⟨k+1,_,_,_,ys++[⟨⟨vX,Gf,h7⟩,xs[k].ts⟩],J,by go_num,rfl,J,⟨cK.out,λy hy=>?_⟩,?_,b9.out.ext (aJ.out.aF.ext U) (bJ _) U⟩
   ·rcases ie.1 hy with hy|hy
    ·exact b9.out.z8 (aJ.out.aF.ext U) ((aJ.out.ts y hy).ext U) ah
    ·obtain rfl:=jg.1 hy;exact b9.out.z8 (aJ.out.aF.ext U) ((Gg.out.mono (Z.size U)).ext U) ah
   ·rw[fT];have:=alE Nz.out cJ.out (by rw[NA.out,abb,eO.out,R7.out];rfl);rw[NA.out]at this
    exact this):p:=h
def Rr(k:q) (h:bY q->p:=by
 intro aW;have n4:=(qh).cN (show Z bh _ from U);obtain⟨mo,rl⟩:=jQ.In dg fO gC hg ki jj n4;refine ajL ?_;intro hX c7 di;replace mo:=I mo;replace rl:=I rl;replace hX:=I hX;replace c7:=I c7;replace di:=I di;revert n4 mo rl hX c7 di
 exact aW.1):p:=h ⟨k⟩
def D7(k:q) (h:bY q->p:=by
 intro aW;rintro e aN⟨x,M2,ou,rfl,tT,mm,lV⟩;have dI:=(lV.ee.block _ (bZ kZ) ayw).trans kZ;obtain⟨v0,v1,v2,v3,v4,v5,v6,hh,jO,pW⟩:=xR dI;replace tT:=I tT;replace mm:=I mm;replace lV:=I lV;replace dI:=I dI;revert aN x M2 ou v0 v1 v2 v3 v4 v5 v6 hh jO pW tT mm lV dI
 exact aW.1):p:=h ⟨k⟩
def afo(k:q) (h:bY q->p:=by
 intro aW;obtain⟨ct,aK,fa,fj,pB⟩:=fB Ao;change aa _ at aK fa fj pB;have bH:=((Z.refl w).alloc x.id).ag (aL (o:=0) al rfl);have h4:=((Z.refl w).alloc x.id).ag (aL (o:=0) h.box rfl);have pN:=((Z.refl w).alloc x.id).ag (aL (o:=1) h.box rfl);have qE:=((Z.refl w).alloc x.id).ag (aL (o:=2) h.box rfl);have qF:=((Z.refl w).alloc x.id).ag (aL (o:=3) h.box rfl);obtain⟨Jg,qz,wv⟩:=jm (e2 (w:=w) (o:=(x.id:Obj)) (n:=(w:Nat)) rfl);obtain⟨-,-,-,b1,dJ,eG⟩:=RU az;have xo:=((Z.refl w).alloc x.id).ag (aL (o:=1) az rfl);replace bH:=fu.cell (w:=(w.alloc x.id)) (a:=(gb,0)) (v:=.pointer (some (q,0))) bH;replace h4:=fu.cell (w:=(w.alloc x.id)) (a:=(q,0)) (v:=.int .u64 s.cX) h4;replace pN:=fu.cell (w:=(w.alloc x.id)) (a:=(q,1)) (v:=.slice s.l.a s.l.n s.l.c) pN;replace qE:=fu.cell (w:=(w.alloc x.id)) (a:=(q,2)) (v:=.slice s.p.a s.p.n s.p.c) qE;replace qF:=fu.cell (w:=(w.alloc x.id)) (a:=(q,3)) (v:=.slice s.b.a s.b.n s.b.c) qF;replace Jg:=fu.cell (w:=(w.alloc x.id)) (a:=(w,0)) (v:=.int .i64 x.id.b) Jg;replace qz:=fu.cell (w:=(w.alloc x.id)) (a:=(w,1)) (v:=.int .u64 x.id.l) qz;replace wv:=fu.cell (w:=(w.alloc x.id)) (a:=(w,2)) (v:=.int .u64 x.id.s) wv;replace xo:=fu.cell (w:=(w.alloc x.id)) (a:=(fx,1)) (v:=.int .u64 (r.n:Int)) xo;have bg:=I ((h.st.l.cj.aF.map (c:=bR.cs) (λp:bU=>p.x) (λ_=>rfl)).ext ((Z.refl w).alloc x.id));revert ct aK fa fj pB b1 dJ eG bH h4 pN qE qF Jg qz wv xo bg
 exact aW.1):p:=h ⟨k⟩
def arB(k:q) (h:bY q->p:=by
 intro aW;obtain⟨cO,c1,c2,cV,dF,dH,eJ,eM,jG⟩:=Jn (w:=wr) (b:=b) (o:=o+k*9) (p:=ts[k]) (λj v aD=>mB.ag (al j v aD));have E1:(k:Int)<(ts.length:Int):=J;have sN:(0:Int)<=(k:Int):=J;have uB:=I (show m=k from azL);skip;go_wp2_with fail;have z0:=e2 (w:=wr) (o:=(.cells #[ts[k].x.k,ts[k].x.id.b,ae ts[k].x.id.l,ae ts[k].x.id.s,ts[k].x.c,ae ts[k].x.u,ts[k].x.f,ts[k].x.e,ts[k].a] 191)) (n:=(wr:Nat)) rfl;have bq:Z wr (wr.alloc (.cells #[ts[k].x.k,ts[k].x.id.b,ae ts[k].x.id.l,ae ts[k].x.id.s,ts[k].x.c,ae ts[k].x.u,ts[k].x.f,ts[k].x.e,ts[k].a] 191)):=U;have lg:(wr.alloc (.cells #[ts[k].x.k,ts[k].x.id.b,ae ts[k].x.id.l,ae ts[k].x.id.s,ts[k].x.c,ae ts[k].x.u,ts[k].x.f,ts[k].x.e,ts[k].a] 191)).heap.size=(wr:Nat)+1:=by simp
 obtain⟨z,ec⟩:∃z,z=(wr:Nat):=⟨_,rfl⟩;generalize oQ:(wr.alloc (.cells #[ts[k].x.k,ts[k].x.id.b,ae ts[k].x.id.l,ae ts[k].x.id.s,ts[k].x.c,ae ts[k].x.u,ts[k].x.f,ts[k].x.e,ts[k].a] 191))=aN at z0 bq lg ⊢;rw[<-ec]at z0 lg ⊢;change aa _ at ec lg bq;clear oQ;refine sX (λw'=>w'.heap[z]?=some (.cells #[ts[k].x.k,ts[k].x.id.b,ae ts[k].x.id.l,ae ts[k].x.id.s,ts[k].x.c,ae ts[k].x.u,ts[k].x.f,ts[k].x.e,ts[k].a] 191)) (λbd=>?_) ZS;refine de 0 ?_;refine de 1 ?_;refine de 4 ?_;refine l0 2 id ?_;refine l0 5 id ?_;refine h9 3 λK aE=>?_;go_simp;rename_i kq mJ;revert cO c1 c2 cV dF dH eJ eM jG E1 sN uB kq mJ z aN z0 ec lg bq bd K aE
 exact aW.1):p:=h ⟨k⟩
def CV(h:p:=by
 first|(simp[hk];done)|exact Sr _ _ _ (by simp)|(refine(tk _ _ _ _ ?_).trans ?_<;>simp[hk])):p:=h
def MW(k:q) (h:bY q->p:=by
 intro aW;obtain⟨c4,vC⟩:∃c4,(((w1.setCell (w,0) av).setCell (w,1) aw).setCell (w,2) aw)=c4:=⟨_,rfl⟩;have f0:=Ht ad av aw aw;have lI:=xS (S:=λx=>x=(w:Nat)) (aI.refl _ w1) (R:=(w:Nat)) (.inl rfl) 0 1 2 av aw aw;rw[vC]at f0 lI;rw[vC];clear vC;obtain⟨z0,cZ,z2⟩:=jm f0;revert c4 f0 lI z0 cZ z2
 exact aW.1):p:=h ⟨k⟩
def zS(k:q) (h:bY q->p:=by
 intro aW;(first|refine aE _ _ AM λbd=>ej ?_|(go_wp2_with fail;refine aE _ _ AM λbd=>ej ?_));revert bd
 exact aW.1):p:=h ⟨k⟩
def G2(h:p:=by
 refine Ub ?_;intro cW AA;go_wp2;go_ret;rw[bu.out]
 exact H.out.ep U _):p:=h
def S1(k:q) (h:bY q->p:=by
 intro aW;refine(EE p 40 aF xs _ dI ah J ah).mono ?_;rintro e a6⟨g,c,rfl,cK,jF,iY⟩;have fc:a6.heap[(w:Nat)]?=some (WR:Obj):=(iY.block _ (bZ fW) J).trans fW;obtain⟨b,o,n,Rv,W6⟩:=jF.ck;have c1:a6.cell? (p,1)=some (.bool false):=aL Rv rfl;have Oz:p<(a6:Nat):=Ee c1;clear W6 Rv;have Gr:=bZ fc;obtain⟨gn,eI,hn,fr⟩:=qu (show a6.heap[(w:Nat)]?=some (.cells #[av,av,.string ⟨#[]⟩] _ _)from fc);change aa _ at cK jF iY fc;revert a6 g c b o n c1 Oz Gr gn eI hn fr cK jF iY fc
 exact aW.1):p:=h ⟨k⟩
def adw(h:p:=by
 replace dU:=dz.ag (cn.ag (show w1.drew.cell? _=_ from dU));replace g2:=dz.ag (cn.ag (show w1.drew.cell? _=_ from g2));replace g3:=dz.ag (cn.ag (show w1.drew.cell? _=_ from g3));replace g4:=dz.ag (cn.ag (show w1.drew.cell? _=_ from g4));replace g5:=dz.ag (cn.ag (show w1.drew.cell? _=_ from g5));replace g6:=dz.ag (cn.ag (show w1.drew.cell? _=_ from g6));replace g7:=dz.ag (cn.ag (show w1.drew.cell? _=_ from g7));replace g8:=dz.ag (cn.ag (show w1.drew.cell? _=_ from g8));replace g9:=dz.ag (cn.ag (show w1.drew.cell? _=_ from g9));go_wp2_with fail;refine(Yk x d _ (a8.ext U) cJ).mono ?_;rintro e cB⟨a4,mz,dF,rfl,ed,eQ⟩;have De:mz<=20000:=by rw[ed.neq];exact La cJ
 change aa _ at ed eQ;go_wp2_with fail;refine(Iw _ _ _ _ _ _ _ _ _ (cK.aF.ext eQ) ed.aF J J).mono ?_;rintro e bA⟨a5,hM,dH,rfl,hq,ez⟩;change aa _ at hq ez;go_wp2;go_ret2;refine⟨_,_,_,rfl,?_,U⟩;have h:=hq.mono (aBw:=(w:Nat)) (Z.size U);simp only[mN,ig]at h
 exact h):p:=h
def acw(h:p:=by
 go_wp2_with fail;go_region_law (first|(refine tq (ys:=ys) rfl (.tmp 3) (.tmp 6) 42 rfl ct _ 96 aiM bO bL bM bP rfl ah rfl (bu.ext U) ⟨cH,d⟩ _ rfl (fi (cs:=bU.cs ⟨cH,d⟩) rfl) (bU.cQ _) J ah (ek Ir (Z.size U)) ?_;intro g dE a6 gd b2;have cK:=I gd;have o3:=b2.ay (((Z.refl _).alloc _).ay eB) Bv;have Oa:=aiN o3;have Ob:=free_of_one o3;have b9:=I b2;clear gd b2)|(rw[bc (show _=true by simp[Region.wanted])];go_simp;go_at_call 264;refine(Sy x d _ (a8.ext U) ev).mono ?_;rintro e cW⟨cH,rfl,um,hy⟩;have kg:=I um;have eB:=hy.ay (by assumption);have bH:=aiN eB;have aoL:=lt_of_block eB;change aa _ at hy;clear um))
 all_goals
  go_end0
  refine⟨rfl,g,dE,⟨cH,d⟩,cK.jD w0 _,⟨rfl,((((kg.mono (ek Ir (Z.size U))).ext U).grow b9 (bu.ext U) ah ah ah).jD w0 _)⟩,one_setCell o3,y1.of U b9 (gb,0) _,?_⟩
  rcases b9.at_ with h|h
  ·exact .inl h
  ·exact .inr (by rw[h];exact Z.size U)):p:=h
def ahM(h:p:=by
 clear eO;go_wp2_with fail;refine(VE _ U).mono ?_;rintro e a6⟨⟨hl,r4,na,mc,lW,sB,sC,sD⟩,rfl,wG,c0⟩;have MF:hl=2:=wG.k.trans ho;subst MF;have HU:(w:Nat)<=(wc:Nat):=Z.size U;have cK:=I (wG.mono (aBw:=(w:Nat)) HU);change aa _ at ho;replace c0:=I c0;clear wG HU;have dI:=gF.out;rw[aV (by rw[ho.out];simp),bc (by rw[ho.out];simp)]at dI;obtain⟨aX,ps,hf,b8,eL⟩:=cK.auP gW;have xn:=I (eL.step (.of (show Z a6 (a6.alloc (.cells #[bo 2,ae r4,na,mc,lW,sB,sC,sD] 232))from U)) (b4.ep _ _));replace hf:=I hf;replace b8:=I b8;have px:=I (tL ho);have Hv:=I (Ho (by trivial) ho);replace dI:=I dI;clear eL;go_wp2_with fail;refine(aui (H.ext (w':=a6.alloc (.cells #[bo 2,ae r4,na,mc,lW,sB,sC,sD] 232)) U) b6 cg.room yh Ci ⟨2,r4,na,mc,lW,sB,sC,sD⟩ m aX ps xn hf b8 dG.aX dG.ps ⟨dG.aB.1,px⟩ dG.aU Hv).mono ?_;rintro e c4⟨aaL,Gw,xt,rfl,zc,aaM⟩;rw[dI.out]at zc;go_wp2;go_ret
 exact⟨0,aaL,Gw,xt,rfl,zc,aaM.cN U⟩):p:=h
def NZ(k:q) (h:bY q->p:=by
 intro aW;have hm:=jv.aF.max;unfold maxLen at hm;have KN:fn<=100:=by rw[db.neq];exact bm
 have KO:cD.length<=100:=by rw[<-ky,cx]at he;exact he
 have dG:=I (show ∀y,y∈cD->y.dt.length<=100 from λy hy=>ak y.dt (by rw[<-ky];exact nH hy));revert hm KN KO dG
 exact aW.1):p:=h ⟨k⟩
def afr(k:q) (h:bY q->p:=by
 intro aW;refine CQ bQ bQ ?_;repeat (first|go_big_quiet_step (((first|(go_at_call 17;exact Calls.nX (oF s (au.map (·.x)) x.id _ (bg.out.ext (fu.ck _))) (eH Value.bool bE.out))|(go_at_call 141;exact Calls.nX (vR s (ps.map (·.x)) x.id _ (b8.out.ext (fu.ck _))) (eH Value.bool fW.out))|exact akF)))|quiet_step (((first|(go_at_call 17;exact Calls.nX (oF s (au.map (·.x)) x.id _ (bg.out.ext (fu.ck _))) (eH Value.bool bE.out))|(go_at_call 141;exact Calls.nX (vR s (ps.map (·.x)) x.id _ (b8.out.ext (fu.ck _))) (eH Value.bool fW.out))|(go_at_call 137;exact Calls.nX (yX s d.aB x.id _ (tL.out.ext (fu.ck _))) (eH Value.bool fc.out))))))
 exact aW.1):p:=h ⟨k⟩
def adt(h:p:=by
 have heq:=Bm i.b i.l i.s 0 0 0;go_enter func133,ntmps133;go_wp2_with fail;refine(Td _ _ _ _ aZ af).mono ?_;rintro e w1⟨rfl,br⟩;have c1:w1.cell? (w,1)=some ↑aw:=br.ag (by simp);have c2:w1.cell? (w,2)=some ↑av:=br.ag (by simp);have cV:w1.cell? (w,3)=some ↑av:=br.ag (by simp);have dF:w1.cell? (w,4)=some ↑aw:=br.ag (by simp);have dH:w1.cell? (w,5)=some ↑aw:=br.ag (by simp);have eJ:w1.cell? (w,6)=some ↑av:=br.ag (by simp);have eM:w1.cell? (w,7)=some ↑aw:=br.ag (by simp);have jG:w1.cell? (w,8)=some ↑aP:=br.ag (by simp);have ij:w1.cell? (w,9)=some ↑aP:=br.ag (by simp);change aa _ at br;go_wp2_with fail;refine qQ (adn _) λaN cn=>?_;go_wp2;go_ret;refine⟨rfl,?_⟩
 exact U):p:=h
def s9(h:p:=by
 rw[show x=(w:Nat)from e];exact bJ _):p:=h
def arE(h:p:=by
 refine aE _ _ (by(try dsimp only);exact z4) λbd=>ej ?_;refine de 9 ?_;refine og bQ ?_ _;go_wp2;go_roundg (gk - 1);case measure=>omega
 case rel=>
  refine⟨k+1,_,_,_,ys++[⟨cH,ts[k].e,ts[k].a⟩],J,rfl,by go_num,⟨?_,?_⟩,?_⟩
  ·exact(b7.out.1.ext (w':=a6.alloc (.cells #[cH.k,cH.id.b,ae cH.id.l,ae cH.id.s,cH.c,ae cH.u,cH.f,cH.e,ts[k].a] 191)) U).qA b9 ed ((kg.mono (aBw:=(w:Nat)) (Z.size U)).ext U)
  exact azM
  ·exact b9.ext (b7.out.1.cj.ext (w':=a6.alloc (.cells #[cH.k,cH.id.b,ae cH.id.l,ae cH.id.s,cH.c,ae cH.u,cH.f,cH.e,ts[k].a] 191)) U) (bJ _) U):p:=h
def lm(k:q) (h:bY q->p:=by
 intro aW;refine IP (ys0:= []) (ys:=c.hs) (c:=dP) rfl (.const aP) (.tmp 64) 22 3 rfl ct _ 8 yW bO bL bM bP rfl ah rfl (aH.nil (dR) bA 3 dP.tD) (show Z bA _ from U).size rfl (i7.ext U) dP.nD J ah J ?_;intro hb kT dZ ir b2;simp only[ow]at ir ⊢;have tV:=I (b2.ext (aH.nil (dR) (dR).heap.size 3 dP.tD) (bJ _) (Z.refl (dR)));replace ir:=I ir;clear b2;revert hb kT dZ tV ir
 exact aW.1):p:=h ⟨k⟩
def ls(k:q) (h:bY q->p:=by
 intro aW;refine IP (ys0:= []) (ys:=c.hs) (c:=dP) rfl (.const aP) (.tmp 64) 22 3 rfl ct _ 8 yW bO bL bM bP rfl ah rfl (aH.nil (e1) bA 3 dP.tD) (show Z bA _ from U).size rfl (i7.ext U) dP.nD J ah J ?_;intro hb kT dZ ir b2;simp only[ow]at ir ⊢;have tV:=I (b2.ext (aH.nil (e1) (e1).heap.size 3 dP.tD) (bJ _) (Z.refl (e1)));replace ir:=I ir;clear b2;revert hb kT dZ tV ir
 exact aW.1):p:=h ⟨k⟩
def G3(h:p:=by
 (try dsimp only);exact⟨Z.ay (W:=w) U al.out,Z.ay (W:=w) U az.out,Z.ay (W:=w) U H.out.box⟩):p:=h
def rc(k:q) (h:bY q->p:=by
 intro aW;obtain⟨l6,l5⟩:∃l6,tX r.1 b.gQ=l6:=⟨_,rfl⟩;rw[l5];replace l5:=I l5;obtain⟨c4,vC⟩:∃c4,(((dc.setCell (w,0) l6.b).setCell (w,1) (ae l6.l)).setCell (w,2) (ae l6.s))=c4:=⟨_,rfl⟩;have f0:=Ht jb l6.b (ae l6.l) (ae l6.s);have lI:=xS (S:=λx=>x=(w:Nat)) (aI.refl _ dc) (R:=(w:Nat)) (.inl rfl) 0 1 2 l6.b (ae l6.l) (ae l6.s);rw[vC]at f0 lI;rw[vC];clear vC;obtain⟨z0,cZ,z2⟩:=jm f0;revert l6 l5 c4 f0 lI z0 cZ z2
 exact aW.1):p:=h ⟨k⟩
def H2(h:p:=by
 dsimp only at bT;go_wp2;go_ret;refine⟨jl (by rw[yP.out,je hk.out,CP]),?_⟩
 exact U):p:=h
def ahA(h:p:=by
 refine ahB ?_;intro aN ch cF c2 vt bq cd kc hH bd;refine dC 7 ?_;refine dC 8 ?_;refine jz 9 λK aE=>?_;go_simp;go_at_call 95;refine(ahz (H.ext U) r.1 r.2 ch cF c2 vt cd kc).mono ?_;rintro e a6⟨M',bX,O',rfl,Vm,Hc⟩;refine aE _ _ (λ_ h=>absurd rfl h) λ_=>ej ?_;refine jz 10 λK aE=>?_
 exact ahC):p:=h
def RO(h:p:=by
 ·cases aA with
  |none=>exact j1.elim (λh=>by cases h) .inr
  |some ai=>
         rcases j1 with j1|j1
         ·simp only[Value.ownBlock,Option.some.injEq]at j1;exact .inl ⟨ai,rfl,j1⟩
         ·exact .inr j1):p:=h
def ahb(k:q) (h:bY q->p:=by
 intro aW;have oT:Z w1 (w1.alloc o):=(Z.refl _).alloc o;have fs:(w1.alloc o).heap.size=(w1:Nat)+1:=by simp
 have aj:aI (λy=>∃ai,hD=some ai/\ai.block=y) (w1.alloc o) dc:=⟨bC.os,bC.tape,bC.output,bC.size,λy hy aq=>bC.block y hy (λai ak e=>aq ⟨ai,ak,e⟩)⟩;have bj:∀y,(∃ai,hD=some ai/\ai.block=y)->M' y:=λy ⟨ai,ak,e⟩=>e▸(bB ai ak).1;have gW:=bx.b5;have vw:M' g9/\¬bX g9/\¬O' g9\/(w1.alloc o).heap.size<=g9:=by
  rcases bC.at_ with ⟨ai,bH,b1⟩|k
  ·exact .inl (b1▸bB ai bH)
  ·exact .inr (by rw[k];exact bJ _)
 have bk:b4 (w1.alloc o) M' (k9 M' (·=g9)):=⟨λ_ k=>.inl k,λy hy=>hy.elim .inl (λk=>vw.elim (λz=>.inl (by rw[show y=g9 from k];exact z.1)) (λz=>.inr (by rw[show y=g9 from k];exact z)))⟩;revert oT fs aj bj gW vw bk
 exact aW.1):p:=h ⟨k⟩
def YJ(h:p:=by
 ·rcases ie.1 hy with hy|hy
  ·have qW:=(BI.out.aB y hy).ext ((Z.refl bA).alloc (.cells #[ao a5 hM dH] 107));exact fy.out.bS qW (ru.gT qW ah)
  ·obtain rfl:=jg.1 hy;have qW:=hq.out.ext ((Z.refl bA).alloc (.cells #[ao a5 hM dH] 107))
   exact fy.out.bS qW (ru.gT qW ah)):p:=h
def li(h:p:=by
 refine de 11 ?_;refine de 12 ?_;refine og bQ ?_ _;go_wp2;go_ret2;obtain⟨iS,hW,mZ,eI,hn,hL,ib,k6,pC⟩:=k1.wE (dd:=dd) (p:=(dR).heap.size) bg.eq vB QZ Q1 hq Q2 yv pG rF zV Q0 (show Z (dR) _ from U) (bJ _) (e2 rfl)
 exact⟨_,iS,hW,mZ,rfl,eI,hn,hL,ib,k6,pC⟩):p:=h
def jp(h:p:=by
 refine de 11 ?_;refine de 12 ?_;refine og bQ ?_ _;go_wp2;go_ret2;obtain⟨iS,hW,mZ,eI,hn,hL,ib,k6,pC⟩:=k1.wE (dd:=dd) (p:=(e1).heap.size) bg.eq vB QZ Q1 hq Q2 yv pG rF zV Q0 (show Z (e1) _ from U) (bJ _) (e2 rfl)
 exact⟨_,iS,hW,mZ,rfl,eI,hn,hL,ib,k6,pC⟩):p:=h
def uQ(k:q) (h:bY q->p:=by
 intro aW;have rq:=@run_makeMap prog;go_simp;clear rq
 exact aW.1):p:=h ⟨k⟩
def tS(k:q) (h:bY q->p:=by
 intro aW;refine dC 0 ?_;refine dC 1 ?_;refine dC 2 ?_
 exact aW.1):p:=h ⟨k⟩
def B_(k:q) (h:bY q->p:=by
 intro aW;obtain⟨ts,db,sq⟩:=H.c8.tx;have ev:=I (Mc sq (λt bm=>(hk.tx t bm).eC));have qg:v.tx.n<=1000:=by rw[db.aF.neq,<-cx (f:=ca.tx),sq];have:=hk.sV;omega
 have gD:=I (H.ext (w':=w.alloc i) U).box;refine E' ?_;intro s5;have Mu:=I (((Z.refl w).alloc i).ay FB);have JR:=I (((Z.refl w).alloc i).ay w0);revert ts db sq ev qg gD s5 Mu JR
 exact aW.1):p:=h ⟨k⟩
def H0(h:p:=by
 go_ret;refine⟨jl (by rw[yP.out,H.out,jf hk.out,Bool.true_and];rfl),?_⟩
 exact U):p:=h
def HZ(h:p:=by
 repeat (first|(refine e2 ?_;(simp;done))|refine aaZ (by first|(simp;done)|(simp;omega)) ?_)):p:=h
def N4(h:p:=by
 ·(repeat (first|with_reducible exact Ev.out|refine aH.jD ?_ (by first|exact Nat.lt_succ_of_lt (QB _)|exact QB _) _))):p:=h
def Kf(k:q) (h:bY q->p:=by
 intro aW;go_upto_region 1 with (fail);obtain⟨bh,eX⟩:∃bh,((w.alloc o).alloc (.cells #[av,av,aw,aw,av,aP,av,av,.bool false] 83))=bh:=⟨_,rfl⟩;rename_i kq mJ rn;revert kq mJ rn bh eX
 exact aW.1):p:=h ⟨k⟩
def afm(k:q) (h:bY q->p:=by
 intro aW;refine CQ bQ bQ ?_;repeat (first|go_big_quiet_step (((first|(go_at_call 17;exact Calls.nX (oF s (au.map (·.x)) r.id _ (bg.out.ext (fu.ck _))) (eH Value.bool bE.out))|(go_at_call 137;exact Calls.nX (yX s d.aB r.id _ (tL.out.ext (fu.ck _))) (eH Value.bool fc.out)))))|quiet_step (((first|(go_at_call 17;exact Calls.nX (oF s (au.map (·.x)) r.id _ (bg.out.ext (fu.ck _))) (eH Value.bool bE.out))|(go_at_call 137;exact Calls.nX (yX s d.aB r.id _ (tL.out.ext (fu.ck _))) (eH Value.bool fc.out))))))
 exact aW.1):p:=h ⟨k⟩
def afv(k:q) (h:bY q->p:=by
 intro aW;refine CQ bQ bQ ?_;repeat (first|go_big_quiet_step (((first|(go_at_call 17;exact Calls.nX (oF s (au.map (·.x)) x.id _ (bg.out.ext (fu.ck _))) (eH Value.bool bE.out))|exact akF)))|quiet_step (((first|(go_at_call 17;exact Calls.nX (oF s (au.map (·.x)) x.id _ (bg.out.ext (fu.ck _))) (eH Value.bool bE.out))|(go_at_call 137;exact Calls.nX (yX s d.aB x.id _ (tL.out.ext (fu.ck _))) (eH Value.bool fc.out))))))
 exact aW.1):p:=h ⟨k⟩
def H6(k:q) (h:bY q->p:=by
 intro aW;go_enter func339,ntmps339;go_wp2_with (go_at_call 351;refine(aa2 _ _).mono ?_;rintro e w'⟨rfl,rfl⟩);go_ret;rename_i kq mJ;revert kq mJ
 exact aW.1):p:=h ⟨k⟩
def ady(h:p:=by
 replace dU:=dz.ag (cn.ag (show w1.drew.cell? _=_ from dU));replace g10:=dz.ag (cn.ag (show w1.drew.cell? _=_ from g10));replace g11:=dz.ag (cn.ag (show w1.drew.cell? _=_ from g11));replace g12:=dz.ag (cn.ag (show w1.drew.cell? _=_ from g12));go_wp2_with fail;refine(Tf _ _ _ _ i _ cK.aF aK J).mono ?_;rintro e cB⟨a4,mz,dF,rfl,ed,eQ⟩;change aa _ at ed eQ;go_wp2;go_ret2;refine⟨_,_,_,rfl,?_,U⟩;have h:=ed.mono (aBw:=(w:Nat)) (Z.size U);simp only[mN,ig]at h
 exact h):p:=h
def Ia(h:p:=by
 go_wp2;go_roundg (gk - 1);case measure=>omega
 case rel=>exact⟨k+1,J,by go_num,U⟩):p:=h
def af7(h:p:=by
 rintro e aN⟨ch,cF,c2,rfl,aM,fW⟩;have kA:cF<=n+10+20100*(k+1):=by
  have af:=aM.neq;have an:=aJ.neq;have aO:=xZ xs[k] (cT hk);rw[c9,<-an]at af;omega
 have cd:=I (aM.mono (aBw:=(w:Nat)) (Z.size U));change aa _ at fW
 exact af8):p:=h
def Tt(k:q) (h:bY q->p:=by
 intro aW;refine YK ?_;intro aA n cap fw mD bu eB bH b1 Dh;have p4:=(h).q;have xh:=(h).max;have uv:=(h).p3;have zm:=I (h).b5;have qx:=mD.neq;revert aA n cap fw mD bu eB bH b1 Dh p4 xh uv zm qx
 exact aW.1):p:=h ⟨k⟩
def Je(k:q) (h:bY q->p:=by
 intro aW;refine wpQuiet_nil ?_;intro _ rO;obtain⟨QI,aaO⟩:=rO;subst aaO;obtain⟨cW,gK⟩:=QI;dsimp only;replace gK:=I gK;revert cW gK
 exact aW.1):p:=h ⟨k⟩
def aas(k:q) (h:bY q->p:=by
 intro aW;have hI:=I (show jM=wM 8 0 0 0 from jA.symm);have rm:jM.k=8:=by rw[hI.out];rfl
 have bT:(Instr.lookup 139 (.map (some dM)) jM.k true).run prog iR=.ok (.tuple #[(.func (.func 104) #[] #[]),.bool true]) iR:=by rw[rm];exact nB (P:=prog) qn ft iD 8 aam
 clear rm;revert hI bT
 exact aW.1):p:=h ⟨k⟩
def MX(h:p:=by
 rw[dW.out]
 exact⟨_,F,rfl,(fL.ext bz).store (.inr rfl) oU lI,(hj.of bz).cell hS (bJ _) lI⟩):p:=h
def Ea(k:q) (h:bY q->p:=by
 intro aW;obtain⟨jP,jy⟩:=cw.next bz J (by have:=nU.out;omega) mm lV iY eA fy ha;revert jP jy
 exact aW.1):p:=h ⟨k⟩
def HE(k:q) (h:bY q->p:=by
 intro aW;refine aE _ _ (λ_ h=>absurd rfl h) λ_=>ej ?_;refine aim _ _ _ _ bQ ?_;have bd:True:=trivial;rename_i kq;revert kq bd
 exact aW.1):p:=h ⟨k⟩
def Jf(k:q) (h:bY q->p:=by
 intro aW;go_simp;refine aE _ _ (absurd rfl ·) λ_=>ej ?_;refine Ds bQ ?_ _;rename_i kq;revert kq
 exact aW.1):p:=h ⟨k⟩
def pu(k:q) (h:bY q->p:=by
 intro aW;have az:qN c aQ.bN p cl=(some ⟨p n,0,none⟩,0):=by unfold qN;rw[c6];dsimp only;rw[cy]
 rw[az];obtain⟨aq,hv,uR⟩:=pi cg a8 c6 cy;obtain⟨oc,Hx⟩:=a8.up n b aq cy;have kZ:=dG.ext bz;obtain⟨FL,j7⟩:sn w1 (λx=>M x\/x=(w:Nat)) (D n) (O n) c (p n) (q n) b:=by have:=kZ.dn.ri n aq;rw[cy]at this;exact this
 revert az aq hv uR oc Hx kZ FL j7
 exact aW.1):p:=h ⟨k⟩
def CZ(h:p:=by
 rw[iv hk,Ak];rfl):p:=h
def acm(h:p:=by
 go_roundg (gk - 1);case measure=>omega
 case rel=>
  refine⟨k+1,_,_,_,ys++[⟨cH,xs[k].d⟩],J,by go_num,rfl,?_,b9.ext (aJ.out.1.ext U) (bJ _) U⟩;rw[lq.out];refine⟨cK,by rw[fT,aJ.out.2.1];rfl,λy hy=>?_⟩;rcases ie.1 hy with hy|hy
  ·exact((aJ.out.2.2 y hy).ext U).grow b9 (aJ.out.1.ext U) ah ah ah
  exact acu):p:=h
def Yt(k:q) (h:bY q->p:=by
 intro aW;go_enter func77,ntmps77;go_wp2_with fail;refine(K2 _ _ _ _ _ (ar.ext U) J).mono ?_;rintro e w1⟨p,rfl,nn,di,gp⟩;have mP:(w:Nat)<p:=by simp at nn;omega
 have ks:w1.heap[(w:Nat)]?=some (aky:Obj):=(gp.block _ (by simp)).trans (mu _ _);have br:=I (((Z.refl w).alloc _).trans gp);change aa _ at di ks;go_wp2_with fail;rename_i kq mJ rn sw;revert w1 p nn gp mP br di ks kq mJ rn sw
 exact aW.1):p:=h ⟨k⟩
def pm(k:q) (h:bY q->p:=by
 intro aW;have bp:(w.alloc hr).heap.size=(w:Nat)+1:=by simp
 have iN:(w.alloc hr).heap[(w:Nat)]?=some (hr:Obj):=e2 rfl;have hS:Z w (w.alloc hr):=U;obtain⟨dD,pk⟩:∃dD,w.alloc hr=dD:=⟨_,rfl⟩;rw[pk]at bp iN hS;have jj:=bG.cell hS (bJ _) J;have oU:=bG.DZ (R:=(w:Nat)) (bJ _);have fL:=I jj;revert dD hS iN bp pk jj oU fL
 exact aW.1):p:=h ⟨k⟩
def air(h:p:=by
 ·by_cases e:j=n
  ·subst e;simp only[bc]at X;simp only[aV DT]at hy;rcases vw x X with z|z
   ·exact h.gL j k aD hk DT x z hy
   ·exact absurd (h.b5 x (h.sub k hk x hy)) J
  ·simp only[aV e]at X;by_cases cq:k=n
   ·subst cq;simp only[bc]at hy;rcases vw x hy with z|z
    ·exact h.gL j k aD hk DT x X z
    ·exact absurd (h.b5 x (h.sub j aD x X)) J
   ·simp only[aV cq]at hy;exact h.gL j k aD hk DT x X hy):p:=h
def rd(h:p:=by
 rw[dW.out,l5.out]
 exact⟨iS,_,rfl,h0.store ⟨v,bW,g,p,q,_,_,W,Bc,λ_=>Iff.rfl⟩ (Cv.m.up _ (.inr rfl)) (λk=>(Cv.f.new _ k).elim oU (λz=>by have:=bz.size;have:=bp.out;omega)) lI,(Cv.cN bz).cell hS (bJ _) lI⟩):p:=h
def N7(h:p:=by
 ·(repeat (first|with_reducible exact hf.out|refine Z.setCell ?_ (by first|exact bJ _|exact l9 _) _))):p:=h
def x_(k:q) (h:bY q->p:=by
 intro aW;obtain⟨ts,db,jK⟩:=H.c8.tx;have ev:=I (Mc jK (λt bm=>(hk.tx t bm).eC));have qg:v.tx.n<=1000:=by rw[db.aF.neq,<-cx (f:=ca.tx),jK];have:=hk.sV;omega
 have gW:=I H.b5;have gD:=I (H.ext (w':=w.alloc i) U).box;refine E' ?_;intro s5;revert ts db jK ev qg gW gD s5
 exact aW.1):p:=h ⟨k⟩
def sy(k:q) (h:bY q->p:=by
 intro aW;have cb:xs.take k=xs:=iU J;revert cb
 exact aW.1):p:=h ⟨k⟩
def td(k:q) (h:bY q->p:=by
 intro aW;have hm:=ar.max;have a1:=ar.len;unfold maxLen at hm;revert hm a1
 exact aW.1):p:=h ⟨k⟩
def qr(k:q) (h:bY q->p:=by
 intro aW;refine nb.mono ?_;rintro e dc⟨iS,hW,mZ,rfl,Hs,jB⟩;have Cv:=hj.FK jZ aq jB;have Bc:=kZ.FK aq cy jB Hs;have jb:=I ((jB.ee.block _ (bZ ad) (λk=>oU ((jZ _).2 (.inr (.inr ⟨n,aq,k⟩))))).trans ad);obtain⟨u1,u2,u3,vn⟩:=qu jb;replace Cv:=I Cv;replace Bc:=I Bc;clear Hs jB;revert dc iS hW mZ jb u1 u2 u3 vn Cv Bc
 exact aW.1):p:=h ⟨k⟩
def X4(k:q) (h:bY q->p:=by
 intro aW;have kM:bA.cell? (a6,2)=some ↑s:=iy.ag (by simp);have hy:Z a6 bA:=Z.trans ((Z.refl a6).alloc _) iy;have dV:=hy.ag gn;have q1:=hy.ag eI;have dk:=hy.ag hn;have K3:∀j,bA.frozen? ⟨(w:Nat),j,none⟩=false:=λj=>(hy.frozen _ _ Gr).trans (fr j);change aa _ at hy;revert kM dV q1 dk K3 hy
 exact aW.1):p:=h ⟨k⟩
def aqM(k:q) (h:bY q->p:=by
 intro aW;obtain⟨Jb,uA,vm,wu⟩:=mem_ready.1 aD;have eO:∀e∈uA.after,Region.binds md e=true->e.on≠i:=λe he ad k=>Zp az k (wu e he ad);have Pf:=wpOp_putIf vm (Pe j uA vm e Jb eO) (λcs b=>Pd i gl cs b aK) (λcs b=>Pd j uA cs b vm) iQ hy (H.2 j (ready_mono aD e));revert Jb uA vm wu eO Pf
 exact aW.1):p:=h ⟨k⟩
def adH(h:p:=by
 go_wp2_with (at_builtin;refine tf rfl λoz mx=>?_;refine te (c:=cr) (ys0:= []) (ys:=xs) _ _ 107 5 rfl ct _ 1 nK bO bL bM bP rfl ah rfl w U (aH.empty gA (by simp) cr.bI) rfl (ar.ext U) cr.cQ J ah ?_;intro cP da qR c4 hA jc X py;refine mx _ _ ?_;have c7:=I jc;have hy:=I X;have fC:=I hA;clear jc X py hA);go_ret
 exact⟨cP,da,qR,rfl,c7,hy⟩):p:=h
def agj(k:q) (h:bY q->p:=by
 intro aW;go_enter func157,ntmps157;go_wp2_with fail;refine(K2 _ _ _ _ _ (ar.ext U) Iz).mono ?_;rintro e w1⟨p,rfl,nn,di,gp⟩;have Jt:(w:Nat)<p:=by simp at nn;omega
 have n9:w1.heap[(w:Nat)]?=some (.cells #[av,aw,aP,aP,aP,aP,aP,aP] 232):=gp.ay (e2 rfl);refine LP ?_;intro bz;replace n9:=I n9;replace di:=I di;clear gp nn;go_wp2_with fail;have bs:(w1.alloc (.cells #[.pointer (some (p,0)),.int .i64 n,.bool false] 314)).heap[(w1:Nat)]?=some (.cells #[.pointer (some (p,0)),.int .i64 n,.bool false] 314):=e2 rfl;rename_i kq mJ rn sw;revert w1 p Jt bz n9 di kq mJ rn sw bs
 exact aW.1):p:=h ⟨k⟩
def L0(k:q) (h:bY q->p:=by
 intro aW;have aY:∀b,b=p->b<aB:=λb bn=>by have:=gN.out;omega
 have bx:∀b,b=B->b<aB:=λb bn=>by have:=gN.out;omega
 revert aY bx
 exact aW.1):p:=h ⟨k⟩
def N6(h:p:=by
 ·(repeat (first|with_reducible exact aJ.out.2.2 y hy|refine aH.jD ?_ (by first|exact tn|exact w5) _))):p:=h
def Ym(k:q) (h:bY q->p:=by
 intro aW;go_enter func129,ntmps129;go_wp2_with fail;refine(K2 _ _ _ _ _ (ar.ext U) J).mono ?_;rintro e w1⟨p,rfl,nn,di,gp⟩;have mP:(w:Nat)<p:=by simp at nn;omega
 have ks:w1.heap[(w:Nat)]?=some (qJ:Obj):=(gp.block _ (by simp)).trans (mu _ _);have br:=I (((Z.refl w).alloc _).trans gp);rename_i kq mJ rn sw;revert kq mJ rn sw w1 p nn di gp mP ks br
 exact aW.1):p:=h ⟨k⟩
def kw(k:q) (h:bY q->p:=by
 intro aW;obtain⟨e1,kI⟩:∃qT,(dZ).alloc (.map #[] 0)=qT:=⟨_,rfl⟩;have jL:=I (show fp e1 prog 54 (dZ).heap.size 0 0 (λ_=>none)from by subst kI;exact fp.DG _ _ _);have vo:=I (show Z (dZ) e1 from by subst kI;exact U);rw[kI];clear kI;revert e1 jL vo
 exact aW.1):p:=h ⟨k⟩
def i9(k:q) (h:bY q->p:=by
 intro aW;obtain⟨e1,kI⟩:∃qT,(dR).alloc (.map #[] 0)=qT:=⟨_,rfl⟩;have jL:=I (show fp e1 prog 54 (dR).heap.size 0 0 (λ_=>none)from by subst kI;exact fp.DG _ _ _);have vo:=I (show Z (dR) e1 from by subst kI;exact U);rw[kI];clear kI;revert e1 jL vo
 exact aW.1):p:=h ⟨k⟩
def afM(h:p:=by
 rw[EB];obtain⟨aBx,q1,dk,eP⟩:=Zw (b:=g) _ (m*9) iR ZT qG;refine⟨rfl,?_,aI.setCells (S:=λb=>b=g) rfl _ _ _ ih⟩
 have al:=c7.afg (w':=_) m (bJ _) (aBx:=aBx) (λaq8 an=>by
  rw[qG.out]at an;injection an with an;injection an with an;subst an
  exact⟨q1,dk,eP⟩)
 rw[iU (by rw[<-c7.neq];exact bJ _)]at al
 exact al):p:=h
def i8(k:q) (h:bY q->p:=by
 intro aW;obtain⟨dR,kI⟩:∃qT,(dZ).alloc (.map #[] 0)=qT:=⟨_,rfl⟩;have iu:=I (show fp dR prog 3 (dZ).heap.size 0 0 (λ_=>none)from by subst kI;exact fp.DG _ _ _);have yJ:=I (show Z (dZ) dR from by subst kI;exact U);rw[kI];clear kI;revert dR iu yJ
 exact aW.1):p:=h ⟨k⟩
def ld(k:q) (h:bY q->p:=by
 intro aW;obtain⟨dR,kI⟩:∃qT,(e1).alloc (.map #[] 0)=qT:=⟨_,rfl⟩;have iu:=I (show fp dR prog 3 (e1).heap.size 0 0 (λ_=>none)from by subst kI;exact fp.DG _ _ _);have yJ:=I (show Z (e1) dR from by subst kI;exact U);rw[kI];clear kI;revert dR iu yJ
 exact aW.1):p:=h ⟨k⟩
def DH(k:q) (h:bY q->p:=by
 intro aW;refine(agz M c bW g bT a b _ H dD dZ).mono ?_;rintro e w1⟨rfl,bn⟩;revert w1 bn
 exact aW.1):p:=h ⟨k⟩
def AU(k:q) (h:bY q->p:=by
 intro aW;refine de 0 ?_;refine de 1 ?_;refine de 2 ?_
 exact aW.1):p:=h ⟨k⟩
def acd(h:p:=by
 ·have Sx:(16:Int)<=(m:Int):=J;go_wp2_with (go_at_call 217;refine(Il _ _ _ c5 ps[k].id _ (b6.ext (Z.trans X U))).mono ?_;rintro e w'⟨rfl,cG⟩;have al:=cG.cell;change aa _ at cG;rw[ar.out]);go_roundg (gk - 1);case measure=>omega
  case rel=>exact⟨k+1,aA,m,aR,J,by go_num,rfl,(by rw[lq.out,ani (by have:=vU.out;omega)];exact aJ.ext U),U⟩):p:=h
def ul(h:p:=by
 go_wp2_with fail;clear pk;refine nb.mono ?_;rintro e dc⟨iS,Rx,rfl,Bc,jB⟩;change aa _ at Bc;have lG:=I (jB.cN hS);clear jB;go_wp2;go_ret
 exact⟨iS,Rx,rfl,Bc,lG⟩):p:=h
def N5(h:p:=by
 ·(repeat (first|with_reducible exact aJ.out.1|refine aH.jD ?_ (by first|exact tn|exact w5) _))):p:=h
def NY(k:q) (h:bY q->p:=by
 intro aW;obtain⟨ct,bO,bL,bM,bP⟩:=fB R3;obtain⟨dK,eY,e5,e6,e7⟩:=fB Ic;obtain⟨eB,lQ,lR,lS,lT⟩:=fB NM;obtain⟨cD,ky,jv⟩:=a8.e;have db:=a8.f;have bm:=hs.ts;have he:=hs.aX;have ak:=hs.dt;revert ct bO bL bM bP dK eY e5 e6 e7 eB lQ lR lS lT cD ky jv db bm he ak
 exact aW.1):p:=h ⟨k⟩
def ajE(k:q) (h:bY q->p:=by
 intro aW;have g9:=FV jF x.z x.i.b (ae x.i.l) (ae x.i.s) x.st x.b x.cp x.vG x.up;have lz:=FW (w:=a6) (R:=(w:Nat)+1) x.z x.i.b (ae x.i.l) (ae x.i.s) x.st x.b x.cp x.vG x.up;obtain⟨lh,iZ⟩:∃lh,(((((((((a6.setCell (w,1,0) x.z).setCell (w,1,1) x.i.b).setCell (w,1,2) (ae x.i.l)).setCell (w,1,3) (ae x.i.s)).setCell (w,1,4) x.st).setCell (w,1,5) x.b).setCell (w,1,6) x.cp).setCell (w,1,7) x.vG).setCell (w,1,8) x.up)=lh:=⟨_,rfl⟩;rw[iZ]at g9 lz;rw[iZ];revert lh lz g9 iZ
 exact aW.1):p:=h ⟨k⟩
def Up(h:p:=by
 go_wp2_with fail;rw[pX]
 exact afT):p:=h
def agk(k:q) (h:bY q->p:=by
 intro aW;rintro e aN⟨rfl,dI,e8⟩;have LY:=bZ n9;have BE:=di.lt;have pJ:=(e8.block _ (by simp;omega) J).trans ((show Z w1 (w1.alloc _)from(Z.refl w1).alloc _).ay n9);have jx:=I (show aI (λb=>(w:Nat)<=b) w aN from((aI.of bz).alloc _).trans (e8.mono (λb _ ad=>by have:b=p:=ad;omega)));have bq:Z w aN:=jx.ext (λb ad=>ad) (Z.refl w);have tw:(w1:Nat)<(aN:Nat):=bZ dI.box;generalize (w1:Nat)=q at dI tw LY BE ⊢;replace dI:=I dI;replace pJ:=I pJ;replace bq:=I bq;clear e8;revert aN jx q tw LY BE dI pJ bq
 exact aW.1):p:=h ⟨k⟩
def ac7(h:p:=by
 replace jE:=cn.ag jE;change aa _ at cd cn;go_wp2_with fail;refine(kh _ _ _ _ S _ (cd.aF) qv J).mono ?_;rintro e a6⟨a3,fI,cV,rfl,cK,dz⟩;change aa _ at cK dz;go_wp2;go_ret;refine⟨a3,fI,cV,rfl,?_,U⟩;have h:=cK.mono (aBw:=(w:Nat)) (Z.size U);unfold iK;simp only[ig,kN]at h ⊢
 exact h):p:=h
def GR(h:p:=by
 simp only[c9,GO];omega):p:=h
def aa9(k:q) (h:bY q->p:=by
 intro aW;have hm:j % sz<(c ys[j / sz]).length:=by rw[bj.bI];exact Nat.mod_lt _ fs
 have KA:=RK bj.bI ys (j / sz) _ (eK hk) (j % sz) _ (eK hm);rw[show j / sz*sz+j % sz=j from by rw[MG];exact Nat.div_add_mod j sz,aD]at KA;have:=R1 (j % sz) _ (eK hm);rw[show off+j / sz*sz+j % sz=off+j from by rw[Nat.add_assoc,MG,Nat.div_add_mod]]at this;revert hm KA this
 exact aW.1):p:=h ⟨k⟩
def Wb(k:q) (h:bY q->p:=by
 intro aW;go_wp2_with fail;refine(DV (H.dn.ext U) (k:Int)).mono ?_;rintro e w1⟨rfl,bG⟩;rw[cJ.out];replace bG:=I bG;go_wp2_with fail;refine(VY (H.dn.ext U) J (k:Int)).mono ?_;rename_i kq mJ rn sw Kl RF azN;revert kq w1 bG mJ rn sw Kl RF azN
 exact aW.1):p:=h ⟨k⟩
def Dp(h:p:=by
 exact⟨λi h=>.inl h,O7 _ _⟩):p:=h
def adv(k:q) (h:bY q->p:=by
 intro aW;have g2:w1.cell? (w,2)=some ↑x.k:=br.ag (by simp);have g3:w1.cell? (w,3)=some ↑x.id.b:=br.ag (by simp);have g4:w1.cell? (w,4)=some ↑(ae x.id.l):=br.ag (by simp);have g5:w1.cell? (w,5)=some ↑(ae x.id.s):=br.ag (by simp);have g6:w1.cell? (w,6)=some ↑x.c:=br.ag (by simp);have g7:w1.cell? (w,7)=some ↑(ae x.u):=br.ag (by simp);have g8:w1.cell? (w,8)=some ↑x.f:=br.ag (by simp);have g9:w1.cell? (w,9)=some ↑x.e:=br.ag (by simp);revert g2 g3 g4 g5 g6 g7 g8 g9
 exact aW.1):p:=h ⟨k⟩
def RN(h:p:=by
 ·cases aA with
  |none=>cases e
  |some ai=>simp only[Value.ownBlock,Option.some.injEq]at e;exact dj ai rfl e.symm):p:=h
def Ye(k:q) (h:bY q->p:=by
 intro aW;have cm:w1.cell? (w,1)=some ↑b:=br.ag (by simp);have cq:w1.cell? (w,2)=some ↑(ae l):=br.ag (by simp);have fo:w1.cell? (w,3)=some ↑(ae s):=br.ag (by simp);have iM:w1.cell? (w,4)=some ↑(q:Int):=br.ag (by simp);revert cm cq fo iM
 exact aW.1):p:=h ⟨k⟩
def Uq(h:p:=by
 rw[pX];go_ret2
 exact⟨_,_,_,ys,by rw[kO.out];rfl,bu.out.ext U,by rw[kO.out];exact bF.out,U⟩):p:=h
def NF(h:p:=by
 ·go_wp2;go_ret;refine⟨jk (Kq (Ko (p:=p) eO hk)),?_⟩
  exact U):p:=h
def ahK(h:p:=by
 subst MF;have HU:(w:Nat)<=(wc:Nat):=Z.size U;have cK:=I (wG.mono (aBw:=(w:Nat)) HU);change aa _ at ho;replace c0:=I c0;clear wG HU;have iq:=gF.out;rw[aV (by rw[ho.out];simp),aV (by rw[ho.out];simp)]at iq;subst iq;go_wp2;go_ret
 exact⟨201,M,D,O,rfl,⟨v,H.ext U⟩,.of U⟩):p:=h
def aqK(h:p:=by
 unfold LF at eV;rw[vm]at eV;obtain⟨e,he,ad⟩:=Array.any_eq_true'.1 eV;rw[jS,F1]at ad
 exact Zp az ad.2 (wu e he ad.1)):p:=h
def afl(k:q) (h:bY q->p:=by
 intro aW;have bn:=I (q9.trans ad);go_enter func143,ntmps143;go_wp2_with fail;refine CQ bQ bQ ?_;repeat (first|go_big_quiet_step ((go_at_call 141;exact Calls.nX (vR s (ps.map (·.x)) r.id _ (b8.out.ext (fu.ck _))) (eH Value.bool bn.out)))|quiet_step ((go_at_call 141;exact Calls.nX (vR s (ps.map (·.x)) r.id _ (b8.out.ext (fu.ck _))) (eH Value.bool bn.out))))
 rename_i kq mJ rn sw;revert bn kq mJ rn sw
 exact aW.1):p:=h ⟨k⟩
def Vl(k:q) (h:bY q->p:=by
 intro aW;go_wp2_with fail;refine sX (λw'=>Z (w.alloc i) w') (λbd=>?_);refine l0 0 (·.ay Mu) ?_;refine de 1 ?_;refine de 2 ?_;refine l0 3 (·.ay gD) ?_;rename_i kq mJ;revert kq mJ bd
 exact aW.1):p:=h ⟨k⟩
def ajJ(k:q) (h:bY q->p:=by
 intro aW;have g9:=FV di r.1 av aw aw av aP av av (.bool false);have lz:=FW (w:=a6) (R:=(w:Nat)+1) r.1 av aw aw av aP av av (.bool false);obtain⟨lh,iZ⟩:∃lh,(((((((((a6.setCell (w,1,0) r.1).setCell (w,1,1) av).setCell (w,1,2) aw).setCell (w,1,3) aw).setCell (w,1,4) av).setCell (w,1,5) aP).setCell (w,1,6) av).setCell (w,1,7) av).setCell (w,1,8) (.bool false))=lh:=⟨_,rfl⟩;rw[iZ]at g9 lz;rw[iZ];revert lh lz g9 iZ
 exact aW.1):p:=h ⟨k⟩
def i4(h:p:=by
 go_wp2_with fail;refine dW.mono ?_;rintro e w1⟨z,M',eF,rfl,fL,iD⟩;replace fL:=I fL;replace iD:=I iD;go_wp2;go_ret
 exact⟨z,M',eF,rfl,fL,iD⟩):p:=h
def agh(h:p:=by
 go_roundg (gk - 1);case measure=>omega
 case rel=>
  refine⟨k+1,_,_,_,J,rfl,by go_num,?_,?_,?_⟩
  ·exact(dI.ext U).grow b9 (cd.ext U) ah ah ah
  ·rw[iv hk];exact ed
  ·exact((jx.alloc _).xj b9.ee (λb ad=>by obtain⟨ai,ak,rfl⟩:=ad;exact .inr (cd.lt ai ak).1))):p:=h
def Kx(h:p:=by
 go_wp2;go_ret;refine⟨jl (by rw[bV.out,H.out]),?_⟩
 exact U):p:=h
def aiU(k:q) (h:bY q->p:=by
 intro aW;refine IP (ys0:= []) (ys:=c.ps) (c:=dP) rfl (.const aP) (.tmp 62) 22 3 rfl ct _ 8 yW bO bL bM bP rfl ah rfl (aH.nil (dR) bA 3 dP.tD) (show Z bA _ from U).size rfl (rU.ext U) dP.nD J ah J ?_;intro ef eb dD mI b2;simp only[ow]at mI ⊢;have HG:=I (b2.ext (aH.nil (dR) (dR).heap.size 3 dP.tD) (bJ _) (Z.refl (dR)));replace mI:=I mI;clear b2;revert ef eb dD HG mI
 exact aW.1):p:=h ⟨k⟩
def aiV(k:q) (h:bY q->p:=by
 intro aW;refine IP (ys0:= []) (ys:=c.ps) (c:=dP) rfl (.const aP) (.tmp 62) 22 3 rfl ct _ 8 yW bO bL bM bP rfl ah rfl (aH.nil (e1) bA 3 dP.tD) (show Z bA _ from U).size rfl (rU.ext U) dP.nD J ah J ?_;intro ef eb dD mI b2;simp only[ow]at mI ⊢;have HG:=I (b2.ext (aH.nil (e1) (e1).heap.size 3 dP.tD) (bJ _) (Z.refl (e1)));replace mI:=I mI;clear b2;revert ef eb dD HG mI
 exact aW.1):p:=h ⟨k⟩
def afq(k:q) (h:bY q->p:=by
 intro aW;refine CQ bQ bQ ?_;repeat (first|go_big_quiet_step (((go_at_call 17;exact Calls.nX (oF s (au.map (·.x)) x.id _ (bg.out.ext (fu.ck _))) (eH Value.bool bE.out))))|quiet_step (((go_at_call 17;exact Calls.nX (oF s (au.map (·.x)) x.id _ (bg.out.ext (fu.ck _))) (eH Value.bool bE.out)))))
 exact aW.1):p:=h ⟨k⟩
def ON(h:p:=by
 simp[results,results77,go_sem,z0,cZ,z2,z3,z4,z5,gx,fE,Az,z9,IJ,IK,z12,dj]):p:=h
def LZ(k:q) (h:bY q->p:=by
 intro aW;have lk:=bB.jD bV bn ah ah ah;have nt:=(bV.block _ (bZ az) (by have:=N.out;omega)).trans az;revert lk nt
 exact aW.1):p:=h ⟨k⟩
def SZ(k:q) (h:bY q->p:=by
 intro aW;rintro e w1⟨rfl,di,ih⟩;have bE:w1.heap[(w:Nat)]?=some (WR:Obj):=(ih.block _ (by simp) J).trans (mu _ _);change aa _ at di ih bE;revert w1 di ih bE
 exact aW.1):p:=h ⟨k⟩
def S2(k:q) (h:bY q->p:=by
 intro aW;rw[pX];have EF:aI (·=p) w a6:=(((aI.refl _ w).alloc _).trans ih).trans (jx.trans iY);have hblk:=(hy.block _ Gr).trans fc;revert EF hblk
 exact aW.1):p:=h ⟨k⟩
def aay(h:p:=by
 rw[kE,fj];rintro e w1⟨nw,kC,rfl,fL,iD⟩;change aa _ at fL iD;go_wp2;go_ret
 exact⟨Ck,λk=>rfl,nw,kC,rfl,fL,iD.cN b3⟩):p:=h
def ab4(k:q) (h:bY q->p:=by
 intro aW;go_wp2_with fail;go_must (refine(XC xs[k].m xs[k].vs false i w.heap.size _ (bV.ext U) (Z.ag (W:=wr) U ct) (Z.ag (W:=wr) U i1) (Z.ag (W:=wr) U mv)).mono ?_);rintro e w'⟨rfl,hy⟩;have bs:=hy.cell;change aa _ at hy;rw[aq.out];go_wp2_with fail;go_must (refine(XC xs[k].m xs[k].vs true i w.heap.size _ (bV.ext U) (Z.ag (W:=wr) U ct) (Z.ag (W:=wr) U i1) (Z.ag (W:=wr) U mv)).mono ?_);rename_i kq mJ rn sw Kl RF;revert kq mJ w' bs hy rn sw Kl RF
 exact aW.1):p:=h ⟨k⟩
def ahJ(k:q) (h:bY q->p:=by
 intro aW;go_wp2_with fail;refine CQ bQ bQ ?_;repeat (first|go_big_quiet_step ((go_at_call 148;exact Calls.nX (P1 (H.ext (bq.trans (fu.ck _)))) (eH Value.bool VB)))|quiet_step ((go_at_call 148;exact Calls.nX (P1 (H.ext (bq.trans (fu.ck _)))) (eH Value.bool VB))))
 exact aW.1):p:=h ⟨k⟩
def LO(k:q) (h:bY q->p:=by
 intro aW;refine aE _ _ (λ_=>(by(try dsimp only);exact⟨dF,ib,gV⟩)) λhH=>ej ?_;have bd:=hH ah;revert hH bd
 exact aW.1):p:=h ⟨k⟩
def Qo(k:q) (h:bY q->p:=by
 intro aW;refine aE _ _ ?_ (λhH=>?_)
 focus (intro _;(try dsimp only);exact U)
 skip;have bd:=hH ah;clear hH;refine ej ?_;revert bd
 exact aW.1):p:=h ⟨k⟩
def RX(h:p:=by
 go_wp2
 all_goals
  go_ret
  refine⟨jl (by unfold Bg;rw[H.out];simp_all),?_⟩
  exact U):p:=h
def afs(k:q) (h:bY q->p:=by
 intro aW;have bm:(a6.alloc cH).heap[gb]?=some (.cells #[q] 173):=Z.ay (W:=w) U al.out;have aj:(a6.alloc cH).heap[fx]?=some (.cells #[r.k,ae (r.n:Int),x.k,x.id.b,ae x.id.l,ae x.id.s,x.c,ae x.u,x.f,x.e,r.id.b,ae r.id.l,ae r.id.s] 169):=Z.ay (W:=w) U az.out;have bw:(a6.alloc cH).heap[(w:Nat)]?=some (x.id:Obj):=Z.ay (W:=w.alloc x.id) U (e2 rfl);revert bm aj bw
 exact aW.1):p:=h ⟨k⟩
def J0(k:q) (h:bY q->p:=by
 intro aW;refine aE _ _ (λ_ h=>absurd rfl h) λ_=>ej ?_;refine LI bQ ?_ _;rename_i kq;revert kq
 exact aW.1):p:=h ⟨k⟩
def af8(h:p:=by
 go_wp2;go_roundg (gk - 1);case measure=>omega
 case rel=>
  refine⟨k+1,_,_,_,J,rfl,by go_num,kA,?_,U⟩;have h:=cd.out;refine Tb ?_
  exact IA):p:=h
def ZE(k:q) (h:bY q->p:=by
 intro aW;refine l1 0 (·.1) ?_;refine l1 1 (·.1) ?_;refine gR 2 ?_;refine gR 3 ?_;refine l1 4 (·.2.2) ?_;refine gR 5 ?_;refine l1 6 (·.2.1) ?_;refine kW 7 λK aE=>?_;go_simp;revert K aE
 exact aW.1):p:=h ⟨k⟩
def yr(k:q) (h:bY q->p:=by
 intro aW;refine de 9 ?_;refine h9 10 λK aE=>?_;go_simp;revert K aE
 exact aW.1):p:=h ⟨k⟩
def S0(k:q) (h:bY q->p:=by
 intro aW;rintro e aN⟨rfl,dI,jx⟩;have fW:aN.heap[w.heap.size]?=some (WR:Obj):=(jx.block _ (bZ bE) J).trans bE;change aa _ at dI jx fW;revert aN dI jx fW
 exact aW.1):p:=h ⟨k⟩
def asz(h:p:=by
 unfold j8 at h;simp only[jS,jT,Ad,xd]at h;refine⟨h.2.1,λk af an=>?_⟩;have:=h.2.2 k an;unfold BL at this;simp only[vK,jS,jT,F1]at this
 omega):p:=h
def abI(k:q) (h:bY q->p:=by
 intro aW;refine(NI _ _ _ xs (λs:cu=>decide (qV s.d x.c x.u<0)) 179 ⟨w.heap.size+1,0,none⟩ w2 (ar.aF.ext qq) J (λ_ _=>by kernel_rfl) (λs _ w' hw=>amt s w.heap.size (w.heap.size+1) x.c x.u w' (hw.ag gm) (hw.ag ti) (hw.ag aB))).mono ?_;rintro e w1⟨aA,m,aR,rfl,bu,oY⟩;have vQ:=Xt bu.neq aq;replace oY:=I oY;replace bu:=I bu;have cO:=oY.ag b0;revert w1 aA m aR vQ oY bu cO
 exact aW.1):p:=h ⟨k⟩
def azL(h:p:=by
 have af:=b7.out.1.cj.neq;have an:=eH List.length b7.out.2;rw[cx,cx,nF]at an;omega):p:=h
def Yg(k:q) (h:bY q->p:=by
 intro aW;refine(kh _ _ _ _ q _ (cK.aF) qv J).mono ?_;rintro e cB⟨a4,mz,dF,rfl,ed,eQ⟩;have De:mz<=70:=by
  have af:=ed.neq;have an:=hV q;have aO:=(cK.aF).neq;rw[c9]at af;omega
 revert cB a4 mz dF ed eQ De
 exact aW.1):p:=h ⟨k⟩
def aiY(k:q) (h:bY q->p:=by
 intro aW;refine dC 3 ?_;refine AO 4 (·.ag aiX) ?_;refine dC 5 ?_;refine dC 6 ?_;refine dC 7 ?_;refine AO 8 (·.ag tY) ?_;refine dC 9 ?_;refine dC 10 ?_;refine dC 11 ?_;refine AO 12 (·.ag Bb) ?_;refine dC 13 ?_;refine dC 14 ?_;refine AO 15 (·.ag rh) ?_;refine jz 16 λK aE=>?_;go_simp;go_at_call 66;revert K aE
 exact aW.1):p:=h ⟨k⟩
def XJ(k:q) (h:bY q->p:=by
 intro aW;obtain⟨cO,c1,c2,cV,dF,dH,eJ,eM⟩:=nh (w:=wr) (b:=b) (o:=o+k*8) (x:=xs[k].x) (λj v aD=>X.ag (al j v aD));have bV:=I ((bG.ck xs[k] (cT hk)).ext X);have ev:=I (Ex xs[k] (cT hk));revert cO c1 c2 cV dF dH eJ eM bV ev
 exact aW.1):p:=h ⟨k⟩
def agA(h:p:=by
 go_enter func88,ntmps88;go_wp2_with (at_lookup;(refine Fj rfl (λK aE=>L4 _ _ rfl UK underlying146 _ (asq _) rfl rfl eh rfl b6 ?_);rw[lV.out];refine aE _ _ ?_;clear aE K));go_ret2
 exact⟨rfl,U⟩):p:=h
def W4(h:p:=by
 rw[he.out];go_wp2;go_roundg (gk - 1);case measure=>omega
 case rel=>exact⟨k+1,J,by go_num,Ef (p:=p) hk eO he,U⟩):p:=h
def Ub(k:q) (h:bY q->p:=by
 intro aW;refine wpQuiet_nil ?_;intro _ rO;obtain⟨QI,aaO⟩:=rO;subst aaO;obtain⟨cW,AA⟩:=QI;dsimp only;change aa _ at AA;revert cW AA
 exact aW.1):p:=h ⟨k⟩
def ahm(k:q) (h:bY q->p:=by
 intro aW;have lG:=I (jL.xj jB);have jA:=I (jB.bS sK (λai ak=>(bB ai ak).2));have DS:=I (jB.row sK bB);have JL:=I (λp aY=>nv.kS jB kJ (Mt p aY));have l5:=I (nv.kS jB kJ tU);have pn:=I (nv.kS jB kJ JK);have hI:=I ((jB.ee.block _ (bZ rT) (λz=>z.elim (λy=>tV _ (kJ.sm _ y) rfl) (λy=>tV _ (kJ.sub _ y) rfl))).trans rT);revert lG jA DS JL l5 pn hI
 exact aW.1):p:=h ⟨k⟩
def aeF(h:p:=by
 rw[aV aZ];have:cM c l (T+1) (w.hz n (.up {b with tx:=b.tx,fX:=b.fX})):=(GX h).I8 al.tolZ aq aj (bJ _) (bJ _) J (λt bm=>(ad.tx t bm).ln rfl rfl (bJ _)) ad.rM ad.sV
 exact this):p:=h
def XA(k:q) (h:bY q->p:=by
 intro aW;have ct:wr.cell? (w,0)=some ↑i.b:=X.ag (by simp);have i1:wr.cell? (w,1)=some ↑(ae i.l):=X.ag (by simp);have mv:wr.cell? (w,2)=some ↑(ae i.s):=X.ag (by simp);revert ct i1 mv
 exact aW.1):p:=h ⟨k⟩
def IA(h:p:=by
 simp only[ig]at h ⊢
 exact h):p:=h
def R0(h:p:=by
 rw[ny,c9,cY,hw,me,HY];omega):p:=h
def SY(h:p:=by
 have h:=cw.out;unfold Aq at h;simp only[ig]at h;exact h.ext U):p:=h
def Wx(h:p:=by
 (try dsimp only);exact⟨Z.ay (W:=bh) U dg.out,Z.ay (W:=bh) U fZ.out⟩):p:=h
def adz(k:q) (h:bY q->p:=by
 intro aW;have ar:=I bj;have cJ:=I aG;go_enter func77,ntmps77;go_wp2_with fail;refine(K2 _ _ _ _ _ (ar.out.ext U) J).mono ?_;rintro e w1⟨p,rfl,nn,xT,gp⟩;have mP:(w:Nat)<p:=by simp at nn;omega
 have IL:w1.heap[(w:Nat)]?=some (.cells #[av,aw,av,av,aw,aw,av,aw,aP,aP,av,aw,aw] 169):=(gp.block _ (by simp)).trans (mu _ _);have br:=I (((Z.refl w).alloc _).trans gp);have di:=I xT;have ks:=I IL;go_wp2_with fail;rename_i kq mJ rn sw;revert ar cJ w1 p nn xT gp mP IL br di ks kq mJ rn sw
 exact aW.1):p:=h ⟨k⟩
def acb(h:p:=by
 go_roundg (gk - 1);case measure=>omega
 case rel=>exact⟨k+1,_,_,_,J,by go_num,rfl,(by rw[lq.out,anj (by rw[ar.out];decide) (by have:=vU.out;omega),ar];exact jc),b2.ext (aJ.ext U) (bJ _) U⟩):p:=h
def agl(k:q) (h:bY q->p:=by
 intro aW;have oJ:=(h8.block _ (by have:=bZ pJ;simp;omega) J).trans ((show Z aN (aN.alloc _)from(Z.refl aN).alloc _).ay pJ);have c0:Z w a6:=(h8.mono (S':=λb=>(w:Nat)<=b) (λb _ ad=>by have:b=p:=ad;omega)).ext (λb ad=>ad) (bq.alloc _);have Ha:(w:Nat)<(aN:Nat):=bZ pJ;have Fc:p<(aN:Nat):=dI.ht.lt;revert oJ c0 Ha Fc
 exact aW.1):p:=h ⟨k⟩
def Xb(k:q) (h:bY q->p:=by
 intro aW;obtain⟨cO,c1,c2,cV⟩:=Np (w:=wr) (b:=b) (o:=o+k*4) (x:=xs[k]) (λj v aD=>X.ag (al j v aD));revert cO c1 c2 cV
 exact aW.1):p:=h ⟨k⟩
def an3(k:q) (h:bY q->p:=by
 intro aW;have he:P.elem t=e:=by simp[Program.elem,bm]
 have hs:(sizeOf e).run P w=.ok sz w:=by
  cases bs:P.info? e with
  |none=>simp[bs]at fs
  |some i=>
        have:i.size=sz:=by simpa[bs]using fs
        simp[sizeOf,typeInfo,bs,this]
 have mL:=run_slice_h (P:=P) w t sa n cap (by rw[he];exact bm) kk k J J;revert he hs mL
 exact aW.1):p:=h ⟨k⟩
def t8(k:q) (h:bY q->p:=by
 intro aW;have hS:Z w (w.alloc i):=U;have sI:(w.alloc i).heap[(w:Nat)]?=some (i:Obj):=e2 rfl;obtain⟨dD,pk⟩:∃dD,w.alloc i=dD:=⟨_,rfl⟩;rw[pk]at hS sI;obtain⟨dK,hT,eU⟩:=jm sI;revert dD sI hS pk dK hT eU
 exact aW.1):p:=h ⟨k⟩
def ahG(k:q) (h:bY q->p:=by
 intro aW;obtain⟨au,ps,dh⟩:=H.c8.st;have p2:au.length=b.st.au.length:=by rw[<-dh.jI,cx]
 have sd:=dh.l.aF.neq;have hm:=dh.l.aF.max;have hv:=dh.l.aF.len;unfold maxLen at hm;obtain⟨er,vu⟩:∃er,v.s.l.a=er:=⟨_,rfl⟩;obtain⟨lc,FE⟩:∃lc,v.s.l.c=lc:=⟨_,rfl⟩;have bg:=dh.l;have gD:=H.box;rw[vu,FE,sd]at bg;rw[vu,FE,sd]at gD;rw[FE]at hm;rw[sd,FE]at hv;have bF:=I dh.jI;revert au ps dh p2 sd er vu lc hv hm FE bg gD bF
 exact aW.1):p:=h ⟨k⟩
def aqN(h:p:=by
 ·refine Pe m J Zq Pg ?_ Ge;by_cases Pj:j=m
  ·subst Pj;exact Jb
  ·rwa [getD_set_ne true Pj]at Zr):p:=h
def ex(k:q) (h:bY q->p:=by
 intro aW;refine Fj rfl (λK aE=>L4 _ _ rfl DO QM _ (QK _) rfl rfl (eh.ext bG) rfl oh ?_);rw[b9.out,ar.out];refine aE _ _ ?_;revert K aE
 exact aW.1):p:=h ⟨k⟩
def Sv(k:q) (h:bY q->p:=by
 intro aW;have eB:=((Z.refl w).alloc x).ag aZ;have bH:=((Z.refl w).alloc x).ag af;have b1:=((Z.refl w).alloc x).ag an;revert eB bH b1
 exact aW.1):p:=h ⟨k⟩
def Nv(k:q) (h:bY q->p:=by
 intro aW;obtain⟨cO,c1,c2,cV,dF⟩:=RS (w:=wr) (b:=b) (o:=o+k*5) (x:=xs[k]) (λj v aD=>X.ag (al j v aD));revert cO c1 c2 cV dF
 exact aW.1):p:=h ⟨k⟩
def aiq(h:p:=by
 ·by_cases e:k=n
  ·subst e;simp only[bc]at X;rcases vw x X with z|z
   ·exact h.uO k hk x z hw
   ·exact absurd (h.b5 x (h.qM x hw)) J
  ·simp only[aV e]at X;exact h.uO k hk x X hw):p:=h
def ahd(h:p:=by
 ·cases ak;refine⟨.inr rfl,?_⟩;rcases vw with h|h
  ·exact h.2
  ·exact⟨λk=>by have:=gW _ (bx.sm _ k);simp only at this;omega,λk=>by have:=gW _ (bx.sub _ k);simp only at this;omega⟩):p:=h
def af2(h:p:=by
 rintro e aN⟨ch,cF,c2,rfl,cd,cn⟩;change aa _ at cd cn;go_wp2;go_ret;refine⟨ch,cF,c2,rfl,?_,U⟩;have h:=cd.mono (aBw:=(w:Nat)) (Z.size U);unfold uE;rw[ig]at h
 exact h):p:=h
def ajh(h:p:=by
 (try dsimp only at fh);(have dU:=aL (o:=6) fh.1 rfl;rw[show(#[v.cL,v.ak,v.kp,v.aU,.map (some v.dr),v.fM,v.go]:Array Value)[6]=Value.slice v.go.a v.go.n v.go.c from rfl,HJ,aw1]at dU);exact A2):p:=h
def Nu(k:q) (h:bY q->p:=by
 intro aW;have H:=I (show a.v.CE b.v=ov a.k a.n a.s.toList b.k b.n b.s.toList from rfl);revert H
 exact aW.1):p:=h ⟨k⟩
def R2(h:p:=by
 ·intro u aj;obtain⟨y,_,hy⟩:=SP.1 aj
  exact af y u hy):p:=h
def XH(h:p:=by
 exact⟨aJ.out.1.ext U,aJ.out.2.1,λy hy=>(aJ.out.2.2.1 y hy).ext U,aJ.out.2.2.2.ext U⟩):p:=h
def acs(h:p:=by
 exact⟨aJ.out.1.ext U,aJ.out.2.1.ext U,aJ.out.2.2.1,aJ.out.2.2.2.1,aJ.out.2.2.2.2.1,(λy hy=>(aJ.out.2.2.2.2.2.1 y hy).ext U),(λy hy=>(aJ.out.2.2.2.2.2.2 y hy).ext U)⟩):p:=h
def adb(k:q) (h:bY q->p:=by
 intro aW;have tz:aN.heap[(w:Nat)]?=some (hr:Obj):=(e8.block _ (by have:=bZ ks;simp;omega) J).trans ((((Z.refl w1).alloc _).block _ (bZ ks)).trans ks);have tA:aN.heap[(w1:Nat)]?=some (.cells #[(q:Int),aw,aw] 54):=(e8.block _ (by simp) J).trans (mu _ _);revert tz tA
 exact aW.1):p:=h ⟨k⟩
def Ys(h:p:=by
 have af:=aM.neq;have an:=hV 0;have aO:=((cd.aF.ext U)).neq;rw[c9]at af;omega):p:=h
def ai4(k:q) (h:bY q->p:=by
 intro aW;have iN:(w.alloc i).heap[(w:Nat)]?=some (i:Obj):=e2 rfl;have hS:Z w (w.alloc i):=U;obtain⟨dD,pk⟩:∃dD,w.alloc i=dD:=⟨_,rfl⟩;rw[pk]at iN hS;revert dD hS iN pk
 exact aW.1):p:=h ⟨k⟩
def Z6(h:p:=by
 go_wp2;go_roundg (gk - 1);case measure=>omega
 case rel=>exact⟨k+1,J,rfl,by go_num,U⟩):p:=h
def ac3(h:p:=by
 go_wp2;go_roundg (gk - 1);case measure=>omega
 case rel=>exact⟨k+1,_,_,_,J,by go_num,rfl,rfl,(by rw[iv hk];(rw[uq.out];exact mC)),xV,Aw⟩):p:=h
def Tb(k:q) (h:bY q->p:=by
 intro aW;rw[iv hk,vN,Kt]
 exact aW.1):p:=h ⟨k⟩
def abY(h:p:=by
 go_wp2_with (go_at_call 48;refine(amU _ _ _ xs i _ (ar.ext (((Z.refl _).alloc _).alloc _))).mono ?_;rintro e w'⟨rfl,X⟩;change aa _ at X);go_ret;refine⟨rfl,?_⟩
 exact U):p:=h
def Fa(k:q) (h:bY q->p:=by
 intro aW;refine Jc rfl (λK aE=>?_) LH;go_simp;revert K aE
 exact aW.1):p:=h ⟨k⟩
def aeJ(h:p:=by
 induction l with
 |nil=>intro k;rfl
 |cons x l cY=>
  intro k;cases k with
  |zero=>rfl
  |succ k=>rw[sf,TX,TX,sf,cY]):p:=h
def Tg(k:q) (h:bY q->p:=by
 intro aW;have eV:gw L:=by unfold nO at a1;unfold gw;omega
 have EH:gw S:=by unfold nO at hs;unfold gw;omega
 revert eV EH
 exact aW.1):p:=h ⟨k⟩
def afS(h:p:=by
 rintro e aN⟨cE,da,c1,ys,rfl,bu,bF,bq⟩;change aa _ at bu bF bq;go_wp2;go_ret2
 exact⟨cE,da,c1,ys,by rw[kO.out];rfl,bu.mono (Z.size U),by rw[kO.out];exact bF,U⟩):p:=h
def P3(k:q) (h:bY q->p:=by
 intro aW;refine gR 0 ?_;refine gR 1 ?_;refine gR 2 ?_;refine gR 3 ?_
 exact aW.1):p:=h ⟨k⟩
def Fs(k:q) (h:bY q->p:=by
 intro aW;refine aE _ _ (λ_=>AM) λhH=>ej ?_;have bd:=hH ah;revert hH bd
 exact aW.1):p:=h ⟨k⟩
def age(k:q) (h:bY q->p:=by
 intro aW;go_simp;go_at_call 129;refine(Tk _ _ _ d _ (yl) cJ (by have:=La cJ;omega)).mono ?_;rintro e c4⟨x,rfl,xt,sk⟩;replace xt:=I xt;replace sk:=I sk;refine aE _ _ (by(try dsimp only);exact(B2.ext sk).box) λbd=>ej ?_;refine Ux ?_;revert c4 x xt sk bd
 exact aW.1):p:=h ⟨k⟩
def acJ(h:p:=by
 obtain⟨b',ll,j2,al⟩:=h.get k hk;simp only[Option.some.injEq,Addr.mk.injEq,H9]at j2;obtain⟨rfl,rfl⟩:=j2;have:=al 0 _ rfl;rw[jd]at this
 exact this):p:=h
def adq(h:p:=by
 change aa _ at a8 cJ;go_enter func133,ntmps133;go_wp2_with fail;refine qQ (IF x d _ (a8.ext U) cJ) λw1 br=>?_;go_wp2;go_ret;refine⟨rfl,?_⟩
 exact U):p:=h
def acO(k:q) (h:bY q->p:=by
 intro aW;refine tf nz λK aE=>?_;have he:P.elem t=e:=by simp[Program.elem,bm]
 have hs:(sizeOf e).run P w=.ok 1 w:=by
  cases bs:P.info? e with
  |none=>simp[bs]at fs
  |some i=>
        have:i.size=1:=by simpa[bs]using fs
        simp[sizeOf,typeInfo,bs,this]
 revert K aE he hs
 exact aW.1):p:=h ⟨k⟩
def Xs(k:q) (h:bY q->p:=by
 intro aW;have eG:=((Z.refl w).alloc (.cells #[x.c,ae x.u,x.f] 256)).ag bt;have h4:=((Z.refl w).alloc (.cells #[x.c,ae x.u,x.f] 256)).ag cC;revert eG h4
 exact aW.1):p:=h ⟨k⟩
def agp(k:q) (h:bY q->p:=by
 intro aW;have bn:=(aj.block _ (bZ B5) (by have:=N.out;omega)).trans B5;have az:=(aj.block _ (bZ Ff) (by have:=N.out;omega)).trans Ff;have X:=(aj.mono (S':=λb=>(w:Nat)<=b) (λb _ bn=>by have:b=p:=bn;have:=N.out;omega)).ext (λb bn=>bn) Hb;have fs:=aj.size;revert bn az X fs
 exact aW.1):p:=h ⟨k⟩
def ago(k:q) (h:bY q->p:=by
 intro aW;have bn:=(aj.block _ (bZ AV) (by have:=N.out;omega)).trans AV;have az:=(aj.block _ (bZ B4) (by have:=N.out;omega)).trans B4;have X:=(aj.mono (S':=λb=>(w:Nat)<=b) (λb _ bn=>by have:b=p:=bn;have:=N.out;omega)).ext (λb bn=>bn) DE;have fs:=aj.size;revert bn az X fs
 exact aW.1):p:=h ⟨k⟩
def Y8(h:p:=by
 rcases i1 d h with h|h
 ·exact O6 (key.1 d h)
 ·exact .inr (ni _ h)):p:=h
def agi(h:p:=by
 ·have nL:xs.take k=xs:=iU J;rw[nL]at aJ;rw[K6 J]at bB;clear nL;go_wp2;go_ret
  exact⟨ab,m,aR,rfl,aJ,bB,aj⟩):p:=h
def abA(h:p:=by
 go_roundg (gk - 1);case measure=>omega
 case rel=>exact⟨k+1,_,_,_,J,by go_num,rfl,J,by(rw[amb hk he.out];exact cK),b9.ext (aJ.ext U) (bJ _) U⟩):p:=h
def aiT(k:q) (h:bY q->p:=by
 intro aW;obtain⟨e1,kI⟩:∃qT,(dD).alloc (.map #[] 0)=qT:=⟨_,rfl⟩;have jL:=I (show fp e1 prog 54 (dD).heap.size 0 0 (λ_=>none)from by subst kI;exact fp.DG _ _ _);have vo:=I (show Z (dD) e1 from by subst kI;exact U);rw[kI];clear kI;revert e1 jL vo
 exact aW.1):p:=h ⟨k⟩
def C_(k:q) (h:bY q->p:=by
 intro aW;refine(bk _ U).mono ?_;rintro e aN⟨ch,cF,c2,vt,rfl,o0,kc,cn⟩;have bq:=I cn;have cd:=I (o0.mono (aBw:=(w:Nat)) (Z.size U));change aa _ at kc;clear o0 cn;revert aN ch cF c2 vt bq cd kc
 exact aW.1):p:=h ⟨k⟩
def abp(h:p:=by
 go_wp2
 all_goals first
  |(go_ret;exact⟨false,rfl,(λh=>by cases h),U⟩)
  |(go_roundg (gk - 1);(case measure=>omega);(case rel=>exact⟨k+1,J,by go_num,U⟩))):p:=h
def aiS(k:q) (h:bY q->p:=by
 intro aW;obtain⟨dR,kI⟩:∃qT,(dD).alloc (.map #[] 0)=qT:=⟨_,rfl⟩;have iu:=I (show fp dR prog 3 (dD).heap.size 0 0 (λ_=>none)from by subst kI;exact fp.DG _ _ _);have yJ:=I (show Z (dD) dR from by subst kI;exact U);rw[kI];clear kI;revert dR iu yJ
 exact aW.1):p:=h ⟨k⟩
def Yf(k:q) (h:bY q->p:=by
 intro aW;have v8:fI<=60:=by
  have af:=cK.neq;have an:=EI ⟨b,l,s⟩;have bt:=cd.neq;rw[c9,<-bt]at af;omega
 revert v8
 exact aW.1):p:=h ⟨k⟩
def ag2(h:p:=by
 have af:s.d∈pK (b.st.au.take k):=by rw[<-kx.out];exact nH hs
 have:s.d.ts.length<=100:=I' fK k s.d af
 exact ek this J):p:=h
def adC(k:q) (h:bY q->p:=by
 intro aW;have Gw:=adB.qw ((Z.refl _).alloc x);have Tn:=(adA.Ay mS.b ah ah ah (aoA (S:=λx=>x=(aN:Nat)) (aI.refl _ _) (R:=(aN:Nat)) (.inl rfl) x.k x.id.b (ae x.id.l) (ae x.id.s) x.c (ae x.u) x.f x.e)).ext ((Z.refl _).alloc x);have vd:=I Gw;have Aw:=I Tn;revert Gw Tn vd Aw
 exact aW.1):p:=h ⟨k⟩
def azM(h:p:=by
 ·rw[fT,b7.out.2,iv hk,fT];rfl):p:=h
def Jr(k:q) (h:bY q->p:=by
 intro aW;refine de 4 ?_;refine de 5 ?_;refine de 6 ?_
 exact aW.1):p:=h ⟨k⟩
def abB(h:p:=by
 rw[he.out];go_wp2;go_roundg (gk - 1);case measure=>omega
 case rel=>exact⟨k+1,aA,m,aR,J,by go_num,rfl,J,by(rw[amc hk he.out];exact aJ.ext U),U⟩):p:=h
def SF(h:p:=by
 rw[<-tp.out];rw[anz,<-rB.out,<-ec.out];exact b6):p:=h
def KC(k:q) (h:bY q->p:=by
 intro aW;go_wp2_with fail;go_step3;go_wp2_with fail;go_step3;go_wp2_with fail;rename_i kq mJ;revert kq mJ
 exact aW.1):p:=h ⟨k⟩
def ajH(k:q) (h:bY q->p:=by
 intro aW;have bq:Z bh (w1.alloc i):=bz.alloc _;have oS:(w1.alloc i).heap[(w1:Nat)]?=some (i:Obj):=e2 rfl;obtain⟨aN,oQ⟩:∃aN,w1.alloc i=aN:=⟨_,rfl⟩;rw[oQ]at bq oS;rw[oQ];replace bq:=I bq;replace oS:=I oS;have zU:=I (bq.ay dg);have cd:=I (bq.ay fZ);revert aN oQ bq oS zU cd
 exact aW.1):p:=h ⟨k⟩
def ac0(k:q) (h:bY q->p:=by
 intro aW;refine(kh _ _ _ [] xs.length _ (a7.nil _ cr.bI) (by unfold gw;omega) J).mono ?_;rintro e aN⟨ch,cF,c2,rfl,aJ,cn⟩;rw[mN]at aJ;have kA:cF<=20:=by rw[aJ.neq];have:=hV xs.length;omega
 have cd:=I (aJ.mono (aBw:=(w:Nat)) (Z.size U));change aa _ at cn;revert aN ch cF c2 aJ kA cd cn
 exact aW.1):p:=h ⟨k⟩
def acr(k:q) (h:bY q->p:=by
 intro aW;have gD:(wr.alloc xs[k].x).heap[(wr:Nat)]?=some (xs[k].x:Obj):=mu _ _;obtain⟨dK,hT,eU,k3,kf,mf,mg,mh⟩:=lM (show(wr.alloc xs[k].x).heap[(wr:Nat)]?=some (.cells #[xs[k].x.k,xs[k].x.id.b,ae xs[k].x.id.l,ae xs[k].x.id.s,xs[k].x.c,ae xs[k].x.u,xs[k].x.f,xs[k].x.e] _ _)from gD);revert gD dK hT eU k3 kf mf mg mh
 exact aW.1):p:=h ⟨k⟩
def K8(k:q) (h:bY q->p:=by
 intro aW;rintro e aN⟨rfl,mQ,e8⟩;have kt:=(e8.block _ (bZ ks) J).trans ks;revert aN mQ e8 kt
 exact aW.1):p:=h ⟨k⟩
def D_(h:p:=by
 refine og bQ ?_ _;go_wp2;go_ret2
 exact⟨ch,cF,c2,vt,rfl,cd,kc,U⟩):p:=h
def V0(k:q) (h:bY q->p:=by
 intro aW;have cJ:=I (show decide (0<=n/\n<(c.ps.length:Int))=false from je aZ);revert cJ
 exact aW.1):p:=h ⟨k⟩
def aeE(k:q) (h:bY q->p:=by
 intro aW;have GX:∀{w:ba},cM c l T w->cM c l (T+1) w:=λh=>⟨λn b aq aj=>⟨(h.up n b aq aj).1,by have:=(h.up n b aq aj).2;omega⟩,h.down,λn aq=>by have:=h.cX n aq;omega,h.cN,h.aB,h.lf,h.x8,h.len,h.wk,h.zB⟩;revert GX
 exact aW.1):p:=h ⟨k⟩
def i3(h:p:=by
 split;(exact VX (tR (by assumption)) vl x y tQ);exact vl x y tQ):p:=h
def an4(k:q) (h:bY q->p:=by
 intro aW;have bp:(if cap=0 then sa else sa.map (·.add (0*sz)))=sa:=by
  split
  ·rfl
  ·cases sa with
   |none=>rfl
   |some ai=>
    obtain⟨b,o,q⟩:=ai;have:=X2 _ rfl;simp only at this;subst this;simp[Addr.add]
 revert bp
 exact aW.1):p:=h ⟨k⟩
def ajl(k:q) (h:bY q->p:=by
 intro aW;refine Fj rfl (λK aE=>L4 _ _ rfl DO QM _ (QK _) rfl rfl (eh.ext (b3.trans bG)) rfl oh ?_);rw[b9.out,ar.out,dG.out];refine aE _ _ ?_;clear aE K
 exact aW.1):p:=h ⟨k⟩
def Yh(k:q) (h:bY q->p:=by
 intro aW;have hg:=hq.mono (aBw:=(w:Nat)) (Z.size U);simp only[mN,ig]at hg;replace hg:=I hg;revert hg
 exact aW.1):p:=h ⟨k⟩
def ajC(k:q) (h:bY q->p:=by
 intro aW;refine aE _ _ (λ_ _=>(by(try dsimp only);exact⟨qj,M7⟩)) λhH=>ej ?_;have bd:=hH rfl ah;refine dC 8 ?_;refine dC 9 ?_;obtain⟨-,cZ,mT⟩:=SS qj;refine jz 10 λK aE=>?_;go_simp;obtain⟨dR,xB⟩:∃dR,c4.setCell (Q,1) (.slice (some (g6,0)) (n+1) eJ)=dR:=⟨_,rfl⟩;revert hH bd cZ mT K aE dR xB
 exact aW.1):p:=h ⟨k⟩
def akE(h:p:=by
 change aa _ at ad;go_wp2;go_ret
 exact⟨by unfold Jh;rw[ad.out];rfl,(q8.cN (v:=.bool true) (e:=.returned (.bool true)) U ⟨rfl,eh⟩).2⟩):p:=h
def ajK(h:p:=by
 obtain⟨f1,f2⟩:=mo.wE rl b3 J (by have:=iC.out;omega) fC lz
 exact⟨⟨r.1,⟨0,0,0⟩,0,⟨none,0,0⟩,0,0,false⟩,_,_,rfl,rfl,f1,f2⟩):p:=h
def ZS(h:p:=by
 (try dsimp only);exact Z.ay (W:=aN) U z0):p:=h
def Sn(h:p:=by
 ·exact ek (bg y (pA.1 hy).1) ah):p:=h
def ab7(h:p:=by
 ·have Sx:(16:Int)<=(m:Int):=J;go_wp2_with fail;rw[pX];go_ret
  exact Ei.mk (aJ.ext U) U (ab6 (by have:=vU.out;omega))):p:=h
def Wv(k:q) (h:bY q->p:=by
 intro aW;go_simp;refine aE _ _ (by(try dsimp only);skip) λbd=>ej ?_;refine og bQ ?_ _;revert bd
 exact aW.1):p:=h ⟨k⟩
def ZG(k:q) (h:bY q->p:=by
 intro aW;refine CQ bQ bQ ?_;repeat (first|go_big_quiet_step ((fail))|quiet_step ((fail)))
 exact aW.1):p:=h ⟨k⟩
def Yo(k:q) (h:bY q->p:=by
 intro aW;obtain⟨z0,cZ,z2,z3,z4,z5,gx,fE,mT⟩:=kr (show dc.heap[(w:Nat)]?=some (.cells #[av,av,aw,aw,av,aw,(.slice none 0 0),(.slice none 0 0)] _ _)from j6.r);have dj:=j6.fx;revert z0 cZ z2 z3 z4 z5 gx fE mT dj
 exact aW.1):p:=h ⟨k⟩
def arF(h:p:=by
 ·have cb:ts.take k=ts:=iU J;rw[cb]at b7;clear cb;go_wp2;go_ret
  exact⟨aA,m,aR,ys,rfl,b7.out.1,b7.out.2,mB⟩):p:=h
def c'(k:q) (h:bY q->p:=by
 intro aW;have bf:(k:Int)<(xs.length:Int):=J;have zH:IntKind.u64.wrap ((k:Int)+1)=(k:Int)+1:=by simp only[IntKind.wrap_u64];omega
 revert bf zH
 exact aW.1):p:=h ⟨k⟩
def adx(k:q) (h:bY q->p:=by
 intro aW;have cm:w1.cell? (w,1)=some ↑(ae (0:Int)):=br.ag (by simp);have g10:w1.cell? (w,10)=some ↑i.b:=br.ag (by simp);have g11:w1.cell? (w,11)=some ↑(ae i.l):=br.ag (by simp);have g12:w1.cell? (w,12)=some ↑(ae i.s):=br.ag (by simp);revert cm g10 g11 g12
 exact aW.1):p:=h ⟨k⟩
def aau(h:p:=by
 go_enter func35,ntmps35;go_wp2;go_ret
 exact⟨rfl,U⟩):p:=h
def ao3(k:q) (h:bY q->p:=by
 intro aW;have hv:=mD.aF.len;have Ih:∀ai,aA=some ai->ai.spot=none:=by
  intro ai ak;subst ak;rcases mD.row.2 with ⟨bw,_⟩|⟨g,aR,cur,bw,_⟩
  ·cases bw
  ·simp only[Value.slice.injEq,Option.some.injEq]at bw;rw[bw.1]
 revert hv Ih
 exact aW.1):p:=h ⟨k⟩
def af6(h:p:=by
 exact⟨0,_,_,_,J,rfl,rfl,J,(by rw[EC,Th,nc];exact c7.mono (aBw:=(w:Nat)) (Z.size U)),U⟩):p:=h
def af5(k:q) (h:bY q->p:=by
 intro aW;go_wp2_with fail;refine(kh _ _ _ _ xs.length _ ((bn.ext U)) qv J).mono ?_;rintro e w1⟨cE,da,c1,rfl,c7,br⟩;have hA:da<=n+10:=by
  have af:=c7.neq;have an:=hV xs.length;have aO:=((bn.ext U)).neq;rw[c9]at af;omega
 change aa _ at c7 br;have GZ:=hA;go_wp2_with fail;rename_i kq mJ;revert w1 cE da c1 hA c7 br GZ kq mJ
 exact aW.1):p:=h ⟨k⟩
def ac2(h:p:=by
 rintro e e1⟨he,hP⟩;rw[Av.out]at he;subst he;replace hP:=I hP;go_wp2;go_ret2
 exact⟨ab,k,c,rfl,aJ.ext (il.trans hP),U⟩):p:=h
def acv(k:q) (h:bY q->p:=by
 intro aW;obtain⟨ct,bO,bL,bM,bP⟩:=fB Ao;have Ir:=I Bu;have Bv:=I (show ∀ai,aA=some ai->ai.block≠gb from λai ak=>by have:=(bu.lt ai ak).1;omega);have eB:(w.alloc x).heap[gb]?=some (.cells #[ao aA n cap] 42 (0,0)):=((Z.refl w).alloc _).ay al;have bH:=aiN eB;revert ct bO bL bM bP Ir Bv eB bH
 exact aW.1):p:=h ⟨k⟩
def ww(h:p:=by
 (try dsimp only);exact⟨Z.ay (W:=a6) U FI,Z.ag (W:=a6) U Q9⟩):p:=h
def St(h:p:=by
 go_ret;refine⟨jl (WZ _ _),?_⟩
 exact U):p:=h
def aaw(k:q) (h:bY q->p:=by
 intro aW;rw[eX];have b3:=I nV;have jj:=h.cell (R:=(w:Nat)+1) nV J J;have oU:=h.DZ (R:=(w:Nat)+1) J;obtain⟨eB,bH,b1,dJ,eG⟩:=Ku ku;replace oU:=I oU;revert b3 jj eB bH b1 dJ eG oU
 exact aW.1):p:=h ⟨k⟩
def aa8(k:q) (h:bY q->p:=by
 intro aW;have yQ:j<n*sz:=by rw[<-hlen];exact(ud.1 aD).1
 have hk:j / sz<ys.length:=by rw[<-bj.neq];exact SK (by rw[MG];exact yQ)
 obtain⟨b,off,j2,R1⟩:=bj.get (j / sz) hk;simp only[Option.some.injEq]at j2;revert yQ hk b off R1 j2
 exact aW.1):p:=h ⟨k⟩
def LT(h:p:=by
 (try dsimp only);exact⟨Z.ay (W:=bh) U dg,Z.ay (W:=bh) U fZ⟩):p:=h
def TU(h:p:=by
 rw[c9,GO];omega):p:=h
def Wi(k:q) (h:bY q->p:=by
 intro aW;have az:qN c aQ.bN p cl=(none,210):=by unfold qN;rw[c6];dsimp only;rw[cy]
 revert az
 exact aW.1):p:=h ⟨k⟩
def af1(k:q) (h:bY q->p:=by
 intro aW;go_enter func212,ntmps212;go_wp2_with fail;refine(af0 _ _ _ xs id _ (ar.ext U) a8 J).mono ?_;rintro e w1⟨cE,da,c1,rfl,c7,br⟩;have hA:da<=999900:=by
  have af:=c7.neq;have an:=EI id;have aO:=c3.out;rw[c9]at af;omega
 change aa _ at c7 br;go_wp2_with fail;rename_i kq mJ rn sw;revert kq mJ w1 cE da c1 hA c7 br rn sw
 exact aW.1):p:=h ⟨k⟩
def Q_(h:p:=by
 (repeat (first|exact uN.refl _|refine uN.alloc ?_ _|refine uN.drew ?_))):p:=h
def ais(h:p:=by
 ·by_cases e:k=n
  ·subst e;simp only[bc]at X hy;exact yE x X hy
  ·simp only[aV e]at X hy;exact h.HC k hk x X hy):p:=h
def ae5(h:p:=by
 rcases oy.1 aD with rfl|aD
 ·exact xC aM (λlC aE=>h lC (λa w bj fq=>aE a w ⟨bj,fq bj⟩))
 ·exact hs j aD):p:=h
def aci(k:q) (h:bY q->p:=by
 intro aW
 go_loopg [3,8] (xs.length) (λg e4 st wr=>∃(k:Nat) (aA:Option Addr) (m aR:Nat) (ys:List bU),g+k=xs.length/\st=.int .i64 k/\e4=.slice aA m aR/\
  aa (aH wr w 66 8 bU.cs aA m aR ys/\ys.map (·.d)=(xs.take k).map (·.d)/\(∀y,y∈ys->fU wr w y.x y.d))/\aa (Z w wr))
 case atStart=>clear aW;exact⟨0,none,0,0,[],J,rfl,rfl,⟨aH.nil _ _ _ bU.bI,rfl,(λy hy=>by cases hy)⟩,Z.refl _⟩
 rename_i kq mJ rn sw;revert gk wr u3 u5 u8 u9 u10 u11 u12 u13 u14 u15 u16 u17 hrel kq mJ rn sw
 exact aW.1):p:=h ⟨k⟩
def U3(k:q) (h:bY q->p:=by
 intro aW;refine de 6 ?_;refine de 7 ?_;refine de 8 ?_
 exact aW.1):p:=h ⟨k⟩
def agn(k:q) (h:bY q->p:=by
 intro aW;have iV:B<(cB:Nat):=bZ AV;have wy:(w:Nat)<(cB:Nat):=J;obtain⟨aB,PK⟩:∃b,b=(cB:Nat):=⟨_,rfl⟩;have gN:=I (show aB<=(cB:Nat)/\B<aB/\p<aB/\(w:Nat)<aB by omega);have N:=I (show(w:Nat)<B/\(w:Nat)<p/\p<B by omega);revert iV wy aB PK gN N
 exact aW.1):p:=h ⟨k⟩
def ahC(h:p:=by
 go_simp;refine aE _ _ (absurd · ah) λ_=>ej ?_;refine LI bQ ?_ _;go_wp2;go_ret
 exact⟨M',bX,O',rfl,Vm,Hc.cN U⟩):p:=h
def aip(h:p:=by
 ·by_cases e:k=n
  ·subst e;simp only[bc]at X;exact hs x X
  ·simp only[aV e]at X;exact bk.up x (h.sub k hk x X)):p:=h
def Sm(h:p:=by
 ·exact(ar.ts y (pA.1 hy).1).ext qq):p:=h
def ajD(k:q) (h:bY q->p:=by
 intro aW;go_simp;go_at_call 183;refine(axU mo a1 r.2.1 r.1).mono ?_;rintro e a6⟨x,Mv,Wu,rfl,Dx,q4,Kg⟩;have jF:=(Kg.ee.block _ (bZ di) (λk=>(rl.f.new _ k).elim fC (λz=>by have:=iC.out;omega))).trans di;obtain⟨v0,v1,v2,v3,v4,v5,v6,hh,jO,pW⟩:=xR jF;replace jF:=I jF;replace q4:=I q4;replace Kg:=I Kg;replace Dx:=I Dx;revert a6 x Mv Wu v0 v1 v2 v3 v4 v5 v6 hh jO pW jF q4 Kg Dx
 exact aW.1):p:=h ⟨k⟩
def Q5(k:q) (h:bY q->p:=by
 intro aW;rintro e w1⟨rfl,bz⟩;have ad:=bz.ay iN;replace bz:=I bz;revert w1 ad bz
 exact aW.1):p:=h ⟨k⟩
def atc(h:p:=by
 simp only[jT,z7]at h ⊢;omega):p:=h
def abG(h:p:=by
 go_wp2_with fail;refine qQ (ams x oE c u _ eG h4) λw1 hy=>?_;go_wp2;go_ret;refine⟨jl (by simp),?_⟩
 exact U):p:=h
def KE(k:q) (h:bY q->p:=by
 intro aW;refine qQ (b8 xs[k] (cT hk) _ X) λw1 hy=>?_;revert w1 hy
 exact aW.1):p:=h ⟨k⟩
def adf(k:q) (h:bY q->p:=by
 intro aW;have zf:aI (λx=>x=w1.heap.size) a6 (a6.setCell ⟨w1.heap.size,2,none⟩ (.int .u64 (S:Int))):=aI.setCell (S:=λx=>x=w1.heap.size) (aI.refl _ a6) ⟨w1.heap.size,2,none⟩ (.inl rfl) _;revert zf
 exact aW.1):p:=h ⟨k⟩
def F_(k:q) (h:bY q->p:=by
 intro aW;obtain⟨dS,MB⟩:∃dS,(tX r.1 b.gQ)=dS:=⟨_,rfl⟩;rw[MB];obtain⟨z0,cZ,z2,mT⟩:=qu BB;have hF:=Ht BB dS.b (ae dS.l) (ae dS.s);revert dS MB z0 cZ z2 mT hF
 exact aW.1):p:=h ⟨k⟩
def ac5(h:p:=by
 ·rw[q]at he;subst he;change aa _ at h;clear q;go_wp2;go_ret;refine⟨jk (by rw[h.out];rfl),?_⟩
  exact U):p:=h
def akf(h:p:=by
 go_enter func6,ntmps6;go_wp2;go_ret
 first|exact⟨false,rfl,U,λh=>by cases h⟩|exact⟨rfl,U⟩):p:=h
def Yp(h:p:=by
 simp[results,results129,go_sem,z0,cZ,z2,z3,z4,z5,gx,fE,dj]):p:=h
def akF(h:p:=by
 (go_at_call 137;exact Calls.nX (yX s d.aB x.id _ (tL.out.ext (fu.ck _))) (eH Value.bool fc.out))):p:=h
def Xk(h:p:=by
 ·go_wp2;go_ret;refine⟨rfl,?_⟩
  exact U):p:=h
def S3(h:p:=by
 simp[results,results255,go_sem,dV,q1,dk]):p:=h
def aju(h:p:=by
 rw[nd,nd,eK hk,eK jV]at af
 simpa using af):p:=h
def ZM(h:p:=by
 have:=hm.out;have:=zG.out;have:=Du.out;have:=fK.out.bW;omega):p:=h
def ajF(h:p:=by
 obtain⟨f1,f2⟩:=q4.wE (rl.trans Kg) b3 J (by have:=iC.out;omega) fC lz
 exact⟨x,Mv,Wu,rfl,Dx,f1,f2⟩):p:=h
def afZ(h:p:=by
 obtain⟨z0,cZ,z2,z3,z4,z5,gx,fE⟩:=lM vV;replace jr:=I jr;clear vV;go_wp2;go_ret
 exact⟨rfl,U⟩):p:=h
def arT(k:q) (h:bY q->p:=by
 intro aW;have aZ:=en h 0 v0;have af:=en aZ 1 v1;have an:=en af 2 v2;have aO:=en an 3 v3;have bt:=en aO 4 v4;have cC:=en bt 5 v5;have fV:=en cC 6 v6;have kv:=en fV 7 hh;revert aZ af an aO bt cC fV kv
 exact aW.1):p:=h ⟨k⟩
def acu(h:p:=by
 ·obtain rfl:=jg.1 hy
  exact((kg.mono (Z.size U)).ext U).grow b9 (aJ.out.1.ext U) ah ah ah):p:=h
def ZH(h:p:=by
 ·exact⟨gz _,gz _,λe he=>by cases he⟩):p:=h
def Y7(h:p:=by
 exact⟨λd h=>.inl h,λd h=>.inl h,O7 _ _⟩):p:=h
def ahc(h:p:=by
 ·have af:=bC.size;rcases hy with hy|hy
  ·have:=gW y hy;omega
  ·rw[show y=g9 from hy];exact(o5.lt _ rfl).2):p:=h
def ayV(k:q) (h:bY q->p:=by
 intro aW;have a1:cs.length=5:=(Sh underlying154 h).trans bQ;obtain⟨n0,cA,aZ⟩:=yV underlying154 h 0 _ rfl 0 1 bQ rfl;obtain⟨da,cR,af⟩:=yV underlying154 h 1 _ rfl 1 1 bQ rfl;obtain⟨cF,cS,an⟩:=yV underlying154 h 2 _ rfl 2 3 bQ rfl;revert a1 n0 cA aZ da cR af cF cS an
 exact aW.1):p:=h ⟨k⟩
def abO(h:p:=by
 congr 1;refine Sq λs _=>?_
 rw[wP];simp[cu.d];exact decide_eq_true_iff.symm):p:=h
def agE(h:p:=by
 ·rw[bp]at hlen;go_wp2;go_ret
  exact⟨⟨_,rfl⟩,by rw[hf.out];exact H.out.ext bn.out,.of bn.out⟩):p:=h
def acn(h:p:=by
 rw[cb]at aJ;clear cb;go_wp2;go_ret
 exact⟨aA,m,aR,ys,rfl,aJ.out.1,aJ.out.2.2,aJ.out.2.1,U⟩):p:=h
def ad0(h:p:=by
 ·go_wp2
  (go_ret;refine⟨jk (apm hk (by unfold BL;rw[ES hk];simp;omega)),?_⟩;exact U)):p:=h
def afL(k:q) (h:bY q->p:=by
 intro aW;refine sX (λ_=>True) (λbd=>?_) (by(try dsimp only);(first|done|trivial));refine de 0 ?_;refine de 1 ?_;refine de 3 ?_;refine de 4 ?_;refine de 2 ?_;refine de 5 ?_;refine h9 6 λK aE=>?_;revert bd K aE
 exact aW.1):p:=h ⟨k⟩
def ZN(h:p:=by
 rcases aj with rfl|rfl|rfl|rfl|rfl|rfl|rfl|rfl|rfl<;>rfl):p:=h
def ayT(k:q) (h:bY q->p:=by
 intro aW;have a1:cs.length=3:=(Sh underlying74 h).trans bQ;obtain⟨n0,cA,aZ⟩:=yV underlying74 h 0 _ rfl 0 1 bQ rfl;obtain⟨da,cR,af⟩:=yV underlying74 h 1 _ rfl 1 1 bQ rfl;obtain⟨cF,cS,an⟩:=yV underlying74 h 2 _ rfl 2 1 bQ rfl;revert a1 n0 cA aZ da cR af cF cS an
 exact aW.1):p:=h ⟨k⟩
def f9(k:q) (h:bY q->p:=by
 intro aW;have cJ:=I (show decide (0<=(k:Int)/\(k:Int)<(c.ps.length:Int))=true from jf aZ);revert cJ
 exact aW.1):p:=h ⟨k⟩
def Zd(h:p:=by
 exact⟨l9 _,λk=>(by rw[hk]at k;cases k)⟩):p:=h
def afj(k:q) (h:bY q->p:=by
 intro aW;have Pp:=T8 (S:=λb=>b=g) (aI.refl _ a6) (R:=g) (a*8) (.inl rfl) cz[j].x.k cz[j].x.id.b (ae cz[j].x.id.l) (ae cz[j].x.id.s) cz[j].x.c (ae cz[j].x.u) cz[j].x.f cz[j].x.e;revert Pp
 exact aW.1):p:=h ⟨k⟩
def ac1(h:p:=by
 exact⟨0,_,_,_,J,rfl,rfl,J,(by rw[EC,Th,nc];exact cd),U⟩):p:=h
def ajI(h:p:=by
 (try dsimp only);exact⟨⟨Z.ay (W:=aN) U zU,Z.ay (W:=aN) U cd⟩,Z.ay (W:=aN) U oS⟩):p:=h
def agN(k:q) (h:bY q->p:=by
 intro aW;refine ej ?_;refine de 11 ?_;refine og bQ ?_ _
 exact aW.1):p:=h ⟨k⟩
def abM(h:p:=by
 exact⟨0,none,0,0,[],J,rfl,rfl,⟨aH.nil _ _ _ eu.bI,rfl,λy hy=>by cases hy⟩,Z.refl _⟩):p:=h
def ahk(k:q) (h:bY q->p:=by
 intro aW;obtain⟨ct,bO,bL,bM,bP⟩:=fB Ao;replace bO:=I bO;replace bL:=I bL;replace bM:=I bM;replace bP:=I bP;revert ct bO bL bM bP
 exact aW.1):p:=h ⟨k⟩
def XY(k:q) (h:bY q->p:=by
 intro aW;obtain⟨ct,bO,bL,bM,bP⟩:=fB Iu;replace bO:=I bO;replace bL:=I bL;replace bM:=I bM;replace bP:=I bP;revert ct bO bL bM bP
 exact aW.1):p:=h ⟨k⟩
def Yr(h:p:=by
 rw[l8];simp only[c9,y8];omega):p:=h
def pp(k:q) (h:bY q->p:=by
 intro aW;refine⟨rfl,_,(by simp[results,results22,go_sem,z0,cZ,z2];rfl),?_⟩
 exact aW.1):p:=h ⟨k⟩
def YK(k:q) (h:bY q->p:=by
 intro aW;obtain⟨aA,n,cap,fw,mD,bu⟩:=(h).ck;obtain⟨eB,bH,b1,Dh⟩:=qu (show w.heap[q]?=some (.cells #[ao aA n cap,(fF:Int),(room:Int)] _ _)from fw);revert aA n cap fw mD bu eB bH b1 Dh
 exact aW.1):p:=h ⟨k⟩
def rt(k:q) (h:bY q->p:=by
 intro aW;refine⟨rfl,_,(by simp[results,results19,go_sem,z0,cZ,z2];rfl),?_⟩
 exact aW.1):p:=h ⟨k⟩
def s1(k:q) (h:bY q->p:=by
 intro aW;refine⟨rfl,_,(by simp[results,results67,go_sem,z0,cZ,z2];rfl),?_⟩
 exact aW.1):p:=h ⟨k⟩
def agM(h:p:=by
 go_enter func98,ntmps98;go_wp2_with fail;go_quiet (fail);go_wp2;go_ret
 exact⟨rfl,U⟩):p:=h
def Xj(h:p:=by
 rcases aj with rfl|rfl|rfl|rfl|rfl|rfl|rfl|rfl<;>rfl):p:=h
def abr(h:p:=by
 go_enter func244,ntmps244;go_wp2_with fail
 all_goals (go_ret;exact⟨jl H,rfl⟩)):p:=h
def q_(k:q) (h:bY q->p:=by
 intro aW;have m7:wr.cell? (w,1,7)=some ↑(ao uJ m.aU.length uK):=aL dM rfl;have k4:=aL (o:=0) fb rfl;revert m7 k4
 exact aW.1):p:=h ⟨k⟩
def ge(h:p:=by
 rw[jK.out]
 exact⟨v,bW,g,p,q,D,O,W,H.ext U,jZ⟩):p:=h
def q'(k:q) (h:bY q->p:=by
 intro aW;go_enter func119,ntmps119;go_wp2_with fail;refine(agz M c bW g bT a b _ H.out dD dZ).mono ?_;rintro e w1⟨rfl,bn⟩;rename_i kq mJ rn sw Kl;revert kq mJ rn sw Kl w1 bn
 exact aW.1):p:=h ⟨k⟩
def ii(h:p:=by
 rw[kd.out]
 exact⟨v,bW,g,p,q,D,O,W,H.ext U,jZ⟩):p:=h
def akb(h:p:=by
 go_wp2;go_roundg (EN - 1);case measure=>omega
 case rel=>exact⟨i+1,J,by go_num,U⟩):p:=h
def aee(h:p:=by
 ·rcases mv d h with h|h
  ·exact O6 (key.2.1 d h)
  ·exact .inr (ni _ h)):p:=h
def aqL(h:p:=by
 ·have:=ready_mono aD e;rw[H.1]at this
  cases this):p:=h
def aiP(h:p:=by
 cases hw:ja c a b with
 |true=>rw[bc rfl,bc rfl];rfl
 |false=>rw[aV ah,aV ah]):p:=h
def y_(k:q) (h:bY q->p:=by
 intro aW;refine dC 3 ?_;refine kG 4 (·.ay gD) ?_;refine kG 5 (·.ay s5) ?_
 exact aW.1):p:=h ⟨k⟩
def afG(h:p:=by
 have dG:=I ak;rw[ak]at jG;clear ak al;go_wp2;go_ret
 exact⟨by rw[bu.out,dG.out];rfl,U⟩):p:=h
def afE(h:p:=by
 exact⟨0,_,_,_,_,J,rfl,rfl,ho,⟨aJ.out.1,by rw[aJ.out.2.1];simp,aJ.out.2.2⟩,X⟩):p:=h
def ahB(k:q) (h:bY q->p:=by
 intro aW;refine(bk _ U).mono ?_;rintro e aN⟨ch,cF,c2,vt,rfl,o0,kc,bq⟩;change aa _ at bq;have cd:=I (o0.b5 (λx k=>fQ (gW x k) (Z.size U)));change aa _ at kc;clear o0;refine aE _ _ (λ_ _=>AM) λhH=>ej ?_;have bd:=hH rfl ah;revert aN ch cF c2 vt bq cd kc hH bd
 exact aW.1):p:=h ⟨k⟩
def Zb(h:p:=by
 ·exact⟨λk=>(by cases k),λk=>(by cases k)⟩):p:=h
def Sp(k:q) (h:bY q->p:=by
 intro aW;have hy:=I (show Z w w1 from Z.trans ((Z.refl w).alloc _) ad);revert hy
 exact aW.1):p:=h ⟨k⟩
def Z1(k:q) (h:bY q->p:=by
 intro aW;have eI:=gp.ay (show(w.alloc i).heap[(w:Nat)]?=some (i:Obj)from e2 rfl);obtain⟨b0,bf,dA⟩:=jm eI;revert eI b0 bf dA
 exact aW.1):p:=h ⟨k⟩
def agB(h:p:=by
 rw[hw.out,aV ah];replace bn:=I bn;go_wp2;go_ret
 exact⟨⟨_,rfl⟩,H.ext bn,.of bn⟩):p:=h
def ad1(h:p:=by
 go_enter func29,ntmps29;go_wp2;go_ret;refine⟨jk (apk H1),?_⟩
 exact U):p:=h
def aej(h:p:=by
 ·obtain⟨d,aG,rfl⟩:=lU.1 k
  exact nH (pA.1 aG).1):p:=h
def ae0(h:p:=by
 rw[a1]at az;obtain rfl:=jg.1 az
 exact .inl ⟨1,rfl,by unfold gw;omega⟩):p:=h
def awg(h:p:=by
 obtain⟨M',eF,af,an,_⟩:=h
 exact(an.ee.block b (bZ ad) (λk=>aq (fe b k))).trans ad):p:=h
def abw(h:p:=by
 unfold cc;by_cases af:b=b'<;>by_cases an:l=l'<;>simp[af,an,go_sem]
 split<;>simp_all):p:=h
def arC(k:q) (h:bY q->p:=by
 intro aW;go_at_call 160;refine(TC ts[k].x ts[k].e _ ((H.ck _ (cT hk)).ext U) (ev _ (cT hk))).mono ?_
 exact aW.1):p:=h ⟨k⟩
def abN(h:p:=by
 ·rw[fT,aJ.out.2.1,iv hk,fT];rfl):p:=h
def E'(k:q) (h:bY q->p:=by
 intro aW;have s5:=I (show(w.alloc i).heap[(w:Nat)]?=some (i:Obj)from gA);revert s5
 exact aW.1):p:=h ⟨k⟩
def aqO(h:p:=by
 ·rw[Array.setIfInBounds_comm _ _ e]
  exact k.2.2):p:=h
def abk(h:p:=by
 go_wp2
 all_goals
  go_ret
  refine⟨jl (by rw[wP];simp),?_⟩
  exact U):p:=h
def Xg(h:p:=by
 go_ret;exact⟨false,rfl,(λh=>by cases h),U⟩):p:=h
def aaW(h:p:=by
 go_wp2
 all_goals (go_ret;refine⟨jk ?_,rfl⟩;unfold nx;(repeat' split)<;>omega)):p:=h
def ahn(h:p:=by
 unfold zq;dsimp only;rw[wX.out,aV ah,bc rfl,<-yz.out,oe.out];exact rfl):p:=h
def LP(k:q) (h:bY q->p:=by
 intro aW;have bz:=I (show Z w w1 from Z.trans U gp);revert bz
 exact aW.1):p:=h ⟨k⟩
def afT(h:p:=by
 go_ret2
 exact⟨cE,da,c1,ys,by rw[kO.out];rfl,bu.ext U,by rw[kO.out];exact bF,U⟩):p:=h
def arD(h:p:=by
 have:=(b7.out.1.cj.lt ai ak).2;have:=ec.out;omega):p:=h
def arA(k:q) (h:bY q->p:=by
 intro aW;rw[bc hk];have BY:(ts.map ca.tx)[jJ (ts.map ca.tx) i]?=some ts[jJ (ts.map ca.tx) i].tx:=by rw[nd,eK hk];rfl
 revert BY
 exact aW.1):p:=h ⟨k⟩
def W_(h:p:=by
 have:=JX.out;rw[<-this,cx];omega):p:=h
def Z4(h:p:=by
 (try dsimp only);exact Z.ay (W:=bA) U E9.out):p:=h
def ach(h:p:=by
 go_ret;refine⟨jl (by rw[XD,af.out,an.out,aO.out];rfl),?_⟩
 exact U):p:=h
def afn(h:p:=by
 exact q8.cN (show Z w _ from U) (q8.then an.out aO.out ⟨rfl,mQ.out⟩)):p:=h
def aa5(h:p:=by
 rw[he.out];go_wp2;go_ret;refine⟨jl (WY (p:=p) hk he),?_⟩
 exact U):p:=h
def ajL(k:q) (h:bY q->p:=by
 intro aW;have hX:=(n4.ee.block _ (bZ dg) (gC Q (.inl rfl)).2).trans dg;have c7:=(rl.ee.block _ (bZ fZ) lK).trans fZ;have di:=(rl.ee.block _ (bZ bE) fC).trans bE;revert hX c7 di
 exact aW.1):p:=h ⟨k⟩
def acT(h:p:=by
 go_roundg (gk - 1);case measure=>omega
 case rel=>exact⟨i+1,J,by go_num,rfl,U⟩):p:=h
def KP(k:q) (h:bY q->p:=by
 intro aW;have cb:cD.take k=cD:=iU J;revert cb
 exact aW.1):p:=h ⟨k⟩
def acj(k:q) (h:bY q->p:=by
 intro aW;have ho:m=k:=by
  have af:=aJ.out.1.neq;have an:=eH List.length aJ.out.2.1;rw[cx,cx,nF]at an;omega
 revert ho
 exact aW.1):p:=h ⟨k⟩
def ag3(h:p:=by
 rw[hR.out];unfold zs;rw[bc (by rw[<-pZ.out];exact nL)];exact kx):p:=h
def aft(k:q) (h:bY q->p:=by
 intro aW;have dH:=(ra.block gb (bZ G4.out) (ED G4.out tK.out ah)).trans G4.out;have v5:=(ra.block w (bZ v4.out) (ED v4.out tK.out ah)).trans v4.out;revert dH v5
 exact aW.1):p:=h ⟨k⟩
def G_(h:p:=by
 exact⟨M',hW,mZ,by rw[MB],⟨v9,xz⟩,vr⟩):p:=h
def ahI(h:p:=by
 ·simp only[Value.slice.injEq]at bw;obtain⟨rfl,af,an⟩:=bw
  exact⟨_,rfl⟩):p:=h
def ack(k:q) (h:bY q->p:=by
 intro aW;have lq:=I (show(xs.take (k+1)).map (·.d)=(xs.take k).map (·.d)++[xs[k].d]from by rw[iv hk,fT];rfl);revert lq
 exact aW.1):p:=h ⟨k⟩
def aaV(h:p:=by
 ·have:n+1<=(n+1)*bytes:=Ny _ jt
  simp only[maxLen];omega):p:=h
def acG(h:p:=by
 rw[Nat.pow_succ]at h;exact SK (by rw[MG];exact h)):p:=h
def acD(h:p:=by
 ·rw[acy y6.out xO.out Bx.out,aV ah,nc];exact fm.Oi):p:=h
def agm(k:q) (h:bY q->p:=by
 intro aW;have B3:=jF.jD PJ fc ah ah ah;have B4:=(PJ.block _ (bZ oJ) J).trans oJ;have DE:Z w (a6.setCell (B,1) (ae (m.h:Int))):=c0.setCell (p:=(B,1)) (lu Ha) _;revert B3 B4 DE
 exact aW.1):p:=h ⟨k⟩
def acC(h:p:=by
 ·rw[acx y6.out xO.out Bx.out,aV ah,nc];exact fm.Oh):p:=h
def Yu(k:q) (h:bY q->p:=by
 intro aW;obtain⟨z0,cZ,z2,z3,z4,z5,gx,fE,Az,z9,IJ,IK,z12,mT⟩:=rD (show dc.heap[(w:Nat)]?=some (.cells #[av,aw,av,av,aw,aw,av,aw,aP,aP,av,aw,aw] _ _)from j6.r);have dj:=j6.fx;revert z0 cZ z2 z3 z4 z5 gx fE Az z9 IJ IK z12 mT dj
 exact aW.1):p:=h ⟨k⟩
def C'(h:p:=by
 exact⟨M,D,O,rfl,⟨v,H.ext U⟩,.of U⟩):p:=h
def ZW(h:p:=by
 (try dsimp only);exact Z.ay (W:=cB) U PD):p:=h
def afp(k:q) (h:bY q->p:=by
 intro aW;have tL:=I (h.st.b.aF.ext ((Z.refl w).alloc x.id));have q9:=AH h.st.l.sE h.st.jI x.id;have mw:=AH h.st.p.sE h.st.kV x.id;have pP:=X.id;rw[pP]at q9 mw;have H:=I h;revert tL q9 mw pP H
 exact aW.1):p:=h ⟨k⟩
def aio(h:p:=by
 rw[az]at this;exact⟨this.1,by rw[yo (QJ lH)];exact this.2⟩):p:=h
def Ux(k:q) (h:bY q->p:=by
 intro aW;refine de 10 ?_;refine de 11 ?_;refine de 12 ?_
 exact aW.1):p:=h ⟨k⟩
def Yn(k:q) (h:bY q->p:=by
 intro aW;refine(BD p q 32 _ _ kQ.ht J ah).mono ?_;rintro e cB⟨rfl,wb,n3⟩;have o9:=kQ.oK wb n3;revert cB wb n3 o9
 exact aW.1):p:=h ⟨k⟩
def ac8(h:p:=by
 have:=hV i.b.toNat;have:=hV i.l.toNat;have:=hV i.s.toNat
 omega):p:=h
def aj7(h:p:=by
 go_wp2_with fail;go_quiet (fail);go_wp2;go_ret;rw[cw.out]
 exact⟨rfl,U⟩):p:=h
def SX(k:q) (h:bY q->p:=by
 intro aW;skip;go_enter func255,ntmps255;go_wp2_with fail;go_step3;rename_i kq;revert kq
 exact aW.1):p:=h ⟨k⟩
def amj(h:p:=by
 simp[Value.cells]at e;obtain⟨rfl,rfl,rfl⟩:=e
 exact⟨_,_,_,ys,rfl,s⟩):p:=h
def aa6(h:p:=by
 ·go_wp2;go_ret;refine⟨jl (Ko (p:=p) eO hk),?_⟩
  exact U):p:=h
def agH(h:p:=by
 (try dsimp only);exact⟨Z.ay (W:=bA) U Fo.box,Z.ag (W:=w) U Jz⟩):p:=h
def ad7(k:q) (h:bY q->p:=by
 intro aW;have aG:d.id∉gr xs:=by
  unfold gr at h ⊢;rw[fT]at h;intro k;exact(TM.1 h).2.2 d.id k d.id (by simp) rfl
 revert aG
 exact aW.1):p:=h ⟨k⟩
def aaX(h:p:=by
 go_enter func350,ntmps350;go_wp2;go_ret
 exact⟨jl H,rfl⟩):p:=h
def ag5(k:q) (h:bY q->p:=by
 intro aW;have az:=Bm y.id.b y.id.l y.id.s i.b i.l i.s;have bH:=((Z.refl w).alloc y).ag af;have b1:=((Z.refl w).alloc y).ag an;have dJ:=((Z.refl w).alloc y).ag aO;revert az bH b1 dJ
 exact aW.1):p:=h ⟨k⟩
def acQ(k:q) (h:bY q->p:=by
 intro aW;have Ox:(BitVec.ofInt 64 (z:Int)).toNat=z:=by
  rw[BitVec.ofInt_natCast,BitVec.toNat_ofNat];exact Gl (fQ bp ah)
 revert Ox
 exact aW.1):p:=h ⟨k⟩
def hB{p:Prop}(h:p:=by have:=cG.size;(try simp at this);omega):p:=h
def oH{p:Prop}(h:p:=by have:=ad.size;(try simp at this);omega):p:=h
def awr{p:Prop}(h:p:=by unfold gw;omega):p:=h
def Gm{p:Prop}(h:p:=by unfold gw;decide):p:=h
def Ix{p:Prop}(h:p:=by unfold maxLen;omega):p:=h
def QF{p:Prop}(h:p:=by have:=iC.out;omega):p:=h
def RM{p:Prop}(h:p:=by have:=X.size;omega):p:=h
def SE{p:Prop}(h:p:=by have:=hN.size;(try simp at this);omega):p:=h
def To{p:Prop}(h:p:=by have af:=wg.out;congr 1;omega):p:=h
def Uk{p:Prop}(h:p:=by have:=sh.out;omega):p:=h
def Ul{p:Prop}(h:p:=by have:=uB.out;omega):p:=h
def UA{p:Prop}(h:p:=by have:=N.out;omega):p:=h
def Xr{p:Prop}(h:p:=by unfold nx;split<;>(try split)<;>omega):p:=h
def XM{p:Prop}(h:p:=by have:=jh.size;(try simp at this);omega):p:=h
def XQ{p:Prop}(h:p:=by have:=gK.size;simp at this;omega):p:=h
def d'{p:Prop}(h:p:=by have:=jx.size;simp;omega):p:=h
def aaD{p:Prop}(h:p:=by intro b0 bf dA;cases b0<;>cases bf<;>cases dA<;>exact⟨by kernel_rfl,by kernel_rfl,by kernel_rfl,by kernel_rfl,λh=>(by first|(cases h rfl;done)|kernel_rfl)⟩):p:=h
def aaE{p:Prop}(h:p:=by intros;exact⟨rfl,rfl,rfl⟩):p:=h
end Go.Proofs.YtfiiblnenhdlhaaGreat
