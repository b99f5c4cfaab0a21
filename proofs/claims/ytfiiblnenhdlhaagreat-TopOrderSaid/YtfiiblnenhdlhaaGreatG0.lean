/- Words. -/
import Derived.BigQuiet
import Derived.Carry
import Derived.ChangeMaps4
import Derived.Conc.LoneSelect
import Derived.Conc.LoneSelectN
import Derived.Deep.AppendLies
import Derived.Deep.CutBlock
import Derived.Deep.DeepCutAuto
import Derived.Deep.DeepMust
import Derived.Deep.DrawnRows
import Derived.Deep.LoopGhost
import Derived.Deep.QuietTactic
import Derived.Deep.RegionHeld3
import Derived.Deep.RegionLaw
import Derived.Deep.Slices
import Derived.DeepKeys4
import Derived.Ground.SlsfProg
import Derived.IntWalk
import Derived.Laws.AppendOwnNone
import Derived.Laws.CopyOwn
import Derived.Laws.EntriesVeiled
import Derived.Laws.IdiomCopy
import Derived.Laws.OwnMore
import Derived.Lib.BufferMore
import Derived.Lib.SmallJoins
import Derived.Lib.Strings
import Derived.LoopIn
import Derived.LoopNIn
import Derived.MapKept
import Derived.Maps.AppendAt
import Derived.Maps.OwnIn
import Derived.Maps.OwnOps
import Derived.Maps.OwnSet
import Derived.Maps.RangeWalk
import Derived.OneCell
import Derived.OpenShut
import Derived.Outline
import Derived.OwnWalkIn
import Derived.ProofKit
import Derived.RangeFuncBound
import Derived.RangeFuncBox
import Derived.RangeFuncCalls
import Derived.RangeFuncKeeps
import Derived.RangeFuncLeaves
import Derived.RangeFuncNested
import Derived.RangeFuncSeq
import Derived.RangeFuncWrites
import Derived.RegionIn
import Derived.Shelf.Abstract
import Derived.Shelf.AbstractIn
import Derived.Shelf.RegionOpen
import Derived.Shelf.SlGeneric
import Derived.Shelf.SlSortCmp.NoneTotal
import Derived.Sort.Grow
import Derived.Sort.MapsRangeIn
import Derived.TacticsInMore
import Derived.Test.YtfiiblnenhdlhaaGreatProg
import Derived.WalkKit
import Derived.WalkLawsBesides
import Derived.WalkSpells
import GoSem.Op.String
set_option linter.unusedVariables false
set_option linter.unusedSimpArgs false
set_option linter.defProp false
set_option maxRecDepth 100000
set_option maxHeartbeats 4000000
namespace Go.Proofs.YtfiiblnenhdlhaaGreat
open Go.RowKit Tryz
abbrev z6:=World->Prop
abbrev ff:=Nat->Prop
abbrev aC:=World
abbrev dR:=List UInt8
abbrev bk:=Option Addr
abbrev ZF:=@Array.getD_eq_getD_getElem?
abbrev WK:=@Array.toList_setIfInBounds
abbrev Wr:=@Array.getElem?_setIfInBounds
abbrev Vu:=@World.putObj_heap_other
abbrev U9:=@List.filter_filter
abbrev Tc:=@List.eraseIdx_cons_succ
abbrev S4:=@List.eraseIdx_sublist
abbrev Sk:=@Nat.le_add_right
abbrev Si:=@Array.getElem?_modify
abbrev Sh:=@Array.getElem?_eq_none
abbrev Sa:=@Nat.div_lt_of_lt_mul
abbrev R9:=@Nat.mul_le_mul_right
abbrev RS:=@World.cell?_setCell_same
abbrev RL:=@List.mem_or_eq_of_mem_set
abbrev RK:=@List.ext_getElem
abbrev RJ:=@Array.size_setIfInBounds
abbrev RF:=@List.getElem?_drop
abbrev Rr:=@Go.run_underlying
abbrev Rq:=@Array.getElem?_push
abbrev Rg:=@List.getElem?_cons_zero
abbrev Re:=@List.findIdx?_eq_none_iff
abbrev Qy:=@List.getElem_range
abbrev P5:=@Nat.lt_succ_self
abbrev PZ:=@Int.ofNat.inj
abbrev OH:=@List.mem_iff_getElem?
abbrev OG:=@List.mem_append_left
abbrev OC:=@List.map_take
abbrev Oz:=@Nat.le_max_left
abbrev Ow:=@List.nodup_append
abbrev Oe:=@List.drop_drop
abbrev N1:=@List.flatMap_nil
abbrev NW:=@List.drop_of_length_le
abbrev NI:=@Nat.lt_of_le_of_lt
abbrev Nu:=@List.any_cons
abbrev No:=@Nat.le_succ_of_le
abbrev M9:=@Nat.lt_of_succ_lt
abbrev MU:=@List.drop_eq_nil_of_le
abbrev MQ:=@Nat.le_mul_of_pos_right
abbrev MK:=@List.flatMap_singleton
abbrev Ms:=@Nat.ne_of_gt
abbrev L5:=@Nat.mul_comm
abbrev Lc:=@List.filter_nil
abbrev K8:=@Option.getD_some
abbrev K7:=@Bool.false_or
abbrev K1:=@List.ext_getElem?
abbrev KS:=@List.length_singleton
abbrev KN:=@List.append_toArray
abbrev KM:=@List.push_toArray
abbrev KL:=@Array.replicate_zero
abbrev KK:=@Array.replicate_succ
abbrev KJ:=@List.size_toArray
abbrev Kq:=@List.range_succ
abbrev Kn:=@List.mem_flatMap
abbrev J8:=@List.filter_map
abbrev JZ:=@List.all_eq_false
abbrev JV:=@World.cell?_of_block
abbrev JU:=@List.getElem?_append_right
abbrev JS:=@List.any_eq_false
abbrev JP:=@Bool.or_eq_false_iff
abbrev Jo:=@List.filter_eq_nil_iff
abbrev IY:=@List.length_range
abbrev IW:=@Bool.true_and
abbrev ID:=@List.map_nil
abbrev Ip:=@List.filter_cons_of_pos
abbrev Ie:=@Option.bind_some
abbrev HY:=@List.map_eq_nil_iff
abbrev HN:=@Nat.mod_eq_of_lt
abbrev HL:=@List.filter_cons
abbrev HI:=@List.mem_of_mem_drop
abbrev Hr:=@Nat.add_mul
abbrev Hq:=@List.getElem?_cons_succ
abbrev Hp:=@List.getElem?_append_left
abbrev Gz:=@Bool.false_and
abbrev Gp:=@IntWalk.u64_in
abbrev Gi:=@List.getElem?_set
abbrev Gf:=@List.nodup_cons
abbrev Ge:=@Bool.not_eq_true
abbrev FX:=@Int.natCast_add
abbrev FW:=@List.cons_append
abbrev aDb:=@Go.wp_at_succ
abbrev aDc:=@Go.wp_at_zero
abbrev FN:=@List.map_map
abbrev FM:=@Array.getElem?_eq_some_iff
abbrev FL:=@Option.map_some
abbrev FK:=@Bool.not_eq_true'
abbrev FJ:=@and_true
abbrev FI:=@decide_eq_decide
abbrev FH:=@Bool.and_false
abbrev Et:=@List.getElem_map
abbrev Eo:=@List.filter_cons_of_neg
abbrev DS:=@List.take_zero
abbrev DH:=@List.filter_congr
abbrev DE:=@List.filter_eq_self
abbrev Dz:=@List.length_set
abbrev Dx:=@List.length_drop
abbrev Dv:=@List.drop_eq_getElem_cons
abbrev Dk:=@Lib.toList_data
abbrev CV:=@List.foldl_append
abbrev Cx:=@List.prefix_refl
abbrev Be:=@List.mem_of_getElem?
abbrev AO:=@List.mem_of_mem_take
abbrev Az:=@List.any_eq_true
abbrev zC:=@List.filter_append
abbrev zz:=@Nat.lt_or_ge
abbrev zy:=@decide_eq_false_iff_not
abbrev y8:=@List.getElem?_eq_none
abbrev yO:=@Nat.eq_zero_or_pos
abbrev xX:=@List.nodup_nil
abbrev xO:=@List.getD_eq_getElem?_getD
abbrev xq:=@List.length_filter_le
abbrev xm:=@List.any_map
abbrev xk:=@List.flatMap_append
abbrev xj:=@List.eq_nil_of_length_eq_zero
abbrev xh:=@Bool.or_eq_true
abbrev wL:=@Option.some.inj
abbrev vv:=@List.getElem?_eq_some_iff
abbrev vt:=@Bool.eq_iff_iff
abbrev uY:=@Nat.add_zero
abbrev uL:=@List.all_eq_true
abbrev tJ:=@or_false
abbrev tj:=@List.map_cons
abbrev s0:=@World.cell?_setCell_other
abbrev sW:=@List.not_mem_nil
abbrev sv:=@Nat.ne_of_lt
abbrev qI:=@List.mem_range
abbrev o9:=@List.length_take
abbrev oN:=@Nat.le_succ
abbrev om:=@Nat.zero_add
abbrev nW:=@List.length_nil
abbrev nQ:=@Int.toNat_natCast
abbrev nK:=@List.mem_cons
abbrev nJ:=@Exit.noGoto_ret
abbrev nI:=@List.flatMap_cons
abbrev nu:=@List.getElem?_map
abbrev mS:=@decide_eq_true
abbrev mM:=@List.foldl_cons
abbrev mJ:=@List.mem_map_of_mem
abbrev mI:=@List.mem_filter
abbrev mH:=@List.append_nil
abbrev mv:=@List.length_cons
abbrev lr:=@Nat.le_of_lt
abbrev lq:=@List.nil_append
abbrev lo:=@decide_eq_false
abbrev kN:=@List.mem_map
abbrev kA:=@List.mem_cons_of_mem
abbrev kh:=@List.mem_cons_self
abbrev ke:=@Bool.and_eq_true
abbrev jT:=@Nat.mul_one
abbrev jQ:=@decide_eq_true_eq
abbrev iX:=@List.take_succ_eq_append_getElem
abbrev iR:=@List.mem_append
abbrev iI:=@List.append_assoc
abbrev iH:=@List.mem_singleton
abbrev ir:=@List.take_of_length_le
abbrev hX:=@Nat.zero_le
abbrev gS:=@List.map_append
abbrev gw:=@Nat.lt_of_lt_of_le
abbrev fz:=@List.getElem?_eq_getElem
abbrev eP:=@congrArg
abbrev eh:=@Nat.le_trans
abbrev c7:=@List.getElem_mem
abbrev cH:=@List.length_append
abbrev cr:=@List.length_map
abbrev bA:=@Nat.le_refl
abbrev bm:=@if_pos
abbrev bj:=@if_neg
def bV {p:Prop} (h:p:=by kernel_rfl):p:=h
def J {p:Prop} (h:p:=by omega):p:=h
def af {p:Prop} (h:p:=by decide):p:=h
def IG {p:Prop} (h:p:=by go_simp;(first|done|with_reducible rfl)):p:=h
def eY {p q:Prop} (k:q) (h:q->p:=by intro k;(try dsimp only)<;>(try simp only[Act.put,List.setIfInBounds_toArray,List.set_cons_zero,List.set_cons_succ]);exact k):p:=h k
instance:Coe Int Value:=⟨λx=>.int .i64 x⟩
instance:Coe Nat Value:=⟨λp=>.pointer (some ⟨p,0,none⟩)⟩
instance:Coe Bool Value:=⟨λp=>.bool p⟩
instance:Coe ByteArray Value:=⟨λp=>.string p⟩
structure ml where
def ad (_:Int):ml:=⟨⟩
def bh (_:Int):ml:=⟨⟩
def aq (_:Option Addr) (_ _:Nat):ml:=⟨⟩
def aH:ml:=⟨⟩
def ar:ml:=⟨⟩
def au:ml:=⟨⟩
instance (x:Int):CoeDep ml (ad x) Value:=⟨.int .u64 x⟩
instance (x:Int):CoeDep ml (bh x) Value:=⟨.int .i64 x⟩
instance (a:Option Addr) (n c:Nat):CoeDep ml (aq a n c) Value:=⟨.slice a n c⟩
instance:CoeDep ml aH Value:=⟨.slice none 0 0⟩
instance:CoeDep ml ar Value:=⟨.int .i64 0⟩
instance:CoeDep ml au Value:=⟨.int .u64 0⟩
def lB:ml:=⟨⟩
instance:CoeDep ml lB Obj:=⟨.cells #[.int .u64 0,.slice none 0 0,.slice none 0 0,.slice none 0 0] 44⟩
def qo:ml:=⟨⟩
instance:CoeDep ml qo Obj:=⟨.cells #[.int .i64 0,.int .i64 0,.int .u64 0,.int .u64 0,.int .i64 0,.int .u64 0,.slice none 0 0,.slice none 0 0] 66⟩
def kR:ml:=⟨⟩
instance:CoeDep ml kR Obj:=⟨.cells #[.int .i64 0,.int .u64 0,.int .u64 0] 54⟩
def Jg:ml:=⟨⟩
instance:CoeDep ml Jg Obj:=⟨.cells #[.int .i64 0,.int .u64 0,.slice none 0 0,.slice none 0 0,.slice none 0 0,.slice none 0 0,.slice none 0 0,.slice none 0 0] 232⟩
def am0:ml:=⟨⟩
instance:CoeDep ml am0 Obj:=⟨.cells #[.int .i64 0,.int .u64 0,.int .i64 0,.int .i64 0,.int .u64 0,.int .u64 0,.int .i64 0,.int .u64 0,Value.slice none 0 0,Value.slice none 0 0,.int .i64 0,.int .u64 0,.int .u64 0] 169⟩
def aBV:ml:=⟨⟩
instance:CoeDep ml aBV Obj:=⟨.cells #[.string ⟨#[112]⟩,.int .i64 1,.int .i64 5,.string ⟨#[]⟩] 77⟩
def aBW:ml:=⟨⟩
instance:CoeDep ml aBW Obj:=⟨.cells #[.int .i64 1,.int .u64 0,.slice none 0 0,.slice none 0 0,.slice none 0 0,.slice none 0 0,.slice none 0 0,.slice none 0 0] 232⟩
def aBX:ml:=⟨⟩
instance:CoeDep ml aBX Obj:=⟨.cells #[.int .i64 2,.int .u64 0,.slice none 0 0,.slice none 0 0,.slice none 0 0,.slice none 0 0,.slice none 0 0,.slice none 0 0] 232⟩
def Wh:ml:=⟨⟩
instance:CoeDep ml Wh Obj:=⟨.cells #[.int .i64 0,.int .i64 0,.string ⟨#[]⟩] 74⟩
def aBY:ml:=⟨⟩
instance:CoeDep ml aBY Obj:=⟨.cells #[.int .i64 (-1),.int .i64 0] 3⟩
def AR:ml:=⟨⟩
instance:CoeDep ml AR Obj:=⟨.cells #[.slice none 0 0] 42⟩
def am1 (p:Prop):Prop:=(λ_=>p) (@AllReadyH)
def am1.out {p:Prop} (h:am1 p):p:=h
def aDd {p:Prop} (h:p:=by simp):p:=h
abbrev aR:=Calls prog
instance (b o:Nat):CoeDep (Nat×Nat) (b,o) Addr:=⟨⟨b,o,none⟩⟩
instance (w:World) (o:Nat):CoeDep (World×Nat) (w,o) Addr:=⟨⟨w.heap.size,o,none⟩⟩
instance:Coe World Nat:=⟨λw=>w.heap.size⟩
def aDe {a0 cL cE q:Prop} (k:Hid a0->Hid cL->Hid cE->q):a0->cL->cE->q:=k
def aDf {a0 cL cE a3 q:Prop} (k:Hid a0->Hid cL->Hid cE->Hid a3->q):a0->cL->cE->a3->q:=k
def aDg {a0 cL cE a3 a4 q:Prop} (k:Hid a0->Hid cL->Hid cE->Hid a3->Hid a4->q):a0->cL->cE->a3->a4->q:=k
def aDh {a0 cL cE a3 a4 a5 q:Prop} (k:Hid a0->Hid cL->Hid cE->Hid a3->Hid a4->Hid a5->q):a0->cL->cE->a3->a4->a5->q:=k
def MC {a0 cL cE a3 a4 a5 rG q:Prop} (k:Hid a0->Hid cL->Hid cE->Hid a3->Hid a4->Hid a5->Hid rG->q):a0->cL->cE->a3->a4->a5->rG->q:=k
def aDi {a0 cL cE a3 a4 a5 rG nA q:Prop} (k:Hid a0->Hid cL->Hid cE->Hid a3->Hid a4->Hid a5->Hid rG->Hid nA->q):a0->cL->cE->a3->a4->a5->rG->nA->q:=k
def qc {p:Prop} (h:p:=by first|assumption|(unfold gv;omega)):p:=h
def hT {p:Prop} (h:p:=by(repeat (first|(refine fi ?_;(simp;done))|refine ab0 (by first|(simp;done)|(simp;omega)) ?_))):p:=h
instance (w:World) (k o:Nat):CoeDep (World×Nat×Nat) (w,k,o) Addr:=⟨⟨w.heap.size+k,o,none⟩⟩
instance:Coe World Value:=⟨λw=>.pointer (some ⟨w.heap.size,0,none⟩)⟩
instance (w:World) (k:Nat):CoeDep (World×Nat) (w,k) Value:=⟨.pointer (some ⟨w.heap.size+k,0,none⟩)⟩
structure bD (q:Prop):Prop where
 o:q
variable {p q:Prop}
def Nl(k:q) (h:bD q->p:=by
 intro aP;by_cases hk:k<dz.length
 ·clear aP;obtain⟨b,o,rfl,ao⟩:=kg.out.aF.get k hk;have ch:Z w wr:=Z.trans (((Z.trans (((Z.refl w).alloc _).alloc _) bx.out)).setCell (bA _) _) U.out;have d0:=HA (w:=wr) (b:=b) (o:=o+k*1) (x:=dz[k]) (λj v aJ=>ch.ah (ao j v aJ));rw[jT]at d0;have bN:=I ((kg.out.dH dz[k] (c7 hk)).ext ch);have aoP:dz[k].v.n<=100:=by rw[bN.out.neq];exact dA.out _ (c7 hk)
  have hi:m<=100:=by
   have ae:=eP List.length aE.out.2.1;rw[cr,cr,o9]at ae;have ak:=aE.out.1.neq;omega
  have M5:(w1:Nat)<=(wr:Nat):=by have:=U.out.size;simpa[World.setCell]using this
  clear ao ch;have b0:(0:Int)<=(k:Int):=J;have bd:(k:Int)<(dz.length:Int):=J;clear cT c1 c2 da dJ dw eC eK gh dr eF fN hx kx nO tM uM yJ;go_wp2_with (first|(at_builtin;refine adp (ys:=dz[k].dH) rfl (.const aH) (.tmp 18) 34 77 rfl eI _ 48 underlying34 mZ.out na.out nb.out nc.out rfl af rfl w1 rfl bN.out cd.cN J af M5 ?_;intro ac MH aN Q7 cj aBZ;have b7:=I Q7;have bz:=I cj;clear Q7 cj aBZ)|(at_builtin;refine hf (ys:=ys) rfl (.tmp 17) (.tmp 20) 64 rfl dc _ 24 underlying64 eo.out dB.out ej.out fe.out rfl af rfl (aE.out.1.ext (bz.out.alloc _)) ⟨⟨ac,dz[k].v.n,MH⟩,dz[k].dH⟩ _ rfl (fc (cs:=eJ.cs ⟨⟨ac,dz[k].v.n,MH⟩,dz[k].dH⟩) rfl) (eJ.cN _) J af (eh M5 (bz.out.alloc _).size) ?_;intro g aDj aY fY bW;have cz:=I fY;have cv:=I bW;clear fY bW));go_roundg (gk - 1);case measure=>omega
  case rel=>
   have q4:=aE.out.1.ext (bz.out.alloc (.cells #[aq ac dz[k].v.n MH] 34));refine⟨k+1,_,_,_,ys++[⟨⟨ac,dz[k].v.n,MH⟩,dz[k].dH⟩],J,by go_num,rfl,⟨cz.out,?_,λy hy=>?_⟩,cv.out.ext q4 (by simp[World.setCell]) (Z.trans U.out (bz.out.alloc _))⟩;exact acX
   ·rcases iR.1 hy with hy|hy
    ·have qG:=(aE.out.2.2 y hy).ext (bz.out.alloc (.cells #[aq ac dz[k].v.n MH] 34));exact cv.out.bI qG (q4.gQ qG af)
    ·obtain rfl:=iH.1 hy;have qG:=b7.out.ext ((Z.refl aN).alloc (.cells #[aq ac dz[k].v.n MH] 34));exact cv.out.bI qG (q4.gQ qG af)
 revert hk
 exact aP.1):p:=h ⟨k⟩
def Nn(k:q) (h:bD q->p:=by
 intro aP;have gn:wr.cell? (w,0)=some ↑hL:=U.out.ah ((s0 _ _ _ _ (by simp)).trans cT);have q1:wr.cell? (w,1)=some ↑mK.b:=U.out.ah ((s0 _ _ _ _ (by simp)).trans c1);have dP:wr.cell? (w,2)=some ↑(ad mK.l):=U.out.ah ((s0 _ _ _ _ (by simp)).trans c2);have fp:wr.cell? (w,3)=some ↑(ad mK.s):=U.out.ah ((s0 _ _ _ _ (by simp)).trans da);have iw:wr.cell? (w,4)=some ↑hM:=U.out.ah ((s0 _ _ _ _ (by simp)).trans dJ);have ov:wr.cell? (w,5)=some ↑(ad mL):=U.out.ah ((s0 _ _ _ _ (by simp)).trans dw);have xu:wr.cell? (w,6)=some ↑(aq aw fn dL):=U.out.ah (RS _ _ _ eC);have DJ:wr.cell? (w,7)=some ↑(aq dK dz.length dM):=U.out.ah ((s0 _ _ _ _ (by simp)).trans eK);have lN:wr.cell? (w,1,0)=some ↑ar:=U.out.ah ((s0 _ _ _ _ (by simp)).trans gh);have e3:wr.cell? (w,1,1)=some ↑ar:=U.out.ah ((s0 _ _ _ _ (by simp)).trans dr);have ju:wr.cell? (w,1,2)=some ↑au:=U.out.ah ((s0 _ _ _ _ (by simp)).trans eF);have oP:wr.cell? (w,1,3)=some ↑au:=U.out.ah ((s0 _ _ _ _ (by simp)).trans fN);have uR:wr.cell? (w,1,4)=some ↑ar:=U.out.ah ((s0 _ _ _ _ (by simp)).trans hx);have s4:wr.cell? (w,1,5)=some ↑au:=U.out.ah ((s0 _ _ _ _ (by simp)).trans kx);have uS:wr.cell? (w,1,6)=some ↑aH:=U.out.ah ((s0 _ _ _ _ (by simp)).trans nO);have tP:wr.cell? (w,1,7)=some ↑aH:=U.out.ah ((s0 _ _ _ _ (by simp)).trans tM);have Kf:∀j,wr.frozen? ⟨(w:Nat),j,none⟩=false:=λj=>(U.out.frozen _ _ (by simpa[World.setCell]using s3)).trans (by simp[uM]);have Kg:∀j,wr.frozen? ⟨(w:Nat)+1,j,none⟩=false:=λj=>(U.out.frozen _ _ (by simpa[World.setCell]using AL)).trans (by simp[yJ]);skip;have jI:Z w wr:=Z.trans (((Z.trans (((Z.refl w).alloc _).alloc _) bx.out)).setCell (bA _) _) U.out;have DK:=(dn.out.jD (p:=(w,6)) (Nat.lt_succ_of_lt (P5 _)) (aq aw fn dL)).ext U.out;replace DK:=I DK;replace jI:=I jI;revert gn q1 dP fp iw ov xu DJ lN e3 ju oP uR s4 uS tP Kf Kg DK jI
 exact aP.1):p:=h ⟨k⟩
def Nk(k:q) (h:bD q->p:=by
 intro aP;go_wp2_with (at_builtin;go_must (refine adp (ys:=d.ts) rfl _ _ 36 154 rfl ca _ 56 underlying36 bJ.out bF.out bG.out bK.out rfl af rfl (w.heap.size+1+1) rfl (dp.out.ext (((Z.refl w).alloc _).alloc _)) T.cN J af (by simp) ?_);intro aw dL w1 jt bw aB0;go_must (have cT:w1.cell? (w,0)=some ↑hL:=bw.ah (by simp);have c1:w1.cell? (w,1)=some ↑mK.b:=bw.ah (by simp);have c2:w1.cell? (w,2)=some ↑(ad mK.l):=bw.ah (by simp);have da:w1.cell? (w,3)=some ↑(ad mK.s):=bw.ah (by simp);have dJ:w1.cell? (w,4)=some ↑hM:=bw.ah (by simp);have dw:w1.cell? (w,5)=some ↑(ad mL):=bw.ah (by simp);have eC:w1.cell? (w,6)=some ↑(aq fA fn fB):=bw.ah (by simp);have eK:w1.cell? (w,7)=some ↑(aq dK dz.length dM):=bw.ah (by simp);have gh:w1.cell? (w,1,0)=some ↑ar:=bw.ah (by simp);have dr:w1.cell? (w,1,1)=some ↑ar:=bw.ah (by simp);have eF:w1.cell? (w,1,2)=some ↑au:=bw.ah (by simp);have fN:w1.cell? (w,1,3)=some ↑au:=bw.ah (by simp);have hx:w1.cell? (w,1,4)=some ↑ar:=bw.ah (by simp);have kx:w1.cell? (w,1,5)=some ↑au:=bw.ah (by simp);have nO:w1.cell? (w,1,6)=some ↑aH:=bw.ah (by simp);have tM:w1.cell? (w,1,7)=some ↑aH:=bw.ah (by simp);have uM:∀j,w1.frozen? ⟨(w:Nat),j,none⟩=false:=λj=>(bw.frozen _ _ (by simp;omega)).trans (by simp);have yJ:∀j,w1.frozen? ⟨(w:Nat)+1,j,none⟩=false:=λj=>(bw.frozen _ _ (by simp)).trans (by simp);have dn:=I jt;have bx:=I bw;have AL:(w:Nat)+1<(w1:Nat):=(by have:=bw.size;simp at this;omega);have s3:(w:Nat)<(w1:Nat):=J;clear jt bw aB0))
 go_loopg [3,13] (dz.length) (λg e1 st wr=>∃(k:Nat) (ab:Option Addr) (m aQ:Nat) (ys:List eJ),g+k=dz.length/\st=.int .i64 k/\e1=.slice ab m aQ/\
  Hid (Own wr w1 34 1 eJ.cs ab m aQ ys/\ys.map (·.dH)=(dz.take k).map (·.dH)/\∀y,y∈ys->Own wr w1 77 4 cd.cs y.v.a y.v.n y.v.c y.dH)/\Hid (Z (w1.setCell (w,6) (aq aw fn dL)) wr))
 case atStart=>clear aP;exact acW
 rename_i kd mF q3 r8 JM JN;revert aw dL w1 cT c1 c2 da dJ dw eC eK gh dr eF fN hx kx nO tM uM yJ dn bx AL s3 kd mF gk wr u3 u5 u13 u14 u15 u16 u17 u18 u19 u20 u21 u22 hrel q3 r8 JM JN
 exact aP.1):p:=h ⟨k⟩
def Dh(k:q) (h:bD q->p:=by
 intro aP;have g3:=Fw de x.z x.i.b (ad x.i.l) (ad x.i.s) x.st x.b x.dk x.vq x.up;have iK:=Fx (w:=aN) (R:=(wr:Nat)+1) x.z x.i.b (ad x.i.l) (ad x.i.s) x.st x.b x.dk x.vq x.up;obtain⟨aY,vd⟩:∃aY,(((((((((aN.setCell (wr,1,0) x.z).setCell (wr,1,1) x.i.b).setCell (wr,1,2) (ad x.i.l)).setCell (wr,1,3) (ad x.i.s)).setCell (wr,1,4) x.st).setCell (wr,1,5) x.b).setCell (wr,1,6) x.dk).setCell (wr,1,7) x.vq).setCell (wr,1,8) x.up)=aY:=⟨_,rfl⟩;rw[vd]at g3 iK;rw[vd];clear vd;obtain⟨cF,cP,cQ,dd,ds,dm,dt,du,jy⟩:=vy g3;have eX:Z aY (aY.alloc x):=(Z.refl aY).alloc _;replace eX:=I eX;have pS:=I (cR.aBd bx J lM iK eX);replace iK:=I iK;clear g3;revert aY cF cP cQ dd ds dm dt du jy eX pS iK
 exact aP.1):p:=h ⟨k⟩
def OU(k:q) (h:bD q->p:=by
 intro aP;skip;have b8:=I hk;have lg:(w1.alloc (Obj.map #[⟨.int .i64 1,.func (.func 135) #[] #[.pointer (some (w,1,0)),w],0⟩,⟨.int .i64 2,.func (.func 136) #[] #[.pointer (some (w,1,0)),w],1⟩,⟨.int .i64 3,.func (.func 140) #[] #[.pointer (some (w,1,0)),w],2⟩,⟨.int .i64 4,.func (.func 142) #[] #[w,.pointer (some (w,1,0))],3⟩,⟨.int .i64 5,.func (.func 143) #[] #[w,.pointer (some (w,1,0))],4⟩] 5)).heap[(w1:Nat)]?=some (Obj.map #[⟨.int .i64 1,.func (.func 135) #[] #[.pointer (some (w,1,0)),w],0⟩,⟨.int .i64 2,.func (.func 136) #[] #[.pointer (some (w,1,0)),w],1⟩,⟨.int .i64 3,.func (.func 140) #[] #[.pointer (some (w,1,0)),w],2⟩,⟨.int .i64 4,.func (.func 142) #[] #[w,.pointer (some (w,1,0))],3⟩,⟨.int .i64 5,.func (.func 143) #[] #[w,.pointer (some (w,1,0))],4⟩] 5):=fi rfl;have dr:=((Z.refl w1).alloc (Obj.map #[⟨.int .i64 1,.func (.func 135) #[] #[.pointer (some (w,1,0)),w],0⟩,⟨.int .i64 2,.func (.func 136) #[] #[.pointer (some (w,1,0)),w],1⟩,⟨.int .i64 3,.func (.func 140) #[] #[.pointer (some (w,1,0)),w],2⟩,⟨.int .i64 4,.func (.func 142) #[] #[w,.pointer (some (w,1,0))],3⟩,⟨.int .i64 5,.func (.func 143) #[] #[w,.pointer (some (w,1,0))],4⟩] 5)).ah gh;revert b8 lg dr
 exact aP.1):p:=h ⟨k⟩
def Hi(k:q) (h:bD q->p:=by
 intro aP;have cS:Z w ((w.alloc o).alloc (.cells #[ar,ar,au,au,ar,aH,ar,ar,.bool false] 83)):=X;have iB:((w.alloc o).alloc (.cells #[ar,ar,au,au,ar,aH,ar,ar,.bool false] 83)).heap.size=(w:Nat)+2:=by simp
 have fX:((w.alloc o).alloc (.cells #[ar,ar,au,au,ar,aH,ar,ar,.bool false] 83)).heap[(w:Nat)]?=some (o:Obj):=hT;have cm:((w.alloc o).alloc (.cells #[ar,ar,au,au,ar,aH,ar,ar,.bool false] 83)).heap[(w:Nat)+1]?=some (.cells #[ar,ar,au,au,ar,aH,ar,ar,.bool false] 83):=hT;have mU:=h.cell (R:=(w:Nat)+1) cS J J;have kr:=h.Fs (R:=(w:Nat)) J;have fu:=h.Fs (R:=(w:Nat)+1) J;revert cS iB fX cm mU kr fu
 exact aP.1):p:=h ⟨k⟩
def js(k:q) (h:bD q->p:=by
 intro aP;refine aL _ _ (by(try dsimp only);exact⟨Z.ah (W:=cW) X Pn,Z.aB (W:=cW) X IS⟩) λa7=>eY ?_;revert a7
 exact aP.1):p:=h ⟨k⟩
def Zt(h:p:=by
 obtain⟨u0,u1,u2,u3,u4,u5,u6,u7,Aw⟩:=kl br;have Wi:=AZ (S:=λx=>x=B) (aG.refl _ df) (R:=B) (.inl rfl) x.k x.id.b (ad x.id.l) (ad x.id.s) x.c (ad x.u) x.f x.e;have Ra:=(Bo.ext iG).jD Wi br af af af;have abK:=O4 br x.k x.id.b (ad x.id.l) (ad x.id.s) x.c (ad x.u) x.f x.e;have su:=dO.ahD br Wi;have JO:=(Wi.block _ (bT (iG.aB O8)) J).trans (iG.aB O8);have F2:=AZ (pj.trans (.of iG)) (R:=B) (.inr J) x.k x.id.b (ad x.id.l) (ad x.id.s) x.c (ad x.u) x.f x.e;refine hE 14 λK aL=>?_;go_simp;refine aL _ _ (by(try dsimp only);exact Ra.box) λa7=>eY ?_;refine cX 15 ?_;refine wpAnyH_done bV ?_ _;generalize World.setCell _ (B,7) _=eb at Ra abK su JO F2 ⊢;replace Ra:=I Ra;replace su:=I su;replace F2:=I F2;clear u0 u1 u2 u3 u4 u5 u6 u7 Aw Wi br iG dO a7 fM;obtain⟨u0,u1,u2,u3,u4,u5,u6,u7⟩:=lI abK;obtain⟨z0,cU,z2,z3,z4,z5,ga,fk,mx⟩:=kl JO;replace JO:=I JO;clear abK;go_wp2_with fail;have Bt:=AZ (S:=λx=>x=(w:Nat)) (aG.refl _ eb) (R:=(w:Nat)) (.inl rfl) x.k x.id.b (ad x.id.l) (ad x.id.s) x.c (ad x.u) x.f x.e;have f8:=O4 JO x.k x.id.b (ad x.id.l) (ad x.id.s) x.c (ad x.u) x.f x.e;have am2:=Ra.jD Bt JO af af af;have am3:=su.ahD JO Bt;have am4:=AZ F2 (R:=(w:Nat)) (.inr (bA _)) x.k x.id.b (ad x.id.l) (ad x.id.s) x.c (ad x.u) x.f x.e;generalize World.setCell _ (w,7) _=cG at f8 am2 am3 am4 ⊢;clear u0 u1 u2 u3 u4 u5 u6 u7 z0 cU z2 z3 z4 z5 ga fk mx Bt;obtain⟨z0,cU,z2,z3,z4,z5,ga,fk⟩:=lI f8
 refine bodyPost_ret (v:=.agg #[x.k,x.id.b,ad x.id.l,ad x.id.s,x.c,ad x.u,x.f,x.e]) (by simp[results,results235,go_sem,z0,cU,z2,z3,z4,z5,ga,fk]) rfl ⟨x,rfl,am3,am2,am4⟩):p:=h
def acF(h:p:=by
 obtain⟨ca,bJ,bF,bG,bK⟩:=info_parts RI;obtain rfl:=av.neq;have hm:=av.max;unfold maxLen at hm;change Hid _ at av cy bJ bF bG bK;go_enter func165,ntmps165;go_wp2_with fail;go_loopg [5,10] (xs.length) (λg e1 st wr=>∃(k:Nat) (aw:Option Addr) (m aQ:Nat),g+k=xs.length/\st=.int .i64 k/\e1=.slice aw m aQ/\m<=k/\Hid (Own wr w 256 3 ck.cs aw m aQ ((xs.take k).filter p))/\Hid (Z w wr));case atStart=>exact⟨0,none,0,0,J,rfl,rfl,J,Own.nil _ _ _ ck.bH,Z.refl _⟩
 case round=>
  obtain⟨k,aw,m,aQ,bu,rfl,rfl,hi,aE,U⟩:=hrel;have lK:=aE.aF.max;unfold maxLen at lK;by_cases hk:k<xs.length
  ·obtain⟨b,o,rfl,ao⟩:=av.get k hk;obtain⟨cT,c1,c2⟩:=RH (w:=wr) (b:=b) (o:=o+k*3) (x:=xs[k]) (λj v aJ=>U.ah (ao j v aJ));clear ao;refine kt ?_;intro b0 bd;cases he:p xs[k]with
   |true=>
    change Hid _ at he;go_wp2_with fail;refine(cy xs[k] (c7 hk) _ (U.alloc _)).mono ?_;rintro e w1⟨rfl,hy⟩;have d0:w1.cell? (wr,0)=some ↑xs[k].c:=hy.ah (by simp);have jX:w1.cell? (wr,1)=some ↑(ad xs[k].u):=hy.ah (by simp);have ij:w1.cell? (wr,2)=some ↑xs[k].f:=hy.ah (by simp);change Hid _ at hy;rw[he.out];go_wp2_with (at_builtin;refine hf (ys:=(xs.take k).filter p) rfl (.tmp 17) (.tmp 19) 199 rfl ca _ 40 underlying199 bJ bF bG bK rfl af rfl (aE.ext X) xs[k] _ rfl (fc (cs:=ck.cs xs[k]) rfl) (ck.cN _) J af (Z.size X) ?_;intro g dL aY fY bW;have cz:=I fY;have cv:=I bW;clear fY bW);exact acH
   |false=>
    change Hid _ at he;go_wp2_with fail;refine qA (cy xs[k] (c7 hk) _ (U.alloc _)) λw1 hy=>?_;exact acI
  ·refine se ?_;intro b9;rw[b9]at aE;clear b9;go_wp2;go_ret
   exact⟨aw,m,aQ,rfl,aE,X⟩):p:=h
def ajm(h:p:=by
 clear eO;go_wp2_with fail;refine(UU _ X).mono ?_;rintro e aY⟨⟨hL,rE,mW,l0,mr,sg,sh,si⟩,rfl,we,c9⟩;have L4:hL=1:=we.k.trans hi;subst L4;have Hn:(w:Nat)<=(wc:Nat):=Z.size X;have cz:=I (we.mono (aDn:=(w:Nat)) Hn);change Hid _ at hi;replace c9:=I c9;clear we Hn;have de:=fV.out;rw[bm (by rw[hi.out];simp)]at de;obtain⟨aDk,pW⟩:=cz.pE;replace pW:=I pW;obtain⟨n0,lN,f0,e5,zi,Wj,abL,aB1,GV⟩:=(H.ext (w':=aY.alloc (.cells #[bh 1,ad rE,mW,l0,mr,sg,sh,si] 232)) X).gx;have kC:=awL Wj;have aB2:=I (H.ext (w':=aY.alloc (.cells #[bh 1,ad rE,mW,l0,mr,sg,sh,si] 232)) X).box;have aB3:=I (show(aY.alloc (.cells #[bh 1,ad rE,mW,l0,mr,sg,sh,si] 232)).heap[(aY:Nat)]?=some (.cells #[bh 1,ad rE,mW,l0,mr,sg,sh,si] 232)from fi rfl);have En:n0<=1000:=J;have wZ:=I (show dq M (aY.alloc (.cells #[bh 1,ad rE,mW,l0,mr,sg,sh,si] 232)) (λw=>tu w ⟨1,rE,mW,l0,mr,sg,sh,si⟩ m)from(cz.cx ho).step (.of X) (b4.eG _ _));replace de:=I de;replace zi:=I zi;replace Wj:=I Wj;replace abL:=I abL;replace GV:=I GV;clear aB1 kC;go_wp2_with fail;refine Bh 6 (λw'=>Z (aY.alloc (.cells #[bh 1,ad rE,mW,l0,mr,sg,sh,si] 232)) w') (λa7=>?_);refine gO 0 ?_;refine gO 1 ?_;refine gO 2 ?_;refine lQ 3 (·.aB aB2) ?_;refine gO 4 ?_;refine lQ 5 (·.aB aB3) ?_;refine kW 6 λK aL=>?_;refine Pl rfl (Pk _ _ _ rfl EP underlying157 rfl (zi.ext X) (by unfold maxLen;omega) rfl rfl (CU (uk J J)) pW ?_);intro bp CP EJ;refine aL _ _ (absurd rfl ·) λ_=>eY ?_;refine K6 bV ?_ _;have oU:aG (·=v.kY) (aY.alloc (.cells #[bh 1,ad rE,mW,l0,mr,sg,sh,si] 232)) bp:=(aG.of (show Z _ _ from X)).trans (UD EJ);have Wk:=H.ext (w':=aY.alloc (.cells #[bh 1,ad rE,mW,l0,mr,sg,sh,si] 232)) X;obtain⟨Bl,zh⟩:=Wk.ii oU (Aj.put Wj abL GV x8 CP rfl oU (Wk.sub _ Wk.bI.2.1) wZ);have aB4:=awN b8 (fr:=fr) dA;clear CP EJ oU Wk;go_wp2_with fail;refine(aiF Bl aB4 cn hm j3).mono ?_;rintro e cV⟨abM,F4,w5,rfl,yT,abN⟩;rw[de.out]at yT;go_wp2;go_ret
 exact⟨0,abM,F4,w5,rfl,yT,(zh.trans abN).cC X⟩):p:=h
def MV(h:p:=by
 refine kt ?_;intro b0 bd;cases he:p xs[k]with
 |true=>
  change Hid _ at he;go_wp2_with fail;refine J3 ?_;intro w1 hy;rw[he.out];go_wp2;go_ret;refine⟨jC (MJ (p:=p) hk eO he),?_⟩;exact X
 |false=>
  change Hid _ at he;go_wp2_with fail;refine J3 ?_;intro w1 hy
  exact Wu):p:=h
def Sg(h:p:=by
 rw[cH,<-b7.neq]at zJ;have vJ:gF<=100040:=J;replace ij:=dE.ah ij;change Hid _ at cz dE;clear zJ fp;go_wp2_with (refine Xo rfl (.tmp 25) 9 107 5 rfl underlying9 underlying107 underlying5 rfl J ?_;intro b3 aDl Cl oT XA;have aaP:=I Cl;have fv:=I oT;clear Cl oT XA);refine(HP _ _ _ _ _ _ _ _ _ (cz.aF.ext fv) aaP J J).mono ?_;rintro e bp⟨a5,jc,dw,rfl,hj,ix⟩;change Hid _ at hj ix;go_wp2;go_ret;refine⟨a5,jc,dw,rfl,?_,X⟩;have h:=hj.mono (aDn:=(w:Nat)) (Z.size X);unfold zI;rw[iI,iI]at h;rw[iI]
 exact h):p:=h
def kt(k:q) (h:bD q->p:=by
 intro aP;have b0:(0:Int)<=(k:Int):=J;have bd:(k:Int)<(xs.length:Int):=J;revert b0 bd
 exact aP.1):p:=h ⟨k⟩
def OV(h:p:=by
 rintro e aN⟨rfl,ef⟩;change Hid _ at ef;clear c4 dr;cases aa:(eT d r).isSome with
 |true=>
  exact am5
 |false=>
  exact am5):p:=h
def Z2(k:q) (h:bD q->p:=by
 intro aP;go_wp2_with fail;refine B3 bV bV ?_;repeat (first|go_big_quiet_step ((first|(go_at_call 17;exact Calls.nL (ou v.s (ag.map (·.x)) xs[k].x.id _ (bL.out.ext (GK.out.trans (fo.ct _)))) (eP Value.bool I1.out))|(go_at_call 92;exact Calls.nL (Ui (H.out.ext (GK.out.trans (fo.ct _))) j3.out xs[k].x.id aix) (eP Value.bool Py.out))))|quiet_step ((first|(go_at_call 17;exact Calls.nL (ou v.s (ag.map (·.x)) xs[k].x.id _ (bL.out.ext (GK.out.trans (fo.ct _)))) (eP Value.bool I1.out))|(go_at_call 92;exact Calls.nL (Ui (H.out.ext (GK.out.trans (fo.ct _))) j3.out xs[k].x.id aix) (eP Value.bool Py.out)))))
 refine Is ?_;intro cY gH;revert cY gH
 exact aP.1):p:=h ⟨k⟩
def Mt(h:p:=by
 refine cX 11 ?_;refine cX 12 ?_;refine wpAnyH_done bV ?_ _;go_wp2_with fail;go_ret2;obtain⟨iN,ib,nF,dr,eF,fN,hx,kx,nO⟩:=kZ.wb (b6:=b6) (p:=(fh).heap.size) bL.eq vn QA QC hj QD yj pj q9 zo QB (show Z (fh) _ from X) (bA _) (fi rfl)
 exact⟨_,iN,ib,nF,rfl,dr,eF,fN,hx,kx,nO⟩):p:=h
def QE(k:q) (h:bD q->p:=by
 intro aP;refine H6 (ys0:= []) (ys:=c.hs) (c:=dD) rfl (.const aH) (.tmp 64) 22 3 rfl ca _ 8 underlying22 bJ bF bG bK rfl af rfl (Own.nil (et) bp 3 dD.rM) (show Z bp _ from X).size rfl (Rd.ext X) dD.nt J af J ?_;intro hd kV fh im bW;simp only[om]at im ⊢;have tC:=I (bW.ext (Own.nil (et) (et).heap.size 3 dD.rM) (bA _) (Z.refl (et)));replace im:=I im;clear bW;revert hd kV fh tC im
 exact aP.1):p:=h ⟨k⟩
def ack(h:p:=by
 ·have ox:((xs.map (·.ts)).drop (k+1)).take dS=(xs.map (·.ts)).drop (k+1):=ir (by rw[Dx,cr];omega);rw[ox]at RC;clear ox;have Jq:xs[k].v.n<=10000:=ach.out _ (c7 hk);go_wp2_with (first|(go_at_call 329;refine(an0 _ _ _ xs[k].ts _ (ef.out.ext X) J).mono ?_;rintro e cY⟨vF,kB,kj,rfl,FQ,Dw⟩;change Hid _ at FQ Dw)|(at_builtin;refine hf (ys:=ys) rfl (.tmp 40) (.tmp 43) 350 rfl ca _ 24 underlying350 bJ.out bF.out bG.out bK.out rfl af rfl (aE.out.aF.ext X) ⟨⟨vF,kB,kj⟩,xs[k].ts⟩ _ rfl (fc (cs:=lJ.cs ⟨⟨vF,kB,kj⟩,xs[k].ts⟩) rfl) (lJ.cN _) J af (Z.size X) ?_;intro g dL aY fY bW;have cz:=I fY;have cv:=I bW;clear fY bW));go_roundg (G - 1);case measure=>omega
  case rel=>
   refine⟨k+1,_,_,_,ys++[⟨⟨vF,kB,kj⟩,xs[k].ts⟩],J,by go_num,rfl,J,⟨cz.out,λy hy=>?_⟩,?_,cv.out.ext (aE.out.aF.ext X) (bA _) X⟩
   ·rcases iR.1 hy with hy|hy
    ·exact cv.out.AB (aE.out.aF.ext X) ((aE.out.ts y hy).ext X) af
    ·obtain rfl:=iH.1 hy;exact cv.out.AB (aE.out.aF.ext X) ((FQ.out.mono (Z.size X)).ext X) af
   ·rw[gS];have:=an5 MR.out c5.out (by rw[MS.out,acf,eO.out,RC.out];rfl);rw[MS.out]at this
    exact this):p:=h
def Q0(k:q) (h:bD q->p:=by
 intro aP;have rK:=(hq).cC (show Z bs _ from X);obtain⟨mf,q0⟩:=jG.aaQ dZ fK gu hh j7 gq rK;refine amy ?_;intro hV dn c6;replace mf:=I mf;replace q0:=I q0;replace hV:=I hV;replace dn:=I dn;replace c6:=I c6;revert rK mf q0 hV dn c6
 exact aP.1):p:=h ⟨k⟩
def Dg(k:q) (h:bD q->p:=by
 intro aP;rintro e aN⟨x,M2,oi,rfl,tA,l8,lM⟩;have de:=(lM.dT.block _ (bT lS) aBi).trans lS;obtain⟨v0,v1,v2,v3,v4,v5,v6,gy,iC,pC⟩:=uX de;replace tA:=I tA;replace l8:=I l8;replace lM:=I lM;replace de:=I de;revert aN x M2 oi v0 v1 v2 v3 v4 v5 v6 gy iC pC tA l8 lM de
 exact aP.1):p:=h ⟨k⟩
def agG(k:q) (h:bD q->p:=by
 intro aP;obtain⟨ca,aO,gg,ft,pc⟩:=info_parts AM;change Hid _ at aO gg ft pc;have bQ:=((Z.refl w).alloc x.id).ah (aI (o:=0) ao rfl);have iQ:=((Z.refl w).alloc x.id).ah (aI (o:=0) h.box rfl);have sH:=((Z.refl w).alloc x.id).ah (aI (o:=1) h.box rfl);have alw:=((Z.refl w).alloc x.id).ah (aI (o:=2) h.box rfl);have w0:=((Z.refl w).alloc x.id).ah (aI (o:=3) h.box rfl);obtain⟨Iu,wQ,Iv⟩:=iE (fi (w:=w) (o:=(x.id:Obj)) (n:=(w:Nat)) rfl);obtain⟨-,-,-,bY,ew,fm⟩:=Rp ax;have Iw:=((Z.refl w).alloc x.id).ah (aI (o:=1) ax rfl);replace bQ:=fo.cell (w:=(w.alloc x.id)) (a:=(gr,0)) (v:=.pointer (some (q,0))) bQ;replace iQ:=fo.cell (w:=(w.alloc x.id)) (a:=(q,0)) (v:=.int .u64 s.cO) iQ;replace sH:=fo.cell (w:=(w.alloc x.id)) (a:=(q,1)) (v:=.slice s.l.a s.l.n s.l.c) sH;replace alw:=fo.cell (w:=(w.alloc x.id)) (a:=(q,2)) (v:=.slice s.p.a s.p.n s.p.c) alw;replace w0:=fo.cell (w:=(w.alloc x.id)) (a:=(q,3)) (v:=.slice s.b.a s.b.n s.b.c) w0;replace Iu:=fo.cell (w:=(w.alloc x.id)) (a:=(w,0)) (v:=.int .i64 x.id.b) Iu;replace wQ:=fo.cell (w:=(w.alloc x.id)) (a:=(w,1)) (v:=.int .u64 x.id.l) wQ;replace Iv:=fo.cell (w:=(w.alloc x.id)) (a:=(w,2)) (v:=.int .u64 x.id.s) Iv;replace Iw:=fo.cell (w:=(w.alloc x.id)) (a:=(fI,1)) (v:=.int .u64 (r.n:Int)) Iw;have bL:=I ((h.st.l.cg.aF.map (c:=b1.cs) (λp:bO=>p.x) (λ_=>rfl)).ext ((Z.refl w).alloc x.id));revert ca aO gg ft pc bY ew fm bQ iQ sH alw w0 Iu wQ Iv Iw bL
 exact aP.1):p:=h ⟨k⟩
def atF(k:q) (h:bD q->p:=by
 intro aP;obtain⟨cT,c1,c2,da,dJ,dw,eC,eK,iT⟩:=Gs (w:=wr) (b:=b) (o:=o+k*9) (p:=ts[k]) (λj v aJ=>mw.ah (ao j v aJ));have Ej:(k:Int)<(ts.length:Int):=J;have sx:(0:Int)<=(k:Int):=J;have ud:=I (show m=k from YR);skip;go_wp2_with fail;have z0:=fi (w:=wr) (o:=(.cells #[ts[k].x.k,ts[k].x.id.b,ad ts[k].x.id.l,ad ts[k].x.id.s,ts[k].x.c,ad ts[k].x.u,ts[k].x.f,ts[k].x.e,ts[k].a] 191)) (n:=(wr:Nat)) rfl;have bz:Z wr (wr.alloc (.cells #[ts[k].x.k,ts[k].x.id.b,ad ts[k].x.id.l,ad ts[k].x.id.s,ts[k].x.c,ad ts[k].x.u,ts[k].x.f,ts[k].x.e,ts[k].a] 191)):=X;have lj:(wr.alloc (.cells #[ts[k].x.k,ts[k].x.id.b,ad ts[k].x.id.l,ad ts[k].x.id.s,ts[k].x.c,ad ts[k].x.u,ts[k].x.f,ts[k].x.e,ts[k].a] 191)).heap.size=(wr:Nat)+1:=by simp
 obtain⟨z,eM⟩:∃z,z=(wr:Nat):=⟨_,rfl⟩;generalize pq:(wr.alloc (.cells #[ts[k].x.k,ts[k].x.id.b,ad ts[k].x.id.l,ad ts[k].x.id.s,ts[k].x.c,ad ts[k].x.u,ts[k].x.f,ts[k].x.e,ts[k].a] 191))=aN at z0 bz lj ⊢;rw[<-eM]at z0 lj ⊢;change Hid _ at eM lj bz;clear pq;refine sI (λw'=>w'.heap[z]?=some (.cells #[ts[k].x.k,ts[k].x.id.b,ad ts[k].x.id.l,ad ts[k].x.id.s,ts[k].x.c,ad ts[k].x.u,ts[k].x.f,ts[k].x.e,ts[k].a] 191)) (λa7=>?_) Zc;refine cX 0 ?_;refine cX 1 ?_;refine cX 4 ?_;refine lA 2 id ?_;refine lA 5 id ?_;refine hE 3 λK aL=>?_;go_simp;rename_i kd mF;revert cT c1 c2 da dJ dw eC eK iT Ej sx ud kd mF z aN z0 eM lj bz a7 K aL
 exact aP.1):p:=h ⟨k⟩
def B7(h:p:=by
 first|(simp[hk];done)|exact RS _ _ _ (by simp)|(refine(s0 _ _ _ _ ?_).trans ?_<;>simp[hk])):p:=h
def VO(k:q) (h:bD q->p:=by
 intro aP;obtain⟨cV,yu⟩:∃cV,(((w1.setCell (w,0) ar).setCell (w,1) au).setCell (w,2) au)=cV:=⟨_,rfl⟩;have f0:=LZ aa ar au au;have oe:=zK (S:=λx=>x=(w:Nat)) (aG.refl _ w1) (R:=(w:Nat)) (.inl rfl) 0 1 2 ar au au;rw[yu]at f0 oe;rw[yu];clear yu;obtain⟨z0,cU,z2⟩:=iE f0;revert cV f0 oe z0 cU z2
 exact aP.1):p:=h ⟨k⟩
def vf(k:q) (h:bD q->p:=by
 intro aP;(first|refine aL _ _ Bg λa7=>eY ?_|(go_wp2_with fail;refine aL _ _ Bg λa7=>eY ?_));revert a7
 exact aP.1):p:=h ⟨k⟩
def Gl(h:p:=by
 refine Tt ?_;intro cY A2;go_wp2;go_ret;rw[ba.out]
 exact H.out.eG X _):p:=h
def Sr(k:q) (h:bD q->p:=by
 intro aP;refine(DU p 40 aF xs _ de af J af).mono ?_;rintro e aY⟨g,c,rfl,cz,h9,iK⟩;have fT:aY.heap[(w:Nat)]?=some (Wh:Obj):=(iK.block _ (bT gj) J).trans gj;obtain⟨b,o,n,Q4,Ww⟩:=h9.ct;have c1:aY.cell? (p,1)=some (.bool false):=aI Q4 rfl;have NR:p<(aY:Nat):=Dl c1;clear Ww Q4;have FZ:=bT fT;obtain⟨gh,dr,eF,fr⟩:=sn (show aY.heap[(w:Nat)]?=some (.cells #[ar,ar,.string ⟨#[]⟩] _ _)from fT);change Hid _ at cz h9 iK fT;revert aY g c b o n c1 NR FZ gh dr eF fr cz h9 iK fT
 exact aP.1):p:=h ⟨k⟩
def aeI(h:p:=by
 replace dV:=dE.ah (cj.ah (show w1.drew.cell? _=_ from dV));replace g2:=dE.ah (cj.ah (show w1.drew.cell? _=_ from g2));replace g3:=dE.ah (cj.ah (show w1.drew.cell? _=_ from g3));replace g4:=dE.ah (cj.ah (show w1.drew.cell? _=_ from g4));replace g5:=dE.ah (cj.ah (show w1.drew.cell? _=_ from g5));replace g6:=dE.ah (cj.ah (show w1.drew.cell? _=_ from g6));replace g7:=dE.ah (cj.ah (show w1.drew.cell? _=_ from g7));replace g8:=dE.ah (cj.ah (show w1.drew.cell? _=_ from g8));replace g9:=dE.ah (cj.ah (show w1.drew.cell? _=_ from g9));go_wp2_with fail;refine(XI x d _ (bb.ext X) c5).mono ?_;rintro e b3⟨a4,pF,dJ,rfl,dW,fv⟩;have Cm:pF<=20000:=by rw[dW.neq];exact Kx c5
 change Hid _ at dW fv;go_wp2_with fail;refine(HP _ _ _ _ _ _ _ _ _ (cz.aF.ext fv) dW.aF J J).mono ?_;rintro e bp⟨a5,jc,dw,rfl,hj,ix⟩;change Hid _ at hj ix;go_wp2;go_ret2;refine⟨_,_,_,rfl,?_,X⟩;have h:=hj.mono (aDn:=(w:Nat)) (Z.size X);simp only[lq,iI]at h
 exact h):p:=h
def adF(h:p:=by
 go_wp2_with fail;go_region_law (first|(refine vE (ys:=ys) rfl (.tmp 3) (.tmp 6) 42 rfl ca _ 96 underlying42 bJ bF bG bK rfl af rfl (ba.ext X) ⟨bX,d⟩ _ rfl (fc (cs:=bO.cs ⟨bX,d⟩) rfl) (bO.cN _) J af (eh HK (Z.size X)) ?_;intro g dL aY fY bW;have cz:=I fY;have oQ:=bW.aB (((Z.refl _).alloc _).aB eI) AQ;have Nw:=cell_of_one oQ;have Nx:=free_of_one oQ;have cv:=I bW;clear fY bW)|(rw[bm (show _=true by simp[Region.wanted])];go_simp;go_at_call 264;refine(RY x d _ (bb.ext X) eH).mono ?_;rintro e cY⟨bX,rfl,sk,hy⟩;have ki:=I sk;have eI:=hy.aB (by assumption);have bQ:=cell_of_one eI;have aq5:=lt_of_block eI;change Hid _ at hy;clear sk))
 all_goals
  go_end0
  refine⟨rfl,g,dL,⟨bX,d⟩,cz.jD yG _,⟨rfl,((((ki.mono (eh HK (Z.size X))).ext X).grow cv (ba.ext X) af af af).jD yG _)⟩,one_setCell oQ,yK.of X cv (gr,0) _,?_⟩
  rcases cv.at_ with h|h
  ·exact .inl h
  ·exact .inr (by rw[h];exact Z.size X)):p:=h
def ajn(h:p:=by
 clear eO;go_wp2_with fail;refine(UU _ X).mono ?_;rintro e aY⟨⟨hL,rE,mW,l0,mr,sg,sh,si⟩,rfl,we,c9⟩;have L4:hL=2:=we.k.trans hi;subst L4;have Hn:(w:Nat)<=(wc:Nat):=Z.size X;have cz:=I (we.mono (aDn:=(w:Nat)) Hn);change Hid _ at hi;replace c9:=I c9;clear we Hn;have de:=fV.out;rw[bj (by rw[hi.out];simp),bm (by rw[hi.out];simp)]at de;obtain⟨aS,ps,jI,cy,fE⟩:=cz.UP ho;have wZ:=I (fE.step (.of (show Z aY (aY.alloc (.cells #[bh 2,ad rE,mW,l0,mr,sg,sh,si] 232))from X)) (b4.eG _ _));replace jI:=I jI;replace cy:=I cy;have o8:=I (w2 hi);have GY:=I (GR (by trivial) hi);replace de:=I de;clear fE;go_wp2_with fail;refine(awj (H.ext (w':=aY.alloc (.cells #[bh 2,ad rE,mW,l0,mr,sg,sh,si] 232)) X) b8 cn.room x4 BE ⟨2,rE,mW,l0,mr,sg,sh,si⟩ m aS ps wZ jI cy dA.aS dA.ps ⟨dA.ay.1,o8⟩ dA.aX GY).mono ?_;rintro e cV⟨abM,F4,w5,rfl,yT,abN⟩;rw[de.out]at yT;go_wp2;go_ret
 exact⟨0,abM,F4,w5,rfl,yT,abN.cC X⟩):p:=h
def Nj(k:q) (h:bD q->p:=by
 intro aP;have hm:=kg.aF.max;unfold maxLen at hm;have Kc:fn<=100:=by rw[dp.neq];exact a6
 have Kd:dz.length<=100:=by rw[<-kv,cr]at he;exact he
 have dA:=I (show ∀y,y∈dz->y.dH.length<=100 from λy hy=>aj y.dH (by rw[<-kv];exact mJ hy));revert hm Kc Kd dA
 exact aP.1):p:=h ⟨k⟩
def agJ(k:q) (h:bD q->p:=by
 intro aP;refine B3 bV bV ?_;repeat (first|go_big_quiet_step (((first|(go_at_call 17;exact Calls.nL (ou s (ag.map (·.x)) x.id _ (bL.out.ext (fo.ct _))) (eP Value.bool cm.out))|(go_at_call 141;exact Calls.nL (vB s (ps.map (·.x)) x.id _ (cy.out.ext (fo.ct _))) (eP Value.bool gj.out))|exact am6)))|quiet_step (((first|(go_at_call 17;exact Calls.nL (ou s (ag.map (·.x)) x.id _ (bL.out.ext (fo.ct _))) (eP Value.bool cm.out))|(go_at_call 141;exact Calls.nL (vB s (ps.map (·.x)) x.id _ (cy.out.ext (fo.ct _))) (eP Value.bool gj.out))|(go_at_call 137;exact Calls.nL (yI s d.ay x.id _ (w2.out.ext (fo.ct _))) (eP Value.bool fT.out))))))
 exact aP.1):p:=h ⟨k⟩
def aeF(h:p:=by
 have heq:=Dy i.b i.l i.s 0 0 0;go_enter func133,ntmps133;go_wp2_with fail;refine(SC _ _ _ _ aW ae).mono ?_;rintro e w1⟨rfl,bw⟩;have c1:w1.cell? (w,1)=some ↑au:=bw.ah (by simp);have c2:w1.cell? (w,2)=some ↑ar:=bw.ah (by simp);have da:w1.cell? (w,3)=some ↑ar:=bw.ah (by simp);have dJ:w1.cell? (w,4)=some ↑au:=bw.ah (by simp);have dw:w1.cell? (w,5)=some ↑au:=bw.ah (by simp);have eC:w1.cell? (w,6)=some ↑ar:=bw.ah (by simp);have eK:w1.cell? (w,7)=some ↑au:=bw.ah (by simp);have iT:w1.cell? (w,8)=some ↑aH:=bw.ah (by simp);have ie:w1.cell? (w,9)=some ↑aH:=bw.ah (by simp);change Hid _ at bw;go_wp2_with fail;refine qA (aez _) λaN cj=>?_;go_wp2;go_ret;refine⟨rfl,?_⟩
 exact X):p:=h
def sT(h:p:=by
 rw[show x=(w:Nat)from e];exact bA _):p:=h
def atG(h:p:=by
 refine aL _ _ (by(try dsimp only);exact z4) λa7=>eY ?_;refine cX 9 ?_;refine wpAnyH_done bV ?_ _;go_wp2_with fail;go_roundg (gk - 1);case measure=>omega
 case rel=>
  refine⟨k+1,_,_,_,ys++[⟨bX,ts[k].e,ts[k].a⟩],J,rfl,by go_num,⟨?_,?_⟩,?_⟩
  ·exact(ch.out.1.ext (w':=aY.alloc (.cells #[bX.k,bX.id.b,ad bX.id.l,ad bX.id.s,bX.c,ad bX.u,bX.f,bX.e,ts[k].a] 191)) X).ri cv dW ((ki.mono (aDn:=(w:Nat)) (Z.size X)).ext X)
  exact YS
  ·exact cv.ext (ch.out.1.cg.ext (w':=aY.alloc (.cells #[bX.k,bX.id.b,ad bX.id.l,ad bX.id.s,bX.c,ad bX.u,bX.f,bX.e,ts[k].a] 191)) X) (bA _) X):p:=h
def aab(k:q) (h:bD q->p:=by
 intro aP;refine H6 (ys0:= []) (ys:=c.hs) (c:=dD) rfl (.const aH) (.tmp 64) 22 3 rfl ca _ 8 underlying22 bJ bF bG bK rfl af rfl (Own.nil (df) bp 3 dD.rM) (show Z bp _ from X).size rfl (Rd.ext X) dD.nt J af J ?_;intro hd kV fh im bW;simp only[om]at im ⊢;have tC:=I (bW.ext (Own.nil (df) (df).heap.size 3 dD.rM) (bA _) (Z.refl (df)));replace im:=I im;clear bW;revert hd kV fh tC im
 exact aP.1):p:=h ⟨k⟩
def aac(k:q) (h:bD q->p:=by
 intro aP;refine H6 (ys0:= []) (ys:=c.hs) (c:=dD) rfl (.const aH) (.tmp 64) 22 3 rfl ca _ 8 underlying22 bJ bF bG bK rfl af rfl (Own.nil (eb) bp 3 dD.rM) (show Z bp _ from X).size rfl (Rd.ext X) dD.nt J af J ?_;intro hd kV fh im bW;simp only[om]at im ⊢;have tC:=I (bW.ext (Own.nil (eb) (eb).heap.size 3 dD.rM) (bA _) (Z.refl (eb)));replace im:=I im;clear bW;revert hd kV fh tC im
 exact aP.1):p:=h ⟨k⟩
def Gm(h:p:=by
 (try dsimp only);exact⟨Z.aB (W:=w) X ao.out,Z.aB (W:=w) X ax.out,Z.aB (W:=w) X H.out.box⟩):p:=h
def alP(k:q) (h:bD q->p:=by
 intro aP;obtain⟨kL,me⟩:∃kL,uy r.1 b.gX=kL:=⟨_,rfl⟩;rw[me];replace me:=I me;obtain⟨cV,yu⟩:∃cV,(((cG.setCell (w,0) kL.b).setCell (w,1) (ad kL.l)).setCell (w,2) (ad kL.s))=cV:=⟨_,rfl⟩;have f0:=LZ jB kL.b (ad kL.l) (ad kL.s);have oe:=zK (S:=λx=>x=(w:Nat)) (aG.refl _ cG) (R:=(w:Nat)) (.inl rfl) 0 1 2 kL.b (ad kL.l) (ad kL.s);rw[yu]at f0 oe;rw[yu];clear yu;obtain⟨z0,cU,z2⟩:=iE f0;revert kL me cV f0 oe z0 cU z2
 exact aP.1):p:=h ⟨k⟩
def Hv(h:p:=by
 dsimp only at c4;go_wp2;go_ret;refine⟨iW (by rw[Ds.out,lo hk.out,Gz]),?_⟩
 exact X):p:=h
def awo(h:p:=by
 refine ai1 ?_;intro aN cE cZ c2 wa bz b7 kc hH a7;refine ed 7 ?_;refine ed 8 ?_;refine lh 9 λK aL=>?_;go_simp;go_at_call 95;refine(aiY (H.ext X) r.1 r.2 cE cZ c2 wa b7 kc).mono ?_;rintro e aY⟨M',bP,bZ,rfl,Uy,Gx⟩;refine aL _ _ (λ_ h=>absurd rfl h) λ_=>eY ?_;refine lh 10 λK aL=>?_
 exact ai2):p:=h
def Rj(h:p:=by
 ·cases aw with
  |none=>exact jR.elim (λh=>by cases h) .inr
  |some ai=>
         rcases jR with jR|jR
         ·simp only[Value.ownBlock,Option.some.injEq]at jR;exact .inl ⟨ai,rfl,jR⟩
         ·exact .inr jR):p:=h
def aiC(k:q) (h:bD q->p:=by
 intro aP;have oJ:Z w1 (w1.alloc o):=(Z.refl _).alloc o;have fS:(w1.alloc o).heap.size=(w1:Nat)+1:=by simp
 have al:aG (λy=>∃ai,c0=some ai/\ai.block=y) (w1.alloc o) cG:=⟨bu.os,bu.tape,bu.output,bu.size,λy hy an=>bu.block y hy (λai aj e=>an ⟨ai,aj,e⟩)⟩;have a8:∀y,(∃ai,c0=some ai/\ai.block=y)->M' y:=λy ⟨ai,aj,e⟩=>e▸(bC ai aj).1;have ho:=br.cx;have py:M' g9/\¬bP g9/\¬bZ g9\/(w1.alloc o).heap.size<=g9:=by
  rcases bu.at_ with ⟨ai,bQ,bY⟩|k
  ·exact .inl (bY▸bC ai bQ)
  ·exact .inr (by rw[k];exact bA _)
 have bc:b4 (w1.alloc o) M' (la M' (·=g9)):=⟨λ_ k=>.inl k,λy hy=>hy.elim .inl (λk=>py.elim (λz=>.inl (by rw[show y=g9 from k];exact z.1)) (λz=>.inr (by rw[show y=g9 from k];exact z)))⟩;revert oJ fS al a8 ho py bc
 exact aP.1):p:=h ⟨k⟩
def X7(h:p:=by
 ·rcases iR.1 hy with hy|hy
  ·have qG:=(A3.out.ay y hy).ext ((Z.refl bp).alloc (.cells #[aq a5 jc dw] 107));exact fq.out.bI qG (q4.gQ qG af)
  ·obtain rfl:=iH.1 hy;have qG:=hj.out.ext ((Z.refl bp).alloc (.cells #[aq a5 jc dw] 107))
   exact fq.out.bI qG (q4.gQ qG af)):p:=h
def aaa(h:p:=by
 refine cX 11 ?_;refine cX 12 ?_;refine wpAnyH_done bV ?_ _;go_wp2_with fail;go_ret2;obtain⟨iN,ib,nF,dr,eF,fN,hx,kx,nO⟩:=kZ.wb (b6:=b6) (p:=(df).heap.size) bL.eq vn QA QC hj QD yj pj q9 zo QB (show Z (df) _ from X) (bA _) (fi rfl)
 exact⟨_,iN,ib,nF,rfl,dr,eF,fN,hx,kx,nO⟩):p:=h
def UV(h:p:=by
 refine cX 11 ?_;refine cX 12 ?_;refine wpAnyH_done bV ?_ _;go_wp2_with fail;go_ret2;obtain⟨iN,ib,nF,dr,eF,fN,hx,kx,nO⟩:=kZ.wb (b6:=b6) (p:=(eb).heap.size) bL.eq vn QA QC hj QD yj pj q9 zo QB (show Z (eb) _ from X) (bA _) (fi rfl)
 exact⟨_,iN,ib,nF,rfl,dr,eF,fN,hx,kx,nO⟩):p:=h
def uD(k:q) (h:bD q->p:=by
 intro aP;have sd:=@run_makeMap prog;go_simp;clear sd
 exact aP.1):p:=h ⟨k⟩
def um(k:q) (h:bD q->p:=by
 intro aP;refine ed 0 ?_;refine ed 1 ?_;refine ed 2 ?_
 exact aP.1):p:=h ⟨k⟩
def ai7(k:q) (h:bD q->p:=by
 intro aP;obtain⟨ts,dp,ru⟩:=H.dQ.tx;have eH:=I (IV ru (λt a6=>(hk.tx t a6).eA));have r0:v.tx.n<=1000:=by rw[dp.aF.neq,<-cr (f:=b2.tx),ru];have:=hk.tk;omega
 have gp:=I (H.ext (w':=w.alloc i) X).box;refine Ug ?_;intro r1;have PD:=I (((Z.refl w).alloc i).aB I7);have PW:=I (((Z.refl w).alloc i).aB yG);revert ts dp ru eH r0 gp r1 PD PW
 exact aP.1):p:=h ⟨k⟩
def Hu(h:p:=by
 go_ret;refine⟨iW (by rw[Ds.out,H.out,mS hk.out,IW];rfl),?_⟩
 exact X):p:=h
def Ht(h:p:=by
 repeat (first|(refine fi ?_;(simp;done))|refine ab0 (by first|(simp;done)|(simp;omega)) ?_)):p:=h
def Np(h:p:=by
 ·(repeat (first|with_reducible exact DK.out|refine Own.jD ?_ (by first|exact Nat.lt_succ_of_lt (P5 _)|exact P5 _) _))):p:=h
def JG(k:q) (h:bD q->p:=by
 intro aP;go_upto_region 1 with (fail);obtain⟨bs,hI⟩:∃bs,((w.alloc o).alloc (.cells #[ar,ar,au,au,ar,aH,ar,ar,.bool false] 83))=bs:=⟨_,rfl⟩;rename_i kd mF q3;revert kd mF q3 bs hI
 exact aP.1):p:=h ⟨k⟩
def agE(k:q) (h:bD q->p:=by
 intro aP;refine B3 bV bV ?_;repeat (first|go_big_quiet_step (((first|(go_at_call 17;exact Calls.nL (ou s (ag.map (·.x)) r.id _ (bL.out.ext (fo.ct _))) (eP Value.bool cm.out))|(go_at_call 137;exact Calls.nL (yI s d.ay r.id _ (w2.out.ext (fo.ct _))) (eP Value.bool fT.out)))))|quiet_step (((first|(go_at_call 17;exact Calls.nL (ou s (ag.map (·.x)) r.id _ (bL.out.ext (fo.ct _))) (eP Value.bool cm.out))|(go_at_call 137;exact Calls.nL (yI s d.ay r.id _ (w2.out.ext (fo.ct _))) (eP Value.bool fT.out))))))
 exact aP.1):p:=h ⟨k⟩
def agN(k:q) (h:bD q->p:=by
 intro aP;refine B3 bV bV ?_;repeat (first|go_big_quiet_step (((first|(go_at_call 17;exact Calls.nL (ou s (ag.map (·.x)) x.id _ (bL.out.ext (fo.ct _))) (eP Value.bool cm.out))|exact am6)))|quiet_step (((first|(go_at_call 17;exact Calls.nL (ou s (ag.map (·.x)) x.id _ (bL.out.ext (fo.ct _))) (eP Value.bool cm.out))|(go_at_call 137;exact Calls.nL (yI s d.ay x.id _ (w2.out.ext (fo.ct _))) (eP Value.bool fT.out))))))
 exact aP.1):p:=h ⟨k⟩
def Hx(k:q) (h:bD q->p:=by
 intro aP;go_enter func339,ntmps339;go_wp2_with (go_at_call 351;refine(ab3 _ _).mono ?_;rintro e w'⟨rfl,rfl⟩);go_ret;rename_i kd mF;revert kd mF
 exact aP.1):p:=h ⟨k⟩
def aeK(h:p:=by
 replace dV:=dE.ah (cj.ah (show w1.drew.cell? _=_ from dV));replace g10:=dE.ah (cj.ah (show w1.drew.cell? _=_ from g10));replace g11:=dE.ah (cj.ah (show w1.drew.cell? _=_ from g11));replace g12:=dE.ah (cj.ah (show w1.drew.cell? _=_ from g12));go_wp2_with fail;refine(SD _ _ _ _ i _ cz.aF aO J).mono ?_;rintro e b3⟨a4,pF,dJ,rfl,dW,fv⟩;change Hid _ at dW fv;go_wp2;go_ret2;refine⟨_,_,_,rfl,?_,X⟩;have h:=dW.mono (aDn:=(w:Nat)) (Z.size X);simp only[lq,iI]at h
 exact h):p:=h
def acA(h:p:=by
 go_wp2;go_roundg (gk - 1);case measure=>omega
 case rel=>exact⟨k+1,J,by go_num,X⟩):p:=h
def ahx(h:p:=by
 rintro e aN⟨cE,cZ,c2,rfl,aK,gj⟩;have k5:cZ<=n+10+20100*(k+1):=by
  have ae:=aK.neq;have ak:=aE.neq;have aM:=xK xs[k] (c7 hk);rw[cH,<-ak]at ae;omega
 have b7:=I (aK.mono (aDn:=(w:Nat)) (Z.size X));change Hid _ at gj
 exact ahy):p:=h
def Og(k:q) (h:bD q->p:=by
 intro aP;refine X8 ?_;intro aw n cap h3 l7 ba eI bQ bY Cp;have tf:=(h).q;have sy:=(h).max;have vM:=(h).qK;have A4:=I (h).cx;have re:=l7.neq;revert aw n cap h3 l7 ba eI bQ bY Cp tf sy vM A4 re
 exact aP.1):p:=h ⟨k⟩
def Is(k:q) (h:bD q->p:=by
 intro aP;refine wpQuiet_nil ?_;intro _ sK;obtain⟨Qn,abO⟩:=sK;subst abO;obtain⟨cY,gH⟩:=Qn;dsimp only;replace gH:=I gH;revert cY gH
 exact aP.1):p:=h ⟨k⟩
def abv(k:q) (h:bD q->p:=by
 intro aP;have hG:=I (show jP=wq 8 0 0 0 from jo.symm);have q2:jP.k=8:=by rw[hG.out];rfl
 have c4:(Instr.lookup 139 (.map (some dF)) jP.k true).run prog iD=.ok (.tuple #[(.func (.func 104) #[] #[]),.bool true]) iD:=by rw[q2];exact nr (P:=prog) underlying139 underlying3 vg 8 abo
 clear q2;revert hG c4
 exact aP.1):p:=h ⟨k⟩
def VP(h:p:=by
 rw[eZ.out]
 exact⟨_,F,rfl,(lC.ext bx).store (.inr rfl) wg oe,(hJ.of bx).cell il (bA _) oe⟩):p:=h
def Di(k:q) (h:bD q->p:=by
 intro aP;obtain⟨kq,jm⟩:=cR.next bx J (by have:=n2.out;omega) l8 lM iK eX fq hb;revert kq jm
 exact aP.1):p:=h ⟨k⟩
def Hb(k:q) (h:bD q->p:=by
 intro aP;refine aL _ _ (λ_ h=>absurd rfl h) λ_=>eY ?_;refine akX _ _ _ _ bV ?_;have a7:True:=trivial;rename_i kd;revert kd a7
 exact aP.1):p:=h ⟨k⟩
def Bj(k:q) (h:bD q->p:=by
 intro aP;go_simp;refine aL _ _ (absurd rfl ·) λ_=>eY ?_;refine K6 bV ?_ _;rename_i kd;revert kd
 exact aP.1):p:=h ⟨k⟩
def alN(k:q) (h:bD q->p:=by
 intro aP;have ax:rA c aU.bR p cl=(some ⟨p n,0,none⟩,0):=by unfold rA;rw[b5];dsimp only;rw[cB]
 rw[ax];obtain⟨an,gV,uE⟩:=VN cn bb b5 cB;obtain⟨nD,L7⟩:=bb.up n b an cB;have lS:=dA.ext bx;obtain⟨Ml,ko⟩:rp w1 (λx=>M x\/x=(w:Nat)) (D n) (O n) c (p n) (q n) b:=by have:=lS.dh.qs n an;rw[cB]at this;exact this
 revert ax an gV uE nD L7 lS Ml ko
 exact aP.1):p:=h ⟨k⟩
def Ca(h:p:=by
 rw[iX hk,CV];rfl):p:=h
def adw(h:p:=by
 go_roundg (gk - 1);case measure=>omega
 case rel=>
  refine⟨k+1,_,_,_,ys++[⟨bX,xs[k].d⟩],J,by go_num,rfl,?_,cv.ext (aE.out.1.ext X) (bA _) X⟩;rw[lp.out];refine⟨cz,by rw[gS,aE.out.2.1];rfl,λy hy=>?_⟩;rcases iR.1 hy with hy|hy
  ·exact((aE.out.2.2 y hy).ext X).grow cv (aE.out.1.ext X) af af af
  exact adD):p:=h
def XR(k:q) (h:bD q->p:=by
 intro aP;go_enter func77,ntmps77;go_wp2_with fail;refine(Kp _ _ _ _ _ (av.ext X) J).mono ?_;rintro e w1⟨p,rfl,ng,c6,fg⟩;have mO:(w:Nat)<p:=by simp at ng;omega
 have km:w1.heap[(w:Nat)]?=some (am0:Obj):=(fg.block _ (by simp)).trans (heap_alloc_new _ _);have bw:=I (((Z.refl w).alloc _).trans fg);change Hid _ at c6 km;go_wp2_with fail;rename_i kd mF q3 r8;revert w1 p ng fg mO bw c6 km kd mF q3 r8
 exact aP.1):p:=h ⟨k⟩
def alM(k:q) (h:bD q->p:=by
 intro aP;have bf:(w.alloc kR).heap.size=(w:Nat)+1:=by simp
 have hB:(w.alloc kR).heap[(w:Nat)]?=some (kR:Obj):=fi rfl;have il:Z w (w.alloc kR):=X;obtain⟨et,pt⟩:∃et,w.alloc kR=et:=⟨_,rfl⟩;rw[pt]at bf hB il;have gq:=bU.cell il (bA _) J;have wg:=bU.Fs (R:=(w:Nat)) (bA _);have lC:=I gq;revert et il hB bf pt gq wg lC
 exact aP.1):p:=h ⟨k⟩
def ak2(h:p:=by
 ·by_cases e:j=n
  ·subst e;simp only[bm]at U;simp only[bj G2]at hy;rcases py x U with z|z
   ·exact h.gK j k aJ hk G2 x z hy
   ·exact absurd (h.cx x (h.sub k hk x hy)) J
  ·simp only[bj e]at U;by_cases bE:k=n
   ·subst bE;simp only[bm]at hy;rcases py x hy with z|z
    ·exact h.gK j k aJ hk G2 x U z
    ·exact absurd (h.cx x (h.sub j aJ x U)) J
   ·simp only[bj bE]at hy;exact h.gK j k aJ hk G2 x U hy):p:=h
def alQ(h:p:=by
 rw[eZ.out,me.out]
 exact⟨iN,_,rfl,jh.store ⟨v,cA,g,p,q,_,_,W,BP,λ_=>Iff.rfl⟩ (Da.m.up _ (.inr rfl)) (λk=>(Da.f.new _ k).elim wg (λz=>by have:=bx.size;have:=bf.out;omega)) oe,(Da.cC bx).cell il (bA _) oe⟩):p:=h
def Ns(h:p:=by
 ·(repeat (first|with_reducible exact jI.out|refine Z.setCell ?_ (by first|exact bA _|exact oN _) _))):p:=h
def aiZ(k:q) (h:bD q->p:=by
 intro aP;obtain⟨ts,dp,kI⟩:=H.dQ.tx;have eH:=I (IV kI (λt a6=>(hk.tx t a6).eA));have r0:v.tx.n<=1000:=by rw[dp.aF.neq,<-cr (f:=b2.tx),kI];have:=hk.tk;omega
 have ho:=I H.cx;have gp:=I (H.ext (w':=w.alloc i) X).box;refine Ug ?_;intro r1;revert ts dp kI eH r0 ho gp r1
 exact aP.1):p:=h ⟨k⟩
def se(k:q) (h:bD q->p:=by
 intro aP;have b9:xs.take k=xs:=ir J;revert b9
 exact aP.1):p:=h ⟨k⟩
def wB(k:q) (h:bD q->p:=by
 intro aP;have hm:=av.max;have aT:=av.len;unfold maxLen at hm;revert hm aT
 exact aP.1):p:=h ⟨k⟩
def alO(k:q) (h:bD q->p:=by
 intro aP;refine og.mono ?_;rintro e cG⟨iN,ib,nF,rfl,GX,jq⟩;have Da:=hJ.Fk mj an jq;have BP:=lS.Fk an cB jq GX;have jB:=I ((jq.dT.block _ (bT aa) (λk=>wg ((mj _).2 (.inr (.inr ⟨n,an,k⟩))))).trans aa);obtain⟨u1,u2,u3,Aw⟩:=sn jB;replace Da:=I Da;replace BP:=I BP;clear GX jq;revert cG iN ib nF jB u1 u2 u3 Aw Da BP
 exact aP.1):p:=h ⟨k⟩
def Xs(k:q) (h:bD q->p:=by
 intro aP;have ju:bp.cell? (aY,2)=some ↑s:=iv.ah (by simp);have hy:Z aY bp:=Z.trans ((Z.refl aY).alloc _) iv;have gn:=hy.ah gh;have q1:=hy.ah dr;have dP:=hy.ah eF;have NS:∀j,bp.frozen? ⟨(w:Nat),j,none⟩=false:=λj=>(hy.frozen _ _ FZ).trans (fr j);change Hid _ at hy;revert ju gn q1 dP NS hy
 exact aP.1):p:=h ⟨k⟩
def agc(k:q) (h:bD q->p:=by
 intro aP;obtain⟨OK,wY,x2,vX⟩:=mem_ready.1 aJ;have eO:∀e∈wY.after,Region.binds md e=true->e.on≠i:=λe he aa k=>aga ax k (vX e he aa);have OL:=wpOp_putIf x2 (YL j wY x2 e OK eO) (λcs b=>YK i gm cs b aO) (λcs b=>YK j wY cs b x2) jz hy (H.2 j (ready_mono aJ e));revert OK wY x2 vX eO OL
 exact aP.1):p:=h ⟨k⟩
def aeT(h:p:=by
 go_wp2_with (at_builtin;refine wpList_plain rfl λoL ns=>?_;refine wC (c:=cp) (ys0:= []) (ys:=xs) _ _ 107 5 rfl ca _ 1 underlying107 bJ bF bG bK rfl af rfl w X (Own.empty hT (by simp) cp.bH) rfl (av.ext X) cp.cN J af ?_;intro cK dv uK cV hY jt U p4;refine ns _ _ ?_;have dn:=I jt;have hy:=I U;have fu:=I hY;clear jt U p4 hY);go_ret
 exact⟨cK,dv,uK,rfl,dn,hy⟩):p:=h
def ahI(k:q) (h:bD q->p:=by
 intro aP;go_enter func157,ntmps157;go_wp2_with fail;refine(Kp _ _ _ _ _ (av.ext X) HR).mono ?_;rintro e w1⟨p,rfl,ng,c6,fg⟩;have IL:(w:Nat)<p:=by simp at ng;omega
 have nY:w1.heap[(w:Nat)]?=some (.cells #[ar,au,aH,aH,aH,aH,aH,aH] 232):=fg.aB (fi rfl);refine OT ?_;intro bx;replace nY:=I nY;replace c6:=I c6;clear fg ng;go_wp2_with fail;have bq:(w1.alloc (.cells #[.pointer (some (p,0)),.int .i64 n,.bool false] 314)).heap[(w1:Nat)]?=some (.cells #[.pointer (some (p,0)),.int .i64 n,.bool false] 314):=fi rfl;rename_i kd mF q3 r8;revert w1 p IL bx nY c6 kd mF q3 r8 bq
 exact aP.1):p:=h ⟨k⟩
def Lq(k:q) (h:bD q->p:=by
 intro aP;have aV:∀b,b=p->b<ay:=λb bB=>by have:=gL.out;omega
 have br:∀b,b=B->b<ay:=λb bB=>by have:=gL.out;omega
 revert aV br
 exact aP.1):p:=h ⟨k⟩
def Nr(h:p:=by
 ·(repeat (first|with_reducible exact aE.out.2.2 y hy|refine Own.jD ?_ (by first|exact s3|exact AL) _))):p:=h
def XK(k:q) (h:bD q->p:=by
 intro aP;go_enter func129,ntmps129;go_wp2_with fail;refine(Kp _ _ _ _ _ (av.ext X) J).mono ?_;rintro e w1⟨p,rfl,ng,c6,fg⟩;have mO:(w:Nat)<p:=by simp at ng;omega
 have km:w1.heap[(w:Nat)]?=some (qo:Obj):=(fg.block _ (by simp)).trans (heap_alloc_new _ _);have bw:=I (((Z.refl w).alloc _).trans fg);rename_i kd mF q3 r8;revert kd mF q3 r8 w1 p ng c6 fg mO km bw
 exact aP.1):p:=h ⟨k⟩
def WF(k:q) (h:bD q->p:=by
 intro aP;obtain⟨eb,kK⟩:∃qC,(fh).alloc (.map #[] 0)=qC:=⟨_,rfl⟩;have jA:=I (show fl eb prog 54 (fh).heap.size 0 0 (λ_=>none)from by subst kK;exact fl.CL _ _ _);have vb:=I (show Z (fh) eb from by subst kK;exact X);rw[kK];clear kK;revert eb jA vb
 exact aP.1):p:=h ⟨k⟩
def SW(k:q) (h:bD q->p:=by
 intro aP;obtain⟨eb,kK⟩:∃qC,(df).alloc (.map #[] 0)=qC:=⟨_,rfl⟩;have jA:=I (show fl eb prog 54 (df).heap.size 0 0 (λ_=>none)from by subst kK;exact fl.CL _ _ _);have vb:=I (show Z (df) eb from by subst kK;exact X);rw[kK];clear kK;revert eb jA vb
 exact aP.1):p:=h ⟨k⟩
def ag9(h:p:=by
 rw[DR];obtain⟨aDo,q1,dP,fp⟩:=YU (b:=g) _ (m*9) iD Zd ql;refine⟨rfl,?_,aG.setCells (S:=λb=>b=g) rfl _ _ _ h8⟩
 have ao:=dn.agy (w':=_) m (bA _) (aDo:=aDo) (λatf ak=>by
  rw[ql.out]at ak;injection ak with ak;injection ak with ak;subst ak
  exact⟨q1,dP,fp⟩)
 rw[ir (by rw[<-dn.neq];exact bA _)]at ao
 exact ao):p:=h
def ST(k:q) (h:bD q->p:=by
 intro aP;obtain⟨df,kK⟩:∃qC,(fh).alloc (.map #[] 0)=qC:=⟨_,rfl⟩;have iq:=I (show fl df prog 3 (fh).heap.size 0 0 (λ_=>none)from by subst kK;exact fl.CL _ _ _);have yx:=I (show Z (fh) df from by subst kK;exact X);rw[kK];clear kK;revert df iq yx
 exact aP.1):p:=h ⟨k⟩
def WP(k:q) (h:bD q->p:=by
 intro aP;obtain⟨df,kK⟩:∃qC,(eb).alloc (.map #[] 0)=qC:=⟨_,rfl⟩;have iq:=I (show fl df prog 3 (eb).heap.size 0 0 (λ_=>none)from by subst kK;exact fl.CL _ _ _);have yx:=I (show Z (eb) df from by subst kK;exact X);rw[kK];clear kK;revert df iq yx
 exact aP.1):p:=h ⟨k⟩
def IP(k:q) (h:bD q->p:=by
 intro aP;refine(auB M c cA g c4 a b _ H et fh).mono ?_;rintro e w1⟨rfl,bB⟩;revert w1 bB
 exact aP.1):p:=h ⟨k⟩
def Ag(k:q) (h:bD q->p:=by
 intro aP;refine cX 0 ?_;refine cX 1 ?_;refine cX 2 ?_
 exact aP.1):p:=h ⟨k⟩
def ado(h:p:=by
 ·have Kb:(16:Int)<=(m:Int):=J;go_wp2_with (go_at_call 217;refine(HE _ _ _ cc ps[k].id _ (b8.ext (Z.trans U X))).mono ?_;rintro e w'⟨rfl,cw⟩;have ao:=cw.cell;change Hid _ at cw;rw[av.out]);go_roundg (gk - 1);case measure=>omega
  case rel=>exact⟨k+1,aw,m,aQ,J,by go_num,rfl,(by rw[lp.out,apz (by have:=vD.out;omega)];exact aE.ext X),X⟩):p:=h
def alX(h:p:=by
 go_wp2_with fail;clear pt;refine og.mono ?_;rintro e cG⟨iN,Q6,rfl,BP,jq⟩;change Hid _ at BP;have mV:=I (jq.cC il);clear jq;go_wp2_with fail;go_ret
 exact⟨iN,Q6,rfl,BP,mV⟩):p:=h
def Nq(h:p:=by
 ·(repeat (first|with_reducible exact aE.out.1|refine Own.jD ?_ (by first|exact s3|exact AL) _))):p:=h
def Ni(k:q) (h:bD q->p:=by
 intro aP;obtain⟨ca,bJ,bF,bG,bK⟩:=info_parts Ry;obtain⟨dc,eo,dB,ej,fe⟩:=info_parts J5;obtain⟨eI,mZ,na,nb,nc⟩:=info_parts M4;obtain⟨dz,kv,kg⟩:=bb.e;have dp:=bb.f;have a6:=hs.ts;have he:=hs.aS;have aj:=hs.dH;revert ca bJ bF bG bK dc eo dB ej fe eI mZ na nb nc dz kv kg dp a6 he aj
 exact aP.1):p:=h ⟨k⟩
def amr(k:q) (h:bD q->p:=by
 intro aP;have g9:=Fw h9 x.z x.i.b (ad x.i.l) (ad x.i.s) x.st x.b x.dk x.vq x.up;have lx:=Fx (w:=aY) (R:=(w:Nat)+1) x.z x.i.b (ad x.i.l) (ad x.i.s) x.st x.b x.dk x.vq x.up;obtain⟨lk,iL⟩:∃lk,(((((((((aY.setCell (w,1,0) x.z).setCell (w,1,1) x.i.b).setCell (w,1,2) (ad x.i.l)).setCell (w,1,3) (ad x.i.s)).setCell (w,1,4) x.st).setCell (w,1,5) x.b).setCell (w,1,6) x.dk).setCell (w,1,7) x.vq).setCell (w,1,8) x.up)=lk:=⟨_,rfl⟩;rw[iL]at g9 lx;rw[iL];revert lk lx g9 iL
 exact aP.1):p:=h ⟨k⟩
def TK(h:p:=by
 go_wp2_with fail;rw[nJ]
 exact ahk):p:=h
def ahJ(k:q) (h:bD q->p:=by
 intro aP;rintro e aN⟨rfl,de,eW⟩;have Lo:=bT nY;have xG:=c6.lt;have po:=(eW.block _ (by simp;omega) J).trans ((show Z w1 (w1.alloc _)from(Z.refl w1).alloc _).aB nY);have jk:=I (show aG (λb=>(w:Nat)<=b) w aN from((aG.of bx).alloc _).trans (eW.mono (λb _ aa=>by have:b=p:=aa;omega)));have bz:Z w aN:=jk.ext (λb aa=>aa) (Z.refl w);have s9:(w1:Nat)<(aN:Nat):=bT de.box;generalize (w1:Nat)=q at de s9 Lo xG ⊢;replace de:=I de;replace po:=I po;replace bz:=I bz;clear eW;revert aN jk q s9 Lo xG de po bz
 exact aP.1):p:=h ⟨k⟩
def ael(h:p:=by
 replace ij:=cj.ah ij;change Hid _ at b7 cj;go_wp2_with fail;refine(j6 _ _ _ _ S _ (b7.aF) qc J).mono ?_;rintro e aY⟨a3,gF,da,rfl,cz,dE⟩;change Hid _ at cz dE;go_wp2;go_ret;refine⟨a3,gF,da,rfl,?_,X⟩;have h:=cz.mono (aDn:=(w:Nat)) (Z.size X);unfold ia;simp only[iI,nQ]at h ⊢
 exact h):p:=h
def Gg(h:p:=by
 simp only[cH,KS];omega):p:=h
def acd(k:q) (h:bD q->p:=by
 intro aP;have hm:j % sz<(c ys[j / sz]).length:=by rw[a8.bH];exact Nat.mod_lt _ fS
 have J0:=Rf a8.bH ys (j / sz) _ (fz hk) (j % sz) _ (fz hm);rw[show j / sz*sz+j % sz=j from by rw[L5];exact Nat.div_add_mod j sz,aJ]at J0;have:=Rw (j % sz) _ (fz hm);rw[show off+j / sz*sz+j % sz=off+j from by rw[Nat.add_assoc,L5,Nat.div_add_mod]]at this;revert hm J0 this
 exact aP.1):p:=h ⟨k⟩
def alz(k:q) (h:bD q->p:=by
 intro aP;go_wp2_with fail;refine(Fl (H.dh.ext X) (k:Int)).mono ?_;rintro e w1⟨rfl,bU⟩;rw[c5.out];replace bU:=I bU;go_wp2_with fail;refine(Id (H.dh.ext X) J (k:Int)).mono ?_;rename_i kd mF q3 r8 JM JN aB5;revert kd w1 bU mF q3 r8 JM JN aB5
 exact aP.1):p:=h ⟨k⟩
def Cy(h:p:=by
 exact⟨λi h=>.inl h,Oz _ _⟩):p:=h
def aeH(k:q) (h:bD q->p:=by
 intro aP;have g2:w1.cell? (w,2)=some ↑x.k:=bw.ah (by simp);have g3:w1.cell? (w,3)=some ↑x.id.b:=bw.ah (by simp);have g4:w1.cell? (w,4)=some ↑(ad x.id.l):=bw.ah (by simp);have g5:w1.cell? (w,5)=some ↑(ad x.id.s):=bw.ah (by simp);have g6:w1.cell? (w,6)=some ↑x.c:=bw.ah (by simp);have g7:w1.cell? (w,7)=some ↑(ad x.u):=bw.ah (by simp);have g8:w1.cell? (w,8)=some ↑x.f:=bw.ah (by simp);have g9:w1.cell? (w,9)=some ↑x.e:=bw.ah (by simp);revert g2 g3 g4 g5 g6 g7 g8 g9
 exact aP.1):p:=h ⟨k⟩
def Ri(h:p:=by
 ·cases aw with
  |none=>cases e
  |some ai=>simp only[Value.ownBlock,Option.some.injEq]at e;exact di ai rfl e.symm):p:=h
def XD(k:q) (h:bD q->p:=by
 intro aP;have bS:w1.cell? (w,1)=some ↑b:=bw.ah (by simp);have bE:w1.cell? (w,2)=some ↑(ad l):=bw.ah (by simp);have eV:w1.cell? (w,3)=some ↑(ad s):=bw.ah (by simp);have gU:w1.cell? (w,4)=some ↑(q:Int):=bw.ah (by simp);revert bS bE eV gU
 exact aP.1):p:=h ⟨k⟩
def TL(h:p:=by
 rw[nJ];go_ret2
 exact⟨_,_,_,ys,by rw[oz.out];rfl,ba.out.ext X,by rw[oz.out];exact bM.out,X⟩):p:=h
def MW(h:p:=by
 ·go_wp2;go_ret;refine⟨jC (JT (JR (p:=p) eO hk)),?_⟩
  exact X):p:=h
def ajl(h:p:=by
 subst L4;have Hn:(w:Nat)<=(wc:Nat):=Z.size X;have cz:=I (we.mono (aDn:=(w:Nat)) Hn);change Hid _ at hi;replace c9:=I c9;clear we Hn;have gd:=fV.out;rw[bj (by rw[hi.out];simp),bj (by rw[hi.out];simp)]at gd;subst gd;go_wp2;go_ret
 exact⟨201,M,D,O,rfl,⟨v,H.ext X⟩,.of X⟩):p:=h
def asW(h:p:=by
 unfold K3 at fH;rw[x2]at fH;obtain⟨e,he,aa⟩:=Array.any_eq_true'.1 fH;rw[ke,beq_iff_eq]at aa
 exact aga ax aa.2 (vX e he aa.1)):p:=h
def agD(k:q) (h:bD q->p:=by
 intro aP;have bB:=I (qS.trans aa);go_enter func143,ntmps143;go_wp2_with fail;refine B3 bV bV ?_;repeat (first|go_big_quiet_step ((go_at_call 141;exact Calls.nL (vB s (ps.map (·.x)) r.id _ (cy.out.ext (fo.ct _))) (eP Value.bool bB.out)))|quiet_step ((go_at_call 141;exact Calls.nL (vB s (ps.map (·.x)) r.id _ (cy.out.ext (fo.ct _))) (eP Value.bool bB.out))))
 rename_i kd mF q3 r8;revert bB kd mF q3 r8
 exact aP.1):p:=h ⟨k⟩
def aDv(k:q) (h:bD q->p:=by
 intro aP;go_wp2_with fail;refine sI (λw'=>Z (w.alloc i) w') (λa7=>?_);refine lA 0 (·.aB PD) ?_;refine cX 1 ?_;refine cX 2 ?_;refine lA 3 (·.aB gp) ?_;rename_i kd mF;revert kd mF a7
 exact aP.1):p:=h ⟨k⟩
def amw(k:q) (h:bD q->p:=by
 intro aP;have g9:=Fw c6 r.1 ar au au ar aH ar ar (.bool false);have lx:=Fx (w:=aY) (R:=(w:Nat)+1) r.1 ar au au ar aH ar ar (.bool false);obtain⟨lk,iL⟩:∃lk,(((((((((aY.setCell (w,1,0) r.1).setCell (w,1,1) ar).setCell (w,1,2) au).setCell (w,1,3) au).setCell (w,1,4) ar).setCell (w,1,5) aH).setCell (w,1,6) ar).setCell (w,1,7) ar).setCell (w,1,8) (.bool false))=lk:=⟨_,rfl⟩;rw[iL]at g9 lx;rw[iL];revert lk lx g9 iL
 exact aP.1):p:=h ⟨k⟩
def ahG(h:p:=by
 go_roundg (gk - 1);case measure=>omega
 case rel=>
  refine⟨k+1,_,_,_,J,rfl,by go_num,?_,?_,?_⟩
  ·exact(de.ext X).grow cv (b7.ext X) af af af
  ·rw[iX hk];exact dW
  ·exact((jk.alloc _).wS cv.dT (λb aa=>by obtain⟨ai,aj,rfl⟩:=aa;exact .inr (b7.lt ai aj).1))):p:=h
def JY(h:p:=by
 go_wp2;go_ret;refine⟨iW (by rw[bN.out,H.out]),?_⟩
 exact X):p:=h
def alE(k:q) (h:bD q->p:=by
 intro aP;refine H6 (ys0:= []) (ys:=c.ps) (c:=dD) rfl (.const aH) (.tmp 62) 22 3 rfl ca _ 8 underlying22 bJ bF bG bK rfl af rfl (Own.nil (df) bp 3 dD.rM) (show Z bp _ from X).size rfl (tD.ext X) dD.nt J af J ?_;intro ee ea et mE bW;simp only[om]at mE ⊢;have He:=I (bW.ext (Own.nil (df) (df).heap.size 3 dD.rM) (bA _) (Z.refl (df)));replace mE:=I mE;clear bW;revert ee ea et He mE
 exact aP.1):p:=h ⟨k⟩
def alF(k:q) (h:bD q->p:=by
 intro aP;refine H6 (ys0:= []) (ys:=c.ps) (c:=dD) rfl (.const aH) (.tmp 62) 22 3 rfl ca _ 8 underlying22 bJ bF bG bK rfl af rfl (Own.nil (eb) bp 3 dD.rM) (show Z bp _ from X).size rfl (tD.ext X) dD.nt J af J ?_;intro ee ea et mE bW;simp only[om]at mE ⊢;have He:=I (bW.ext (Own.nil (eb) (eb).heap.size 3 dD.rM) (bA _) (Z.refl (eb)));replace mE:=I mE;clear bW;revert ee ea et He mE
 exact aP.1):p:=h ⟨k⟩
def agI(k:q) (h:bD q->p:=by
 intro aP;refine B3 bV bV ?_;repeat (first|go_big_quiet_step (((go_at_call 17;exact Calls.nL (ou s (ag.map (·.x)) x.id _ (bL.out.ext (fo.ct _))) (eP Value.bool cm.out))))|quiet_step (((go_at_call 17;exact Calls.nL (ou s (ag.map (·.x)) x.id _ (bL.out.ext (fo.ct _))) (eP Value.bool cm.out)))))
 exact aP.1):p:=h ⟨k⟩
def N9(h:p:=by
 simp[results,results77,go_sem,z0,cU,z2,z3,z4,z5,ga,fk,rb,z9,H3,H4,z12,di]):p:=h
def Lp(k:q) (h:bD q->p:=by
 intro aP;have ln:=bC.jD bN bB af af af;have ni:=(bN.block _ (bT ax) (by have:=N.out;omega)).trans ax;revert ln ni
 exact aP.1):p:=h ⟨k⟩
def Sp(k:q) (h:bD q->p:=by
 intro aP;rintro e w1⟨rfl,c6,h8⟩;have cm:w1.heap[(w:Nat)]?=some (Wh:Obj):=(h8.block _ (by simp) J).trans (heap_alloc_new _ _);change Hid _ at c6 h8 cm;revert w1 c6 h8 cm
 exact aP.1):p:=h ⟨k⟩
def Ss(k:q) (h:bD q->p:=by
 intro aP;rw[nJ];have DV:aG (·=p) w aY:=(((aG.refl _ w).alloc _).trans h8).trans (jk.trans iK);have hblk:=(hy.block _ FZ).trans fT;revert DV hblk
 exact aP.1):p:=h ⟨k⟩
def adg(k:q) (h:bD q->p:=by
 intro aP;go_wp2_with fail;go_must (refine(WZ xs[k].m xs[k].vs false i w.heap.size _ (bN.ext X) (Z.ah (W:=wr) X ca) (Z.ah (W:=wr) X i1) (Z.ah (W:=wr) X ht)).mono ?_);rintro e w'⟨rfl,hy⟩;have bq:=hy.cell;change Hid _ at hy;rw[an.out];go_wp2_with fail;go_must (refine(WZ xs[k].m xs[k].vs true i w.heap.size _ (bN.ext X) (Z.ah (W:=wr) X ca) (Z.ah (W:=wr) X i1) (Z.ah (W:=wr) X ht)).mono ?_);rename_i kd mF q3 r8 JM JN;revert kd mF w' bq hy q3 r8 JM JN
 exact aP.1):p:=h ⟨k⟩
def ajk(k:q) (h:bD q->p:=by
 intro aP;go_wp2_with fail;refine B3 bV bV ?_;repeat (first|go_big_quiet_step ((go_at_call 148;exact Calls.nL (Ps (H.ext (bz.trans (fo.ct _)))) (eP Value.bool UR)))|quiet_step ((go_at_call 148;exact Calls.nL (Ps (H.ext (bz.trans (fo.ct _)))) (eP Value.bool UR))))
 exact aP.1):p:=h ⟨k⟩
def Le(k:q) (h:bD q->p:=by
 intro aP;refine aL _ _ (λ_=>(by(try dsimp only);exact⟨dJ,hx,iw⟩)) λhH=>eY ?_;have a7:=hH af;revert hH a7
 exact aP.1):p:=h ⟨k⟩
def PQ(k:q) (h:bD q->p:=by
 intro aP;refine aL _ _ ?_ (λhH=>?_)
 focus (intro _;(try dsimp only);exact X)
 skip;have a7:=hH af;clear hH;refine eY ?_;revert a7
 exact aP.1):p:=h ⟨k⟩
def Rs(h:p:=by
 go_wp2
 all_goals
  go_ret
  refine⟨iW (by unfold Ay;rw[H.out];simp_all),?_⟩
  exact X):p:=h
def agK(k:q) (h:bD q->p:=by
 intro aP;have a6:(aY.alloc bX).heap[gr]?=some (.cells #[q] 173):=Z.aB (W:=w) X ao.out;have al:(aY.alloc bX).heap[fI]?=some (.cells #[r.k,ad (r.n:Int),x.k,x.id.b,ad x.id.l,ad x.id.s,x.c,ad x.u,x.f,x.e,r.id.b,ad r.id.l,ad r.id.s] 169):=Z.aB (W:=w) X ax.out;have bo:(aY.alloc bX).heap[(w:Nat)]?=some (x.id:Obj):=Z.aB (W:=w.alloc x.id) X (fi rfl);revert a6 al bo
 exact aP.1):p:=h ⟨k⟩
def Jt(k:q) (h:bD q->p:=by
 intro aP;refine aL _ _ (λ_ h=>absurd rfl h) λ_=>eY ?_;refine YN bV ?_ _;rename_i kd;revert kd
 exact aP.1):p:=h ⟨k⟩
def ahy(h:p:=by
 go_wp2_with fail;go_roundg (gk - 1);case measure=>omega
 case rel=>
  refine⟨k+1,_,_,_,J,rfl,by go_num,k5,?_,X⟩;have h:=b7.out;refine SA ?_
  exact HS):p:=h
def Y2(k:q) (h:bD q->p:=by
 intro aP;refine lQ 0 (·.1) ?_;refine lQ 1 (·.1) ?_;refine gO 2 ?_;refine gO 3 ?_;refine lQ 4 (·.2.2) ?_;refine gO 5 ?_;refine lQ 6 (·.2.1) ?_;refine kW 7 λK aL=>?_;go_simp;revert K aL
 exact aP.1):p:=h ⟨k⟩
def ye(k:q) (h:bD q->p:=by
 intro aP;refine cX 9 ?_;refine hE 10 λK aL=>?_;go_simp;revert K aL
 exact aP.1):p:=h ⟨k⟩
def Sq(k:q) (h:bD q->p:=by
 intro aP;rintro e aN⟨rfl,de,jk⟩;have gj:aN.heap[w.heap.size]?=some (Wh:Obj):=(jk.block _ (bT cm) J).trans cm;change Hid _ at de jk gj;revert aN de jk gj
 exact aP.1):p:=h ⟨k⟩
def ah4(h:p:=by
 unfold jn at h;simp only[ke,jQ,uL,qI]at h;refine⟨h.2.1,λk ae ak=>?_⟩;have:=h.2.2 k ak;unfold A7 at this;simp only[xh,ke,jQ,beq_iff_eq]at this
 omega):p:=h
def acS(k:q) (h:bD q->p:=by
 intro aP;refine(MX _ _ _ xs (λs:ck=>decide (qF s.d x.c x.u<0)) 179 ⟨w.heap.size+1,0,none⟩ wE (av.aF.ext nv) J (λ_ _=>by kernel_rfl) (λs _ w' hw=>aoK s w.heap.size (w.heap.size+1) x.c x.u w' (hw.ah e2) (hw.ah wF) (hw.ah ay))).mono ?_;rintro e w1⟨aw,m,aQ,rfl,ba,oM⟩;have vA:=WQ ba.neq an;replace oM:=I oM;replace ba:=I ba;have cT:=oM.ah b0;revert w1 aw m aQ vA oM ba cT
 exact aP.1):p:=h ⟨k⟩
def YR(h:p:=by
 have ae:=ch.out.1.cg.neq;have ak:=eP List.length ch.out.2;rw[cr,cr,o9]at ak;omega):p:=h
def XF(k:q) (h:bD q->p:=by
 intro aP;refine(j6 _ _ _ _ q _ (cz.aF) qc J).mono ?_;rintro e b3⟨a4,pF,dJ,rfl,dW,fv⟩;have Cm:pF<=70:=by
  have ae:=dW.neq;have ak:=hg q;have aM:=(cz.aF).neq;rw[cH]at ae;omega
 revert b3 a4 pF dJ dW fv Cm
 exact aP.1):p:=h ⟨k⟩
def alH(k:q) (h:bD q->p:=by
 intro aP;refine ed 3 ?_;refine Ei 4 (·.ah alG) ?_;refine ed 5 ?_;refine ed 6 ?_;refine ed 7 ?_;refine Ei 8 (·.ah tF) ?_;refine ed 9 ?_;refine ed 10 ?_;refine ed 11 ?_;refine Ei 12 (·.ah Av) ?_;refine ed 13 ?_;refine ed 14 ?_;refine Ei 15 (·.ah qX) ?_;refine lh 16 λK aL=>?_;go_simp;go_at_call 66;revert K aL
 exact aP.1):p:=h ⟨k⟩
def W6(k:q) (h:bD q->p:=by
 intro aP;obtain⟨cT,c1,c2,da,dJ,dw,eC,eK⟩:=pd (w:=wr) (b:=b) (o:=o+k*8) (x:=xs[k].x) (λj v aJ=>U.ah (ao j v aJ));have bN:=I ((bU.ct xs[k] (c7 hk)).ext U);have eH:=I (DM xs[k] (c7 hk));revert cT c1 c2 da dJ dw eC eK bN eH
 exact aP.1):p:=h ⟨k⟩
def ahZ(h:p:=by
 go_enter func88,ntmps88;go_wp2_with (at_lookup;(refine Gw rfl (λK aL=>Pj _ _ rfl T3 underlying146 _ (auA _) rfl rfl ef rfl b8 ?_);rw[lM.out];refine aL _ _ ?_;clear aL K));go_ret2
 exact⟨rfl,X⟩):p:=h
def Wu(h:p:=by
 rw[he.out];go_wp2;go_roundg (gk - 1);case measure=>omega
 case rel=>exact⟨k+1,J,by go_num,Dm (p:=p) hk eO he,X⟩):p:=h
def Tt(k:q) (h:bD q->p:=by
 intro aP;refine wpQuiet_nil ?_;intro _ sK;obtain⟨Qn,abO⟩:=sK;subst abO;obtain⟨cY,A2⟩:=Qn;dsimp only;change Hid _ at A2;revert cY A2
 exact aP.1):p:=h ⟨k⟩
def aiL(k:q) (h:bD q->p:=by
 intro aP;have mV:=I (jA.wS jq);have jo:=I (jq.bI su (λai aj=>(bC ai aj).2));have CX:=I (jq.row su bC);have I5:=I (λp aV=>nj.pJ jq kM (LP p aV));have me:=I (nj.pJ jq kM tB);have nE:=I (nj.pJ jq kM I4);have hG:=I ((jq.dT.block _ (bT iV) (λz=>z.elim (λy=>tC _ (kM.sP _ y) rfl) (λy=>tC _ (kM.sub _ y) rfl))).trans iV);revert mV jo CX I5 me nE hG
 exact aP.1):p:=h ⟨k⟩
def afR(h:p:=by
 rw[bj aW];have:dy c l (T+1) (w.hc n (.up {b with tx:=b.tx,ev:=b.ev})):=(Gh h).Ij ao.toka an al (bA _) (bA _) J (λt a6=>(aa.tx t a6).mn rfl rfl (bA _)) aa.rP aa.tk
 exact this):p:=h
def WX(k:q) (h:bD q->p:=by
 intro aP;have ca:wr.cell? (w,0)=some ↑i.b:=U.ah (by simp);have i1:wr.cell? (w,1)=some ↑(ad i.l):=U.ah (by simp);have ht:wr.cell? (w,2)=some ↑(ad i.s):=U.ah (by simp);revert ca i1 ht
 exact aP.1):p:=h ⟨k⟩
def HS(h:p:=by
 simp only[iI]at h ⊢
 exact h):p:=h
def Rv(h:p:=by
 rw[nI,cH,cI,hw,mv,Hr];omega):p:=h
def Sn(h:p:=by
 have h:=cR.out;unfold zI at h;simp only[List.append_assoc]at h;exact h.ext X):p:=h
def V6(h:p:=by
 (try dsimp only);exact⟨Z.aB (W:=bs) X dZ.out,Z.aB (W:=bs) X fX.out⟩):p:=h
def aeL(k:q) (h:bD q->p:=by
 intro aP;have av:=I a8;have c5:=I aD;go_enter func77,ntmps77;go_wp2_with fail;refine(Kp _ _ _ _ _ (av.out.ext X) J).mono ?_;rintro e w1⟨p,rfl,ng,xC,fg⟩;have mO:(w:Nat)<p:=by simp at ng;omega
 have Kz:w1.heap[(w:Nat)]?=some (.cells #[ar,au,ar,ar,au,au,ar,au,aH,aH,ar,au,au] 169):=(fg.block _ (by simp)).trans (heap_alloc_new _ _);have bw:=I (((Z.refl w).alloc _).trans fg);have c6:=I xC;have km:=I Kz;go_wp2_with fail;rename_i kd mF q3 r8;revert av c5 w1 p ng xC fg mO Kz bw c6 km kd mF q3 r8
 exact aP.1):p:=h ⟨k⟩
def adn(h:p:=by
 go_roundg (gk - 1);case measure=>omega
 case rel=>exact⟨k+1,_,_,_,J,by go_num,rfl,(by rw[lp.out,apA (by rw[av.out];decide) (by have:=vD.out;omega),av];exact jt),bW.ext (aE.ext X) (bA _) X⟩):p:=h
def ahK(k:q) (h:bD q->p:=by
 intro aP;have oA:=(h4.block _ (by have:=bT po;simp;omega) J).trans ((show Z aN (aN.alloc _)from(Z.refl aN).alloc _).aB po);have c9:Z w aY:=(h4.mono (S':=λb=>(w:Nat)<=b) (λb _ aa=>by have:b=p:=aa;omega)).ext (λb aa=>aa) (bz.alloc _);have Gu:(w:Nat)<(aN:Nat):=bT po;have Ez:p<(aN:Nat):=de.hn.lt;revert oA c9 Gu Ez
 exact aP.1):p:=h ⟨k⟩
def WB(k:q) (h:bD q->p:=by
 intro aP;obtain⟨cT,c1,c2,da⟩:=Rn (w:=wr) (b:=b) (o:=o+k*4) (x:=xs[k]) (λj v aJ=>U.ah (ao j v aJ));revert cT c1 c2 da
 exact aP.1):p:=h ⟨k⟩
def ad0(k:q) (h:bD q->p:=by
 intro aP;have he:P.elem t=e:=by simp[Program.elem,a6]
 have hs:(sizeOf e).run P w=.ok sz w:=by
  cases bq:P.info? e with
  |none=>simp[bq]at fS
  |some i=>
        have:i.size=sz:=by simpa[bq]using fS
        simp[sizeOf,typeInfo,bq,this]
 have mG:=run_slice_h (P:=P) w t sa n cap (by rw[he];exact a6) kk k J J;revert he hs mG
 exact aP.1):p:=h ⟨k⟩
def alW(k:q) (h:bD q->p:=by
 intro aP;have il:Z w (w.alloc i):=X;have tU:(w.alloc i).heap[(w:Nat)]?=some (i:Obj):=fi rfl;obtain⟨et,pt⟩:∃et,w.alloc i=et:=⟨_,rfl⟩;rw[pt]at il tU;obtain⟨dc,fL,dS⟩:=iE tU;revert et tU il pt dc fL dS
 exact aP.1):p:=h ⟨k⟩
def ajh(k:q) (h:bD q->p:=by
 intro aP;obtain⟨ag,ps,ec⟩:=H.dQ.st;have qJ:ag.length=b.st.ag.length:=by rw[<-ec.j9,cr]
 have sB:=ec.l.aF.neq;have hm:=ec.l.aF.max;have gV:=ec.l.aF.len;unfold maxLen at hm;obtain⟨fG,vh⟩:∃fG,v.s.l.a=fG:=⟨_,rfl⟩;obtain⟨lc,E5⟩:∃lc,v.s.l.c=lc:=⟨_,rfl⟩;have bL:=ec.l;have gp:=H.box;rw[vh,E5,sB]at bL;rw[vh,E5,sB]at gp;rw[E5]at hm;rw[sB,E5]at gV;have bM:=I ec.j9;revert ag ps ec qJ sB fG vh lc gV hm E5 bL gp bM
 exact aP.1):p:=h ⟨k⟩
def agf(h:p:=by
 ·refine YL m J agd Th ?_ OM;by_cases am7:j=m
  ·subst am7;exact OK
  ·rwa [getD_set_ne true am7]at age):p:=h
def If(k:q) (h:bD q->p:=by
 intro aP;refine Gw rfl (λK aL=>Pj _ _ rfl EP underlying85 _ (Vw _) rfl rfl (ef.ext bU) rfl oI ?_);rw[cv.out,av.out];refine aL _ _ ?_;revert K aL
 exact aP.1):p:=h ⟨k⟩
def RW(k:q) (h:bD q->p:=by
 intro aP;have eI:=((Z.refl w).alloc x).ah aW;have bQ:=((Z.refl w).alloc x).ah ae;have bY:=((Z.refl w).alloc x).ah ak;revert eI bQ bY
 exact aP.1):p:=h ⟨k⟩
def Rt(k:q) (h:bD q->p:=by
 intro aP;obtain⟨cT,c1,c2,da,dJ⟩:=abZ (w:=wr) (b:=b) (o:=o+k*5) (x:=xs[k]) (λj v aJ=>U.ah (ao j v aJ));revert cT c1 c2 da dJ
 exact aP.1):p:=h ⟨k⟩
def ak1(h:p:=by
 ·by_cases e:k=n
  ·subst e;simp only[bm]at U;rcases py x U with z|z
   ·exact h.uB k hk x z hw
   ·exact absurd (h.cx x (h.qv x hw)) J
  ·simp only[bj e]at U;exact h.uB k hk x U hw):p:=h
def aiE(h:p:=by
 ·cases aj;refine⟨.inr rfl,?_⟩;rcases py with h|h
  ·exact h.2
  ·exact⟨λk=>by have:=ho _ (br.sP _ k);simp only at this;omega,λk=>by have:=ho _ (br.sub _ k);simp only at this;omega⟩):p:=h
def ahs(h:p:=by
 rintro e aN⟨cE,cZ,c2,rfl,b7,cj⟩;change Hid _ at b7 cj;go_wp2;go_ret;refine⟨cE,cZ,c2,rfl,?_,X⟩;have h:=b7.mono (aDn:=(w:Nat)) (Z.size X);unfold uh;rw[iI]at h
 exact h):p:=h
def al8(h:p:=by
 (try dsimp only at iA);(have dV:=aI (o:=6) iA.1 rfl;rw[show(#[v.cD,v.aj,v.lT,v.aX,.map (some v.dg),v.fJ,v.go]:Array Value)[6]=Value.slice v.go.a v.go.n v.go.c from rfl,Hg,azT]at dV);exact IG):p:=h
def MO(k:q) (h:bD q->p:=by
 intro aP;have H:=I (show a.v.BV b.v=oj a.k a.n a.s.toList b.k b.n b.s.toList from rfl);revert H
 exact aP.1):p:=h ⟨k⟩
def Rx(h:p:=by
 ·intro u al;obtain⟨y,_,hy⟩:=Kn.1 al
  exact ae y u hy):p:=h
def W4(h:p:=by
 exact⟨aE.out.1.ext X,aE.out.2.1,λy hy=>(aE.out.2.2.1 y hy).ext X,aE.out.2.2.2.ext X⟩):p:=h
def adC(h:p:=by
 exact⟨aE.out.1.ext X,aE.out.2.1.ext X,aE.out.2.2.1,aE.out.2.2.2.1,aE.out.2.2.2.2.1,(λy hy=>(aE.out.2.2.2.2.2.1 y hy).ext X),(λy hy=>(aE.out.2.2.2.2.2.2 y hy).ext X)⟩):p:=h
def aep(k:q) (h:bD q->p:=by
 intro aP;have tb:aN.heap[(w:Nat)]?=some (kR:Obj):=(eW.block _ (by have:=bT km;simp;omega) J).trans ((((Z.refl w1).alloc _).block _ (bT km)).trans km);have tc:aN.heap[(w1:Nat)]?=some (.cells #[(q:Int),au,au] 54):=(eW.block _ (by simp) J).trans (heap_alloc_new _ _);revert tb tc
 exact aP.1):p:=h ⟨k⟩
def XQ(h:p:=by
 have ae:=aK.neq;have ak:=hg 0;have aM:=((b7.aF.ext X)).neq;rw[cH]at ae;omega):p:=h
def aao(k:q) (h:bD q->p:=by
 intro aP;have hB:(w.alloc i).heap[(w:Nat)]?=some (i:Obj):=fi rfl;have il:Z w (w.alloc i):=X;obtain⟨et,pt⟩:∃et,w.alloc i=et:=⟨_,rfl⟩;rw[pt]at hB il;revert et il hB pt
 exact aP.1):p:=h ⟨k⟩
def t6(k:q) (h:bD q->p:=by
 intro aP;have bS:c8 o4.ag n=false:=z n;have bE:c8 o4.e9 n=false:=z n;have eV:c8 o4.aw n=false:=z n;have gU:(decide (n=0)&&o4.e0)=false:=FH _;revert bS bE eV gU
 exact aP.1):p:=h ⟨k⟩
def Zp(h:p:=by
 go_wp2_with fail;go_roundg (gk - 1);case measure=>omega
 case rel=>exact⟨k+1,J,rfl,by go_num,X⟩):p:=h
def aei(h:p:=by
 go_wp2_with fail;go_roundg (gk - 1);case measure=>omega
 case rel=>exact⟨k+1,_,_,_,J,by go_num,rfl,rfl,(by rw[iX hk];(rw[tT.out];exact qb)),yS,zP⟩):p:=h
def SA(k:q) (h:bD q->p:=by
 intro aP;rw[iX hk,xk,MK]
 exact aP.1):p:=h ⟨k⟩
def ac8(h:p:=by
 go_wp2_with (go_at_call 48;refine(apb _ _ _ xs i _ (av.ext (((Z.refl _).alloc _).alloc _))).mono ?_;rintro e w'⟨rfl,U⟩;change Hid _ at U);go_ret;refine⟨rfl,?_⟩
 exact X):p:=h
def Ex(k:q) (h:bD q->p:=by
 intro aP;refine Io rfl (λK aL=>?_) K5;go_simp;revert K aL
 exact aP.1):p:=h ⟨k⟩
def afW(h:p:=by
 induction l with
 |nil=>intro k;rfl
 |cons x l cI=>
  intro k;cases k with
  |zero=>rfl
  |succ k=>rw[tj,Tc,Tc,tj,cI]):p:=h
def SE(k:q) (h:bD q->p:=by
 intro aP;have fH:gv L:=by unfold kP at aT;unfold gv;omega
 have zR:gv S:=by unfold kP at hs;unfold gv;omega
 revert fH zR
 exact aP.1):p:=h ⟨k⟩
def Pv(k:q) (h:bD q->p:=by
 intro aP;refine gO 0 ?_;refine gO 1 ?_;refine gO 2 ?_;refine gO 3 ?_
 exact aP.1):p:=h ⟨k⟩
def EN(k:q) (h:bD q->p:=by
 intro aP;refine aL _ _ (λ_=>Bg) λhH=>eY ?_;have a7:=hH af;revert hH a7
 exact aP.1):p:=h ⟨k⟩
def ahE(k:q) (h:bD q->p:=by
 intro aP;go_simp;go_at_call 129;refine(SH _ _ _ d _ (Bp) c5 (by have:=Kx c5;omega)).mono ?_;rintro e cV⟨x,rfl,w5,rX⟩;replace w5:=I w5;replace rX:=I rX;refine aL _ _ (by(try dsimp only);exact(Bo.ext rX).box) λa7=>eY ?_;refine Zu ?_;revert cV x w5 rX a7
 exact aP.1):p:=h ⟨k⟩
def adS(h:p:=by
 obtain⟨b',ks,jS,ao⟩:=h.get k hk;simp only[Option.some.injEq,Addr.mk.injEq,FJ]at jS;obtain⟨rfl,rfl⟩:=jS;have:=ao 0 _ rfl;rw[jT]at this
 exact this):p:=h
def aeC(h:p:=by
 change Hid _ at bb c5;go_enter func133,ntmps133;go_wp2_with fail;refine qA (HX x d _ (bb.ext X) c5) λw1 bw=>?_;go_wp2;go_ret;refine⟨rfl,?_⟩
 exact X):p:=h
def adX(k:q) (h:bD q->p:=by
 intro aP;refine wpList_plain np λK aL=>?_;have he:P.elem t=e:=by simp[Program.elem,a6]
 have hs:(sizeOf e).run P w=.ok 1 w:=by
  cases bq:P.info? e with
  |none=>simp[bq]at fS
  |some i=>
        have:i.size=1:=by simpa[bq]using fS
        simp[sizeOf,typeInfo,bq,this]
 revert K aL he hs
 exact aP.1):p:=h ⟨k⟩
def WO(k:q) (h:bD q->p:=by
 intro aP;have fm:=((Z.refl w).alloc (.cells #[x.c,ad x.u,x.f] 256)).ah bn;have iQ:=((Z.refl w).alloc (.cells #[x.c,ad x.u,x.f] 256)).ah cb;revert fm iQ
 exact aP.1):p:=h ⟨k⟩
def ahO(k:q) (h:bD q->p:=by
 intro aP;have bB:=(al.block _ (bT Bs) (by have:=N.out;omega)).trans Bs;have ax:=(al.block _ (bT EB) (by have:=N.out;omega)).trans EB;have U:=(al.mono (S':=λb=>(w:Nat)<=b) (λb _ bB=>by have:b=p:=bB;have:=N.out;omega)).ext (λb bB=>bB) Gv;have fS:=al.size;revert bB ax U fS
 exact aP.1):p:=h ⟨k⟩
def ahN(k:q) (h:bD q->p:=by
 intro aP;have bB:=(al.block _ (bT Ah) (by have:=N.out;omega)).trans Ah;have ax:=(al.block _ (bT Br) (by have:=N.out;omega)).trans Br;have U:=(al.mono (S':=λb=>(w:Nat)<=b) (λb _ bB=>by have:b=p:=bB;have:=N.out;omega)).ext (λb bB=>bB) CJ;have fS:=al.size;revert bB ax U fS
 exact aP.1):p:=h ⟨k⟩
def Yx(h:p:=by
 rcases i1 d h with h|h
 ·exact Oy (key.1 d h)
 ·exact .inr (kA _ h)):p:=h
def ahH(h:p:=by
 ·have nR:xs.take k=xs:=ir J;rw[nR]at aE;rw[NW J]at bC;clear nR;go_wp2;go_ret
  exact⟨ab,m,aQ,rfl,aE,bC,al⟩):p:=h
def acH(h:p:=by
 go_roundg (gk - 1);case measure=>omega
 case rel=>exact⟨k+1,_,_,_,J,by go_num,rfl,J,by(rw[aos hk he.out];exact cz),cv.ext (aE.ext X) (bA _) X⟩):p:=h
def alD(k:q) (h:bD q->p:=by
 intro aP;obtain⟨eb,kK⟩:∃qC,(et).alloc (.map #[] 0)=qC:=⟨_,rfl⟩;have jA:=I (show fl eb prog 54 (et).heap.size 0 0 (λ_=>none)from by subst kK;exact fl.CL _ _ _);have vb:=I (show Z (et) eb from by subst kK;exact X);rw[kK];clear kK;revert eb jA vb
 exact aP.1):p:=h ⟨k⟩
def ai8(k:q) (h:bD q->p:=by
 intro aP;refine(bc _ X).mono ?_;rintro e aN⟨cE,cZ,c2,wa,rfl,oO,kc,cj⟩;have bz:=I cj;have b7:=I (oO.mono (aDn:=(w:Nat)) (Z.size X));change Hid _ at kc;clear oO cj;revert aN cE cZ c2 wa bz b7 kc
 exact aP.1):p:=h ⟨k⟩
def alC(k:q) (h:bD q->p:=by
 intro aP;obtain⟨df,kK⟩:∃qC,(et).alloc (.map #[] 0)=qC:=⟨_,rfl⟩;have iq:=I (show fl df prog 3 (et).heap.size 0 0 (λ_=>none)from by subst kK;exact fl.CL _ _ _);have yx:=I (show Z (et) df from by subst kK;exact X);rw[kK];clear kK;revert df iq yx
 exact aP.1):p:=h ⟨k⟩
def XE(k:q) (h:bD q->p:=by
 intro aP;have vJ:gF<=60:=by
  have ae:=cz.neq;have ak:=AW ⟨b,l,s⟩;have bn:=b7.neq;rw[cH,<-bn]at ae;omega
 revert vJ
 exact aP.1):p:=h ⟨k⟩
def ais(h:p:=by
 have ae:s.d∈j1 (b.st.ag.take k):=by rw[<-ku.out];exact mJ hs
 have:s.d.ts.length<=100:=ZW fP k s.d ae
 exact eh this J):p:=h
def aeO(k:q) (h:bD q->p:=by
 intro aP;have F4:=aeN.qd ((Z.refl _).alloc x);have SJ:=(aeM.j8 nU.b af af af (aqS (S:=λx=>x=(aN:Nat)) (aG.refl _ _) (R:=(aN:Nat)) (.inl rfl) x.k x.id.b (ad x.id.l) (ad x.id.s) x.c (ad x.u) x.f x.e)).ext ((Z.refl _).alloc x);have alr:=I F4;have zP:=I SJ;revert F4 SJ alr zP
 exact aP.1):p:=h ⟨k⟩
def YS(h:p:=by
 ·rw[gS,ch.out.2,iX hk,gS];rfl):p:=h
def Lm(k:q) (h:bD q->p:=by
 intro aP;refine cX 4 ?_;refine cX 5 ?_;refine cX 6 ?_
 exact aP.1):p:=h ⟨k⟩
def acI(h:p:=by
 rw[he.out];go_wp2;go_roundg (gk - 1);case measure=>omega
 case rel=>exact⟨k+1,aw,m,aQ,J,by go_num,rfl,J,by(rw[aot hk he.out];exact aE.ext X),X⟩):p:=h
def R5(h:p:=by
 rw[<-uU.out];rw[apO,<-p8.out,<-eM.out];exact b8):p:=h
def J1(k:q) (h:bD q->p:=by
 intro aP;go_wp2_with fail;go_step3;go_wp2_with fail;go_step3;go_wp2_with fail;rename_i kd mF;revert kd mF
 exact aP.1):p:=h ⟨k⟩
def amu(k:q) (h:bD q->p:=by
 intro aP;have bz:Z bs (w1.alloc i):=bx.alloc _;have w8:(w1.alloc i).heap[(w1:Nat)]?=some (i:Obj):=fi rfl;obtain⟨aN,pq⟩:∃aN,w1.alloc i=aN:=⟨_,rfl⟩;rw[pq]at bz w8;rw[pq];replace bz:=I bz;replace w8:=I w8;have zn:=I (bz.aB dZ);have b7:=I (bz.aB fX);revert aN pq bz w8 zn b7
 exact aP.1):p:=h ⟨k⟩
def aef(k:q) (h:bD q->p:=by
 intro aP;refine(j6 _ _ _ [] xs.length _ (a1.nil _ cp.bH) (by unfold gv;omega) J).mono ?_;rintro e aN⟨cE,cZ,c2,rfl,aE,cj⟩;rw[lq]at aE;have k5:cZ<=20:=by rw[aE.neq];have:=hg xs.length;omega
 have b7:=I (aE.mono (aDn:=(w:Nat)) (Z.size X));change Hid _ at cj;revert aN cE cZ c2 aE k5 b7 cj
 exact aP.1):p:=h ⟨k⟩
def adB(k:q) (h:bD q->p:=by
 intro aP;have gp:(wr.alloc xs[k].x).heap[(wr:Nat)]?=some (xs[k].x:Obj):=heap_alloc_new _ _;obtain⟨dc,fL,dS,k1,j5,l1,l2,l3⟩:=lI (show(wr.alloc xs[k].x).heap[(wr:Nat)]?=some (.cells #[xs[k].x.k,xs[k].x.id.b,ad xs[k].x.id.l,ad xs[k].x.id.s,xs[k].x.c,ad xs[k].x.u,xs[k].x.f,xs[k].x.e] _ _)from gp);revert gp dc fL dS k1 j5 l1 l2 l3
 exact aP.1):p:=h ⟨k⟩
def Kv(k:q) (h:bD q->p:=by
 intro aP;rintro e aN⟨rfl,mP,eW⟩;have kn:=(eW.block _ (bT km) J).trans km;revert aN mP eW kn
 exact aP.1):p:=h ⟨k⟩
def aki(k:q) (h:bD q->p:=by
 intro aP;rw[bm rfl];refine akh _ (λj aJ=>?_) (λj aJ=>?_) rfl rfl rfl rfl ?_
 ·clear aP;show c8 (pZ s.ag 0 true) j=_;rw[vm,bj aJ]
 ·clear aP;show c8 (pZ s.aw 0 false) j=_;rw[vm,bj aJ]
 exact aP.1):p:=h ⟨k⟩
def ai9(h:p:=by
 refine wpAnyH_done bV ?_ _;go_wp2;go_ret2
 exact⟨cE,cZ,c2,wa,rfl,b7,kc,X⟩):p:=h
def In(k:q) (h:bD q->p:=by
 intro aP;have c5:=I (show decide (0<=n/\n<(c.ps.length:Int))=false from lo aW);revert c5
 exact aP.1):p:=h ⟨k⟩
def afQ(k:q) (h:bD q->p:=by
 intro aP;have Gh:∀{w:aZ},dy c l T w->dy c l (T+1) w:=λh=>⟨λn b an al=>⟨(h.up n b an al).1,by have:=(h.up n b an al).2;omega⟩,h.down,λn an=>by have:=h.cO n an;omega,h.cC,h.ay,h.h5,h.Bc,h.len,h.CA,h.CB⟩;revert Gh
 exact aP.1):p:=h ⟨k⟩
def ad1(k:q) (h:bD q->p:=by
 intro aP;have bf:(if cap=0 then sa else sa.map (·.add (0*sz)))=sa:=by
  split
  ·rfl
  ·cases sa with
   |none=>rfl
   |some ai=>
    obtain⟨b,o,q⟩:=ai;have:=adZ _ rfl;simp only at this;subst this;simp[Addr.add]
 revert bf
 exact aP.1):p:=h ⟨k⟩
def amc(k:q) (h:bD q->p:=by
 intro aP;refine Gw rfl (λK aL=>Pj _ _ rfl EP underlying85 _ (Vw _) rfl rfl (ef.ext (cS.trans bU)) rfl oI ?_);rw[cv.out,av.out,dA.out];refine aL _ _ ?_;clear aL K
 exact aP.1):p:=h ⟨k⟩
def XG(k:q) (h:bD q->p:=by
 intro aP;have hh:=hj.mono (aDn:=(w:Nat)) (Z.size X);simp only[lq,iI]at hh;replace hh:=I hh;revert hh
 exact aP.1):p:=h ⟨k⟩
def amp(k:q) (h:bD q->p:=by
 intro aP;refine aL _ _ (λ_ _=>(by(try dsimp only);exact⟨pX,MB⟩)) λhH=>eY ?_;have a7:=hH rfl af;refine ed 8 ?_;refine ed 9 ?_;obtain⟨-,cU,mx⟩:=Sj pX;refine lh 10 λK aL=>?_;go_simp;obtain⟨df,xg⟩:∃df,cV.setCell (Q,1) (.slice (some (g6,0)) (n+1) eC)=df:=⟨_,rfl⟩;revert hH a7 cU mx K aL df xg
 exact aP.1):p:=h ⟨k⟩
def am5(h:p:=by
 change Hid _ at aa;go_wp2;go_ret
 exact⟨by unfold Ix;rw[aa.out];rfl,(qR.cC (v:=.bool true) (e:=.returned (.bool true)) X ⟨rfl,ef⟩).2⟩):p:=h
def amx(h:p:=by
 obtain⟨f1,f2⟩:=mf.wb q0 cS J (by have:=iB.out;omega) fu lx
 exact⟨⟨r.1,⟨0,0,0⟩,0,⟨none,0,0⟩,0,0,false⟩,_,_,rfl,rfl,f1,f2⟩):p:=h
def Zc(h:p:=by
 (try dsimp only);exact Z.aB (W:=aN) X z0):p:=h
def RQ(h:p:=by
 ·exact eh (bL y (mI.1 hy).1) af):p:=h
def adj(h:p:=by
 ·have Kb:(16:Int)<=(m:Int):=J;go_wp2_with fail;rw[nJ];go_ret
  exact Dq.mk (aE.ext X) X (adi (by have:=vD.out;omega))):p:=h
def V4(k:q) (h:bD q->p:=by
 intro aP;go_simp;refine aL _ _ (by(try dsimp only);skip) λa7=>eY ?_;refine wpAnyH_done bV ?_ _;revert a7
 exact aP.1):p:=h ⟨k⟩
def Y4(k:q) (h:bD q->p:=by
 intro aP;refine B3 bV bV ?_;repeat (first|go_big_quiet_step ((fail))|quiet_step ((fail)))
 exact aP.1):p:=h ⟨k⟩
def XM(k:q) (h:bD q->p:=by
 intro aP;obtain⟨z0,cU,z2,z3,z4,z5,ga,fk,mx⟩:=kl (show cG.heap[(w:Nat)]?=some (.cells #[ar,ar,au,au,ar,au,(.slice none 0 0),(.slice none 0 0)] _ _)from jY.r);have di:=jY.fI;revert z0 cU z2 z3 z4 z5 ga fk mx di
 exact aP.1):p:=h ⟨k⟩
def VQ(h:p:=by
 go_wp2_with fail;go_ret2;rw[eZ.out]
 exact⟨rfl,X⟩):p:=h
def atH(h:p:=by
 ·have b9:ts.take k=ts:=ir J;rw[b9]at ch;clear b9;go_wp2;go_ret
  exact⟨aw,m,aQ,ys,rfl,ch.out.1,ch.out.2,mw⟩):p:=h
def Zv(k:q) (h:bD q->p:=by
 intro aP;have bd:(k:Int)<(xs.length:Int):=J;have zf:IntKind.u64.wrap ((k:Int)+1)=(k:Int)+1:=by simp only[IntKind.wrap_u64];omega
 revert bd zf
 exact aP.1):p:=h ⟨k⟩
def aeJ(k:q) (h:bD q->p:=by
 intro aP;have bS:w1.cell? (w,1)=some ↑(ad (0:Int)):=bw.ah (by simp);have g10:w1.cell? (w,10)=some ↑i.b:=bw.ah (by simp);have g11:w1.cell? (w,11)=some ↑(ad i.l):=bw.ah (by simp);have g12:w1.cell? (w,12)=some ↑(ad i.s):=bw.ah (by simp);revert bS g10 g11 g12
 exact aP.1):p:=h ⟨k⟩
def ae2(k:q) (h:bD q->p:=by
 intro aP;have gV:=l7.aF.len;have HC:∀ai,aw=some ai->ai.spot=none:=by
  intro ai aj;subst aj;rcases l7.row.2 with ⟨bo,_⟩|⟨g,aQ,cur,bo,_⟩
  ·cases bo
  ·simp only[Value.slice.injEq,Option.some.injEq]at bo;rw[bo.1]
 revert gV HC
 exact aP.1):p:=h ⟨k⟩
def ahw(h:p:=by
 exact⟨0,_,_,_,J,rfl,rfl,J,(by rw[DS,N1,mH];exact dn.mono (aDn:=(w:Nat)) (Z.size X)),X⟩):p:=h
def ahv(k:q) (h:bD q->p:=by
 intro aP;go_wp2_with fail;refine(j6 _ _ _ _ xs.length _ ((bB.ext X)) qc J).mono ?_;rintro e w1⟨cL,dv,c1,rfl,dn,bw⟩;have hY:dv<=n+10:=by
  have ae:=dn.neq;have ak:=hg xs.length;have aM:=((bB.ext X)).neq;rw[cH]at ae;omega
 change Hid _ at dn bw;have Gj:=hY;go_wp2_with fail;rename_i kd mF;revert w1 cL dv c1 hY dn bw Gj kd mF
 exact aP.1):p:=h ⟨k⟩
def aeh(h:p:=by
 rintro e eb⟨he,jl⟩;rw[zO.out]at he;subst he;replace jl:=I jl;go_wp2;go_ret2
 exact⟨ab,k,c,rfl,aE.ext (mq.trans jl),X⟩):p:=h
def adE(k:q) (h:bD q->p:=by
 intro aP;obtain⟨ca,bJ,bF,bG,bK⟩:=info_parts AM;have HK:=I AP;have AQ:=I (show ∀ai,aw=some ai->ai.block≠gr from λai aj=>by have:=(ba.lt ai aj).1;omega);have eI:(w.alloc x).heap[gr]?=some (.cells #[aq aw n cap] 42 (0,0)):=((Z.refl w).alloc _).aB ao;have bQ:=cell_of_one eI;revert ca bJ bF bG bK HK AQ eI bQ
 exact aP.1):p:=h ⟨k⟩
def aaz(h:p:=by
 (try dsimp only);exact⟨Z.aB (W:=aY) X Fi,Z.ah (W:=aY) X QK⟩):p:=h
def RU(h:p:=by
 go_ret;refine⟨iW (Wp _ _),?_⟩
 exact X):p:=h
def acb(k:q) (h:bD q->p:=by
 intro aP;have yE:j<n*sz:=by rw[<-hlen];exact(vv.1 aJ).1
 have hk:j / sz<ys.length:=by rw[<-a8.neq];exact Sa (by rw[L5];exact yE)
 obtain⟨b,off,jS,Rw⟩:=a8.get (j / sz) hk;simp only[Option.some.injEq]at jS;revert yE hk b off Rw jS
 exact aP.1):p:=h ⟨k⟩
def aaU(h:p:=by
 (try dsimp only);exact⟨Z.aB (W:=bs) X dZ,Z.aB (W:=bs) X fX⟩):p:=h
def Ta(h:p:=by
 rw[cH,KS];omega):p:=h
def aal(k:q) (h:bD q->p:=by
 intro aP;have ax:rA c aU.bR p cl=(none,210):=by unfold rA;rw[b5];dsimp only;rw[cB]
 revert ax
 exact aP.1):p:=h ⟨k⟩
def ahr(k:q) (h:bD q->p:=by
 intro aP;go_enter func212,ntmps212;go_wp2_with fail;refine(ahq _ _ _ xs id _ (av.ext X) bb J).mono ?_;rintro e w1⟨cL,dv,c1,rfl,dn,bw⟩;have hY:dv<=999900:=by
  have ae:=dn.neq;have ak:=AW id;have aM:=eu.out;rw[cH]at ae;omega
 change Hid _ at dn bw;go_wp2_with fail;rename_i kd mF q3 r8;revert kd mF w1 cL dv c1 hY dn bw q3 r8
 exact aP.1):p:=h ⟨k⟩
def i4(h:p:=by
 (repeat (first|exact uz.refl _|refine uz.alloc ?_ _|refine uz.drew ?_))):p:=h
def ak3(h:p:=by
 ·by_cases e:k=n
  ·subst e;simp only[bm]at U hy;exact zv x U hy
  ·simp only[bj e]at U hy;exact h.G9 k hk x U hy):p:=h
def agi(h:p:=by
 rcases nK.1 aJ with rfl|aJ
 ·exact wpOp_step aK (λrS aL=>h rS (λa w a8 fa=>aL a w ⟨a8,fa a8⟩))
 ·exact hs j aJ):p:=h
def adt(k:q) (h:bD q->p:=by
 intro aP
 go_loopg [3,8] (xs.length) (λg e1 st wr=>∃(k:Nat) (aw:Option Addr) (m aQ:Nat) (ys:List bO),g+k=xs.length/\st=.int .i64 k/\e1=.slice aw m aQ/\
  Hid (Own wr w 66 8 bO.cs aw m aQ ys/\ys.map (·.d)=(xs.take k).map (·.d)/\(∀y,y∈ys->fO wr w y.x y.d))/\Hid (Z w wr))
 case atStart=>clear aP;exact⟨0,none,0,0,[],J,rfl,rfl,⟨Own.nil _ _ _ bO.bH,rfl,(λy hy=>by cases hy)⟩,Z.refl _⟩
 rename_i kd mF q3 r8;revert gk wr u3 u5 u8 u9 u10 u11 u12 u13 u14 u15 u16 u17 hrel kd mF q3 r8
 exact aP.1):p:=h ⟨k⟩
def Pu(k:q) (h:bD q->p:=by
 intro aP;refine cX 6 ?_;refine cX 7 ?_;refine cX 8 ?_
 exact aP.1):p:=h ⟨k⟩
def ahM(k:q) (h:bD q->p:=by
 intro aP;have jH:B<(b3:Nat):=bT Ah;have rY:(w:Nat)<(b3:Nat):=J;obtain⟨ay,Pc⟩:∃b,b=(b3:Nat):=⟨_,rfl⟩;have gL:=I (show ay<=(b3:Nat)/\B<ay/\p<ay/\(w:Nat)<ay by omega);have N:=I (show(w:Nat)<B/\(w:Nat)<p/\p<B by omega);revert jH rY ay Pc gL N
 exact aP.1):p:=h ⟨k⟩
def ai2(h:p:=by
 go_simp;refine aL _ _ (absurd · af) λ_=>eY ?_;refine YN bV ?_ _;go_wp2;go_ret
 exact⟨M',bP,bZ,rfl,Uy,Gx.cC X⟩):p:=h
def Ve(k:q) (h:bD q->p:=by
 intro aP;refine akh _ (λ_ _=>rfl) (λ_ _=>rfl) rfl rfl rfl rfl ?_
 exact aP.1):p:=h ⟨k⟩
def ak0(h:p:=by
 ·by_cases e:k=n
  ·subst e;simp only[bm]at U;exact hs x U
  ·simp only[bj e]at U;exact bc.up x (h.sub k hk x U)):p:=h
def RP(h:p:=by
 ·exact(av.ts y (mI.1 hy).1).ext nv):p:=h
def amq(k:q) (h:bD q->p:=by
 intro aP;go_simp;go_at_call 183;refine(aAG mf aT r.2.1 r.1).mono ?_;rintro e aY⟨x,LR,V3,rfl,CH,qN,JH⟩;have h9:=(JH.dT.block _ (bT c6) (λk=>(q0.f.new _ k).elim fu (λz=>by have:=iB.out;omega))).trans c6;obtain⟨v0,v1,v2,v3,v4,v5,v6,gy,iC,pC⟩:=uX h9;replace h9:=I h9;replace qN:=I qN;replace JH:=I JH;replace CH:=I CH;revert aY x LR V3 v0 v1 v2 v3 v4 v5 v6 gy iC pC h9 qN JH CH
 exact aP.1):p:=h ⟨k⟩
def QG(k:q) (h:bD q->p:=by
 intro aP;rintro e w1⟨rfl,bx⟩;have aa:=bx.aB hB;replace bx:=I bx;revert w1 aa bx
 exact aP.1):p:=h ⟨k⟩
def avg(h:p:=by
 simp only[jQ,zy]at h ⊢;omega):p:=h
def acQ(h:p:=by
 go_wp2_with fail;refine qA (aoJ x ot c u _ fm iQ) λw1 hy=>?_;go_wp2;go_ret;refine⟨iW (by simp),?_⟩
 exact X):p:=h
def J3(k:q) (h:bD q->p:=by
 intro aP;refine qA (cy xs[k] (c7 hk) _ U) λw1 hy=>?_;revert w1 hy
 exact aP.1):p:=h ⟨k⟩
def aer(k:q) (h:bD q->p:=by
 intro aP;have yV:aG (λx=>x=w1.heap.size) aY (aY.setCell ⟨w1.heap.size,2,none⟩ (.int .u64 (S:Int))):=aG.setCell (S:=λx=>x=w1.heap.size) (aG.refl _ aY) ⟨w1.heap.size,2,none⟩ (.inl rfl) _;revert yV
 exact aP.1):p:=h ⟨k⟩
def ajc(k:q) (h:bD q->p:=by
 intro aP;obtain⟨dN,PX⟩:∃dN,(uy r.1 b.gX)=dN:=⟨_,rfl⟩;rw[PX];obtain⟨z0,cU,z2,mx⟩:=sn DX;have hF:=LZ DX dN.b (ad dN.l) (ad dN.s);revert dN PX z0 cU z2 mx hF
 exact aP.1):p:=h ⟨k⟩
def aek(h:p:=by
 ·rw[q]at he;subst he;change Hid _ at h;clear q;go_wp2;go_ret;refine⟨jC (by rw[h.out];rfl),?_⟩
  exact X):p:=h
def amS(h:p:=by
 go_enter func6,ntmps6;go_wp2_with fail;go_ret
 first|exact⟨false,rfl,X,λh=>by cases h⟩|exact⟨rfl,X⟩):p:=h
def XN(h:p:=by
 simp[results,results129,go_sem,z0,cU,z2,z3,z4,z5,ga,fk,di]):p:=h
def am6(h:p:=by
 (go_at_call 137;exact Calls.nL (yI s d.ay x.id _ (w2.out.ext (fo.ct _))) (eP Value.bool fT.out))):p:=h
def akr(h:p:=by
 simp at h;obtain⟨⟨⟨⟨⟨⟨⟨ae,ak⟩,aM⟩,bn⟩,cb⟩,ey⟩,iZ⟩,fs⟩:=h;subst ae ak aM bn cb ey iZ fs
 rfl):p:=h
def acB(h:p:=by
 ·go_wp2;go_ret;refine⟨rfl,?_⟩
  exact X):p:=h
def St(h:p:=by
 simp[results,results255,go_sem,gn,q1,dP]):p:=h
def az7(h:p:=by
 rw[nu,nu,fz hk,fz k3]at ae
 simpa using ae):p:=h
def Y9(h:p:=by
 have:=hm.out;have:=ze.out;have:=CF.out;have:=fP.out.cA;omega):p:=h
def ams(h:p:=by
 obtain⟨f1,f2⟩:=qN.wb (q0.trans JH) cS J (by have:=iB.out;omega) fu lx
 exact⟨x,LR,V3,rfl,CH,f1,f2⟩):p:=h
def ahp(h:p:=by
 obtain⟨z0,cU,z2,z3,z4,z5,ga,fk⟩:=lI xu;replace mc:=I mc;clear xu;go_wp2_with fail;go_ret
 exact⟨rfl,X⟩):p:=h
def ahc(k:q) (h:bD q->p:=by
 intro aP;have aW:=er h 0 v0;have ae:=er aW 1 v1;have ak:=er ae 2 v2;have aM:=er ak 3 v3;have bn:=er aM 4 v4;have cb:=er bn 5 v5;have ey:=er cb 6 v6;have iZ:=er ey 7 gy;revert aW ae ak aM bn cb ey iZ
 exact aP.1):p:=h ⟨k⟩
def adD(h:p:=by
 ·obtain rfl:=iH.1 hy
  exact((ki.mono (Z.size X)).ext X).grow cv (aE.out.1.ext X) af af af):p:=h
def Y5(h:p:=by
 ·exact⟨hX _,hX _,λe he=>by cases he⟩):p:=h
def Yw(h:p:=by
 exact⟨λd h=>.inl h,λd h=>.inl h,Oz _ _⟩):p:=h
def aiD(h:p:=by
 ·have ae:=bu.size;rcases hy with hy|hy
  ·have:=ho y hy;omega
  ·rw[show y=g9 from hy];exact(tQ.lt _ rfl).2):p:=h
def acY(h:p:=by
 congr 1;refine DH λs _=>?_
 rw[vt];simp[ck.d];exact decide_eq_true_iff.symm):p:=h
def adx(h:p:=by
 rw[b9]at aE;clear b9;go_wp2;go_ret
 exact⟨aw,m,aQ,ys,rfl,aE.out.1,aE.out.2.2,aE.out.2.1,X⟩):p:=h
def afc(h:p:=by
 ·go_wp2
  (go_ret;refine⟨jC (arJ hk (by unfold A7;rw[D5 hk];simp;omega)),?_⟩;exact X)):p:=h
def ag8(k:q) (h:bD q->p:=by
 intro aP;refine sI (λ_=>True) (λa7=>?_) (by(try dsimp only);(first|done|trivial));refine cX 0 ?_;refine cX 1 ?_;refine cX 3 ?_;refine cX 4 ?_;refine cX 2 ?_;refine cX 5 ?_;refine hE 6 λK aL=>?_;revert a7 K aL
 exact aP.1):p:=h ⟨k⟩
def Za(h:p:=by
 rcases al with rfl|rfl|rfl|rfl|rfl|rfl|rfl|rfl|rfl<;>rfl):p:=h
def aBn(k:q) (h:bD q->p:=by
 intro aP;have aT:cs.length=3:=(acM underlying74 h).trans bV;obtain⟨n0,cF,aW⟩:=M0 underlying74 h 0 _ rfl 0 1 bV rfl;obtain⟨dv,cP,ae⟩:=M0 underlying74 h 1 _ rfl 1 1 bV rfl;obtain⟨cZ,cQ,ak⟩:=M0 underlying74 h 2 _ rfl 2 1 bV rfl;revert aT n0 cF aW dv cP ae cZ cQ ak
 exact aP.1):p:=h ⟨k⟩
def ak8(k:q) (h:bD q->p:=by
 intro aP;have c5:=I (show decide (0<=(k:Int)/\(k:Int)<(c.ps.length:Int))=true from mS aW);revert c5
 exact aP.1):p:=h ⟨k⟩
def YC(h:p:=by
 exact⟨oN _,λk=>(by rw[hk]at k;cases k)⟩):p:=h
def agB(k:q) (h:bD q->p:=by
 intro aP;have OQ:=Tq (S:=λb=>b=g) (aG.refl _ aY) (R:=g) (a*8) (.inl rfl) cq[j].x.k cq[j].x.id.b (ad cq[j].x.id.l) (ad cq[j].x.id.s) cq[j].x.c (ad cq[j].x.u) cq[j].x.f cq[j].x.e;revert OQ
 exact aP.1):p:=h ⟨k⟩
def aeg(h:p:=by
 exact⟨0,_,_,_,J,rfl,rfl,J,(by rw[DS,N1,mH];exact b7),X⟩):p:=h
def amv(h:p:=by
 (try dsimp only);exact⟨⟨Z.aB (W:=aN) X zn,Z.aB (W:=aN) X b7⟩,Z.aB (W:=aN) X w8⟩):p:=h
def Ud(k:q) (h:bD q->p:=by
 intro aP;refine eY ?_;refine cX 11 ?_;refine wpAnyH_done bV ?_ _
 exact aP.1):p:=h ⟨k⟩
def acW(h:p:=by
 exact⟨0,none,0,0,[],J,rfl,rfl,⟨Own.nil _ _ _ eJ.bH,rfl,λy hy=>by cases hy⟩,Z.refl _⟩):p:=h
def YQ(k:q) (h:bD q->p:=by
 intro aP;obtain⟨ca,bJ,bF,bG,bK⟩:=info_parts AM;replace bJ:=I bJ;replace bF:=I bF;replace bG:=I bG;replace bK:=I bK;revert ca bJ bF bG bK
 exact aP.1):p:=h ⟨k⟩
def Xn(k:q) (h:bD q->p:=by
 intro aP;obtain⟨ca,bJ,bF,bG,bK⟩:=info_parts HO;replace bJ:=I bJ;replace bF:=I bF;replace bG:=I bG;replace bK:=I bK;revert ca bJ bF bG bK
 exact aP.1):p:=h ⟨k⟩
def XP(h:p:=by
 rw[lW];simp only[cH,yP];omega):p:=h
def aak(k:q) (h:bD q->p:=by
 intro aP;refine⟨rfl,_,(by simp[results,results22,go_sem,z0,cU,z2];rfl),?_⟩
 exact aP.1):p:=h ⟨k⟩
def X8(k:q) (h:bD q->p:=by
 intro aP;obtain⟨aw,n,cap,h3,l7,ba⟩:=(h).ct;obtain⟨eI,bQ,bY,Cp⟩:=sn (show w.heap[q]?=some (.cells #[aq aw n cap,(gM:Int),(room:Int)] _ _)from h3);revert aw n cap h3 l7 ba eI bQ bY Cp
 exact aP.1):p:=h ⟨k⟩
def aan(k:q) (h:bD q->p:=by
 intro aP;refine⟨rfl,_,(by simp[results,results19,go_sem,z0,cU,z2];rfl),?_⟩
 exact aP.1):p:=h ⟨k⟩
def aib(h:p:=by
 go_enter func98,ntmps98;go_wp2_with fail;go_quiet (fail);go_wp2;go_ret
 exact⟨rfl,X⟩):p:=h
def WI(h:p:=by
 rcases al with rfl|rfl|rfl|rfl|rfl|rfl|rfl|rfl<;>rfl):p:=h
def acx(h:p:=by
 go_enter func244,ntmps244;go_wp2_with fail
 all_goals (go_ret;exact⟨iW H,rfl⟩)):p:=h
def el(k:q) (h:bD q->p:=by
 intro aP;have m7:wr.cell? (w,1,7)=some ↑(aq uu m.aX.length uv):=aI dF rfl;have k2:=aI (o:=0) fC rfl;revert m7 k2
 exact aP.1):p:=h ⟨k⟩
def ak9(h:p:=by
 rw[kI.out]
 exact⟨v,cA,g,p,q,D,O,W,H.ext X,mj⟩):p:=h
def alc(h:p:=by
 rw[j3.out]
 exact⟨v,cA,g,p,q,D,O,W,H.ext X,mj⟩):p:=h
def afp(h:p:=by
 ·rcases ht d h with h|h
  ·exact Oy (key.2.1 d h)
  ·exact .inr (kA _ h)):p:=h
def agb(h:p:=by
 ·have:=ready_mono aJ e;rw[H.1]at this
  cases this):p:=h
def ai0(k:q) (h:bD q->p:=by
 intro aP;refine ed 3 ?_;refine kH 4 (·.aB gp) ?_;refine kH 5 (·.aB r1) ?_
 exact aP.1):p:=h ⟨k⟩
def ag1(h:p:=by
 have dA:=I aj;rw[aj]at iT;clear aj ao;go_wp2;go_ret
 exact⟨by rw[ba.out,dA.out];rfl,X⟩):p:=h
def agX(h:p:=by
 exact⟨0,_,_,_,_,J,rfl,rfl,hi,⟨aE.out.1,by rw[aE.out.2.1];simp,aE.out.2.2⟩,U⟩):p:=h
def ai1(k:q) (h:bD q->p:=by
 intro aP;refine(bc _ X).mono ?_;rintro e aN⟨cE,cZ,c2,wa,rfl,oO,kc,bz⟩;change Hid _ at bz;have b7:=I (oO.cx (λx k=>gw (ho x k) (Z.size X)));change Hid _ at kc;clear oO;refine aL _ _ (λ_ _=>Bg) λhH=>eY ?_;have a7:=hH rfl af;revert aN cE cZ c2 wa bz b7 kc hH a7
 exact aP.1):p:=h ⟨k⟩
def RR(k:q) (h:bD q->p:=by
 intro aP;have hy:=I (show Z w w1 from Z.trans ((Z.refl w).alloc _) aa);revert hy
 exact aP.1):p:=h ⟨k⟩
def ahj(k:q) (h:bD q->p:=by
 intro aP;have dr:=fg.aB (show(w.alloc i).heap[(w:Nat)]?=some (i:Obj)from fi rfl);obtain⟨b0,bd,hv⟩:=iE dr;revert dr b0 bd hv
 exact aP.1):p:=h ⟨k⟩
def auF(h:p:=by
 rw[hw.out,bj af];replace bB:=I bB;go_wp2;go_ret
 exact⟨⟨_,rfl⟩,H.ext bB,.of bB⟩):p:=h
def afd(h:p:=by
 go_enter func29,ntmps29;go_wp2;go_ret;refine⟨jC (arH H1),?_⟩
 exact X):p:=h
def afu(h:p:=by
 ·obtain⟨d,aD,rfl⟩:=kN.1 k
  exact mJ (mI.1 aD).1):p:=h
def af5(h:p:=by
 rw[aT]at ax;obtain rfl:=iH.1 ax
 exact .inl ⟨1,rfl,by unfold gv;omega⟩):p:=h
def aze(h:p:=by
 obtain⟨M',fb,ae,ak,_⟩:=h
 exact(ak.dT.block b (bT aa) (λk=>an (fy b k))).trans aa):p:=h
def acC(h:p:=by
 unfold cf;by_cases ae:b=b'<;>by_cases ak:l=l'<;>simp[ae,ak,go_sem]
 split<;>simp_all):p:=h
def ag3(k:q) (h:bD q->p:=by
 intro aP;go_at_call 160;refine(SY ts[k].x ts[k].e _ ((H.ct _ (c7 hk)).ext X) (eH _ (c7 hk))).mono ?_
 exact aP.1):p:=h ⟨k⟩
def acX(h:p:=by
 ·rw[gS,aE.out.2.1,iX hk,gS];rfl):p:=h
def Ug(k:q) (h:bD q->p:=by
 intro aP;have r1:=I (show(w.alloc i).heap[(w:Nat)]?=some (i:Obj)from hT);revert r1
 exact aP.1):p:=h ⟨k⟩
def agh(h:p:=by
 ·rw[Array.setIfInBounds_comm _ _ e]
  exact k.2.2):p:=h
def acq(h:p:=by
 go_wp2
 all_goals
  go_ret
  refine⟨iW (by rw[vt];simp),?_⟩
  exact X):p:=h
def abW(h:p:=by
 go_wp2
 all_goals (go_ret;refine⟨jC ?_,rfl⟩;unfold nn;(repeat' split)<;>omega)):p:=h
def aiM(h:p:=by
 unfold wV;dsimp only;rw[GM.out,if_neg af,if_pos rfl,<-yn.out,n4.out];exact rfl):p:=h
def OT(k:q) (h:bD q->p:=by
 intro aP;have bx:=I (show Z w w1 from Z.trans X fg);revert bx
 exact aP.1):p:=h ⟨k⟩
def ahk(h:p:=by
 go_ret2
 exact⟨cL,dv,c1,ys,by rw[oz.out];rfl,ba.ext X,by rw[oz.out];exact bM,X⟩):p:=h
def ag4(h:p:=by
 have:=(ch.out.1.cg.lt ai aj).2;have:=eM.out;omega):p:=h
def ag0(k:q) (h:bD q->p:=by
 intro aP;rw[bm hk];have x5:(ts.map b2.tx)[hD (ts.map b2.tx) i]?=some ts[hD (ts.map b2.tx) i].tx:=by rw[nu,fz hk];rfl
 revert x5
 exact aP.1):p:=h ⟨k⟩
def rd(h:p:=by
 ·show c8 (pZ _ _ _) j=_;rw[vm,bj ax0]):p:=h
def li(h:p:=by
 have:=Jh.out;rw[<-this,cr];omega):p:=h
def Zn(h:p:=by
 (try dsimp only);exact Z.aB (W:=bp) X Ew.out):p:=h
def ads(h:p:=by
 go_ret;refine⟨iW (by rw[W0,ae.out,ak.out,aM.out];rfl),?_⟩
 exact X):p:=h
def agF(h:p:=by
 exact qR.cC (show Z w _ from X) (qR.then ak.out aM.out ⟨rfl,mP.out⟩)):p:=h
def ab6(h:p:=by
 rw[he.out];go_wp2;go_ret;refine⟨iW (Wo (p:=p) hk he),?_⟩
 exact X):p:=h
def amy(k:q) (h:bD q->p:=by
 intro aP;have hV:=(rK.dT.block _ (bT dZ) (gu Q (.inl rfl)).2).trans dZ;have dn:=(q0.dT.block _ (bT fX) kr).trans fX;have c6:=(q0.dT.block _ (bT cm) fu).trans cm;revert hV dn c6
 exact aP.1):p:=h ⟨k⟩
def ad5(h:p:=by
 go_roundg (gk - 1);case measure=>omega
 case rel=>exact⟨i+1,J,by go_num,rfl,X⟩):p:=h
def Ke(k:q) (h:bD q->p:=by
 intro aP;have b9:dz.take k=dz:=ir J;revert b9
 exact aP.1):p:=h ⟨k⟩
def adu(k:q) (h:bD q->p:=by
 intro aP;have hi:m=k:=by
  have ae:=aE.out.1.neq;have ak:=eP List.length aE.out.2.1;rw[cr,cr,o9]at ak;omega
 revert hi
 exact aP.1):p:=h ⟨k⟩
def ait(h:p:=by
 rw[hS.out];unfold tZ;rw[if_pos (by rw[<-oK.out];exact nR)];exact ku):p:=h
def agL(k:q) (h:bD q->p:=by
 intro aP;have dw:=(qT.block gr (bT Gn.out) (DT Gn.out rU.out af)).trans Gn.out;have v5:=(qT.block w (bT v4.out) (DT v4.out rU.out af)).trans v4.out;revert dw v5
 exact aP.1):p:=h ⟨k⟩
def ajd(h:p:=by
 exact⟨M',ib,nF,by rw[PX],⟨v9,zr⟩,w9⟩):p:=h
def ajj(h:p:=by
 ·simp only[Value.slice.injEq]at bo;obtain⟨rfl,ae,ak⟩:=bo
  exact⟨_,rfl⟩):p:=h
def adv(k:q) (h:bD q->p:=by
 intro aP;have lp:=I (show(xs.take (k+1)).map (·.d)=(xs.take k).map (·.d)++[xs[k].d]from by rw[iX hk,gS];rfl);revert lp
 exact aP.1):p:=h ⟨k⟩
def abV(h:p:=by
 ·have:n+1<=(n+1)*bytes:=MQ _ j4
  simp only[maxLen];omega):p:=h
def adP(h:p:=by
 rw[Nat.pow_succ]at h;exact Sa (by rw[L5];exact h)):p:=h
def adM(h:p:=by
 ·rw[adH yN.out xy.out AS.out,bj af,mH];exact e4.NF):p:=h
def ahL(k:q) (h:bD q->p:=by
 intro aP;have Bq:=h9.jD Pb fT af af af;have Br:=(Pb.block _ (bT oA) J).trans oA;have CJ:Z w (aY.setCell (B,1) (ad (m.h:Int))):=c9.setCell (p:=(B,1)) (lr Gu) _;revert Bq Br CJ
 exact aP.1):p:=h ⟨k⟩
def adL(h:p:=by
 ·rw[adG yN.out xy.out AS.out,bj af,mH];exact e4.ND):p:=h
def XS(k:q) (h:bD q->p:=by
 intro aP;obtain⟨z0,cU,z2,z3,z4,z5,ga,fk,rb,z9,H3,H4,z12,mx⟩:=q7 (show cG.heap[(w:Nat)]?=some (.cells #[ar,au,ar,ar,au,au,ar,au,aH,aH,ar,au,au] _ _)from jY.r);have di:=jY.fI;revert z0 cU z2 z3 z4 z5 ga fk rb z9 H3 H4 z12 mx di
 exact aP.1):p:=h ⟨k⟩
def ZR(h:p:=by
 exact⟨M,D,O,rfl,⟨v,H.ext X⟩,.of X⟩):p:=h
def Zi(h:p:=by
 (try dsimp only);exact Z.aB (W:=b3) X O3):p:=h
def agH(k:q) (h:bD q->p:=by
 intro aP;have w2:=I (h.st.b.aF.ext ((Z.refl w).alloc x.id));have qS:=y5 h.st.l.sj h.st.j9 x.id;have mm:=y5 h.st.p.sj h.st.ma x.id;have pr:=U.id;rw[pr]at qS mm;have H:=I h;revert w2 qS mm pr H
 exact aP.1):p:=h ⟨k⟩
def akZ(h:p:=by
 rw[ax]at this;exact⟨this.1,by rw[yc (Qo lF)];exact this.2⟩):p:=h
def Zu(k:q) (h:bD q->p:=by
 intro aP;refine cX 10 ?_;refine cX 11 ?_;refine cX 12 ?_
 exact aP.1):p:=h ⟨k⟩
def XL(k:q) (h:bD q->p:=by
 intro aP;refine(AY p q 32 _ _ kS.hn J af).mono ?_;rintro e b3⟨rfl,vL,nT⟩;have oV:=kS.oB vL nT;revert b3 vL nT oV
 exact aP.1):p:=h ⟨k⟩
def aem(h:p:=by
 have:=hg i.b.toNat;have:=hg i.l.toNat;have:=hg i.s.toNat
 omega):p:=h
def Sm(k:q) (h:bD q->p:=by
 intro aP;skip;go_enter func255,ntmps255;go_wp2_with fail;go_step3;rename_i kd;revert kd
 exact aP.1):p:=h ⟨k⟩
def aoA(h:p:=by
 simp[Value.cells]at e;obtain⟨rfl,rfl,rfl⟩:=e
 exact⟨_,_,_,ys,rfl,s⟩):p:=h
def ab7(h:p:=by
 ·go_wp2;go_ret;refine⟨iW (JR (p:=p) eO hk),?_⟩
  exact X):p:=h
def ah6(h:p:=by
 (try dsimp only);exact⟨Z.aB (W:=bp) X EK.box,Z.ah (W:=w) X IQ⟩):p:=h
def afi(k:q) (h:bD q->p:=by
 intro aP;have aD:d.id∉dY xs:=by
  unfold dY at h ⊢;rw[gS]at h;intro k;exact(Ow.1 h).2.2 d.id k d.id (by simp) rfl
 revert aD
 exact aP.1):p:=h ⟨k⟩
def abX(h:p:=by
 go_enter func350,ntmps350;go_wp2;go_ret
 exact⟨iW H,rfl⟩):p:=h
def aiv(k:q) (h:bD q->p:=by
 intro aP;have ax:=Dy y.id.b y.id.l y.id.s i.b i.l i.s;have bQ:=((Z.refl w).alloc y).ah ae;have bY:=((Z.refl w).alloc y).ah ak;have ew:=((Z.refl w).alloc y).ah aM;revert ax bQ bY ew
 exact aP.1):p:=h ⟨k⟩
def ad2(k:q) (h:bD q->p:=by
 intro aP;have NP:(BitVec.ofInt 64 (z:Int)).toNat=z:=by
  rw[BitVec.ofInt_natCast,BitVec.toNat_ofNat];exact HN (gw bf af)
 revert NP
 exact aP.1):p:=h ⟨k⟩
def hz{p:Prop}(h:p:=by have:=cw.size;(try simp at this);omega):p:=h
def ow{p:Prop}(h:p:=by have:=aa.size;(try simp at this);omega):p:=h
def uZ{p:Prop}(h:p:=by unfold gv;omega):p:=h
def FV{p:Prop}(h:p:=by unfold gv;decide):p:=h
def HQ{p:Prop}(h:p:=by unfold maxLen;omega):p:=h
def Qk{p:Prop}(h:p:=by have:=iB.out;omega):p:=h
def Rh{p:Prop}(h:p:=by have:=U.size;omega):p:=h
def R4{p:Prop}(h:p:=by have:=hN.size;(try simp at this);omega):p:=h
def SK{p:Prop}(h:p:=by have ae:=vO.out;congr 1;omega):p:=h
def TC{p:Prop}(h:p:=by have:=rW.out;omega):p:=h
def TG{p:Prop}(h:p:=by have:=ud.out;omega):p:=h
def TS{p:Prop}(h:p:=by have:=N.out;omega):p:=h
def WN{p:Prop}(h:p:=by unfold nn;split<;>(try split)<;>omega):p:=h
def W9{p:Prop}(h:p:=by have:=iS.size;(try simp at this);omega):p:=h
def Xd{p:Prop}(h:p:=by have:=gH.size;simp at this;omega):p:=h
def Zw{p:Prop}(h:p:=by have:=jk.size;simp;omega):p:=h
end Go.Proofs.YtfiiblnenhdlhaaGreat
