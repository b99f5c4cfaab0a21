/- Part. -/
import Derived.Test.YtfiiblnenhdlhaaGreatG12
set_option linter.unusedVariables false
set_option linter.unusedSimpArgs false
set_option linter.defProp false
set_option maxRecDepth 100000
set_option maxHeartbeats 4000000
namespace Go.Proofs.YtfiiblnenhdlhaaGreat
open Go.RowKit Tryz
variable {e5:List Nat}{dk:List gJ}{l:List lz}{B N b k n:Nat}{p':Nat->Nat}{M bP bZ:Nat->Prop}{w:World}{c:bt}
def ub.wd{s:eR}(h:ub c dk s)(ax:c.room<=60000):s.ag.length<=10000:=by
 have ae:=(YB h.Cw).1;have ak:=OB dk;have aM:=h.qK;simp only[j0,nW]at ae;omega
def ayz{R:List aA}{b:az}(h:gz c l R n b)(k:Nat):gv (b.je k).h:=by
 unfold az.je;cases ax:b.e8 k with
 |none=>show gv 0;unfold gv;omega
 |some m=>exact(h.e8 k m ax).h
def ayA{os:List vl}{f:Nat->dC}(hk:k<e5.length){cC:List (Nat×dC)}{o:vl}(h:os.map (λo=>(o.t,o.m))=cC++(e5.take k).map (λk=>(k,f k)))(aK:o.t=e5[k]/\o.m=f e5[k]):(os++[o]).map (λo=>(o.t,o.m))=cC++(e5.take (k+1)).map (λk=>(k,f k)):=by
 rw[gS,h,iX hk,gS,iI];congr 2;simp[aK.1,aK.2]
def ayB{D O:ff}{p q:Nat}{b:az}{v:tK}{EM R:List aA}(H:dU w M D O c p q b v)(b8:gz c l EM n b)(tF:gz c l R n (b.fU c))(cn:jL c)(r5:c.room<=60000)(hm:b.b6<c.ps.length)(ws:∀i,i∈R->dx i)(tU:∀i,i∈EM->dx i)(akO:R.length<=1000000)(jH:∀i,i∈(b.fU c).st.ay->i∈R):
  aR 86 #[p] w λe w'=>∃M' bP bZ B fF on fZ os,e=.returned (aq fF on fZ)/\rp w' M' bP bZ c p q (b.fU c)/\ig w M D O w' M' bP bZ/\(∀x,M' x->x<B)/\Aq w' B fF on fZ os/\os.map (λo=>(o.t,o.m))=(b.fU c).eB c/\∀o,o∈os->ue o.m:=by
 have j3:Hid (∀j,j∈b.bl->dx j):=λj aJ=>tU j (b8.bl.2 j aJ);have wt:(b.fU c).b6=b.b6:=by rw[tF.b6,b8.b6]
 obtain⟨bd,cm⟩:∃bd,b.fU c=bd:=⟨_,rfl⟩;rw[cm]at tF jH wt ⊢;have Lu:Hid (∀j,j∈bd.bl->dx j):=λj aJ=>ws j (tF.bl.2 j aJ);have ayC:Hid (bd.bl.length<=1000000):=eh (PI _ _ tF.bl.1 tF.bl.2) akO;have FQ:Hid (∀k,ue (bd.alu c k)):=λk=>(afE cn.toka tF ws jH k).1.ok;have yh:Hid (ue (bd.sF c)):=(afD cn.toka tF).ok;have Pz:=I (tF.ez.wd r5);have vA:bd.b6<c.ps.length:=by rw[wt];exact hm
 clear wt;have ny:c.ps.length<=16:=by
  have a6:=cn.rQ;unfold jn at a6;simp only[ke,jQ]at a6;exact a6.1.2
 replace H:=I H;replace b8:=I b8;replace cn:=I cn;replace cm:=I cm;replace tF:=I tF;clear ws tU akO jH;go_enter func86,ntmps86;go_wp2_with fail;refine(aiF H b8 cn.toka hm j3).mono ?_;rintro e w1⟨E1,Cq,em,rfl,zD,vg⟩;rw[cm.out]at zD;obtain⟨v1,yt⟩:=zD;replace yt:=I yt;replace vg:=I vg;go_wp2_with fail;have bz:Hid (Z w1 (w1.alloc (.cells #[aH] 180))):=X;have Z0:Hid ((w1.alloc (.cells #[aH] 180)).heap[(w1:Nat)]?=some (.cells #[aH] 180)):=fi rfl;refine(Ps (yt.ext X)).mono ?_;rintro e aY⟨rfl,dE⟩;have c9:=I (bz.trans dE);have ww:=I (dE.aB Z0);clear dE;go_upto_if 14 with (fail);go_cut [] (λfD=>∃(fF:bk) (on fZ:Nat) (os:List vl),on=os.length/\on<=1/\Hid (fD.heap[(w1:Nat)]?=some (.cells #[aq fF on fZ] 180))/\Hid (Aq fD (w1.heap.size+1) fF on fZ os)/\Hid (os.map (λo=>(o.t,o.m))=(if bd.h5=true then [] else [(jf c bd.b6,bd.sF c)]))/\Hid (∀o,o∈os->ue o.m)/\Hid (Z w1 fD));case first=>
  cases BG:bd.h5 with
  |true=>
   have ayD:=I (show(if bd.h5=true then [] else [(jf c bd.b6,bd.sF c)])=([]:List (Nat×dC))from by rw[BG];rfl);go_wp2_with fail;go_meet;exact⟨none,0,0,[],rfl,J,ww,⟨Own.nil _ _ _ vl.bH,λo aK=>(by cases aK)⟩,I ayD.symm,I (λo aK=>(by cases aK)),c9⟩
  |false=>
   have Fi:=I ((yt.ext c9).box);obtain⟨fC,_,pv,fW⟩:=yt.dQ.cD.get bd.b6 vA;have Mj:=c9.ah (fW 0 c.ps[bd.b6] rfl);rw[jT]at Mj;simp only[uY]at Mj;have z8:=yt.dQ.cD.neq;have b0:(0:Int)<=(bd.b6:Int):=J;have ayE:(bd.b6:Int)<(v1.cD.n:Int):=J;have z1:c.ps[bd.b6]=(jf c bd.b6:Int):=by
    have aW:0<bd.b6:=by
     rcases yO bd.b6 with e|e
     ·unfold az.h5 at BG;rw[e]at BG;cases BG
     ·exact e
    have:=(ka.Ef cn.toka vA aW).2;rw[xO,fz vA]at this;exact this
   rw[z1]at Mj;obtain⟨ag,ps,fR⟩:=yt.dQ.st;have rF:=I (show v1.s.l.n=bd.st.ag.length from by rw[fR.l.aF.neq,<-fR.j9,cr]);have hle:=Pz.out;have aCR:v1.s.l.n<=10000:=by rw[rF.out];exact hle
   change Hid _ at BG;replace Mj:=I Mj;replace pv:=I pv;replace fR:=I fR;clear fW z8 z1;go_wp2_with fail;refine uc 33 (Z aY) (λa7=>?_);refine um ?_;refine ed 3 ?_;refine kH 4 (·.aB Fi) ?_;refine ed 5 ?_;refine ed 6 ?_;refine ed 7 ?_;refine kH 8 (·.aB Fi) ?_;refine ed 9 ?_ (hy:=λw iA=>by(try dsimp only at iA);(rw[pv.out]);exact IG);refine Ei 10 (·.ah Mj) ?_;refine ed 11 ?_;refine ed 12 ?_;refine ed 13 ?_;refine ed 14 ?_;refine kH 15 (·.aB Fi) ?_;refine ed 16 ?_;refine ed 17 ?_;refine ed 18 ?_;refine ed 19 ?_;refine ed 20 ?_;refine ed 21 ?_;refine kH 22 (·.aB Fi) ?_;refine ed 23 ?_;refine ed 24 ?_;refine ed 25 ?_;refine kH 26 (·.aB Fi) ?_;refine ed 27 ?_;refine ed 30 ?_;refine lh 28 λK aL=>?_;go_simp;go_at_call 150;refine(aio (yt.ext X) cn.rQ vA).mono ?_;rintro e b3⟨ea,dj,AK,ms,rfl,C4,EX,eX⟩;replace eX:=I eX;replace C4:=I C4;replace EX:=I EX;refine aL _ _ (λ_ _=>Bg) λhH=>eY ?_;have a7:=hH rfl af;refine lh 29 λK aL=>?_;go_simp;go_at_call 149;refine(apD v1.s.p.a v1.s.p.n v1.s.p.c (ps.map (·.x)) v1.eN.a v1.eN.n v1.eN.c bd.eN ea dj AK (ms.map o1.dX) _ (fR.p.dz.ext X) (yt.dQ.eN.ext X) (C4.ext X).cc).mono ?_;rw[auV fR.p fR.ma,EX.out];rintro e bp⟨uf,vc,ug,rfl,At,ic⟩;replace ic:=I ic;replace At:=I At;refine aL _ _ (λ_ _=>Bg) λhH=>eY ?_;have a7:=hH rfl af;refine lh 31 λK aL=>?_;go_simp;go_at_call 151;refine(aiz (yt.ext X) tF Lu cn.rQ vA).mono ?_;rintro e cV⟨tv,sL,tw,c3,rfl,Vm,AC,mc⟩;replace mc:=I mc;replace Vm:=I Vm;replace AC:=I AC;refine aL _ _ (λ_ _=>Bg) λhH=>eY ?_;have a7:=hH rfl af;refine ed 32 ?_;refine lh 33 λK aL=>?_;go_simp;go_at_call 146;have akP:Hid (Z aY cV):=X;rw[show IntKind.u64.wrap (v1.s.l.n:Int)=(v1.s.l.n:Int)from Gp _ ⟨J,J⟩];refine(ajN (ob:=(w1:Nat)) (base:=(w1:Nat)+1) (fF:=none) (on:=0) (fZ:=0) (os:= []) (akP.aB ww) ⟨Own.nil _ _ _ vl.bH,λo aK=>(by cases aK)⟩ ?jZ J ⟨1,(v1.s.l.n:Int),⟨uf,vc,ug⟩,⟨tv,sL,tw⟩,⟨none,0,0⟩,⟨none,0,0⟩,⟨none,0,0⟩,⟨none,0,0⟩⟩ (bd.sF c) ?ES yh (jf c bd.b6)).mono ?_;case jZ=>have:=(show Z w1 cV from X).size;have:=bT ww;have:=akP.size;omega
   case ES=>exact⟨rfl,(by rw[rF.out];rfl),At.ext mc,⟨c3,Vm.aF,Vm.ct,AC⟩,LA _,LA _,a1.nil _ aA.bH,a1.nil _ aA.bH⟩
   rintro e df⟨rfl,G6,Do,DA,tP,Js,lv⟩;replace G6:=I G6;replace Js:=I Js;replace lv:=I lv;refine Jt ?_;intro _;go_wp2_with fail;go_meet;refine⟨Do,1,DA,_,rfl,J,Js,lv,?_,?_,?_⟩
   ·rw[BG.out];exact I rfl
   ·exact I (λo aK=>by rw[iH.1 aK];exact yh)
   ·exact I (G6.ext (λx U=>U.elim (λe=>by omega) (fun⟨ai,e,_⟩=>by cases e)) (show Z w1 cV from X))
 case rest=>
  obtain⟨fF,on,fZ,os,_,_,rr,dO,ku,eU,U⟩:=hcut;have cy:=I ku;clear ku;go_wp2_with fail;refine(ZO (yt.ext X) cn.rQ vA).mono ?_;rintro e _⟨ea,_,AK,rfl,vN,fv⟩;have eX:=I (U.trans fv);have kC:=vN.neq;rw[cr]at kC;have Mk:=I (vN.mono (aDn:=0) (hX _));have xr:=I (fv.aB rr);have dW:=I (dO.ext fv);have Uq:Hid (∀k,k∈bd.cc c->k<c.ps.length):=λk hk=>qI.1 (mI.1 hk).1;obtain⟨e5,Qj⟩:∃e5,bd.cc c=e5:=⟨_,rfl⟩;rw[Qj]at kC Mk Uq;have qa:e5.length<=16:=by
   have:e5.length<=c.ps.length:=by rw[<-Qj];unfold az.cc kE;exact Nat.le_trans (List.length_filter_le _ _) (by simp)
   omega
  obtain rfl:=kC;replace Qj:=I Qj;clear vN fv rr dO U;go_wp2_with fail;go_loopg [6,52] e5.length (λg Sf dN wr=>∃(k:Nat) (fF:bk) (on fZ:Nat) (os:List vl),g+k=e5.length/\dN=.int .i64 (k:Int)/\on<=1+k/\Hid (wr.heap[(w1:Nat)]?=some (.cells #[aq fF on fZ] 180))/\Hid (Aq wr (w1.heap.size+1) fF on fZ os)/\Hid (os.map (λo=>(o.t,o.m))=(if bd.h5=true then [] else [(jf c bd.b6,bd.sF c)])++(e5.take k).map (λk=>(k,bd.alu c k)))/\Hid (∀o,o∈os->ue o.m)/\Hid (Own wr 0 3 1 dD ea e5.length AK (e5.map Int.ofNat))/\Hid (Z w1 wr));case atStart=>exact⟨0,fF,on,fZ,os,J,rfl,J,xr,dW,I (by rw[cy.out,DS,ID,mH]),eU,Mk,eX⟩
  case round=>
   obtain⟨k,px,o3,rq,lE,_,rfl,_,rr,dO,ku,akQ,Fj,U⟩:=hrel;by_cases hk:k<e5.length
   ·obtain⟨_,o,rfl,fW⟩:=Fj.aF.get k (by rw[cr];exact hk);have k2:=fW 0 _ rfl;rw[Et,jT]at k2;simp only[uY]at k2;have ayF:=Uq.out e5[k] (c7 hk);have b0:(0:Int)<=(k:Int):=J;have ayE:(k:Int)<(e5.length:Int):=J;clear fW;go_wp2_with fail;refine(axr (yt.ext X) tF cn Lu ayC Pz e5[k] ayF (ayz tF e5[k])).mono ?_;rintro e _⟨x,rfl,ic,kQ⟩;replace ic:=I ic;replace kQ:=I kQ;go_wp2_with fail;refine(ajN (ob:=(w1:Nat)) (kQ.aB rr) (dO.ext kQ) ?jZ J x (bd.alu c e5[k]) ic (FQ e5[k]) e5[k]).mono ?_;case jZ=>have:=bT rr;have:=kQ.size;omega
    rintro e _⟨rfl,G6,Do,DA,_,Js,lv⟩;replace G6:=I G6;replace Js:=I Js;replace lv:=I lv;go_wp2_with fail;go_roundg (gk - 1);case measure=>omega
    case rel=>
     refine⟨k+1,Do,o3+1,DA,_,J,by go_num,J,Js,lv,I (ayA hk ku ⟨rfl,rfl⟩),I (λo aK=>?_),I (G6.bI (Fj.ext kQ) (λai aj q=>q.elim ((Fj.ext kQ).eQ (kQ.aB rr) af ai aj) (fun⟨nw,bS,bE⟩=>(Fj.ext kQ).gQ (dO.cg.ext kQ) af ai nw aj bS bE.symm))),I (G6.ext (W:=w1) (λx U=>U.elim (λe=>by omega) (fun⟨ai,e,bE⟩=>by have:=(dO.cg.lt ai e).1;omega)) X)⟩;rcases iR.1 aK with aK|aK
     ·exact akQ o aK
     ·rw[iH.1 aK];exact FQ e5[k]
   ·have b9:e5.take k=e5:=ir J;rw[b9]at ku;have jX:=aI (o:=0) rr rfl;clear b9;go_wp2;go_ret;refine⟨E1,Cq,em,(w1:Nat)+1,px,o3,rq,lE,rfl,⟨v1,yt.ext U⟩,vg.ext U,λx U=>by have:=yt.cx x U;omega,dO,?_,akQ⟩;rw[ku.out];unfold az.eB;rw[Qj.out]
def akR{s:eR}(h:ub c dk s)(ax:c.room<=1048576):(∀r,r∈dk->xI r)/\H5 (dk.map gl)/\(∀r,r∈dk->(gl r).length<=4000)/\dk.length<=200000:=by
 refine⟨h.rH ax,λx U=>?_,λr KV=>(T9 (h.Ih r KV)).2,?_⟩
 ·obtain⟨r,KV,rfl⟩:=kN.1 U;exact T9 (h.Ih r KV)
 ·have ak:=OB dk;have aM:=h.qK;omega
structure Vn (c:bt) (dk:List gJ) (s s':eR):Prop where
 ok:H5 (dk.map gl)
 jv:∀r,r∈dk->xI r
 all:oF j0 dk=some s
 Tv:∀r,r∈dk->(gl r).length<=4000
 n:dk.length<=200000
 eq:s'={s with l:=s.l+1}
 l:s.l<1000
 new:ub c (xP s') s'
 room:c.room<=1048576
def ayG{D:ff}{q:Nat}{s s':eR}(H:ly w D q (gb (dk.map gl)) (gb (dk.map gl)).length c.room)(bL:Vn c dk s s')(av:∀x,D x->M x)(tE:∀x,M x->x<(w:Nat)):
  aR 115 #[q] w λe w'=>∃(eS:Nat) (cu:lZ) (M' bP L bZ:ff),e=.returned (.tuple #[eS,cu,ar])/\qf w' M' bP L eS q ((xP s').map gl) (gb ((xP s').map gl)).length c.room/\
   dq M' w' (λw=>∃ag ps,sC w cu s' ag ps)/\aG D w w'/\b4 w D bP/\b4 w M M'/\(∀x,M' x->M x\/bP x\/bZ x)/\(∀x,L x->bZ x)/\(∀x,bZ x->(w:Nat)<=x/\M' x)/\(∀x,bP x->¬bZ x):=by
 replace H:=I H;replace bL:=I bL;replace av:=I av;replace tE:=I tE;go_enter func115,ntmps115;go_wp2_with fail;have cS:Z w (w.alloc lB):=X;have hB:(w.alloc lB).heap[(w:Nat)]?=some (lB:Obj):=fi rfl;have iB:(w.alloc lB).heap.size=(w:Nat)+1:=by simp
 obtain⟨bs,hI⟩:∃bs,w.alloc lB=bs:=⟨_,rfl⟩;rw[hI]at cS hB iB ⊢;replace cS:=I cS;replace hB:=I hB;replace iB:=I iB;have ayH:Hid (∀x,D x->(λx=>M x\/x=(w:Nat)) x):=λx U=>.inl (av x U);have PA:Hid (∀x,(λx=>M x\/x=(w:Nat)) x->x<(bs:Nat)):=λx U=>by rw[iB.out];rcases U with k|k;(have:=tE.out x k;omega);omega
 clear hI;refine(ae5 (λx=>M x\/x=(w:Nat)) D q _ _ c.room bs (H.ext cS) bL.ok ayH PA).mono ?_;rintro e w1⟨eS,rfl,akS,y2,wT,h8,fu⟩;replace wT:=I wT;replace h8:=I h8;replace fu:=I fu;replace akS:=I akS;go_wp2_with fail;refine(ae4 _ D y2 eS q _ _ c.room w1 wT).mono ?_;rintro e aN⟨c0,hl,jv,ys,rfl,gj,A5,bz⟩;replace gj:=I gj;replace A5:=I A5;replace bz:=I bz;go_wp2_with fail;refine(agV c0 hl jv ys dk s aN gj.v A5 bL.jv bL.all bL.Tv bL.n).mono ?_;rintro e aY⟨cu,ag,ps,rfl,EW,dE⟩;have c9:=I (bz.trans dE);have Ir:=EW.cO;have ayI:=bL.l;have Vo:rf aY (aN:Nat) {cu with cO:=((s.l+1:Nat):Int)} s' ag ps:=by rw[bL.eq];exact {EW with cO:=rfl}
 replace Vo:=I Vo;replace EW:=I EW;clear dE;go_wp2_with fail;have bS:(s.l:Int)+1=((s.l+1:Nat):Int):=J;rw[bS];obtain⟨Bw,zf⟩:∃Bw,aY.alloc (.cells #[ad ((s.l+1:Nat):Int),cu.l,cu.p,cu.b] 44)=Bw:=⟨_,rfl⟩;have tT:Z aY Bw:=by subst zf;exact X
 have BM:Bw.heap[(aY:Nat)]?=some (.cells #[ad ((s.l+1:Nat):Int),cu.l,cu.p,cu.b] 44 (0,0)):=by subst zf;exact fi rfl
 rw[zf];clear zf;have eU:=bL.new.CR bL.room;have di:s'.l≠0:=by rw[bL.eq];exact Nat.succ_ne_zero _
 replace tT:=I tT;replace BM:=I BM;refine(atB {cu with cO:=((s.l+1:Nat):Int)} s' ag ps Bw (Vo.ext tT).ct eU di).mono ?_;rintro e b3⟨akT,DB,akU,Vp,rfl,oT,C4,fv⟩;have Vq:=wT.cx;have aCS:(bs:Nat)<=(w1:Nat):=h8.size;have G7:Z w1 b3:=c9.trans (tT.trans fv);have ayJ:(w1:Nat)<=(b3:Nat):=G7.size;have aCT:(w1:Nat)<=(Bw:Nat):=(c9.trans tT).size;have EQ:=wT.step (S:=λ_=>False) (aG.of G7) (λ_ k=>k.elim) (λ_ _ k=>k) (b4.eG _ _) (λb aa=>gw (Vq b aa) ayJ);have tg:dq (la (λx=>M x\/x=(w:Nat)) y2) b3 (λw=>wP w akT DB akU Vp):=λw' al=>(oT.dT al (λb aa=>by have:=Vq b aa;omega)).v;have Fd:dq (la (λx=>M x\/x=(w:Nat)) y2) b3 (λw=>sC w {cu with cO:=((s.l+1:Nat):Int)} s' ag ps):=(Vo.ext (tT.trans fv)).cx (λb aa=>by have:=Vq b aa;have:=bz.size;omega);obtain⟨dr,eF,fN,hx⟩:=akR bL.new bL.room;have Cm:DB<=200000:=by
  have:=eP List.length C4;rw[cr,cr]at this;have:=oT.cg.neq;omega
 have Fn:∀x,x∈Vp->1<=x.ay.length/\x.ay.length<=4000:=λx U=>by
  have:x.ay∈(xP s').map gl:=C4▸mJ U;obtain⟨r,ax,he⟩:=kN.1 this;rw[<-he];exact T9 (bL.new.Ih r ax)
 have A6:(gb (Vp.map (·.ay))).length<=c.room:=by rw[C4,Ua];exact bL.new.qK
 have Vr:=(fv.aB BM);have sq:b3.heap[(w:Nat)]?=some (lB:Obj):=G7.aB ((h8.block _ Qk (λk=>by have:=tE.out _ (av _ k);omega)).trans hB);replace EQ:=I EQ;replace tg:=I tg;replace Fd:=I Fd;replace Fn:=I Fn;replace C4:=I C4;replace Vr:=I Vr;replace sq:=I sq;replace G7:=I G7;clear oT fv dr eF fN hx eU di Ir ayI Vq bS;go_wp2_with fail;refine(arF _ D y2 eS q _ _ c.room akT DB akU Vp b3 EQ tg Cm Fn A6).mono ?_;rintro e bp⟨rfl,bP,lf,vn,pj,Ql,Qm⟩;have yR:=(pj.block _ (bT sq) (λk=>k.elim (λz=>by have:=tE.out _ (av _ z);omega) (λz=>by have:=fu.out _ z;have:=iB.out;omega))).trans sq
 have Al:=(pj.block _ (bT Vr) (λk=>by
  have:(w1:Nat)<=(aY:Nat):=c9.size
  have:=wT.cx _ (wT.sub _ k);omega)).trans Vr
 obtain⟨_,_,_,_⟩:=vx Al;obtain⟨_,_,_,_,_⟩:=Ci yR;replace vn:=I vn;replace pj:=I pj;replace Ql:=I Ql;replace Qm:=I Qm;replace yR:=I yR;clear Al;go_wp2_with fail;go_region;obtain⟨cV,yu⟩:∃cV,((((bp.setCell (w,0) (.int .u64 ((s.l:Int)+1))).setCell (w,1) cu.l).setCell (w,2) cu.p).setCell (w,3) cu.b)=cV:=⟨_,rfl⟩;have f0:=K9 yR (.int .u64 ((s.l:Int)+1)) cu.l cu.p cu.b;have oe:=CE (S:=λx=>x=(w:Nat)) (aG.refl _ bp) (R:=(w:Nat)) (.inl rfl) (.int .u64 ((s.l:Int)+1)) cu.l cu.p cu.b;rw[yu]at f0 oe;rw[yu];clear yu;have iy:aG (λx=>x=(w:Nat)) bp cV.drew:=oe.drew;obtain⟨z0,cU,z2,z3⟩:=vx f0;have gg:=iB.out;have akV:∀x,D x->x<(w:Nat):=λx U=>tE _ (av _ U);have Vs:∀x,bP x->D x\/(w:Nat)+1<=x:=λx U=>(Ql.new x U).imp id (λk=>by omega);have CT:∀x,lf x->(w:Nat)+1<=x:=λx U=>(Qm.new x U).elim (λk=>by have:=fu.out x k;omega) (λk=>by omega);have zX:∀x,la (la (λx=>M x\/x=(w:Nat)) y2) (oE bP lf) x->M x\/bP x\/x=(w:Nat)\/lf x:=λx U=>by
  rcases U with ((k|k)|k)|k|k
  ·exact .inl k
  ·exact .inr (.inr (.inl k))
  ·exact .inr (.inr (.inr (Qm.up x k)))
  ·exact .inr (.inl k)
  ·exact .inr (.inr (.inr k))
 have al:aG D w cV.drew:=by
  have cL:aG (λx=>D x\/y2 x\/x=(w:Nat)) w bp:=((aG.of cS).trans (h8.mono (λx _ k=>.inl k))).trans ((aG.of G7).trans (pj.mono (λx _ k=>k.elim .inl (λz=>.inr (.inl z)))));exact(cL.trans (iy.mono (λx _ k=>.inr (.inr k)))).mono (λx U k=>k.elim id (λk=>k.elim (λz=>by have:=fu.out x z;omega) (λz=>by subst z;omega)))
 have akW:=vn.step iy (M':=la (la (λx=>M x\/x=(w:Nat)) y2) (oE bP lf)) (λb aa=>.inl (.inl (.inr aa))) (λb aa C3=>by subst C3;exact aa.elim (λk=>(Vs _ k).elim (λz=>by have:=akV _ z;omega) (λz=>by omega)) (λk=>by have:=CT _ k;omega)) (b4.eG _ _) (λb aa=>gw (vn.cx b aa) iy.size);rw[C4.out]at akW;have Vk:=((Fd.step (pj.mono (S':=la (λx=>M x\/x=(w:Nat)) y2) (λx _ k=>wT.sub x k)) (M':=la (la (λx=>M x\/x=(w:Nat)) y2) (oE bP lf)) ⟨λx k=>.inl k,λx k=>k.elim .inl (λz=>z.elim (λy=>(Ql.new x y).imp (λv=>wT.sub x (.inl v)) id) (λy=>(Qm.new x y).imp (λv=>wT.sub x (.inr v)) id))⟩).step (iy.mono (λx _ k=>.inl (.inl (.inr k)))) (b4.eG _ _));go_wp2_with fail;refine⟨rfl,_,(by simp[results,results115,go_sem,z0,cU,z2,z3];rfl),?_⟩;exact⟨eS,{cu with cO:=(s.l:Int)+1},_,bP,lf,(λx=>x=(w:Nat)\/lf x),rfl,akW,Vk.mono (λw k=>⟨ag,ps,k⟩),al,⟨λx k=>Ql.up x k,λx k=>(Vs x k).imp id (λz=>by omega)⟩,⟨λx k=>.inl (.inl (.inl k)),λx k=>(zX x k).elim .inl (λz=>z.elim (λy=>(Vs x y).elim (λv=>.inl (av x v)) (λv=>.inr J)) (λy=>.inr (y.elim (λv=>by omega) (λv=>by have:=CT x v;omega))))⟩,zX,λx k=>.inr k,λx k=>⟨k.elim (λv=>by omega) (λv=>by have:=CT x v;omega),k.elim (λv=>.inl (.inl (.inr v))) (λv=>.inr (.inr v))⟩,λx k hk=>hk.elim (λz=>(Vs x k).elim (λv=>by have:=akV x v;omega) (λv=>by omega)) (λz=>vn.gK x k z)⟩
section
section
variable {P:Program}{ops:Array Oper}{Q:Exit->Act->World->Prop}{md:Region.Mode}{S:World->Prop}{L:Nat}
def akX:∀(n:Nat) (l:Array Bool) (a:Act) (w:aC),l.getD L true=true->wpAnyH P md ops Q (λ_=>True) n l a w->rT P md ops Q S L n l a w
 |0,_,_,_,_,h=>h
 |n+1,l,_,_,aT,h=>⟨h.1,λi aO=>wpOp_mono (λhU w' k=>⟨λe=>(by rw[aT]at e;cases e),akX n _ hU w' (by
   rw[ZF,Wr]
   rw[ZF]at aT
   split
   ·split<;>rfl
   ·exact aT) k.2⟩) (h.2 i aO)⟩
end
end
section
section
variable {P:Program}{n:Nat}{α:Type}{g:Operand}{ps:Array Tmp}{assign body:Code}{Q:Exit->Act->World->Prop}{a:Act}{w:World}
def ayK{gf:Nat}{lb:Array Value}(bu:a.eval g=.func (.func gf) #[] lb)(ayL:∀args w,(callFunc gf args).run P w=.ok (.enter gf args) w)(Vt:α->Array Value)(sN:∀x,(Vt x).size=ps.size)(p:α->Prop)(S:List α->Prop)(D:Nat)(jw:(w:Nat)=D)(mX:List α->aC->Prop)(UZ:∀r,mX [] ((w.alloc (.deferred (some []))).alloc (.loop r)))(Fr:∀cC W r T4,mX cC W->W.heap[D+1]?=some (.loop r)->mX cC (W.putObj (D+1) (.loop T4)))(GE:∀(l:Nat) (l9:List α->aC->Prop) (W:aC),(∀cC W,l9 cC W->mX cC W)->(∀cC x iD,p x->l9 cC iD->YieldAt Fence.wide (n - 1 - 1) P l (Vt x) iD λe W'=>e=.returned (.bool true)/\l9 (cC++[x]) W')->l9 [] W->
   CallsIn Fence.wide (n - 1) P gf (#[.func (.yield l) #[] #[]]++lb) W λe W'=>(∃v,e=.returned v)/\∃xs,S xs/\l9 xs W')(akY:α->Act)(ayM:∀(l:Nat) (x:α) (W:aC) (K:Act->aC->Prop),K (akY x) W->
   assign.wpIn (Fence.wide.inRound l) (n - 1 - 1) P (Exit.then K (λ_ _ _=>False)) {tmps:=(ps.zip (Vt x)).foldl (λt (p,v)=>t.setIfInBounds p v) a.tmps,defers:= []} W)(ayN:∀(l:Nat) (cC:List α) (x:α) (W:aC),p x->mX cC W->D+1<(W:Nat)->
   body.wpIn (Fence.wide.inRound l) (n - 1 - 1) P (λe _ W'=>e=.normal/\(W'.heap[D]? =W.heap[D]? /\W'.heap[D+1]? =W.heap[D+1]?)/\mX (cC++[x]) W') (akY x) W)(ayO:∀(xs:List α) (W:aC),S xs->mX xs W->W.heap[D]?=some (.deferred (some []))->Q .normal {a with defers:={target:=.collected D,args:=#[]}::a.defers} W):
  (Code.rangeFunc g ps assign body).wpIn Fence.wide n P Q a w:=by
 subst jw;refine wpIn_rangeFunc ?_;intro fn MZ;obtain⟨rec,G8⟩:∃rec:LoopState->Option Code->Loop,rec=λst Qn=> {state:=st,pending:=Qn,fn,tmps:=a.tmps,params:=ps,assign,body,defers:=(w:Nat)}:=⟨_,rfl⟩;obtain⟨iD,gq⟩:∃iD,(w.alloc (.deferred (some []))).alloc (.loop (rec .ready none))=iD:=⟨_,rfl⟩;have ayP:iD.heap[(w:Nat)+1]?=some (.loop (rec .ready none)):=by
  rw[<-gq];have:=World.alloc_heap_new (w.alloc (.deferred (some []))) (.loop (rec .ready none));rwa [World.size_alloc]at this
 have es:iD.heap[(w:Nat)]?=some (.deferred (some [])):=by
  rw[<-gq];exact(Below.heap_alloc _ _ _ (by simp)).trans (World.alloc_heap_new w _)
 have UF:mX [] iD:=by rw[<-gq];exact UZ _
 refine⟨(w:Nat)+1,[{target:=.collected (w:Nat),args:=#[]}],iD,{target:=.fn (.func gf) lb,args:=#[.func (.yield (w.heap.size+1)) #[] #[]]},iD,gf,
  #[.func (.yield (w.heap.size+1)) #[] #[]]++lb,iD,?_,?_,?_,?_,?_,?_⟩
 ·rw[<-gq,G8];exact run_enterLoop_outer _ _ _ _ _
 ·simp only[resolve,bu];simp[go_sem]
 ·intro _ _;trivial
 ·simp[invoke,go_sem,ayL]
 ·intro h;cases h
 ·refine(GE (w.heap.size+1) (λcC W=>mX cC W/\W.heap[(w:Nat)+1]?=some (.loop (rec .ready none))/\W.heap[(w:Nat)]?=some (.deferred (some []))) iD (λ_ _ h=>h.1) ?_ ⟨UF,ayP,es⟩).mono ?_
  ·rintro cC x W U⟨aO,aT,hk⟩;have fM:(w:Nat)+1<(W:Nat):=(FM.1 aT).1;have hy:=run_yield (P:=P) (args:=Vt x) aT (by rw[G8];exact sN x);rw[G8]at hy;refine⟨fn,_,assign,body,hy,roundIn_of_wpIn MZ (ayM _ x W _ ⟨_,run_beginRound aT (by rw[G8]),?_⟩)⟩;have ox:(W.putObj (w.heap.size+1) (.loop {rec .ready none with state:=.busy})).heap[(w:Nat)+1]?=some (.loop {rec .ready none with state:=.busy}):=World.putObj_heap_same fM;have k3:(W.putObj (w.heap.size+1) (.loop {rec .ready none with state:=.busy})).heap[(w:Nat)]?=some (.deferred (some [])):=(Vu J).trans hk;refine wpIn_mono (ayN _ cC x _ U (Fr _ _ _ _ aO aT) (by simp;exact fM)) ?_;rintro e a3 _⟨rfl,⟨dV,bS⟩,ayQ⟩;have zJ:=bS.trans ox;have ax:=run_endRound (P:=P) none zJ
   exact⟨_,_,ax,rfl,by
    have:=Fr _ _ _ (rec .ready none) ayQ zJ;rw[G8]at this ⊢
    exact this,by rw[G8];exact World.putObj_heap_same (FM.1 zJ).1,(Vu J).trans (dV.trans k3)⟩
  ·rintro e _⟨⟨v,rfl⟩,xs,a8,aO,aT,hk⟩;have he:=run_endLoop (P:=P) aT (by rw[G8];simp);have aV:(rec .ready none).pending=none:=by rw[G8]
   rw[aV]at he;exact⟨none,_,he,ayO xs _ a8 (Fr _ _ _ _ aO aT) ((Vu J).trans hk)⟩
def ayR{F:Fence}{c:Code}(mX:Nat->Act->aC->Prop)(g0:Nat)(aW:mX g0 a w)(round:∀k a w,mX k a w->c.wpIn F n P (Exit.then (λhU w'=>∃lV,lV<k/\mX lV hU w') Q) a w):(Code.loop c).wpIn F n P Q a w:=by
 have key:∀m k a w,k<m->mX k a w->Code.roundsIn F n P c Q m a w:=by
  intro m;induction m with
  |zero=>intro k a w h;omega
  |succ m cI=>
   intro k a w _ aO;rw[roundsIn_succ];refine wpIn_mono (round k a w aO) ?_;intro e hU w' h;cases e with
   |normal=>obtain⟨lV,ae,ak⟩:=h;exact cI lV hU w' J ak
   |ret=>exact h
   |exit id=>exact h
   |goto l=>exact h
   |panic aCU=>exact h
   |outgrown=>exact h
 exact wpIn_loop_rounds (g0+1) (key _ _ _ _ (P5 _) aW)
end
end
section
structure qY where
 cD:iY
 aj:iY
 lT:Value
 aX:iY
 dg:Nat
 fJ:iY
 go:iY
def zu(q:Nat):List Value:= [.pointer (some ⟨q,0,none⟩)]
def zu.bH(q:Nat):(zu q).length=1:=rfl
def tH(w:World)(dg N:Nat)(h:Nat->Option Nat):Prop:=∃(s:Nat) (f:Lit->Option Value) (e5:List Nat),fl w prog 3 dg s s f/\(e5.Nodup/\∀k,k∈e5->k<N)/\s=e5.length/\
 ∀k:Nat,k<N->match h k with
  |none=>k∉e5/\f (.int .i64 k)=none
  |some p=>k∈e5/\f (.int .i64 k)=some (.pointer (some ⟨p,0,none⟩))
section
variable {w w':World}{dg N:Nat}{h:Nat->Option Nat}
def tH.lt(k:tH w dg N h):dg<(w:Nat):=by obtain⟨s,f,_,ae,_⟩:=k;exact ae.lt
def tH.aB(k:tH w dg N h)(aa:w'.heap[dg]? =w.heap[dg]?):tH w' dg N h:=by
 obtain⟨s,f,e5,ae,ak⟩:=k;exact⟨s,f,e5,ae.aB aa,ak⟩
def Qo(hk:k≠n):(Lit.int .i64 (k:Int))≠.int .i64 (n:Int):=λe=>hk (by injection e with _ e;exact PZ e)
def tH.put{s gE s':Nat}{f:Lit->Option Value}{p:Nat}(ak:e5.Nodup/\∀k,k∈e5->k<N)(aM:s=e5.length)(cb:∀k:Nat,k<N->match h k with|none=>k∉e5/\f (.int .i64 k)=none|some p=>k∈e5/\f (.int .i64 k)=some (.pointer (some ⟨p,0,none⟩)))(an:n<N)(dG:N<1000000)(hF:fl w' prog 3 dg gE s' (vY f (.int .i64 n) (some (.pointer (some ⟨p,0,none⟩)))))(hs:s'=if (f (.int .i64 n)).isSome=true then s else s+1):
  tH w' dg N (λk=>if k=n then some p else h k):=by
 have cB:=cb n J;by_cases yH:n∈e5
 ·have h1:(f (.int .i64 n)).isSome=true:=by
   cases ax:h n with
   |none=>rw[ax]at cB;exact absurd yH cB.1
   |some m=>rw[ax]at cB;rw[cB.2];rfl
  rw[bm h1]at hs;refine⟨s',_,e5,hF.PY,ak,by rw[hs,aM],λk hk=>?_⟩;by_cases lF:k=n
  ·dsimp only;rw[bm lF];exact⟨by rw[lF];exact yH,by rw[lF,EE]⟩
  ·dsimp only;rw[bj lF];have:=cb k hk;cases ax:h k with
   |none=>exact akZ
   |some m=>exact akZ
 ·have PH:(f (.int .i64 n)).isSome=false:=by
   cases ax:h n with
   |none=>rw[ax]at cB;rw[cB.2];rfl
   |some m=>rw[ax]at cB;exact absurd cB.1 yH
  rw[bj (by rw[PH];decide)]at hs;refine⟨s',_,n::e5,hF.PY,⟨Gf.2 ⟨yH,ak.1⟩,λk hk=>(nK.1 hk).elim (λe=>e▸an) (ak.2 k)⟩,by rw[hs,aM];rfl,λk hk=>?_⟩;by_cases lF:k=n
  ·dsimp only;rw[bm lF];exact⟨by rw[lF];exact kh,by rw[lF,EE]⟩
  ·dsimp only;rw[bj lF];have:=cb k hk;cases ax:h k with
   |none=>rw[ax]at this;exact⟨λe=>(nK.1 e).elim lF this.1,by rw[yc (Qo lF)];exact this.2⟩
   |some m=>rw[ax]at this;exact⟨kA _ this.1,by rw[yc (Qo lF)];exact this.2⟩
def tH.del{s gE s':Nat}{f:Lit->Option Value}(ak:e5.Nodup/\∀k,k∈e5->k<N)(aM:s=e5.length)(cb:∀k:Nat,k<N->match h k with|none=>k∉e5/\f (.int .i64 k)=none|some p=>k∈e5/\f (.int .i64 k)=some (.pointer (some ⟨p,0,none⟩)))(an:n<N)(dG:N<1000000)(hF:fl w' prog 3 dg gE s' (vY f (.int .i64 n) none))(hs:s'=if (f (.int .i64 n)).isSome=true then s - 1 else s):
  tH w' dg N (λk=>if k=n then none else h k):=by
 have cB:=cb n J;have hlen:s'=(e5.erase n).length:=by
  rw[List.length_erase];cases ax:h n with
  |none=>rw[ax]at cB;rw[cB.2]at hs;rw[bj cB.1,hs,aM];rfl
  |some m=>rw[ax]at cB;rw[cB.2]at hs;rw[bm cB.1,hs,aM];rfl
 refine⟨s',_,e5.erase n,hF.PY,⟨ak.1.erase n,λk hk=>ak.2 k (List.mem_of_mem_erase hk)⟩,hlen,λk hk=>?_⟩;by_cases lF:k=n
 ·dsimp only;rw[bm lF];exact⟨by rw[lF];exact ak.1.not_mem_erase,by rw[lF,EE]⟩
 ·dsimp only;rw[bj lF];have:=cb k hk;cases ax:h k with
  |none=>rw[ax]at this;exact⟨λe=>this.1 (List.mem_of_mem_erase e),by rw[yc (Qo lF)];exact this.2⟩
  |some m=>rw[ax]at this;exact⟨(List.mem_erase_of_ne lF).2 this.1,by rw[yc (Qo lF)];exact this.2⟩
end
def BN(w:World)(M D O:Nat->Prop)(c:bt)(p q:Nat):n1->Prop
 |.up b=>rp w M D O c p q b
 |.down l=>ly w D q (gb (l.map gl)) (gb (l.map gl)).length c.room/\H5 (l.map gl)
def mi(bR:Nat->n1)(p:Nat->Nat)(k:Nat):Option Nat:=match bR k with
 |.up _=>some (p k)
 |.down _=>none
structure mD where
 s:iY
def mD.cs(y:mD):List Value:= [.slice y.s.a y.s.n y.s.c]
def mD.bH(y:mD):y.cs.length=1:=rfl
structure rz (w:World) (W:Nat->Prop) (s:iY) (N:Nat) (cur:Nat->Nat):Prop where
 aCV:∃gs:List mD,Own w 0 133 1 mD.cs s.a s.n s.c gs/\gs.length=N/\(∀y,y∈gs->∃ys:List mD,Own w 0 64 1 mD.cs y.s.a y.s.n y.s.c ys/\∀ai,y.s.a=some ai->W ai.block)/\
  (∀(i j:Nat) (y z:mD) (ai nw:Addr),gs[i]?=some y->gs[j]?=some z->y.s.a=some ai->z.s.a=some nw->ai.block=nw.block->i=j)/\∀k y,gs[k]?=some y->y.s.n<=cur k
 bI:∀ai,s.a=some ai->W ai.block
structure lG (w:World) (M:Nat->Prop) (c:bt) (P:Nat) (bR:Nat->n1) (cur:Nat->Nat) (v:qY) (p q:Nat->Nat) (D O:Nat->Nat->Prop) (W:Nat->Prop):Prop where
 box:w.heap[P]?=some (.cells #[v.cD,v.aj,v.lT,v.aX,.map (some v.dg),v.fJ,v.go] 90 (0,0))
 lR:dq M w (λw=>a1 w 1 dD v.cD.a v.cD.n v.cD.c c.ps/\a1 w 1 dD v.aj.a v.aj.n v.aj.c c.hs/\a1 w 1 zu v.aX.a v.aX.n v.aX.c ((List.range c.ps.length).map q))
 dg:tH w v.dg c.ps.length (mi bR p)
 qs:∀n,n<c.ps.length->BN w M (D n) (O n) c (p n) (q n) (bR n)
 fJ:Own w 0 3 1 dD v.fJ.a v.fJ.n v.fJ.c ((List.range c.hs.length).map (λk=>(cur k:Int)))
 go:rz w W v.go c.hs.length cur
 bI:W P/\W v.dg/\(∀ai,v.fJ.a=some ai->W ai.block)
 qv:∀x,W x->M x
 sub:∀n,n<c.ps.length->∀x,D n x\/O n x->M x
 uB:∀n,n<c.ps.length->∀x,D n x\/O n x->¬W x
 gK:∀n k,n<c.ps.length->k<c.ps.length->k≠n->∀x,D n x\/O n x->¬(D k x\/O k x)
 G9:∀n,n<c.ps.length->∀x,D n x->¬O n x
 cx:∀x,M x->x<w.heap.size
section
variable {w w':World}{M M' D bP O bZ S:Nat->Prop}{c:bt}{p q:Nat}{x:n1}
def BN.step(h:BN w M D O c p q x)(al:aG S w w')(a8:∀x,S x->M x)(aD:∀x,D x\/O x->¬S x)(bc:b4 w M M')(aT:∀x,M' x->x<(w':Nat)):BN w' M' D O c p q x:=by
 cases x with
 |up b=>obtain⟨v,k⟩:=h;exact⟨v,k.step al a8 aD bc aT⟩
 |down l=>exact⟨h.1.dT al (λb aa=>aD b (.inl aa)),h.2⟩
def rz.dT{W:ff}{s:iY}{N:Nat}{cur:Nat->Nat}(h:rz w W s N cur)(al:aG S w w')(aD:∀x,W x->¬S x):rz w' W s N cur:=by
 obtain⟨⟨gs,ae,ak,aM,bn⟩,cb⟩:=h;exact⟨⟨gs,al.bI ae (λai aj=>aD _ (cb ai aj)),ak,λy hy=>let ⟨ys,bQ,bY⟩:=aM y hy;⟨ys,al.bI bQ (λai aj=>aD _ (bY ai aj)),bY⟩,bn⟩,cb⟩
def Bv.Ha{buf:Array Value}{l:List dC}(h:Bv w M buf l)(al:aG M w w')(bc:b4 w M M'):Bv w' M' buf l:=
 ⟨h.1,λk m hk=>by obtain⟨ae,a,n,c,ak,aM⟩:=h.2 k m hk;exact⟨ae,a,n,c,ak,aM.step al bc⟩⟩
def qW.Ha{cA:Nat}{g:Nat->Nat->Nat}{c4:Nat->Nat->List dC}(h:qW w M c cA g c4)(al:aG S w w')(a8:∀x,S x->M x)(aD:∀x,tz c g x->¬S x)(bc:b4 w M M'):qW w' M' c cA g c4:=
 ⟨h.map.step (al.sub a8) bc,h.inj,λa b e=>bc.up _ (h.EG a b e),λa b e=>by
  obtain⟨buf,s,r,bQ,bY⟩:=h.chan a b e
  exact⟨buf,s,r,(al.block _ (bT bQ) (aD _ ⟨a,b,e,rfl⟩)).trans bQ,bY.Ha (al.sub a8) bc⟩⟩
end
section
variable {w w':World}{M M' W S:Nat->Prop}{c:bt}{P:Nat}{bR:Nat->n1}{cur:Nat->Nat}{v:qY}{p q:Nat->Nat}{D O:Nat->Nat->Prop}
def lG.step(h:lG w M c P bR cur v p q D O W)(al:aG S w w')(a8:∀x,S x->M x)(fa:∀x,W x->¬S x)(aD:∀n,n<c.ps.length->∀x,D n x\/O n x->¬S x)(bc:b4 w M M')(aT:∀x,M' x->x<(w':Nat)):lG w' M' c P bR cur v p q D O W:=
 ⟨(al.block _ (bT h.box) (fa _ h.bI.1)).trans h.box,h.lR.step (al.sub a8) bc,h.dg.aB (al.block _ h.dg.lt (fa _ h.bI.2.1)),λn an=>(h.qs n an).step al a8 (aD n an) bc aT,al.bI h.fJ (λai aj=>fa _ (h.bI.2.2 ai aj)),h.go.dT al fa,h.bI,λx U=>bc.up x (h.qv x U),λn an x U=>bc.up x (h.sub n an x U),h.uB,h.gK,h.G9,aT⟩
def lG.ext(h:lG w M c P bR cur v p q D O W)(U:Z w w'):lG w' M c P bR cur v p q D O W:=
 h.step (S:=λ_=>False) (.of U) (λ_ k=>k.elim) (λ_ _ k=>k) (λ_ _ _ _ k=>k) (b4.eG _ _) (λx k=>gw (h.cx x k) U.size)
def lG.node{bP bZ:ff}{ns':Nat->n1}(h:lG w M c P bR cur v p q D O W)(an:n<c.ps.length)(al:aG (oE (D n) (O n)) w w')(jw:b4 w (D n) bP)(dO:∀x,bZ x->O n x\/(w:Nat)<=x)(bc:b4 w M M')(aT:∀x,M' x->x<(w':Nat))(hs:∀x,bP x\/bZ x->M' x)(zv:∀x,bP x->¬bZ x)(sm:BN w' M' bP bZ c (p' n) (q n) (ns' n))(cB:∀k,k≠n->ns' k=bR k)(aV:∀k,k≠n->p' k=p k)(lg:mi ns' p'=mi bR p):
  lG w' M' c P ns' cur v p' q (λk=>if k=n then bP else D k) (λk=>if k=n then bZ else O k) W:=by
 have a8:∀x,oE (D n) (O n) x->M x:=λx U=>h.sub n an x U;have fa:∀x,W x->¬oE (D n) (O n) x:=λx U k=>h.uB n an x k U;have py:∀x,bP x\/bZ x->(D n x\/O n x)\/(w:Nat)<=x:=λx U=>U.elim (λk=>(jw.new x k).imp .inl id) (λk=>(dO x k).imp .inr id);refine⟨(al.block _ (bT h.box) (fa _ h.bI.1)).trans h.box,h.lR.step (al.sub a8) bc,lg▸h.dg.aB (al.block _ h.dg.lt (fa _ h.bI.2.1)),λk hk=>?_,al.bI h.fJ (λai aj=>fa _ (h.bI.2.2 ai aj)),h.go.dT al fa,h.bI,λx U=>bc.up x (h.qv x U),λk hk x U=>?_,λk hk x U hw=>?_,λj k aJ hk G2 x U hy=>?_,λk hk x U hy=>?_,aT⟩
 ·by_cases e:k=n
  ·subst e;simp only[bm];exact sm
  ·simp only[bj e];rw[cB k e,aV k e];exact(h.qs k hk).step al a8 (λx U=>h.gK k n hk an (λuH=>e uH.symm) x U) bc aT
 exact ak0;exact ak1;exact ak2;exact ak3
end
structure p0 (w:World) (M:Nat->Prop) (c:bt) (P:Nat) (aU:aZ) (v:qY) (cA:Nat) (g:Nat->Nat->Nat) (p q:Nat->Nat) (D O:Nat->Nat->Prop) (W:Nat->Prop):Prop where
 dh:lG w M c P aU.bR aU.cur v p q D O W
 tR:v.lT=.pointer (some ⟨cA,0,none⟩)
 lT:qW w M c cA g aU.iz
 zw:∀x,tz c g x->¬W x
 As:∀n,n<c.ps.length->∀x,tz c g x->¬(D n x\/O n x)
 c4:∀a b,mR c a b=false->aU.iz a b= []
def uC(c:bt)(g:Nat->Nat->Nat)(D O:Nat->Nat->Prop)(W:Nat->Prop)(x:Nat):Prop:=W x\/tz c g x\/∃n,n<c.ps.length/\(D n x\/O n x)
def jh(w:World)(M F:Nat->Prop)(c:bt)(P:Nat)(aU:aZ):Prop:=∃v cA g p q D O W,p0 w M c P aU v cA g p q D O W/\∀x,F x↔uC c g D O W x
structure hJ (w:World) (M F:Nat->Prop) (w':World) (M' fb:Nat->Prop):Prop where
 dT:aG F w w'
 f:b4 w F fb
 m:b4 w M M'
def C5(c:bt)(P:Nat)(w:World)(M F:Nat->Prop)(u:Value)(aU:aZ)(e:Ending)(w':World):Prop:=∃M' fb,e=.returned u/\jh w' M' fb c P aU/\hJ w M F w' M' fb
section
variable {w w' fj:World}{M M' CQ F fb OS:Nat->Prop}
def hJ.of(h:Z w w'):hJ w M F w' M F:=⟨.of h,b4.refl _ _,b4.refl _ _⟩
def hJ.trans(h:hJ w M F w' M' fb)(k:hJ w' M' fb fj CQ OS):hJ w M F fj CQ OS:=
 ⟨h.dT.wS k.dT (λx U=>h.f.new x U),h.f.trans k.f h.dT.size,h.m.trans k.m h.dT.size⟩
def hJ.ext(h:hJ w M F w' M' fb)(U:Z w' fj):hJ w M F fj M' fb:=h.trans (.of U)
def hJ.cC(U:Z w w')(h:hJ w' M F fj M' fb):hJ w M F fj M' fb:=(hJ.of U).trans h
def hJ.pJ{Q:z6}(h:hJ w M F w' M' fb)(hs:∀x,F x->M x)(k:dq M w Q):dq M' w' Q:=k.step (h.dT.sub hs) h.m
end
section
variable {w w':World}{M M' W S:Nat->Prop}{c:bt}{P cA:Nat}{aU:aZ}{v:qY}{g:Nat->Nat->Nat}{p q:Nat->Nat}{D O:Nat->Nat->Prop}
def qW.lt{c4:Nat->Nat->List dC}(h:qW w M c cA g c4):∀x,tz c g x->x<(w:Nat):=λx ⟨a,b,e,k⟩=>by
 obtain⟨_,s,r,bQ,_⟩:=h.chan a b e;rw[k];exact bT bQ
def p0.ext(h:p0 w M c P aU v cA g p q D O W)(U:Z w w'):p0 w' M c P aU v cA g p q D O W:=⟨h.dh.ext U,h.tR,h.lT.ext U,h.zw,h.As,h.c4⟩
def jh.ext{F:ff}(h:jh w M F c P aU)(U:Z w w'):jh w' M F c P aU:=let ⟨v,cA,g,p,q,D,O,W,k,e⟩:=h;⟨v,cA,g,p,q,D,O,W,k.ext U,e⟩
def p0.Vv(h:p0 w M c P aU v cA g p q D O W)(x:Nat)(U:uC c g D O W x):M x:=U.elim (h.dh.qv x) (λk=>k.elim (fun⟨a,b,e,k⟩=>k▸h.lT.EG a b e) (fun⟨n,an,k⟩=>h.dh.sub n an x k))
def jh.sub{F:ff}(h:jh w M F c P aU):∀x,F x->M x:=λx U=>let ⟨v,cA,g,p,q,D,O,W,k,e⟩:=h;k.Vv x ((e x).1 U)
def jh.cx{F:ff}(h:jh w M F c P aU):∀x,M x->x<(w:Nat):=let ⟨v,cA,g,p,q,D,O,W,k,e⟩:=h;k.dh.cx
def jh.step{F:ff}(h:jh w M F c P aU)(al:aG S w w')(a8:∀x,S x->M x)(hF:∀x,F x->¬S x)(bc:b4 w M M')(aT:∀x,M' x->x<(w':Nat)):jh w' M' F c P aU:=by
 obtain⟨v,cA,g,p,q,D,O,W,k,e⟩:=h;have ae:∀x,uC c g D O W x->¬S x:=λx U=>hF x ((e x).2 U);exact⟨v,cA,g,p,q,D,O,W,⟨k.dh.step al a8 (λx U=>ae x (.inl U)) (λn an x U=>ae x (.inr (.inr ⟨n,an,U⟩))) bc aT,k.tR,k.lT.Ha al a8 (λx U=>ae x (.inr (.inl U))) bc,k.zw,k.As,k.c4⟩,e⟩
def p0.Fk{b b':az}{bP bZ:ff}(h:p0 w M c P aU v cA g p q D O W)(an:n<c.ps.length)(aa:aU.bR n=.up b)(hm:ig w M (D n) (O n) w' M' bP bZ)(U:rp w' M' bP bZ c (p n) (q n) b'):
  p0 w' M' c P (aU.hc n (.up b')) v cA g p q (λk=>if k=n then bP else D k) (λk=>if k=n then bZ else O k) W:=by
 obtain⟨Ml,kV⟩:=U;have py:∀x,bP x\/bZ x->(D n x\/O n x)\/(w:Nat)<=x:=λx U=>U.elim (λk=>(hm.d.new x k).imp .inl id) (λk=>(hm.o.new x k).imp .inr id);refine⟨h.dh.node an hm.dT hm.d hm.o.new hm.m kV.cx (λx U=>U.elim (kV.sP x) (kV.sub x)) kV.gK (show BN w' M' bP bZ c (p n) (q n) ((aU.hc n (.up b')).bR n) by rw[x1];exact⟨Ml,kV⟩) (λk hk=>CC aU _ hk) (λ_ _=>rfl) ?_,h.tR,?_,h.zw,λk hk x U hy=>?_,h.c4⟩
 ·funext k;unfold mi;by_cases e:k=n
  ·subst e;rw[x1,aa]
  ·rw[CC aU _ e]
 ·exact h.lT.Ha hm.dT (λx U=>h.dh.sub n an x U) (λx U=>h.As n an x U) hm.m
 ·by_cases e:k=n
  ·subst e;simp only[bm]at hy;rcases py x hy with z|z
   ·exact h.As k hk x U z
   ·have:=h.lT.lt x U;omega
  ·simp only[bj e]at hy;exact h.As k hk x U hy
def p0.iz{c4:Nat->Nat->List dC}(h:p0 w M c P aU v cA g p q D O W)(dG:qW w' M c cA g c4)(al:aG (tz c g) w w')(hk:∀a b,mR c a b=false->c4 a b= []):p0 w' M c P {aU with iz:=c4} v cA g p q D O W:=
 ⟨h.dh.step al (λx ⟨a,b,e,k⟩=>k▸h.lT.EG a b e) (λx U k=>h.zw x k U) (λn an x U k=>h.As n an x k U) (b4.eG _ _) (λx k=>gw (h.dh.cx x k) al.size),h.tR,dG,h.zw,h.As,hk⟩
def ak4{c4:Nat->Nat->List dC}{a:Nat}{ms:List dC}(hw:mR c a b=true)(h:∀x y,mR c x y=false->c4 x y= []):∀x y,mR c x y=false->EH c4 a b ms x y= []:=λx y EI=>by
 unfold EH;rw[bj (by rintro ⟨rfl,rfl⟩;rw[hw]at EI;cases EI)];exact h x y EI
end
end
section
def Vw(w:aC):(zeroValue 103).run prog w=.ok (.pointer none) w:=zeroValue103 w
section
variable {w:World}{M W:Nat->Prop}{c:bt}{P:Nat}{bR:Nat->n1}{cur:Nat->Nat}{v:qY}{p q:Nat->Nat}{D O:Nat->Nat->Prop}
def tH.get{dg:Nat}{h:Nat->Option Nat}(k:tH w dg N h)(an:n<N):
  ∃(s:Nat) (f:Lit->Option Value) (a:bk),fl w prog 3 dg s s f/\(f (.int .i64 n)).getD (.pointer none)=.pointer a/\a=(h n).map (λp=>⟨p,0,none⟩)/\(f (.int .i64 n)).isSome=(h n).isSome:=by
 obtain⟨s,f,_,ae,_,_,bn⟩:=k;have:=bn n an;cases ax:h n with
 |none=>rw[ax]at this;exact⟨s,f,none,ae,by rw[this.2];rfl,rfl,by rw[this.2];rfl⟩
 |some p=>rw[ax]at this;exact⟨s,f,some (p,0),ae,by rw[this.2];rfl,rfl,by rw[this.2];rfl⟩
def Fl(h:lG w M c P bR cur v p q D O W)(n:Int):aR 39 #[P,n] w λe w'=>e=.returned (.bool (decide (0<=n/\n<(c.ps.length:Int))))/\Z w w':=by
 have eI:=aI (o:=0) h.box rfl;have an:=h.lR.dQ.1.neq;clear h;obtain⟨r,ax⟩:∃r,decide (0<=n/\n<(c.ps.length:Int))=r:=⟨_,rfl⟩;rw[ax];by_cases aW:0<=n
 ·have GC:decide ((0:Int)<=n)=true:=mS aW;have e4:decide (n<(v.cD.n:Int))=r:=by rw[<-ax];exact FI.2 J
  clear aW an ax;go_enter func39,ntmps39;go_wp2_with fail;go_ret;exact⟨by first|rfl|(rw[<-e4];rfl),X⟩
 ·have e4:decide ((0:Int)<=n)=false:=lo aW;rw[lo J]at ax;subst ax;clear aW an;go_enter func39,ntmps39;go_wp2_with fail;go_ret;exact⟨rfl,X⟩
def GT(h:lG w M c P bR cur v p q D O W)(n:Int):aR 81 #[P,n] w λe w'=>e=.returned (.bool (decide (0<=n/\n<(c.hs.length:Int))))/\Z w w':=by
 have eI:=aI (o:=1) h.box rfl;have an:=h.lR.dQ.2.1.neq;clear h;obtain⟨r,ax⟩:∃r,decide (0<=n/\n<(c.hs.length:Int))=r:=⟨_,rfl⟩;rw[ax];by_cases aW:0<=n
 ·have GC:decide ((0:Int)<=n)=true:=mS aW;have e4:decide (n<(v.aj.n:Int))=r:=by rw[<-ax];exact FI.2 J
  clear aW an ax;go_enter func81,ntmps81;go_wp2_with fail;go_ret;exact⟨by first|rfl|(rw[<-e4];rfl),X⟩
 ·have e4:decide ((0:Int)<=n)=false:=lo aW;rw[lo J]at ax;subst ax;clear aW an;go_enter func81,ntmps81;go_wp2_with fail;go_ret;exact⟨rfl,X⟩
def qZ(c:bt)(bR:Nat->n1)(n:Int):Bool:=decide (0<=n/\n<(c.ps.length:Int))&&(match bR n.toNat with|.up _=>true|.down _=>false)
def Id(h:lG w M c P bR cur v p q D O W)(dG:c.ps.length<=1000000)(n:Int):aR 11 #[P,n] w (cM (.bool (qZ c bR n)) w):=by
 have H:=I h;obtain⟨r,ax⟩:∃r,qZ c bR n=r:=⟨_,rfl⟩;rw[ax];unfold qZ at ax;by_cases aW:0<=n/\n<(c.ps.length:Int)
 ·obtain⟨k,rfl⟩:∃k:Nat,n=(k:Int):=⟨n.toNat,J⟩;rw[mS aW,IW,nQ]at ax;obtain⟨s,f,a,ef,cv,aj,hs⟩:=h.dg.get (n:=k) J;have av:(f (.int .i64 (k:Int))).isSome=r:=by rw[hs,<-ax];unfold mi;cases bR k<;>rfl
  have oI:=I (CU (k:=(k:Int)) (uk J J));have c5:decide (0<=(k:Int)/\(k:Int)<(c.ps.length:Int))=true:=mS aW;have fm:=aI (o:=4) h.box rfl;replace ef:=I ef;replace cv:=I cv;replace av:=I av;replace c5:=I c5;clear h aW ax aj hs;go_enter func11,ntmps11;go_wp2_with fail;refine(Fl (H.ext X) (k:Int)).mono ?_;rintro e w1⟨rfl,bU⟩;rw[c5.out];have Vx:=bU.ah fm;replace bU:=I bU;go_wp2_with (at_lookup;(refine If ?_;intro K aL;clear aL K));go_ret;exact⟨rfl,X⟩
 ·rw[lo aW,Gz]at ax;subst ax;refine In ?_;intro c5;clear h aW;go_enter func11,ntmps11;go_wp2_with fail;refine(Fl (H.ext X) n).mono ?_;rintro e _⟨rfl,bU⟩;rw[c5.out];replace bU:=I bU;go_wp2_with fail;go_ret;exact⟨rfl,X⟩
def rA(c:bt)(bR:Nat->n1)(p:Nat->Nat)(cl:Int):Option Addr×Int:=
 match mb c cl with
 |none=>(none,1)
 |some n=>match bR n with
  |.up _=>(some ⟨p n,0,none⟩,0)
  |.down _=>(none,210)
def Vy(h:lG w M c P bR cur v p q D O W)(ao:jL c)(cl:Int):aR 49 #[P,cl] w (cM (.tuple #[.pointer (rA c bR p cl).1,bh (rA c bR p cl).2]) w):=by
 have H:=I h;obtain⟨r,ax⟩:∃r,rA c bR p cl=r:=⟨_,rfl⟩;rw[ax];unfold rA at ax;by_cases aW:0<=cl/\cl<(c.hs.length:Int)
 ·obtain⟨k,rfl⟩:∃k:Nat,cl=(k:Int):=⟨cl.toNat,J⟩;have hk:k<c.hs.length:=J;obtain⟨n,an⟩:∃n,mb c (k:Int)=some n:=by unfold mb;rw[if_pos aW];exact⟨_,rfl⟩
  obtain⟨_,_,_,k5⟩:=ao.at_ an;rw[an]at ax;dsimp only at ax;have ny:c.ps.length<=16:=by
   have a6:=ao.rQ;unfold jn at a6;simp only[ke,jQ]at a6;exact a6.1.2
  obtain⟨s,f,a,ef,cv,aj,hs⟩:=h.dg.get (n:=n) J;have wR:c.hs[k]=(n:Int):=by
   rw[nQ,xO,fz hk]at k5;exact k5
  have Vz:r=(a,if (f (.int .i64 (n:Int))).isSome=true then 0 else 210):=by
   rw[hs,aj,<-ax];unfold mi;cases bR n<;>rfl
  obtain⟨B6,av⟩:∃B6,(f (.int .i64 (n:Int))).isSome=B6:=⟨_,rfl⟩;rw[av]at Vz;have oI:=I (CU (k:=(n:Int)) (uk J J));have c5:decide (0<=(k:Int)/\(k:Int)<(c.hs.length:Int))=true:=mS aW;obtain⟨_,o,qq,fW⟩:=h.lR.dQ.2.1.get k hk;have k2:=AI (x:=c.hs[k]) fW;rw[jT,wR]at k2;have lW:=h.lR.dQ.2.1.neq;have bd:(k:Int)<(v.aj.n:Int):=J;have fm:=aI (o:=4) h.box rfl;have bQ:=aI (o:=1) h.box rfl;rw[qq]at bQ;replace Vz:=I Vz;have als:Hid (B6=false->a=none):=λe=>by rw[e]at av;rw[hs]at av;rw[aj];cases al:mi bR p n<;>simp_all
  replace ef:=I ef;replace cv:=I cv;replace av:=I av;replace c5:=I c5;clear h aW ax aj hs fW lW k5 wR qq an;go_enter func49,ntmps49;go_wp2_with fail;refine(GT (H.ext X) (k:Int)).mono ?_;rintro e w1⟨rfl,bU⟩;rw[c5.out];have iw:=bU.ah fm;have q1:=bU.ah bQ;have gn:=bU.ah k2;replace bU:=I bU;clear fm bQ k2;go_wp2_with fail;refine uc 11 (Z w1) (λa7=>?_);refine um ?_;refine Ei 3 (·.ah iw) ?_;refine ed 4 ?_;refine ed 5 ?_;refine ed 6 ?_;refine Ei 7 (·.ah q1) ?_;refine ed 8 ?_;refine ed 9 ?_;refine Ei 10 (·.ah gn) ?_;refine lh 11 λK aL=>?_;refine Pl rfl (Pj _ _ rfl EP underlying85 _ (Vw _) rfl rfl (ef.ext X) rfl oI ?_);rw[cv.out,av.out];refine Hb ?_;intro _ a7;refine cX 12 ?_;refine cX 13 ?_;refine cX 14 ?_;refine cX 15 ?_;refine cX 16 ?_;refine wpAnyH_done bV ?_ _;have akb:=Vz.out;cases B6 with
  |true=>
   go_wp2;go_ret2;exact⟨rfl,X⟩
  |false=>
   have an:=als.out rfl;go_wp2;go_ret2;exact⟨rfl,X⟩
 ·have an:mb c cl=none:=by unfold mb;rw[if_neg aW]
  rw[an]at ax;subst ax;have c5:Hid (decide (0<=cl/\cl<(c.hs.length:Int))=false):=lo aW;clear h aW;go_enter func49,ntmps49;go_wp2_with fail;refine(GT (H.ext X) cl).mono ?_;rintro e _⟨rfl,bU⟩;rw[c5.out];replace bU:=I bU;go_wp2_with fail;go_ret2;exact⟨rfl,X⟩
end
end
section
def aDp{c:bt}(a b:Nat):sO c (a:Int) (b:Int)=mR c a b:=by
 unfold sO;rw[mS (by omega:(0:Int)<=(a:Int)/\(0:Int)<=(b:Int)),IW,nQ,nQ]
def ayS{c:bt}{w:aZ}{a:Nat}{m:dC}(h:∀x y,(w.iz x y).length<=8):∀x y,((w.send c a b m).iz x y).length<=8:=by
 intro x y;unfold aZ.send;split
 ·rename_i e;unfold aZ.vU;dsimp only;split
  ·exact Ta
  ·exact h x y
 ·exact h x y
def ak5{c:bt}{a:Nat}:∀(l:List (Nat×dC)) (w:aZ),(∀x y,(w.iz x y).length<=8)->∀x y,((w.xV c a l).iz x y).length<=8
 | [],_,h=>h
 |o::l,w,h=>ak5 l (w.send c a o.1 o.2) (ayS h)
def ayT{c:bt}{a:Nat}{w:aZ}{l:List (Nat×dC)}(hk:k<l.length):w.xV c a (l.take (k+1))=(w.xV c a (l.take k)).send c a l[k].1 l[k].2:=by
 unfold aZ.xV;exact Ca
def ayU{c:bt}{w:aZ}{a:Nat}{m:dC}:w.send c a b m={w with iz:=if sO c (a:Int) (b:Int)=true/\(w.iz (a:Int).toNat (b:Int).toNat).length<8 then EH w.iz (a:Int).toNat (b:Int).toNat (w.iz (a:Int).toNat (b:Int).toNat++[m]) else w.iz}:=by
 unfold aZ.send;rw[aDp];simp only[nQ];by_cases h:mR c a b=true/\(w.iz a b).length<8
 ·rw[bm h,bm h];rfl
 ·rw[bj h,bj h]
def ayV(c:bt)(b:az):(b.eB c).length<=1+c.ps.length:=by
 unfold az.eB az.cc kE;rw[cH,cr];have ae:((if b.h5=true then [] else [(jf c b.b6,b.sF c)]):List (Nat×dC)).length<=1:=by split<;>simp
 have ak:((List.range c.ps.length).filter (λj=>decide (c.ps.getD j 0=(b.b6:Int)))).length<=c.ps.length:=eh (xq _ _) (by simp);omega
def ayW{c:bt}(ao:ka c){b:az}(hm:b.b6<c.ps.length):∀o,o∈b.eB c->o.1<c.ps.length:=by
 intro o aK;unfold az.eB at aK;rcases iR.1 aK with h|h
 ·cases ax:b.h5 with
  |true=>rw[ax,bm rfl]at h;cases h
  |false=>
   rw[ax,bj af]at h;rw[iH.1 h];have aW:0<b.b6:=by unfold az.h5 at ax;rcases Nat.eq_zero_or_pos b.b6 with e|e;(rw[e]at ax;cases ax);exact e
   have:=(ka.Ef ao hm aW).1;show jf c b.b6<_;omega
 ·obtain⟨k,hk,rfl⟩:=kN.1 h;exact qI.1 (mI.1 hk).1
section
variable {w w':World}{M M' W F:Nat->Prop}{c:bt}{P cA:Nat}{aU:aZ}{v:qY}{g:Nat->Nat->Nat}{p q:Nat->Nat}{D O:Nat->Nat->Prop}
def hJ.Fk(hF:∀x,F x↔uC c g D O W x)(an:n<c.ps.length)(hm:ig w M (D n) (O n) w' M' bP bZ):
  hJ w M F w' M' (uC c g (λk=>if k=n then bP else D k) (λk=>if k=n then bZ else O k) W):=by
 have qg:∀x,uC c g D O W x->uC c g (λk=>if k=n then bP else D k) (λk=>if k=n then bZ else O k) W x:=λx U=>by
  rcases U with U|U|⟨k,hk,U⟩
  ·exact .inl U
  ·exact .inr (.inl U)
  ·refine .inr (.inr ⟨k,hk,?_⟩);by_cases e:k=n
   ·subst e;simp only[bm];exact U.imp (hm.d.up x) (hm.o.up x)
   ·simp only[bj e];exact U
 refine⟨hm.dT.mono (λx _ U=>(hF x).2 (.inr (.inr ⟨n,an,U⟩))),⟨λx U=>qg x ((hF x).1 U),λx U=>?_⟩,hm.m⟩;rcases U with U|U|⟨k,hk,U⟩
 ·exact .inl ((hF x).2 (.inl U))
 ·exact .inl ((hF x).2 (.inr (.inl U)))
 ·by_cases e:k=n
  ·subst e;simp only[bm]at U;rcases U with U|U
   ·exact(hm.d.new x U).imp (λz=>(hF x).2 (.inr (.inr ⟨k,hk,.inl z⟩))) id
   ·exact(hm.o.new x U).imp (λz=>(hF x).2 (.inr (.inr ⟨k,hk,.inr z⟩))) id
  ·simp only[bj e]at U;exact .inl ((hF x).2 (.inr (.inr ⟨k,hk,U⟩)))
def hJ.lT(hF:∀x,tz c g x->F x)(al:aG (tz c g) w w'):hJ w M F w' M F:=⟨al.mono (λx _ U=>hF x U),b4.eG _ _,b4.eG _ _⟩
end
def ak6{c:bt}{T:Nat}{w:aZ}(ao:ka c)(h:dy c l T w):(gZ w 0).ay.length<=200000:=by
 cases al:w.bR 0 with
 |up b=>rw[wW al];exact((h.up 0 b ao.n0 al).1.ez.CR ao.room).cA
 |down dk=>
  have:gZ w 0=Ct dk:=by unfold gZ;rw[al];rfl
  rw[this];exact((h.down 0 dk ao.n0 al).CR ao.room).cA
def ayX{c:bt}{T:Nat}{w:aZ}{b:az}(h:dy c l T w)(an:n<c.ps.length)(al:w.bR n=.up b):∀i,i∈b.st.ay->i∈(gZ w 0).ay:=by
 intro i aO;rcases yO n with e|e
 ·subst e;rw[wW al];exact aO
 ·have:=h.ay n an e;rw[wW al]at this;rw[this]at aO;cases aO
def Fm{c:bt}(h:ka c):c.ps.length<=16:=by
 have a6:=h.rQ;unfold jn at a6;simp only[ke,jQ]at a6;exact a6.1.2
def Aq.gA{w w':aC}{S:ff}{base:Nat}{a:bk}{c:Nat}{os:List vl}(h:Aq w base a n c os)(al:aG S w w')(a8:∀x,S x->x<base):Aq w' base a n c os:=⟨h.cg.gA al a8,λo aK=>(h.ct o aK).gA al a8⟩
def ayY{c:bt}{w:aZ}{b:az}(h:w.bR n=.up b):w.tick c n=(w.hc n (.up (b.fU c))).xV c n ((b.fU c).eB c):=by unfold aZ.tick;rw[h]
def ak7{c:bt}{w:aZ}{l:List gJ}(h:w.bR n=.down l):w.tick c n=w:=by unfold aZ.tick;rw[h]
def Ju(c:bt)(w:aZ)(n:Int):aZ:=if 0<=n/\n<(c.ps.length:Int) then w.tick c n.toNat else w
def ayZ{w:aC}{M F:ff}{c:bt}{P:Nat}{aU:aZ}{T:Nat}(h:jh w M F c P aU)(ao:jL c)(aO:dy c l T aU)(r5:c.room<=60000)(n:Int):
  aR 52 #[P,n] w λe w'=>∃z:Int,(z=0↔qZ c aU.bR n=true)/\C5 c P w M F z (Ju c aU n) e w':=by
 obtain⟨v,cA,g,p,q,D,O,W,h,hF⟩:=h;have H:=I h;have cn:=I ao;have mj:=I hF;by_cases aW:0<=n/\n<(c.ps.length:Int)
 ·obtain⟨k,rfl⟩:∃k:Nat,n=(k:Int):=⟨n.toNat,J⟩;have hk:k<c.ps.length:=J;have ny:=Fm ao.toka;obtain⟨s,f,a,Fo,bc,aj,hs⟩:=h.dh.dg.get (n:=k) J;refine ak8 ?_;intro c5;have ef:=I Fo;have cv:=I bc;have oI:=I (CU (k:=(k:Int)) (uk J J));have fm:=aI (o:=4) h.dh.box rfl;have j3:=I (show Ju c aU (k:Int)=aU.tick c k from by unfold Ju;rw[if_pos aW];rfl);cases cB:aU.bR k with
  |down dk=>
   have av:(f (.int .i64 (k:Int))).isSome=false:=by rw[hs];unfold mi;rw[cB];rfl
   change Hid _ at av;have l4:=I (show qZ c aU.bR (k:Int)=false from by unfold qZ;rw[Int.toNat_natCast,cB,Bool.and_false]);have kI:=I (j3.trans (ak7 cB));go_enter func52,ntmps52;go_wp2_with fail;refine(Fl (H.dh.ext X) (k:Int)).mono ?_;rintro e w1⟨rfl,bU⟩;rw[c5.out];have Vx:=bU.ah fm;change Hid _ at bU;go_wp2_with (at_lookup;(refine If ?_;intro K aL;clear aL K));go_ret;refine⟨210,⟨λe=>absurd e af,λe=>by rw[l4.out]at e;cases e⟩,M,F,rfl,?_,.of X⟩;exact ak9
  |up b=>
   have av:(f (.int .i64 (k:Int))).isSome=true:=by rw[hs];unfold mi;rw[cB];rfl
   have VA:a=some ⟨p k,0,none⟩:=by rw[aj];unfold mi;rw[cB];rfl
   rw[VA]at bc;replace cv:=I bc;have l4:=I (show qZ c aU.bR (k:Int)=true from by unfold qZ;rw[Int.toNat_natCast,cB,decide_eq_true aW];rfl);have kI:=I (j3.trans (ayY cB));obtain⟨_,bB⟩:rp w M (D k) (O k) c (p k) (q k) b:=by have:=h.dh.qs k hk;rw[cB]at this;exact this
   have nD:=aO.up k b hk cB;have BL:=YD ao.toka aO hk cB nD.1 rfl rfl;have tV:(aU.hc k (.up (b.fU c))).bR k=.up (b.fU c):=x1 _ _ _;have IR:=(BL.up k _ hk tV).1;have BM:=I nD.1;have hB:=I (OD ao.toka aO);have c6:=I (OD ao.toka BL);have BE:=I (eh (ak6 ao.toka BL) (by omega:200000<=1000000));have im:=I (ayX BL hk tV);have ay0:Hid (∀x y,((aU.hc k (.up (b.fU c))).iz x y).length<=8):=aO.len;change Hid _ at cB;have uo:b.b6<c.ps.length:=by rw[nD.1.b6];exact hk
   have l8:=I h.tR;change Hid _ at av bB IR;go_enter func52,ntmps52;go_wp2_with fail;refine(Fl (H.dh.ext X) (k:Int)).mono ?_;rintro e w1⟨rfl,bU⟩;rw[c5.out];have Vx:=bU.ah fm;change Hid _ at bU;go_wp2_with (at_lookup;(refine If ?_;intro K aL));refine(ayB (bB.ext X) BM IR cn r5 uo c6 hB BE im).mono ?_;rintro e aN⟨M2,sw,LE,B,fF,_,fZ,os,rfl,gj,kc,tE,b7,GI,fP⟩;have xc:=(H.ext (w':=w1) X).Fk hk cB kc gj;obtain⟨bP,zg⟩:∃bP,bP=(λj=>if j=k then sw else D j):=⟨_,rfl⟩;obtain⟨bZ,LT⟩:∃bZ,bZ=(λj=>if j=k then LE else O j):=⟨_,rfl⟩;rw[<-zg,<-LT]at xc;have xz:=b7.cg.neq;change Hid _ at xc kc gj b7 tE GI fP zg LT;obtain⟨eB,Qp⟩:∃eB,(b.fU c).eB c=eB:=⟨_,rfl⟩;rw[Qp]at GI;have Fp:os.length=eB.length:=by rw[<-GI.out,cr]
   have ala:os.length<=17:=by
    have:=ayV c (b.fU c);rw[Qp]at this;omega
   have VB:∀o,o∈eB->o.1<c.ps.length:=by
    rw[<-Qp];exact ayW cn.toka (by rw[IR.b6];exact hk)
   change Hid _ at VB;subst xz;change Hid _ at Qp Fp;go_wp2_with fail;go_loopg [27] os.length (λs8 dN wr=>∃(j:Nat),s8+j=os.length/\dN=.int .i64 (j:Int)/\Hid (p0 wr M2 c P ((aU.hc k (.up (b.fU c))).xV c k (eB.take j)) v cA g p q bP bZ W)/\Hid (Aq wr B fF os.length fZ os)/\Hid (aG (tz c g) aN wr));case atStart=>exact⟨0,J,rfl,by rw[DS];exact xc,b7,aG.refl _ _⟩
   case round=>
    obtain⟨j,_,rfl,fa,dO,gI⟩:=hrel;by_cases aJ:j<os.length
    ·obtain⟨fC,o,rfl,fW⟩:=dO.cg.aF.get j aJ;obtain⟨_,_⟩:wr.cell? (fC,o+j*2)=some ↑(os[j].t:Int)/\wr.cell? (fC,o+j*2+1)=some ↑os[j].s:=⟨fW 0 _ rfl,fW 1 _ rfl⟩;have Nm:j<eB.length:=by rw[<-Fp.out];exact aJ
     have NE:eB[j]=(os[j].t,os[j].m):=by
      have ae:(os.map (λo=>(o.t,o.m)))[j]? =eB[j]? :=by rw[GI.out]
      rw[nu,fz aJ,fz Nm]at ae;exact(wL ae).symm
     have UW:os[j].t<c.ps.length:=by have:=VB.out _ (c7 Nm);rw[NE]at this;exact this
     have b0:(0:Int)<=(j:Int):=J;have bd:(j:Int)<(os.length:Int):=J;change Hid _ at NE;go_wp2_with fail;have LQ:Hid ((wr.alloc (.cells #[(os[j].t:Int),os[j].s] 183)).heap[(wr:Nat)]?=some (.cells #[(os[j].t:Int),os[j].s] 183)):=fi rfl;have eX:Z wr (wr.alloc (.cells #[(os[j].t:Int),os[j].s] 183)):=X;have ay1:=I ((fa.ext eX).dh.box);have ay2:=l8.out;change Hid _ at eX;refine uc 9 (λw'=>Z (wr.alloc (.cells #[(os[j].t:Int),os[j].s] 183)) w') (λa7=>?_);refine um ?_;refine kH 3 (·.aB ay1) ?_;refine ed 4 ?_;refine ed 5 ?_;refine kH 6 (·.aB LQ) ?_;refine ed 7 ?_;refine kH 8 (·.aB LQ) ?_;refine lh 9 λK aL=>?_;go_simp;go_at_call 87;refine(auE M2 c cA g _ (k:Int) (os[j].t:Int) os[j].s.a os[j].s.n os[j].s.c os[j].m _ ((fa.ext eX).ext X).lT (uk J J) (uk J J) (fP _ (c7 aJ)) (((dO.ct _ (c7 aJ)).ext eX).aF.ext X) ((fa.ext eX).ext X).dh.cx (ak5 _ _ ay0)).mono ?_;rintro e bp⟨⟨z,rfl⟩,EK,I2⟩
     have ay3:=p0.iz (fa.ext X) EK I2 (λx y EI=>by
      split
      ·rename_i Yp;exact ak4 (CM Yp.1) fa.c4 x y EI
      ·exact fa.c4 x y EI)
     have A3:=I (show p0 bp M2 c P ((aU.hc k (.up (b.fU c))).xV c k (eB.take (j+1))) v cA g p q bP bZ W from by rw[ayT Nm,NE.out,ayU];exact ay3);have alb:aG (tz c g) wr bp:=(aG.of X).trans I2;have pj:=I (gI.trans alb);have hj:=I (dO.gA alb (λx U=>tE x (let ⟨a,b,e,k⟩:=U;k▸fa.lT.EG a b e)));refine Jt ?_;intro _;go_wp2_with fail;go_roundg (gk - 1);case measure=>omega
     case rel=>exact⟨j+1,J,by go_num,A3,hj,pj⟩
    ·have ay4:eB.take j=eB:=ir (by rw[<-Fp.out];omega);rw[ay4]at fa;go_wp2;go_ret;refine⟨0,⟨λ_=>l4,λ_=>rfl⟩,M2,uC c g bP bZ W,rfl,?_,?_⟩
     ·rw[kI.out,Qp.out];exact⟨v,cA,g,p,q,bP,bZ,W,fa,λx=>Iff.rfl⟩
     ·rw[zg.out,LT.out];exact((hJ.Fk mj hk kc).cC X).trans (hJ.lT (λx U=>.inr (.inl U)) gI)
 ·refine In ?_;intro c5;have l4:=I (show qZ c aU.bR n=false from by unfold qZ;rw[c5.out,Bool.false_and]);have j3:=I (show Ju c aU n=aU from by unfold Ju;rw[if_neg aW]);go_enter func52,ntmps52;go_wp2_with fail;refine(Fl (H.dh.ext X) n).mono ?_;rintro e _⟨rfl,bU⟩;rw[c5.out];change Hid _ at bU;go_wp2_with fail;go_ret;refine⟨1,⟨λe=>absurd e af,λe=>by rw[l4.out]at e;cases e⟩,M,F,rfl,?_,.of X⟩;exact alc
end
def C6(c:bt)(w:aZ)(a b:Int):aZ:=if sO c a b=true then w.vV c a.toNat b.toNat else w
def ay5{a:Nat}(h:mR c a b=true):a<c.ps.length/\b<c.ps.length:=by
 unfold mR at h;rw[ke,jQ]at h;exact h.1
def ay6{h:Nat}{l:List bg}{P:List aA}(s:y7 h l P):h<=P.length\/l= []:=by
 cases l with
 |nil=>exact .inr rfl
 |cons d l=>
  have:=s 0 (by simp);rw[uY]at this;exact .inl (lr (vv.1 this).1)
def ay7{T:Nat}{w:aZ}(ao:ka c)(h:dy c l T w)(an:n<c.ps.length):(dY (gZ w n).ag).length<=200000:=by
 unfold dY;rw[cr];cases al:w.bR n with
 |up b=>rw[wW al];exact((h.up n b an al).1.ez.CR ao.room).xQ
 |down dk=>
  have:gZ w n=Ct dk:=by unfold gZ;rw[al];rfl
  rw[this];exact((h.down n dk an al).CR ao.room).xQ
def ay8{w:World}{M F:Nat->Prop}{c:bt}{P:Nat}{aU:aZ}{l:List lz}{T:Nat}(h:jh w M F c P aU)(ao:jL c)(aO:dy c l T aU)(a b:Int)(et:(Lit.int .i64 a).wf=true)(fh:(Lit.int .i64 b).wf=true):
  aR 54 #[P,a,b] w λe w'=>∃z:Int,C5 c P w M F z (C6 c aU a b) e w':=by
 obtain⟨v,cA,g,p,q,D,O,W,h,hF⟩:=h
 have H:=I h
 have cn:=I ao
 have mj:=I hF
 have bY:=aI (o:=2) h.dh.box rfl
 have ay2:=h.tR
 have eu:=I h.lT
 cases hw:sO c a b with
 |false=>
  have c5:=I (show C6 c aU a b=aU from by unfold C6;rw[if_neg (by rw[hw];decide)])
  change Hid _ at hw
  clear h ao aO hF
  go_enter func54,ntmps54
  go_wp2_with fail
  refine(ZE M c cA g aU.iz a b _ (eu.ext X) et fh).mono ?_
  rintro e w1 bC
  unfold CN at bC
  rw[if_neg (by rw[hw.out];decide)]at bC
  obtain⟨rfl,bU⟩:=bC
  change Hid _ at bU
  go_wp2
  go_ret
  refine⟨140,M,F,rfl,?_,.of X⟩
  rw[c5.out]
  exact⟨v,cA,g,p,q,D,O,W,H.ext X,mj⟩
 |true=>
  have Qq:=CM hw
  obtain⟨IH,jZ⟩:=ay5 Qq
  obtain⟨x,rfl⟩:∃x:Nat,a=(x:Int):=⟨a.toNat,by unfold sO at hw;rw[Bool.and_eq_true,decide_eq_true_eq]at hw;omega⟩
  obtain⟨y,rfl⟩:∃y:Nat,b=(y:Int):=⟨b.toNat,by unfold sO at hw;rw[Bool.and_eq_true,decide_eq_true_eq]at hw;omega⟩
  rw[Int.toNat_natCast]at IH jZ
  have ny:=Fm ao.toka
  have Qr:C6 c aU (x:Int) (y:Int)=aU.vV c x y:=by unfold C6;rw[if_pos hw];rfl
  cases aT:aU.iz x y with
  |nil=>
   have c5:=I (show C6 c aU (x:Int) (y:Int)=aU from by rw[Qr];unfold aZ.vV;rw[aT])
   change Hid _ at hw
   have bL:=I aT
   clear h ao aO hF Qr Qq
   go_enter func54,ntmps54
   go_wp2_with fail
   refine(ZE M c cA g aU.iz (x:Int) (y:Int) _ (eu.ext X) et fh).mono ?_
   rintro e w1 bC
   unfold CN at bC
   rw[if_pos hw.out,Int.toNat_natCast,Int.toNat_natCast,bL.out]at bC
   obtain⟨rfl,bU⟩:=bC
   change Hid _ at bU
   go_wp2
   go_ret
   refine⟨141,M,F,rfl,?_,.of X⟩
   rw[c5.out]
   exact⟨v,cA,g,p,q,D,O,W,H.ext X,mj⟩
  |cons m ms=>
   obtain⟨s,f,ai,Fo,bc,aj,hs⟩:=h.dh.dg.get (n:=y) J
   have ES:=aO.Bc x y m (by rw[aT];exact List.mem_cons_self)
   have ef:=I Fo
   have cv:=I bc
   have oI:=I (CU (k:=(y:Int)) (uk J J))
   have eZ:=I hw
   have bL:=I aT
   have ald:=I Qq
   have dA:=I ES
   cases cB:aU.bR y with
   |down dk=>
    have av:(f (.int .i64 (y:Int))).isSome=false:=by rw[hs];unfold mi;rw[cB];rfl
    change Hid _ at av
    have c5:=I (show C6 c aU (x:Int) (y:Int)=aU.vU x y ms from by rw[Qr];unfold aZ.vV;rw[aT];unfold aZ.Ec;dsimp only;rw[asD,cB])
    clear h ao aO hF hw Qr Qq aT Fo bc aj hs cB ES
    go_enter func54,ntmps54
    go_wp2_with fail
    refine(ZE M c cA g aU.iz (x:Int) (y:Int) _ (eu.ext X) et fh).mono ?_
    rintro e w1 bC
    unfold CN at bC
    rw[if_pos eZ.out,Int.toNat_natCast,Int.toNat_natCast,bL.out]at bC
    obtain⟨sa,kU,nX,rfl,hm,fE,F9,Mm⟩:=bC
    have l4:=ah2 ald Mm
    have gq:=I ((H.ext (w':=w) (Z.refl _)).iz F9 l4 (ak4 ald H.c4))
    have fm:=aI (o:=4) gq.dh.box rfl
    have yi:=I (ef.aB (l4.block _ ef.lt (λq=>H.zw _ q H.dh.bI.2.1)))
    change Hid _ at l4
    clear hm fE F9 Mm
    go_wp2_with (at_lookup;(refine Gw rfl (λK aL=>Pj _ _ rfl EP underlying85 _ (Vw _) rfl rfl (yi.ext X) rfl oI ?_);rw[cv.out,av.out];refine aL _ _ ?_;clear aL K))
    go_ret
    refine⟨210,M,F,rfl,?_,hJ.lT (λx U=>(mj x).2 (.inr (.inl U))) l4⟩
    rw[c5.out]
    exact⟨v,cA,g,p,q,D,O,W,gq,mj⟩
   |up k=>
    have av:(f (.int .i64 (y:Int))).isSome=true:=by rw[hs];unfold mi;rw[cB];rfl
    have VA:ai=some ⟨p y,0,none⟩:=by rw[aj];unfold mi;rw[cB];rfl
    rw[VA]at bc
    replace cv:=I bc
    have c5:=I (show C6 c aU (x:Int) (y:Int)=(aU.vU x y ms).hc y (.up (k.A8 c x m))from by rw[Qr];unfold aZ.vV;rw[aT];unfold aZ.Ec;dsimp only;rw[asD,cB])
    have BM:=(aO.up y k jZ cB).1
    have uo:k.b6<c.ps.length:=by rw[BM.b6];exact jZ
    have x4:=I (OD ao.toka aO)
    have BE:=I (Nat.le_trans (ak6 ao.toka aO) (by omega:200000<=1000000))
    have pv:=I (show k.Eb c x=true->m.k=2->m.h<=1000000\/m.aS= []from λaV k3=>by
     unfold az.Eb at aV
     rw[Bool.and_eq_true,decide_eq_true_eq,BM.b6]at aV
     have aW:0<y:=by
      have:=aV.1
      unfold az.h5 at this
      rw[BM.b6]at this
      rcases Nat.eq_zero_or_pos y with e|e
      ·subst e;simp at this
      ·exact e
     have z1:=(ka.Ef ao.toka jZ aW).2
     have:jf c y=x:=by rw[z1]at aV;exact Int.ofNat.inj aV.2
     exact(ay6 ((ES.2 k3).2 aW this)).imp (λz=>by have:=ay7 ao.toka aO IH;omega) id)
    change Hid _ at cB av BM
    clear h ao aO hF hw Qr Qq aT Fo bc aj VA hs ES
    go_enter func54,ntmps54
    go_wp2_with fail
    refine(ZE M c cA g aU.iz (x:Int) (y:Int) _ (eu.ext X) et fh).mono ?_
    rintro e w1 bC
    unfold CN at bC
    rw[if_pos eZ.out,Int.toNat_natCast,Int.toNat_natCast,bL.out]at bC
    obtain⟨sa,kU,nX,rfl,hm,fE,F9,Mm⟩:=bC
    have l4:=ah2 ald Mm
    have gq:=I ((H.ext (w':=w) (Z.refl _)).iz F9 l4 (ak4 ald H.c4))
    have ay9:=I fE.dQ
    have fm:=aI (o:=4) gq.dh.box rfl
    have yi:=I (ef.aB (l4.block _ ef.lt (λq=>H.zw _ q H.dh.bI.2.1)))
    have E3:rp w1 M (D y) (O y) c (p y) (q y) k:=by have:=gq.dh.qs y jZ;rw[cB.out]at this;exact this
    obtain⟨Ml,bB⟩:=E3
    change Hid _ at bB l4
    clear hm fE F9 Mm
    go_wp2_with (at_lookup;(refine Gw rfl (λK aL=>Pj _ _ rfl EP underlying85 _ (Vw _) rfl rfl (yi.ext X) rfl oI ?_);rw[cv.out,av.out];refine aL _ _ ?_;clear aL K))
    refine(awO (bB.ext X) BM cn.toka uo x4 BE x J sa kU nX m (ay9.ext X) dA.out.1 (λe=>(dA.out.2 e).1) pv).mono ?_
    rintro e aN⟨z,M2,sw,LE,rfl,B8,kc⟩
    have VC:=I ((gq.ext (w':=w1) (Z.refl _)).Fk jZ cB kc B8)
    change Hid _ at kc
    clear B8
    go_wp2
    go_ret
    refine⟨z,M2,uC c g (λj=>if j=y then sw else D j) (λj=>if j=y then LE else O j) W,rfl,?_,(hJ.lT (λx U=>(mj x).2 (.inr (.inl U))) l4).trans (hJ.Fk mj jZ kc)⟩
    rw[c5.out]
    exact⟨v,cA,g,p,q,_,_,W,VC,λx=>Iff.rfl⟩
section
attribute [local go_sem] Oper.semAt_some
def Qs(N k:Nat):List Nat:=(List.range N).reverse.take k
def aza(h:k<N):Qs N (k+1)=Qs N k++[N - 1 - k]:=by
 unfold Qs;rw[iX (by simpa using h),List.getElem_reverse];simp
def azb(N:Nat):Qs N N=(List.range N).reverse:=ir (by simp)
def azc(n:Nat)(an:1<=n)(l B P N:Nat)(dG:N<=16)(l9:List Nat->aC->Prop)(zX:∀cC W,l9 cC W->W.cell? (B,0)=some ↑P/\∃a c,W.cell? (P,0)=some ↑(aq a N c))(rL:∀cC x W,x<N->l9 cC W->YieldAt Fence.wide (n - 1) prog l #[(x:Int)] W λe W'=>e=.returned (.bool true)/\l9 (cC++[x]) W')(W:aC)(aW:l9 [] W):
  CallsIn Fence.wide n prog 85 #[.func (.yield l) #[] #[],B] W λe W'=>(∃v,e=.returned v)/\∃xs,xs=Ed N/\l9 xs W':=by
 obtain⟨_,_,_,_⟩:=zX _ _ aW;refine callsIn_of_wp func85 rfl trivial ?_ rfl;simp only[ntmps85,KJ,mv,nW,Nat.reduceAdd,Nat.reduceSub,KK,KL,KM,KN,lq,FW];gi_wp2;gi_loopw [3] (λi wr=>∃k:Nat,k<=N/\i=.int .i64 ((N:Int) - 1 - (k:Int))/\l9 (Qs N k) wr) (λi _=>(intOf i+1).toNat);case atStart=>exact⟨0,hX _,by first|rfl|(simp;done)|(congr 1;simp only[wrap64];omega),aW⟩
 case round=>
  obtain⟨k,_,rfl,aJ⟩:=hrel;obtain⟨_,_,_,_⟩:=zX _ _ aJ;by_cases fM:k<N
  ·obtain⟨fn,tmps,assign,body,hy,bC⟩:=rL _ (N - 1 - k) wr J aJ;have U:(N:Int) - 1 - (k:Int)=((N - 1 - k:Nat):Int):=J;rw[U];have b0:(0:Int)<=((N - 1 - k:Nat):Int):=J;have hw:wrap64 (((N - 1 - k:Nat):Int) - 1)=(N:Int) - 1 - ((k+1:Nat):Int):=by simp only[wrap64];omega
   gi_wp2;refine bC.mono ?_;rintro e alh⟨rfl,H9⟩;gi_wp2;go_roundw;case rel=>exact⟨k+1,J,by first|rfl|(rw[hw];done)|(congr 1;omega),by rw[aza fM];exact H9⟩
   case measure=>simp[intOf]<;>omega
  ·obtain rfl:k=N:=J;have b0:¬(0:Int)<=(k:Int) - 1 - (k:Int):=J;rw[azb]at aJ;have C7:=I aJ;gi_wp2;gi_loopw [4,24] (λmW dN wr=>∃j:Nat,j<=k/\dN=.int .i64 (j:Int)/\l9 ((List.range k).reverse++List.range j) wr) (λ_ i _=>k - (intOf i).toNat);case atStart=>exact⟨0,hX _,rfl,by simpa using C7.out⟩
   case round=>
    obtain⟨j,_,rfl,aJ⟩:=hrel;by_cases Yn:j<k
    ·obtain⟨_,tmps,_,_,hy,bC⟩:=rL _ j wr Yn aJ;have c1:(j:Int)<(k:Int):=J;gi_wp2;refine bC.mono ?_;rintro e _⟨rfl,H9⟩;gi_wp2;go_roundw;case rel=>exact⟨j+1,J,by go_num,by rw[Kq,<-iI];exact H9⟩
     case measure=>simp[intOf]<;>omega
    ·obtain rfl:j=k:=J;gi_wp2;go_end0;exact⟨⟨_,rfl⟩,_,rfl,aJ⟩
def azd(w:aC)(P:Nat):aR 51 #[P] w λe w'=>∃B,e=.returned (.func (.func 85) #[] #[.pointer (some (B,0))])/\w'.heap[B]?=some (.cells #[P] 26)/\(w:Nat)<=B/\Z w w':=by
 go_enter func51,ntmps51;go_wp2;go_ret;exact⟨(w:Nat),rfl,fi rfl,bA _,X⟩
def Au(w1:World)(M F:Nat->Prop)(c:bt)(P:Nat)(aU:aZ)(cC:List Nat)(W:World):Prop:=
 ∃M' fb,jh W M' fb c P (cC.foldl (aZ.kF c) aU)/\hJ w1 M F W M' fb/\(M' w1.heap.size/\M' (w1.heap.size+1))/\(¬fb w1.heap.size/\¬fb (w1.heap.size+1))/\w1.heap.size+1<W.heap.size/\∀x,x∈cC->x<c.ps.length
section
variable {w1 W:World}{M F:Nat->Prop}{c:bt}{P:Nat}{aU:aZ}{cC:List Nat}
def ali(w:aC)(b:Nat)(o:Obj):aG (·=b) w (w.putObj b o):=⟨rfl,rfl,rfl,by simp,λk _ an=>Vu an⟩
def Au.i0(h:jh w1 M F c P aU)(r:Loop):Au w1 M F c P aU [] ((w1.alloc (.deferred (some []))).alloc (.loop r)):=by
 have U:Z w1 ((w1.alloc (.deferred (some []))).alloc (.loop r)):=((Z.refl w1).alloc _).alloc _;have bc:b4 w1 M (λx=>M x\/x=(w1:Nat)\/x=(w1:Nat)+1):=⟨λx h=>.inl h,λx h=>h.imp id (λk=>by omega)⟩;refine⟨λx=>M x\/x=(w1:Nat)\/x=(w1:Nat)+1,F,h.step (S:=λ_=>False) (.of U) (λ_ k=>k.elim) (λ_ _ k=>k) bc (λx k=>?_),⟨.of U,b4.refl _ _,bc⟩,⟨.inr (.inl rfl),.inr (.inr rfl)⟩,⟨λk=>?_,λk=>?_⟩,by simp,λx U=>by cases U⟩
 ·simp;rcases k with k|k
  ·have:=h.cx x k;omega
  ·omega
 ·have:=h.cx _ (h.sub _ k);omega
 ·have:=h.cx _ (h.sub _ k);omega
def Au.put(h:Au w1 M F c P aU cC W){r:Loop}(ax:W.heap[(w1:Nat)+1]?=some (.loop r))(o:Obj):Au w1 M F c P aU cC (W.putObj (w1.heap.size+1) o):=by
 obtain⟨M',fb,ae,ak,aM,bn,cb,ey⟩:=h;have al:=ali W (w1.heap.size+1) o;refine⟨M',fb,ae.step al (λx e=>?_) (λx U e=>?_) (b4.eG _ _) (λx k=>gw (ae.cx x k) al.size),⟨ak.dT.wS al (λx e=>.inr ?_),ak.f,ak.m⟩,aM,bn,gw cb al.size,ey⟩
 ·have e:x=(w1:Nat)+1:=e;rw[e];exact aM.2
 ·have e:x=(w1:Nat)+1:=e;rw[e]at U;exact bn.2 U
 ·have e:x=(w1:Nat)+1:=e;omega
end
def p1(w1 pU:World)(M F:Nat->Prop)(c:bt)(P:Nat)(aU:aZ)(W:World):Prop:=
 ∃M' fb,jh W M' fb c P aU/\hJ w1 M F W M' fb/\(M' w1.heap.size/\M' (w1.heap.size+1))/\(¬fb w1.heap.size/\¬fb (w1.heap.size+1))/\w1.heap.size+1<W.heap.size/\W.heap[w1.heap.size]? =pU.heap[w1.heap.size]? /\W.heap[w1.heap.size+1]? =pU.heap[w1.heap.size+1]?
section
variable {w1 pU W:World}{M F:Nat->Prop}{c:bt}{P:Nat}{aU vo:aZ}{cC:List Nat}
def Au.alj(h:Au w1 M F c P aU cC W):p1 w1 W M F c P (cC.foldl (aZ.kF c) aU) W:=let ⟨M',fb,ae,ak,aM,bn,cb,_⟩:=h;⟨M',fb,ae,ak,aM,bn,cb,rfl,rfl⟩
def Au.mem(h:Au w1 M F c P aU cC W):∀x,x∈cC->x<c.ps.length:=let ⟨_,_,_,_,_,_,_,ey⟩:=h;ey
def p1.alk{x:Nat}(h:p1 w1 pU M F c P (vo.kF c x) W)(aV:cC.foldl (aZ.kF c) aU=vo)(hm:∀x,x∈cC->x<c.ps.length)(U:x<c.ps.length):(W.heap[(w1:Nat)]? =pU.heap[(w1:Nat)]? /\W.heap[(w1:Nat)+1]? =pU.heap[(w1:Nat)+1]?)/\Au w1 M F c P aU (cC++[x]) W:=by
 obtain⟨M',fb,ae,ak,aM,bn,cb,ey,iZ⟩:=h;refine⟨⟨ey,iZ⟩,M',fb,?_,ak,aM,bn,cb,λy hy=>(iR.1 hy).elim (hm y) (λk=>iH.1 k▸U)⟩;rw[CV,aV];exact ae
def p1.cell(h:p1 w1 pU M F c P aU W)(fy:∀x,F x->M x){o:Obj}(aa:w1.heap[b]?=some o)(an:¬M b):W.heap[b]?=some o:=aze
def p1.lu{M' fb:ff}(ae:hJ w1 M F W M' fb)(aM:M' (w1:Nat)/\M' (w1.heap.size+1))(bn:¬fb (w1:Nat)/\¬fb (w1.heap.size+1))(cb:(w1:Nat)+1<(W:Nat))(ey:W.heap[(w1:Nat)]? =pU.heap[(w1:Nat)]?)(iZ:W.heap[(w1:Nat)+1]? =pU.heap[(w1:Nat)+1]?){By:aC}{M2 y1:ff}(hw:jh By M2 y1 c P vo)(hm:hJ W M' fb By M2 y1):p1 w1 pU M F c P vo By:=
 ⟨M2,y1,hw,ae.trans hm,⟨hm.m.up _ aM.1,hm.m.up _ aM.2⟩,⟨λk=>(hm.f.new _ k).elim bn.1 (λq=>by omega),λk=>(hm.f.new _ k).elim bn.2 (λq=>by omega)⟩,gw cb hm.dT.size,(hm.dT.block _ J bn.1).trans ey,(hm.dT.block _ J bn.2).trans iZ⟩
def p1.call(h:p1 w1 pU M F c P aU W){f:FuncId}{args:Array Value}{Φ:Int->Prop}(ut:∀M' fb,jh W M' fb c P aU->aR f args W (λe w'=>∃z,Φ z/\C5 c P W M' fb (.int .i64 z) vo e w')):
  aR f args W (λe w'=>∃z:Int,Φ z/\e=.returned z/\p1 w1 pU M F c P vo w'):=by
 obtain⟨M',fb,ae,ak,aM,bn,cb,ey,iZ⟩:=h;refine(ut M' fb ae).mono ?_;rintro e w'⟨z,bf,_,_,he,hw,hm⟩;exact⟨z,bf,he,p1.lu ak aM bn cb ey iZ hw hm⟩
def p1.ext(h:p1 w1 pU M F c P aU W){By:aC}(U:Z W By):p1 w1 pU M F c P aU By:=by
 obtain⟨_,_,ae,ak,aM,bn,cb,ey,iZ⟩:=h;exact p1.lu ak aM bn cb ey iZ (ae.ext U) (.of U)
def p1.c4(h:p1 w1 pU M F c P aU W){x y:Nat}(aT:0<(aU.iz x y).length):mR c x y=true:=by
 obtain⟨_,_,⟨v,_,g,p,q,D,O,_,k,_⟩,_⟩:=h;cases hw:mR c x y with
 |true=>rfl
 |false=>rw[k.c4 x y hw]at aT;cases aT
def p1.box(h:p1 w1 pU M F c P aU W):(∃a n,W.cell? (P,0)=some ↑(aq a c.ps.length n))/\∃cA,W.cell? (P,2)=some ↑cA/\∀(x y:Nat) w',x<1000000->y<1000000->Z W w'->aR 53 #[cA,(x:Int),(y:Int)] w' λe fj=>e=.returned (.int .i64 ((aU.iz x y).length:Int))/\Z w' fj:=by
 obtain⟨M',_,⟨v,cA,g,p,q,D,O,_,k,_⟩,_⟩:=h;obtain⟨aW,-,ak⟩:=iE k.dh.box;have an:=k.dh.lR.dQ.1.neq;refine⟨⟨v.cD.a,v.cD.c,by rw[<-an];exact aW⟩,cA,?_,λx y w' U hy hw=>?_⟩
 ·rw[<-k.tR];exact ak
 ·refine(auD M' c cA g aU.iz (x:Int) (y:Int) w' (k.lT.ext hw) (uk J J) (uk J J)).mono ?_;rintro e _⟨rfl,cj⟩;refine⟨?_,cj⟩;rw[aDp,nQ,nQ];cases hw:mR c x y with
  |true=>rw[bm rfl]
  |false=>rw[bj af,k.c4 x y hw];rfl
end
def azf(c:bt)(w:aZ)(a b:Nat)(m:dC):(w.Ec c a b m).iz=w.iz:=by unfold aZ.Ec;split<;>rfl
def azg{c:bt}{w:aZ}{a:Nat}(h:0<(w.iz a b).length):((w.vV c a b).iz a b).length+1=(w.iz a b).length:=by
 unfold aZ.vV;cases aT:w.iz a b with
 |nil=>rw[aT]at h;cases h
 |cons m l=>
  dsimp only;rw[azf];show(if a=a/\b=b then l else _).length+1=_;rw[bm ⟨rfl,rfl⟩];rfl
def azh{c:bt}{w:aZ}{a:Nat}(h:(w.iz a b).length=0):∀f,aZ.drain c f w a b=w
 |0=>rfl
 |f+1=>by unfold aZ.drain;rw[if_pos h]
def azi{c:bt}{w:aZ}{a f:Nat}(h:0<(w.iz a b).length):aZ.drain c (f+1) w a b=aZ.drain c f (w.vV c a b) a b:=by
 show(if (w.iz a b).length=0 then w else _)=_;rw[bj J]
def azj{c:bt}{w:aZ}{b:az}(h:w.bR n=.up b):w.kF c n=(w.tick c n).Oq c n:=by unfold aZ.kF;rw[h]
def azk{c:bt}{w:aZ}(h:w.bR n=.down dk):w.kF c n=w:=by unfold aZ.kF;rw[h]
def Fq(c:bt)(w:aZ)(n k:Nat):aZ:=(List.range k).foldl (λw dst=>if dst=n then w else aZ.drain c 9 w n dst) w
def alm(c:bt)(w:aZ)(n k:Nat):Fq c w n (k+1)=if k=n then Fq c w n k else aZ.drain c 9 (Fq c w n k) n k:=by unfold Fq;rw[List.range_succ,List.foldl_append];rfl
def aln{c:bt}{l:List lz}{T:Nat}(ao:ka c):∀(cC:List Nat) (w:aZ),dy c l T w->(∀x,x∈cC->x<c.ps.length)->dy c l T (cC.foldl (aZ.kF c) w)
 | [],_,h,_=>h
 |x::cC,w,h,aV=>aln ao cC _ (afK ao h (aV x kh)) (λy hy=>aV y (kA _ hy))
def Ok{c:bt}{l:List lz}{T n:Nat}(ao:ka c){w:aZ}(h:dy c l T w):∀k,k<=c.ps.length->dy c l T (Fq c w n k)
 |0,_=>h
 |k+1,hk=>by
  rw[alm]
  split
  ·exact Ok ao h k J
  ·exact afI ao n J 9 (Ok ao h k J)
def VD{M F:ff}{c:bt}{P:Nat}{aU:aZ}{T:Nat}(H:jh w M F c P aU)(cn:jL c)(bb:dy c l T aU)(r5:c.room<=60000):
  Calls prog 20 #[P] w (C5 c P w M F (.tuple #[]) (aU.round c)):=by
 have ny:=Fm cn.toka;replace H:=I H;replace cn:=I cn;replace bb:=I bb;refine(callsIn_wide (n:=4)).1 ?_;refine callsIn_of_wp_marks func20 rfl trivial ?_ rfl;simp only[ntmps20,KJ,mv,nW,Nat.reduceAdd,Nat.reduceSub,KK,KL,KM,KN,lq,FW];gi_wp2;refine⟨trivial,((callsIn_wide (n:=3)).2 (azd _ P)).mono ?_⟩;rintro e w1⟨B,rfl,bB,alo,bw⟩;have bx:Hid (Z w w1):=(show Z w (w.alloc (.cells #[P] 26))from X).trans bw;have cR:Hid (w1.heap[(w:Nat)]?=some (.cells #[P] 26)):=bw.aB (fi rfl);have lC:=I (H.ext bx);have jH:w.heap.size<B:=by simp at alo;omega
 replace bB:=I bB;clear alo bw;gi_wp2
 refine ayK (n:=4) (P:=prog) (gf:=85) (lb:=#[B]) rfl (enters_of func85 bV rfl) (λx:Nat=>#[(x:Int)]) (λ_=>rfl) (λx=>x<c.ps.length) (λxs=>xs=Ed c.ps.length) w1 rfl (Au w1 M F c P aU) (λr=>Au.i0 lC r) (λcC W r T4 aO ax=>aO.put ax _) ?GE
  (λx:Nat=> {tmps:=#[.pointer (some ⟨P,0,none⟩),.pointer (some ⟨w.heap.size,0,none⟩),.int .i64 (x:Int),undef,.pointer (some ⟨P,0,none⟩),.bool false,.pointer (some ⟨P,0,none⟩),.func (.func 85) #[] #[.pointer (some ⟨B,0,none⟩)],.int .i64 (x:Int),undef,undef,undef,undef,undef,undef,undef,undef,undef,undef,undef,undef,undef,undef,undef,undef,undef,undef,undef,undef,undef,undef,undef,undef,undef,undef,undef,undef,undef,undef],defers:= []}) ?assign ?body ?done
 case GE=>
  intro sS l9 W azl rL aW;refine(azc 3 J sS B P c.ps.length ny l9 (λcC W aJ=>?_) (λcC x W U aJ=>rL cC x W U aJ) W aW).mono ?_
  ·have alp:=(azl cC W aJ).alj;exact⟨aI (o:=0) (alp.cell lC.sub bB (λk=>by have:=H.cx _ k;omega)) rfl,alp.box.1⟩
  ·rintro e _⟨ae,xs,ak,aM⟩;exact⟨ae,xs,ak,aM⟩
 case assign=>
  intro sS x W K aL;gi_wp2;exact aL
 case body=>
  intro sS cC x W U Qt fS;have ym:=I Qt.mem;have yv:=aln cn.toka cC aU bb ym;have Qu:=Qt.alj;obtain⟨wp,Qv⟩:∃wp,cC.foldl (aZ.kF c) aU=wp:=⟨_,rfl⟩;rw[Qv]at Qu yv;have Qw:=lC.sub;have IB:¬M w.heap.size:=λk=>by have:=H.cx _ k;omega
  have gh:=aI (o:=0) (Qu.cell Qw cR IB) rfl;replace Qu:=I Qu;replace yv:=I yv;replace Qv:=I Qv;replace Qw:=I Qw;replace IB:=I IB;clear Qt fS;gi_wp2;refine⟨trivial,(CallsIn.inRound sS ((callsIn_wide (n:=1)).2 (Qu.call (λM' fb hw=>ayZ hw cn yv r5 (x:Int))))).mono ?_⟩;rintro e _⟨z,bf,rfl,Jv⟩;have Dn:Ju c wp (x:Int)=wp.tick c x:=by unfold Ju;rw[if_pos ⟨J,J⟩];rfl
  rw[Dn]at Jv;replace Jv:=I Jv;clear Dn gh;cases cB:wp.bR x with
  |down dk=>
   have gg:¬z=0:=λe=>by have:=bf.1 e;unfold qZ at this;rw[Int.toNat_natCast,cB,Bool.and_false]at this;cases this
   have azm:=I (show wp.kF c x=wp.tick c x from by rw[azk cB,ak7 cB]);clear bf cB;gi_wp2;have Qx:=p1.alk (x:=x) (by rw[azm.out];exact Jv) Qv ym U;first|exact⟨rfl,Qx⟩|exact Qx
  |up b=>
   have gg:z=0:=bf.2 (by unfold qZ;rw[Int.toNat_natCast,cB,decide_eq_true ⟨J,J⟩];rfl);have azn:=I (azj cB (c:=c));obtain⟨⟨cD,eL,k2⟩,_⟩:=Jv.box;have gh:=aI (o:=0) (Jv.cell Qw cR IB) rfl;subst gg;clear bf cB;gi_wp2;clear gh k2;gi_loopw [3,18] (λazo dN wr=>∃k:Nat,k<=c.ps.length/\dN=.int .i64 (k:Int)/\p1 w1 W M F c P (Fq c (wp.tick c x) x k) wr) (λazo dN wr=>c.ps.length - (intOf dN).toNat);case atStart=>exact⟨0,hX _,rfl,Jv⟩
   case round=>
    obtain⟨k,hk,rfl,aJ⟩:=hrel;by_cases fM:k<c.ps.length
    ·have b0:(k:Int)<(c.ps.length:Int):=J;change Hid _ at aJ;gi_wp2;obtain⟨d0,GC⟩:∃d0,Fq c (wp.tick c x) x k=d0:=⟨_,rfl⟩;have Ds:=Ok (n:=x) cn.toka (afG cn.toka yv U) k hk;rw[GC]at aJ Ds;have R3:=I (show Fq c (wp.tick c x) x (k+1)=if k=x then d0 else aZ.drain c 9 d0 x k from by rw[alm,GC]);replace Ds:=I Ds;clear GC;refine ayR (λf hU w'=>∃(BO:aZ) (u21 u22 u23 u24 u25 u26 u27 u28 u29 u30 u31 u32 u33 u34 u35 u36 u37:Value),(p1 w1 W M F c P BO w'/\dy c l T BO/\(BO.iz x k).length<=f/\(if k=x then BO=d0 else aZ.drain c f BO x k=aZ.drain c 9 d0 x k))/\hU={tmps:=#[.pointer (some ⟨P,0,none⟩),.pointer (some ⟨w.heap.size,0,none⟩),.int .i64 (x:Int),.int .i64 (k:Int),.pointer (some ⟨P,0,none⟩),.bool false,.pointer (some ⟨P,0,none⟩),.func (.func 85) #[] #[.pointer (some ⟨B,0,none⟩)],.int .i64 (x:Int),.pointer (some ⟨P,0,none⟩),.int .i64 (x:Int),.int .i64 0,.bool false,.pointer (some ⟨P,0,none⟩),.pointer (some ⟨P,0,none⟩),.pointer (some ⟨P,0,none⟩),.slice cD c.ps.length eL,.int .i64 (c.ps.length:Int),.int .i64 (k:Int),.bool true,.int .i64 (k:Int),u21,u22,u23,u24,u25,u26,u27,u28,u29,u30,u31,u32,u33,u34,u35,u36,u37,u38],defers:= []}) 9 ?_ ?_
     ·refine⟨d0,u21,u22,u23,u24,u25,u26,u27,u28,u29,u30,u31,u32,u33,u34,u35,u36,u37,⟨aJ,Ds,eh (Ds.len x k) J,?_⟩,rfl⟩;split
      ·rfl
      ·rfl
     ·rintro f _ azp⟨BO,_,_,_,_,_,_,_,_,_,_,_,_,_,_,_,_,_,⟨C7,VE,hlen,Jw⟩,rfl⟩;obtain⟨_,_,_,yk⟩:=C7.box;have gh:=aI (o:=0) (C7.cell Qw cR IB) rfl;replace yk:=I yk;replace C7:=I C7;replace VE:=I VE;by_cases VF:k=x
      ·rw[bm VF]at Jw;subst Jw;have oR:=I (R3.trans (bm VF));have azq:(k:Int)=(x:Int):=J;have zB:k+1<=c.ps.length:=J;clear hlen;gi_wp2;refine⟨trivial,?_⟩;gi_wp2;go_roundw;case rel=>exact⟨k+1,zB,by go_num,by rw[oR.out];exact C7⟩
       case measure=>simp[intOf]<;>omega
      ·rw[bj VF]at Jw;have oR:=I (R3.trans (bj VF));have azq:¬(k:Int)=(x:Int):=J;replace Jw:=I Jw;gi_wp2;refine⟨trivial,(CallsIn.inRound sS ((callsIn_wide (n:=1)).2 (yk x k azp J J (Z.refl _)))).mono ?_⟩;rintro e alh⟨rfl,c9⟩;have dr:=c9.ah gh;replace c9:=I c9;clear gh;obtain⟨m,bM⟩:∃m,(BO.iz x k).length=m:=⟨_,rfl⟩;rw[bM];rw[bM]at hlen;replace bM:=I bM;by_cases aT:0<m
       ·have bL:=I (show 0<(BO.iz x k).length from by rw[bM.out];exact aT);have ox:(0:Int)<(m:Int):=J;have zJ:¬m=0:=J;change Hid _ at hlen;gi_wp2;refine⟨trivial,(CallsIn.inRound sS ((callsIn_wide (n:=1)).2 ((C7.ext c9).call (Φ:=λ_=>True) (λM' fb hw=>(ay8 hw cn VE (x:Int) (k:Int) (uk J J) (uk J J)).mono (λe w' ⟨z,ax⟩=>⟨z,trivial,ax⟩))))).mono ?_⟩;rintro e _⟨z,-,rfl,VG⟩;have Ce:C6 c BO (x:Int) (k:Int)=BO.vV c x k:=by unfold C6;rw[aDp,if_pos (C7.c4 bL.out)];rfl
        rw[Ce]at VG;replace VG:=I VG;clear Ce;gi_wp2;have ae:=azg (c:=c) bL;rw[bM.out]at ae;refine⟨f - 1,by have:=hlen.out;omega,BO.vV c x k,VG,afH cn.toka VE x J,by have:=hlen.out;omega,?_⟩;rw[<-Jw.out];obtain⟨f,rfl⟩:∃g,f=g+1:=⟨f - 1,by have:=hlen.out;omega⟩;rw[azi bL.out];rfl
       ·have aly:m=0:=J
        have Or:=I (show p1 w1 W M F c P (Fq c (wp.tick c x) x (k+1)) alh from by
         rw[oR.out,<-Jw.out,azh (by rw[bM.out];exact aly)]
         exact C7.ext c9)
        have zB:k+1<=c.ps.length:=J;clear bM;subst aly;clear aT hlen;gi_wp2;go_roundw;case rel=>exact⟨k+1,zB,by go_num,Or⟩
        case measure=>simp[intOf]<;>omega
    ·obtain rfl:k=c.ps.length:=J;have Or:=I (show p1 w1 W M F c P (wp.kF c x) wr from by rw[azn.out];exact aJ);clear aJ;gi_wp2;have Qx:=p1.alk Or Qv ym U;first|exact⟨rfl,Qx⟩|exact Qx
 case done=>
  rintro _ W rfl Qt jw;obtain⟨M',fb,ae,ak,aM,bn,_,_⟩:=Qt;have al:=ali W w1 (.deferred none);gi_wp2;refine⟨by simp,.inl ⟨_,_,rfl,run_takeDeferred jw,?_⟩⟩;have a8:∀x,x=(w1:Nat)->M' x:=λx e=>e▸aM.1;refine⟨_,results_none rfl _ _ _,M',fb,rfl,ae.step al a8 (λx U e=>?_) (b4.eG _ _) (λx k=>gw (ae.cx x k) al.size),?_⟩
  ·have e:x=(w1:Nat):=e;rw[e]at U;exact bn.1 U
  ·exact(hJ.of bx).trans ⟨ak.dT.wS al (λx e=>.inr (by have e:x=(w1:Nat):=e;omega)),ak.f,ak.m⟩
end
section
def Own.C8{α:Type}{w:aC}{base:Nat}{e:TypeId}{sz:Nat}{c:α->List Value}{aw:bk}{cap:Nat}{ys:List α}(h:Own w base e sz c aw n cap ys)(aa:∃aS k,w.heap[B]?=some (.map aS k)):∀ai,aw=some ai->¬ai.block=B:=by
 intro _ aj bq;subst aj;obtain⟨_,k,aa⟩:=aa;rcases h.row.2 with ⟨bo,_⟩|⟨g,aQ,cur,bo,_,bu,_⟩
 ·cases bo
 ·injection bo with ae;injection ae with ae;subst ae;dsimp only at bq;rw[bq,aa]at bu;cases bu
def azr{w:aC}{o:Nat}{v:Value}(h:w.cell? (b,o)=some v)(aa:∃aS k,w.heap[B]?=some (.map aS k)):b≠B:=by
 rintro rfl;obtain⟨_,k,aa⟩:=aa;simp[World.cell?,aa]at h
section
variable {w w':World}{M M' W S F:Nat->Prop}{c:bt}{P cA:Nat}{bR:Nat->n1}{cur:Nat->Nat}{aU:aZ}{v:qY}{g:Nat->Nat->Nat}{p q:Nat->Nat}{D O:Nat->Nat->Prop}
def rz.azs{s:iY}(h:rz w W s N cur)(al:aG S w w')(br:∃aS k,w.heap[B]?=some (.map aS k))(aD:∀x,W x->S x->x=B):rz w' W s N cur:=by
 obtain⟨⟨gs,ae,ak,aM,bn⟩,cb⟩:=h;exact⟨⟨gs,al.bI ae (λai aj k=>ae.C8 br ai aj (aD _ (cb ai aj) k)),ak,λy hy=>let ⟨ys,bQ,bY⟩:=aM y hy;⟨ys,al.bI bQ (λai aj k=>bQ.C8 br ai aj (aD _ (bY ai aj) k)),bY⟩,bn⟩,cb⟩
def lG.VH{ns':Nat->n1}(h:lG w M c P bR cur v p q D O W)(an:n<c.ps.length)(al:aG (λx=>(D n x\/O n x)\/x=v.dg) w w')(jw:b4 w (D n) bP)(dO:∀x,bZ x->O n x\/(w:Nat)<=x)(bc:b4 w M M')(aT:∀x,M' x->x<(w':Nat))(hs:∀x,bP x\/bZ x->M' x)(zv:∀x,bP x->¬bZ x)(sm:BN w' M' bP bZ c (p' n) (q n) (ns' n))(cB:∀k,k≠n->ns' k=bR k)(aV:∀k,k≠n->p' k=p k)(lg:tH w' v.dg c.ps.length (mi ns' p')):
  lG w' M' c P ns' cur v p' q (λk=>if k=n then bP else D k) (λk=>if k=n then bZ else O k) W:=by
 obtain⟨_,_,_,Mn,_⟩:=h.dg;have zk:=Mn.ZB;have a8:∀x,((D n x\/O n x)\/x=v.dg)->M x:=λx U=>U.elim (h.sub n an x) (λe=>e▸h.qv _ h.bI.2.1);have fa:∀x,W x->((D n x\/O n x)\/x=v.dg)->x=v.dg:=λx U k=>k.elim (λz=>absurd U (h.uB n an x z)) id;have py:∀x,bP x\/bZ x->(D n x\/O n x)\/(w:Nat)<=x:=λx U=>U.elim (λk=>(jw.new x k).imp .inl id) (λk=>(dO x k).imp .inr id);have hu:∀k,k<c.ps.length->k≠n->∀x,D k x\/O k x->¬((D n x\/O n x)\/x=v.dg):=λk hk kC x U z=>z.elim (λy=>h.gK k n hk an (λe=>kC e.symm) x U y) (λe=>h.uB k hk x U (e▸h.bI.2.1));refine⟨(al.block _ (bT h.box) (λk=>?_)).trans h.box,h.lR.step (al.sub a8) bc,lg,λk hk=>?_,al.bI h.fJ (λai aj k=>h.fJ.C8 zk ai aj (fa _ (h.bI.2.2 ai aj) k)),h.go.azs al zk fa,h.bI,λx U=>bc.up x (h.qv x U),λk hk x U=>?_,λk hk x U hw=>?_,λj k aJ hk G2 x U hy=>?_,λk hk x U hy=>?_,aT⟩
 ·have e:=fa _ h.bI.1 k;obtain⟨_,_,hm⟩:=zk;rw[<-e,h.box]at hm;cases hm
 ·by_cases e:k=n
  ·subst e;simp only[bm];exact sm
  ·simp only[bj e];rw[cB k e,aV k e];exact(h.qs k hk).step al a8 (hu k hk e) bc aT
 exact ak0;exact ak1;exact ak2;exact ak3
def p0.VH{x:n1}(h:p0 w M c P aU v cA g p q D O W)(hF:∀x,F x↔uC c g D O W x)(an:n<c.ps.length)(al:aG (λx=>(D n x\/O n x)\/x=v.dg) w w')(jw:b4 w (D n) bP)(dO:b4 w (O n) bZ)(bc:b4 w M M')(aT:∀x,M' x->x<(w':Nat))(hs:∀x,bP x\/bZ x->M' x)(zv:∀x,bP x->¬bZ x)(sm:BN w' M' bP bZ c (p' n) (q n) x)(aV:∀k,k≠n->p' k=p k)(lg:tH w' v.dg c.ps.length (mi (aU.hc n x).bR p')):
  ∃fb,jh w' M' fb c P (aU.hc n x)/\hJ w M F w' M' fb:=by
 have py:∀x,bP x\/bZ x->(D n x\/O n x)\/(w:Nat)<=x:=λx U=>U.elim (λk=>(jw.new x k).imp .inl id) (λk=>(dO.new x k).imp .inr id);have azt:=h.dh.VH (ns':=(aU.hc n x).bR) (p':=p') an al jw dO.new bc aT hs zv (by rw[x1];exact sm) (λk hk=>CC aU _ hk) aV lg;have a8:∀x,((D n x\/O n x)\/x=v.dg)->M x:=λx U=>U.elim (h.dh.sub n an x) (λe=>e▸h.dh.qv _ h.dh.bI.2.1);refine⟨uC c g (λk=>if k=n then bP else D k) (λk=>if k=n then bZ else O k) W,⟨v,cA,g,p',q,_,_,W,⟨azt,h.tR,?_,h.zw,λk hk y hy bf=>?_,h.c4⟩,λ_=>Iff.rfl⟩,al.mono (λy _ hy=>(hF y).2 (hy.elim (λz=>.inr (.inr ⟨n,an,z⟩)) (λe=>.inl (e▸h.dh.bI.2.1)))),⟨λy hy=>?_,λy hy=>?_⟩,bc⟩
 ·exact h.lT.Ha al a8 (λy hy k=>k.elim (λz=>h.As n an y hy z) (λe=>h.zw y hy (e▸h.dh.bI.2.1))) bc
 ·by_cases e:k=n
  ·subst e;simp only[bm]at bf;rcases py y bf with z|z
   ·exact h.As k hk y hy z
   ·have:=h.lT.lt y hy;omega
  ·simp only[bj e]at bf;exact h.As k hk y hy bf
 ·rcases (hF y).1 hy with hy|hy|⟨k,hk,hy⟩
  ·exact .inl hy
  ·exact .inr (.inl hy)
  ·by_cases e:k=n
   ·subst e;exact .inr (.inr ⟨k,hk,by simp only[bm];exact hy.imp (jw.up y) (dO.up y)⟩)
   ·exact .inr (.inr ⟨k,hk,by simp only[bj e];exact hy⟩)
 ·rcases hy with hy|hy|⟨k,hk,hy⟩
  ·exact .inl ((hF y).2 (.inl hy))
  ·exact .inl ((hF y).2 (.inr (.inl hy)))
  ·by_cases e:k=n
   ·subst e;simp only[bm]at hy;exact(py y hy).imp (λz=>(hF y).2 (.inr (.inr ⟨k,hk,z⟩))) id
   ·simp only[bj e]at hy;exact .inl ((hF y).2 (.inr (.inr ⟨k,hk,hy⟩)))
end
def Hc(c:bt)(w:aZ)(n:Int):aZ:=if 0<=n/\n<(c.ps.length:Int) then w.xW n.toNat else w
def azu{w:aC}{M F:ff}{c:bt}{P:Nat}{aU:aZ}(h:jh w M F c P aU)(ao:jL c)(n ah:Int):
  aR 12 #[P,n,ah] w λe w'=>∃z:Int,(z=0↔qZ c aU.bR n=true)/\C5 c P w M F z (Hc c aU n) e w':=by
 obtain⟨v,cA,g,p,q,D,O,W,h,hF⟩:=h;have ny:=Fm ao.toka;have H:=I h;have mj:=I hF;obtain⟨u,al⟩:∃u,qZ c aU.bR n=u:=⟨_,rfl⟩;rw[al];by_cases aW:0<=n/\n<(c.ps.length:Int)
 ·obtain⟨k,rfl⟩:∃k:Nat,n=(k:Int):=⟨n.toNat,J⟩;have hk:k<c.ps.length:=J;refine ak8 ?_;intro c5;have j3:=I (show Hc c aU (k:Int)=aU.xW k from by unfold Hc;rw[if_pos aW];rfl);have l4:=I al;cases cB:aU.bR k with
  |down dk=>
   have Jx:u=false:=by rw[<-al];unfold qZ;rw[Int.toNat_natCast,cB,Bool.and_false]
   have kI:=I (j3.trans (show aU.xW k=aU from by unfold aZ.xW;rw[cB]));subst Jx;go_enter func12,ntmps12;refine alz ?_;intro _ w1 bU _ _ _ _ _ _;rintro e aN⟨rfl,bz⟩;rw[l4.out];replace bz:=I bz;go_wp2_with fail;go_ret;refine⟨210,⟨λe=>absurd e af,λe=>(by cases e)⟩,M,F,rfl,?_,.of X⟩;exact ak9
  |up b=>
   have tV:u=true:=by rw[<-al];unfold qZ;rw[Int.toNat_natCast,cB,decide_eq_true aW];rfl
   have kI:=I (j3.trans (show aU.xW k=aU.hc k (.down b.ez)from by unfold aZ.xW;rw[cB]));subst tV;change Hid _ at cB;obtain⟨_,_,_,rW,Mk,Jy,uV⟩:=h.dh.dg;have oI:=I (CU (k:=(k:Int)) (uk J J));have fM:k<v.aX.n:=by rw[h.dh.lR.dQ.2.2.neq];simp;omega
   obtain⟨fC,o,qq,fW⟩:=h.dh.lR.dQ.2.2.get k (by simpa using hk);have k2:=fW 0 _ rfl;rw[jT,Et,Qy]at k2;simp only[uY]at k2;replace rW:=I rW;replace Mk:=I Mk;replace Jy:=I Jy;replace uV:=I uV;go_enter func12,ntmps12;refine alz ?_;intro _ w1 bU _ _ _ _ _ _;rintro e aN⟨rfl,U⟩;rw[l4.out];have bz:Hid (Z w aN):=bU.trans U;have fm:=aI (o:=4) (U.aB (bU.aB H.dh.box)) rfl;have zk:=rW.ZB;have Mo:W v.dg:=H.dh.bI.2.1
   have azv:=I (show ∀aY,aN.mapTurned aY v.dg->aY.cell? (P,3)=some (.slice (some (fC,o)) v.aX.n v.aX.c)/\aY.cell? (fC,o+k)=some (.pointer (some (q k,0)))/\aG (·=v.dg) w aY from λaY Ao=>by
    have h4:aG (·=v.dg) w aY:=(aG.of bz).trans (UD Ao)
    have e6:=(h4.block P (bT H.dh.box) (λe=>by
     have e:P=v.dg:=e;obtain⟨_,_,hm⟩:=zk
     rw[<-e,H.dh.box]at hm;cases hm)).trans H.dh.box
    have ew:=aI (o:=3) e6 rfl;rw[show(#[v.cD,v.aj,v.lT,v.aX,.map (some v.dg),v.fJ,v.go]:Array Value)[3]=Value.slice v.aX.a v.aX.n v.aX.c from rfl,qq]at ew
    exact⟨ew,h4.cell k2 (show ¬fC=v.dg from azr k2 zk),h4⟩)
   have b0:(0:Int)<=(k:Int):=J;have bd:(k:Int)<(v.aX.n:Int):=J;obtain⟨_,ko⟩:rp w M (D k) (O k) c (p k) (q k) b:=by have:=H.dh.qs k hk;rw[cB.out]at this;exact this
   obtain⟨L,fH,_⟩:=ko.dk;have azw:=I fH.zU;have fP:=I fH.ok;go_wp2_with (at_delete;(refine Gw rfl (λK aL=>auv _ _ rfl EP underlying85 rfl (rW.ext bz) rfl oI ?_);intro aY azx Ao;obtain⟨_,_,iK⟩:=azv aY Ao;have fT:=I (tH.del Mk Jy uV hk J azx rfl);have xy:=I (azw.dT iK (λx U e=>H.dh.uB k hk x (.inl U) (by have e:x=v.dg:=e;rw[e];exact Mo)));replace iK:=I iK;refine aL _ _ ?_));refine(art (D k) (q k) _ _ c.room ah _ xy rfl).mono ?_;rintro e b3⟨rfl,azy,nT⟩;have alA:aG (λx=>(D k x\/O k x)\/x=v.dg) w b3:=(iK.mono (λx _ e=>.inr e)).trans (nT.mono (λx _ e=>.inl (.inl e)));have azz:tH b3 v.dg c.ps.length (mi (aU.hc k (.down b.ez)).bR p):=by
    have ae:=fT.aB (nT.block _ fT.lt (λe=>H.dh.uB k hk _ (.inl e) Mo));have e:(λj=>if j=k then none else mi aU.bR p j)=mi (aU.hc k (.down b.ez)).bR p:=by
     funext j;by_cases aJ:j=k
     ·subst aJ;unfold mi;rw[if_pos rfl,x1]
     ·rw[if_neg aJ];unfold mi;rw[CC aU _ aJ]
    rw[<-e];exact ae
   obtain⟨fb,Os,Pi⟩:=H.VH mj hk alA (b4.eG _ _) (b4.eG _ _) (b4.eG _ _) (λx U=>gw (H.dh.cx x U) alA.size) (λx U=>H.dh.sub k hk x U) (H.dh.G9 k hk) (x:=.down b.ez) ⟨azy,fP⟩ (λ_ _=>rfl) azz;replace Os:=I Os;replace Pi:=I Pi;go_wp2;go_ret;refine⟨0,⟨λ_=>(by first|trivial|rfl),λ_=>(by first|trivial|rfl)⟩,M,fb,rfl,?_,Pi⟩;rw[kI.out];exact Os
 ·have Jx:u=false:=by rw[<-al];unfold qZ;rw[decide_eq_false aW,Bool.false_and]
  refine In ?_;intro c5;have j3:=I (show Hc c aU n=aU from by unfold Hc;rw[if_neg aW]);subst Jx;go_enter func12,ntmps12;go_wp2_with fail;refine(Fl (H.dh.ext X) n).mono ?_;rintro e w1⟨rfl,bU⟩;rw[c5.out];replace bU:=I bU;go_wp2_with fail;go_ret;refine⟨1,⟨λe=>absurd e af,λe=>(by cases e)⟩,M,F,rfl,?_,.of X⟩;exact alc
end
end Go.Proofs.YtfiiblnenhdlhaaGreat
