/- Part. -/
import Derived.Test.YtfiiblnenhdlhaaGreatG9
set_option linter.unusedVariables false
set_option linter.unusedSimpArgs false
set_option linter.defProp false
set_option maxRecDepth 100000
set_option maxHeartbeats 4000000
namespace Go.Proofs.YtfiiblnenhdlhaaGreat
open Go.RowKit Tryz
variable {R:List aA}{ag ps:List bO}{aX:List bg}{l:List lz}{base cap hl jv k m n p q sz:Nat}{D M O:Nat->Prop}{a aw c0:Option Addr}{α:Type}{e:TypeId}{w w' w1:World}{i:aA}{d:bg}{c:bt}{v:tK}
structure o1 where
 x:ky
 m:dC
def o1.dX(p:o1):sf:=⟨p.x,p.m.vs⟩
def o1.cs(p:o1):List Value:=p.x.cs
def o1.bH(p:o1):p.cs.length=8:=rfl
def ky.cN(x:ky):∀u∈x.cs,u.oneCell'=true:=by
 intro u al;simp only[ky.cs,nK,sW,tJ]at al;exact WI
structure Lx (w:World) (a:Option Addr) (n c:Nat) (ms:List o1):Prop where
 aF:a1 w 8 o1.cs a n c ms
 ct:∀p,p∈ms->tu w p.x p.m
def Lx.ext{c:Nat}{ms:List o1}(h:Lx w a n c ms)(U:Z w w'):Lx w' a n c ms:=⟨h.aF.ext U,λp aV=>(h.ct p aV).ext U⟩
def Lx.cc{c:Nat}{ms:List o1}(h:Lx w a n c ms):Kids w a n c (ms.map o1.dX):=
 ⟨a1.map (c:=sf.cs) o1.dX h.aF (λ_=>rfl),λk hk=>by
  obtain⟨p,aV,rfl⟩:=kN.1 hk
  exact(h.ct p aV).v⟩
def aia(ms:List o1)(i:aA):p5 (ms.map o1.dX) i=aCW (ms.map (·.m)) i:=by
 unfold p5 aCW;rw[xm,List.all_map,xm,List.all_map];rfl
def ZM{c:Nat}(h:ja w a n c ps)(hm:ps.map (·.d)=aX):(ps.map (·.x)).map (·.id)=aX.map (·.id):=by
 subst hm;rw[FN,FN];exact List.map_congr_left (λp aV=>(h.ct p aV).id)
def auV{c:Nat}(h:ja w a n c ps)(hm:ps.map (·.d)=aX)(ms:List o1)(rs:List aA):uQ (ms.map o1.dX) (ps.map (·.x)) rs=Gd (ms.map (·.m)) aX rs:=by
 have e:∀(l:List b1) (m:List bg),l.map (·.id)=m.map (·.id)->∀out,l.foldl (λo x=>Cb (ms.map o1.dX) o x.id) out=m.foldl (λout d=>xT (ms.map (·.m)) out d.id) out:=by
  intro l;induction l with
  |nil=>intro m hm out;cases m with|nil=>rfl|cons _ _=>cases hm
  |cons x l cI=>
   intro m hm out;cases m with
   |nil=>cases hm
   |cons d m=>
    injection hm with ae ak;rw[mM,mM,cI m ak];congr 1;unfold Cb xT;rw[aia,show x.id=d.id from ae]
 unfold uQ Gd FP;rw[e _ _ (ZM h hm)]
def w4.sj{c:Nat}(h:w4 w a n c aX):∃ps,ja w a n c ps/\ps.map (·.d)=aX:=let ⟨ps,ae,ak,aM⟩:=h;⟨ps,⟨ae,ak⟩,aM⟩
def auW{c:Nat}(h:ja w a n c ag)(hm:ag.map (·.d)=aX)(ay:List aA):yL (ag.map (·.x)) ay=λi=>eD aX i||ik ay i:=by
 funext i;unfold yL;rw[y5 h hm];rfl
def auX{b:bk}{c d:Nat}{aS:List bg}(h:ja w a n c ag)(hm:ag.map (·.d)=aX)(k:ja w b m d ps)(ZN:ps.map (·.d)=aS)(ay:List aA):p7 (ag.map (·.x)) (ps.map (·.x)) ay=λi=>eD aX i||eD aS i||ik ay i:=by
 funext i;unfold p7;rw[y5 h hm,y5 k ZN];rfl
def auY{b o:bk}{c d j e:Nat}{os:List bO}{aS hZ:List bg}(h:ja w a n c ag)(hm:ag.map (·.d)=aX)(k:ja w b m d ps)(ZN:ps.map (·.d)=aS)(z:ja w o j e os)(auZ:os.map (·.d)=hZ):xt (ag.map (·.x)) (ps.map (·.x)) (os.map (·.x))=λi=>eD aX i||eD aS i||eD hZ i:=by
 funext i;unfold xt;rw[y5 h hm,y5 k ZN,y5 z auZ]
def Ly(hm:ps.map (·.d)=aX)(h:∀d,d∈aX->hP d):∀p,p∈ps->mo p.d:=λp aV=>(h p.d (by rw[<-hm];exact mJ aV)).rH
def IV{ts:List b2}{tx:List gN}(hm:ts.map b2.tx=tx)(h:∀t,t∈tx->gY t.e):∀p,p∈ts->mo p.e:=λp aV=>(h p.tx (by rw[<-hm];exact mJ aV)).ok.rH
def Ps{b:az}(h:dU w M D O c p q b v):aR 148 #[p] w λe w'=>e=.returned b.h5/\Z w w':=by
 have cT:=aI (o:=0) h.box rfl;obtain⟨r,ax⟩:∃r,b.h5=r:=⟨_,rfl⟩;have aD:decide ((b.b6:Int)=0)=r:=by rw[<-ax];unfold az.h5;exact decide_eq_decide.2 J
 rw[ax];clear h ax;go_enter func148,ntmps148;go_wp2_with fail;go_ret;exact⟨by rw[<-aD];rfl,X⟩
def ZO{b:az}(h:dU w M D O c p q b v)(dp:jn c.ps=true)(hm:b.b6<c.ps.length):aR 152 #[p] w (p3 3 1 dD ((b.cc c).map Int.ofNat) w):=by
 have gp:=I h.box;have cy:=I h.dQ.cD;have pb:b.b6<v.cD.n:=by rw[h.dQ.cD.neq];exact hm
 change Hid _ at dp;clear h;go_enter func152,ntmps152;go_wp2_with fail;refine sI (Z w) (λa7=>?_);refine Ag ?_;refine lA 3 (·.aB gp) ?_;refine Lm ?_;refine lA 7 (·.aB gp) ?_;refine hE 8 λK aL=>?_;(go_simp;(go_at_call 223;refine(arZ v.cD.a v.cD.n v.cD.c b.b6 c.ps _ (cy.ext X) dp pb).mono ?_;rintro e _⟨aw,cZ,c2,rfl,b7,gj⟩;change Hid _ at b7 gj);refine vf ?_;intro a7);refine cX 9 ?_;refine wpAnyH_done bV ?_ _;go_wp2;go_ret;exact⟨aw,cZ,c2,rfl,b7,X⟩
def ZP{b:az}(h:dU w M D O c p q b v)(cl:Int):aR 98 #[p,cl] w (cM (.bool (b.xU c cl)) w):=by
 obtain⟨_,-,bY⟩:=iE h.box;have cy:=I h.dQ.aj;have an:=h.dQ.aj.neq;clear h;obtain⟨r,ax⟩:∃r,b.xU c cl=r:=⟨_,rfl⟩;rw[ax];unfold az.xU at ax;by_cases aW:0<=cl
 ·by_cases ae:cl<(v.aj.n:Int)
  ·obtain⟨k,rfl⟩:∃k:Nat,cl=(k:Int):=⟨cl.toNat,J⟩;have hk:k<c.hs.length:=J;obtain⟨_,o,aj,ao⟩:=cy.get k hk;have k2:=AI (x:=c.hs[k]) ao;rw[jT]at k2;rw[aj]at bY;rw[mS ⟨aW,J⟩,IW,nQ,xO,fz hk,K8]at ax;clear ao cy aj;go_enter func98,ntmps98;go_wp2_with fail;go_quiet (fail);go_wp2;go_ret;exact⟨by rw[<-ax];rfl,X⟩
  ·have e4:decide (cl<(v.aj.n:Int))=false:=lo ae;have GC:decide ((0:Int)<=cl)=true:=mS aW;rw[lo J,Gz]at ax;subst ax;clear cy ae aW an;exact aib
 ·have e4:decide ((0:Int)<=cl)=false:=lo aW;rw[lo J,Gz]at ax;subst ax;clear cy aW an;exact aib
def Pt{b:az}(H:dU w M D O c p q b v)(b8:gz c l R n b)(ax:c.room<=1048576)(x:b1)(r:gJ)(bb:h0 w x r.e)(eM:r.k≠2/\r.k≠3->x=rI)(av:sG r)(yh:xI r):
  aR 238 #[p,.agg #[r.k,ad (r.n:Int),x.k,x.id.b,ad x.id.l,ad x.id.s,x.c,ad x.u,x.f,x.e,r.id.b,ad r.id.l,ad r.id.s]] w (yg c p q w M D O (.bool (b.note c r).2) (b.note c r).1):=by
 obtain⟨ag,ps,fR⟩:=H.dQ.st;replace fR:=I fR;have fP:=I (b8.ez.CR ax);replace bb:=I bb;replace eM:=I eM;replace av:=I av;replace yh:=I yh;replace H:=I H;replace b8:=I b8;obtain⟨rs,fV⟩:∃rs,b.note c r=rs:=⟨_,rfl⟩;rw[fV];replace fV:=I fV;go_enter func238,ntmps238;go_wp2_with fail;refine(X1 x r _ (bb.ext X) eM yh).mono ?_;rintro e w1⟨cL,dv,c1,rfl,sQ,cm⟩;have EM:=I (cm.aB (show(w.alloc (.cells #[r.k,ad (r.n:Int),x.k,x.id.b,ad x.id.l,ad x.id.s,x.c,ad x.u,x.f,x.e,r.id.b,ad r.id.l,ad r.id.s] 169)).heap[(w:Nat)]?=some (.cells #[r.k,ad (r.n:Int),x.k,x.id.b,ad x.id.l,ad x.id.s,x.c,ad x.u,x.f,x.e,r.id.b,ad r.id.l,ad r.id.s] 169)from hT));have dn:=I (sQ.mono (aDn:=(w:Nat)) (by simp));have gp:=I ((H.ext (w':=w1) (Z.trans X cm)).box);replace cm:=I cm;clear sQ;go_upto_region 4 with (fail);go_cut [6,7] (λtn bv fD=>∃(s':lZ) (pQ oH:List bO) (B:Nat),tn=.int .i64 (Ix (eT b.st r))/\bv=.pointer (some (B,0))/\Hid (rf fD w s' ((eT b.st r).getD b.st) pQ oH)/\Hid (fD.heap[B]?=some (s':Obj))/\Hid (Z w1 fD)/\(w:Nat)<=B);case first=>
  go_wp2_with fail;refine sI (Z w1) (λa7=>?_);refine Ag ?_;refine lA 3 (·.aB gp) ?_;refine lA 4 (·.aB EM) ?_;refine wpAnyH_ready (rs:= [5,9]) bV (by simp) ?_;refine AllReadyH.cons rfl (λK aL=>?_) (AllReadyH.cons rfl (λK aL=>?_) AllReadyH.nil)
  ·skip;(go_simp;(go_at_call 287;refine(agR v.s b.st ag ps x r _ (fR.ext X) fP (bb.ext X) eM yh).mono ?_;rintro e aN⟨s',pQ,oH,rfl,lD,gj⟩;replace lD:=I lD;replace gj:=I gj);refine vf ?_;intro a7);refine Pu ?_;refine hE 9 λK aL=>?_;(go_simp;skip;refine vf ?_;intro a7);refine hE 10 λK aL=>?_;go_simp;refine aL _ _ ?_ (λa7=>?_)
   focus ((try dsimp only);exact X)
   clear aL K;refine Ud ?_;go_wp2_with fail;go_meet;exact⟨s',pQ,oH,_,rfl,rfl,(lD.ext X).mono (by have ae:=cm.size;simp at ae;simp;omega),I (fi (by first|rfl|simp)),X,(by have ae:=cm.size;have ak:=gj.size;simp at ae ak;simp;omega)⟩
  ·skip;(go_simp;skip;refine vf ?_;intro a7);refine hE 5 λK aL=>?_;(go_simp;(go_at_call 287;refine(agR v.s b.st ag ps x r _ (fR.ext X) fP (bb.ext X) eM yh).mono ?_;rintro e aN⟨s',pQ,oH,rfl,lD,gj⟩;replace lD:=I lD;replace gj:=I gj);refine vf ?_;intro a7);refine Pu ?_;refine hE 10 λK aL=>?_;have pT:aN.heap[(w1:Nat)]?=some (lB:Obj):=gj.aB (by show(w1.alloc lB).heap[(w1:Nat)]? =_;exact fi rfl);obtain⟨_,_,_,_,_⟩:=Ci pT;have iy:=CE (S:=λx=>x=(w1:Nat)) (aG.refl _ aN) (R:=(w1:Nat)) (.inl rfl) (ad s'.cO) s'.l s'.p s'.b;have ch:=iy.ext (W:=w1) (λb aa=>by subst aa;exact bA _) X;go_simp;refine aL _ _ ?_ (λa7=>?_)
   focus ((try dsimp only);exact ch)
   clear aL K;refine Ud ?_;go_wp2_with fail;go_meet;exact⟨s',pQ,oH,(w1:Nat),rfl,rfl,(lD.Er pT iy).mono (by have ae:=cm.size;simp at ae ⊢;omega),K9 pT _ _ _ _,ch,(by have ae:=cm.size;simp at ae;omega)⟩
 case rest=>
  obtain⟨s',pQ,oH,B,rfl,rfl,aic,au0,au1,ZQ⟩:=hcut;cases xz:eT b.st r with
  |none=>
   have bf:Ix none=160:=rfl;have gd:=fV.out;rw[auS xz]at gd;subst gd;rw[bf];clear xz bf fV;go_wp2;go_ret;exact ZR
  |some s=>
   have bf:Ix (some s)=0:=rfl;rw[xz]at aic;rw[bf];change Hid _ at xz;clear bf;have agp:=aI (o:=3) (H.ext (w':=wc) X).box rfl;go_wp2_with fail;have GD:=H.ext (w':=wc.alloc (.cells #[aq cL dv c1] 107)) X;obtain⟨L,fH,EL,CS⟩:=GD.dk;have ho:=H.cx;have O3:(w:Nat)<=(wc:Nat):=Z.size (show Z w wc from X);have DN:=auP (M:=M) (w:=wc.alloc (.cells #[aq cL dv c1] 107)) (fi rfl) (λk=>by have:=ho _ k;omega) ((dn.ext X).cx ho);have hlen:∀x,x∈ [(⟨⟨cL,dv,c1⟩,gl r⟩:gL)]->1<=x.ay.length/\x.ay.length<=4000:=λx U=>by obtain rfl:=iH.1 U;exact T9 av
   have x8:(gb ([(⟨⟨cL,dv,c1⟩,gl r⟩:gL)].map (·.ay))).length=xR r:=(Ua [r]).trans (Ox r);by_cases bc:nZ b.ez+xR r<=c.room
   ·have gd:=fV.out;rw[auU xz.out bc]at gd;subst gd;refine(arD M D L v.eS q (b.ez.map gl) _ c.room _ 1 1 _ _ fH DN J J hlen (by rw[x8,Ua];exact bc)).mono ?_;rintro e aY⟨rfl,bP,lf,CT,gI,Lv,Lw⟩;obtain⟨Ew,v7⟩:=GD.auO (Ub:=b.ez++[r]) EL CS (by rw[gS];exact CT) gI Lv Lw;have hblk:∀x o,(w:Nat)<=x->wc.heap[x]?=some o->aY.heap[x]?=some o:=λx o U aK=>by
     have fM:=(FM.1 aK).1;refine(gI.block x (by simp;omega) (λk=>?_)).trans (((Z.refl wc).alloc _).aB aK);have:M x:=k.elim (GD.sP x) (λz=>GD.sub x (EL x z));have:=ho x this;omega
    have pT:=hblk B _ ZQ au0;have zm:=hblk (w:Nat) _ (bA _) (au1.aB EM);have Ue:=v7.pJ (λx k=>k.elim (GD.sP x) (GD.sub x)) (((aic.ext (w':=wc.alloc (.cells #[aq cL dv c1] 107)) X).cx ho).mono (λw k=>(⟨pQ,oH,k⟩:∃ag ps,sC w s' s ag ps)));have aV:p<(w:Nat):=bT H.box;replace Ew:=I Ew;replace v7:=I v7;replace zm:=I zm;replace Ue:=I Ue;replace O3:=I O3;clear GD fH EL CS DN hlen x8 CT gI Lv Lw hblk;obtain⟨cF,cP,cQ,dd⟩:=vx pT;obtain⟨-,-,-,-,k0,oq,o7,sc,xw⟩:=kl Ew.box;clear pT;clear fV;go_upto_region 10 with (fail);obtain⟨pU,w9⟩:=Ew.state (w':=((((aY.setCell (p,4) (ad s'.cO)).setCell (p,5) s'.l).setCell (p,6) s'.p).setCell (p,7) s'.b)) (s:=s') (st:=s) Ue rfl;generalize ((((aY.setCell (p,4) (ad s'.cO)).setCell (p,5) s'.l).setCell (p,6) s'.p).setCell (p,7) s'.b)=b3 at pU w9 ⊢;have vd:(w:Nat)<(aY:Nat):=(FM.1 zm).1;have By:=(w9.block w vd (by show ¬(w:Nat)=p;omega)).trans zm;replace pU:=I pU;have iD:=I (v7.trans (ig.kF w9 Ew.bI.1));replace By:=I By;clear w9 cF cP cQ dd k0 oq o7 sc xw Ew v7 zm Ue vd;have cF:=aI (o:=0) By rfl;by_cases k3:r.k=2
    ·have OE:=pU.dQ.tx;obtain⟨ts,dp,kI⟩:=OE;have eH:=I (IV kI (λt a6=>(b8.tx t a6).eA));have r0:v.tx.n<=1000:=by rw[dp.aF.neq,<-List.length_map (f:=b2.tx),kI];have:=b8.tk;dsimp only;omega
     replace dp:=I dp;replace kI:=I kI;go_wp2_with fail;refine Bh 11 (Z b3) (λa7=>?_);refine Pv ?_;refine lQ 4 (·.aB pU.box) ?_;refine gO 5 ?_;refine gO 6 ?_;refine lQ 7 (·.aB By) ?_;refine kW 8 λK aL=>?_;go_simp;go_at_call 240;refine(Zg _ _ _ ts x.id _ (dp.ext X) eH r0).mono ?_;rintro e bp⟨a5,jc,dw,au2,rfl,GF,Lz,ix⟩;have ic:=I ix;refine EN ?_;intro hH a7;refine kW 9 λK aL=>?_;go_simp;refine EN ?_;intro hH a7;refine gO 10 ?_;have Al:=pU.ext (w':=bp) X;have ZS:∀x,la M (oE bP lf) x->x<(b3:Nat):=pU.cx;have gI:=GF.cx (λx k=>ZS x k);clear GF;obtain⟨-,-,-,-,-,-,-,-,_,_⟩:=uX Al.box;refine kW 11 λK aL=>?_;refine Bj ?_;intro _;obtain⟨Pw,v8⟩:=Al.rP (w':=bp.setCell (p,8) (aq a5 jc dw)) (t:=⟨a5,jc,dw⟩) (tx:=th (ts.map b2.tx) x.id) (gI.mono (λw k=>⟨au2,k,Lz⟩)) rfl;go_wp2;go_ret;refine⟨_,_,_,rfl,⟨{{v with s:=s'} with tx:=⟨a5,jc,dw⟩},?_⟩,((iD.ext (show Z b3 bp from X)).trans (ig.kF v8 Al.bI.1)).cC X⟩;rw[<-bb.id,<-show ts.map b2.tx=b.tx from kI.out];exact Pw
    ·go_wp2;go_ret;refine⟨_,_,_,rfl,⟨{v with s:=s'},?_⟩,iD.cC X⟩;have W:=pU.out;exact W
   ·have gd:=fV.out;rw[auT xz.out bc]at gd;subst gd;refine(arE M D L v.eS q (b.ez.map gl) _ c.room _ 1 1 _ _ fH DN J hlen (by rw[x8,Ua];omega)).mono ?_;rintro e _⟨rfl,c9⟩;replace c9:=I c9;clear GD fH EL CS DN hlen x8;go_wp2;go_ret;exact ZR
def gz.Uf{b:az}(h:gz c l R n b)(ax:c.room<=1048576):b.st.ag.length<=200000/\b.st.ps.length<=200000/\b.st.ay.length<=200000:=⟨(h.ez.CR ax).xQ,(h.ez.CR ax).jE,(h.ez.CR ax).cA⟩
def ZT(i:aA):(nV i).k≠1:=λe=>absurd e (by decide:¬(4:Int)=1)
def au3(i:aA):(yW i).k≠1:=λe=>absurd e (by decide:¬(5:Int)=1)
def aid(n:Nat)(d:bg):(hR n d).k≠1:=λe=>absurd e (by decide:¬(2:Int)=1)
def au4(d:bg):(jx d).k≠1:=λe=>absurd e (by decide:¬(3:Int)=1)
def aie{b:az}(h:gz c l R n b)(i:aA):gz c l R n {b with tx:=th b.tx i}:=
 ⟨h.b6,h.ez,λt a6=>(h.tx t ((KT _ _).subset a6)).mn rfl rfl (bA _),h.rP.sublist ((KT b.tx i).map _),eh (KT b.tx i).length_le h.tk,h.e8,h.x0,h.cW,h.eN,h.bl⟩
def au5{b:az}(h:gz c l R n b)(aO:dx i):gz c l R n (b.xS c i).1:=by
 unfold az.xS;split
 ·exact aie (IU h (OA aO) (ZT i)) i
 ·exact IU h (OA aO) (ZT i)
def aif{b:az}(h:gz c l R n b)(aD:gY d):gz c l R n (b.vP c d).1:=IU h (KU _ aD) (aid _ _)
def aih{b:az}(h:gz c l R n b)(aO:dx i):gz c l R n (b.pN c i):=by
 unfold az.pN;split
 ·exact IU h (YA aO) (au3 i)
 ·exact h
def aii{b:az}(H:dU w M D O c p q b v)(b8:gz c l R n b)(ax:c.room<=1048576)(x:b1)(d:bg)(bb:h0 w x d)(c5:gY d):
  aR 204 #[p,x] w (yg c p q w M D O (.bool (b.vP c d).2) (b.vP c d).1):=by
 obtain⟨ag,_,ec⟩:=H.dQ.st;have eu:v.s.l.n=b.st.ag.length:=by rw[ec.l.aF.neq,<-ec.j9,cr]
 have ak:=(b8.Uf ax).1;have zf:IntKind.u64.wrap (v.s.l.n:Int)=(v.s.l.n:Int):=Gp _ ⟨J,J⟩;change Hid _ at eu;have yh:Hid (xI (hR b.st.ag.length d)):=.inr (.inl ⟨_,d,rfl,by unfold gv;omega,c5.ok⟩);change Hid _ at H b8 bb c5;clear ec;go_enter func204,ntmps204;go_wp2_with fail;have gp:=I (H.ext (w':=w.alloc x) X).box;have r1:=I (show(w.alloc x).heap[(w:Nat)]?=some (x:Obj)from hT);refine uc 10 (λw'=>Z (w.alloc x) w') (λa7=>?_);refine um ?_;refine ed 3 ?_;refine ed 4 ?_;refine kH 5 (·.aB gp) ?_;refine ed 6 ?_;refine ed 7 ?_;refine kH 8 (·.aB r1) ?_;refine ed 9 ?_;refine lh 10 λK aL=>?_;go_simp;rw[eu.out];go_at_call 238;refine(Pt (H.ext X) b8 ax x (hR b.st.ag.length d) (bb.ext X) (λk=>absurd rfl k.1) (KU _ c5) yh).mono ?_;rintro e _⟨M',bP,bZ,rfl,zD,hq⟩;refine aL _ _ (λ_ h=>absurd rfl h) λ_=>eY ?_;refine lh 11 λK aL=>?_;go_simp;refine aL _ _ (absurd · af) λ_=>eY ?_;refine YN bV ?_ _;go_wp2;go_ret;exact⟨M',bP,bZ,rfl,zD,hq.cC X⟩
def au6{b:az}(H:dU w M D O c p q b v)(b8:gz c l R n b)(ax:c.room<=1048576)(i:aA)(bb:dx i):
  aR 205 #[p,i] w (yg c p q w M D O (.bool (b.xS c i).2) (b.xS c i).1):=by
 obtain⟨rs,fV⟩:∃rs,b.xS c i=rs:=⟨_,rfl⟩;rw[fV];change Hid _ at fV H b8 bb;go_enter func205,ntmps205;go_wp2_with fail;refine Ug ?_;intro r1;refine(Pt (H.ext X) b8 ax rI (nV i) (Tz _) (λ_=>rfl) (OA bb) (.inr (.inr (.inr (.inl ⟨i,rfl,bb⟩))))).mono ?_;rintro e w1⟨M',bP,bZ,rfl,⟨v1,cm⟩,vg⟩;have gd:=fV.out;unfold az.xS at gd;have EO:=IU b8 (OA bb) (ZT i);generalize b.note c (nV i)=au7 at gd cm EO ⊢;obtain⟨bd,z⟩:=au7;change Hid _ at vg cm EO;have pR:Hid (w1.heap[(w:Nat)]?=some (i:Obj)):=(vg.dT.block _ (by simp) (λk=>by have:=H.cx _ (k.elim (H.sP _) (H.sub _));omega)).trans r1;clear r1 fV;obtain⟨_,_,_⟩:=iE pR;cases z with
 |false=>
  subst gd;go_wp2;go_ret;exact⟨M',bP,bZ,rfl,⟨v1,cm⟩,vg.cC X⟩
 |true=>
  subst gd;obtain⟨ts,dp,kI⟩:=cm.dQ.tx;have eH:=IV kI (λt a6=>(EO.tx t a6).eA);have r0:v1.tx.n<=1000:=by rw[dp.aF.neq,<-List.length_map (f:=b2.tx),kI];have:=EO.tk;dsimp only at this ⊢;omega
  change Hid _ at eH kI;have ZU:=I cm.box;change Hid _ at dp;go_wp2_with fail;refine Bh 9 (Z w1) (λa7=>?_);refine Pv ?_;refine lQ 4 (·.aB ZU) ?_;refine lQ 5 (·.aB pR) ?_;refine kW 6 λK aL=>?_;go_simp;go_at_call 240;refine(Zg _ _ _ ts i _ (dp.ext X) eH r0).mono ?_;rintro e aN⟨cE,cZ,c2,wa,rfl,oO,pb,cj⟩;have bz:=I cj;refine EN ?_;intro hH a7;refine kW 7 λK aL=>?_;go_simp;refine EN ?_;intro hH a7;refine gO 8 ?_;have B8:=cm.ext (w':=aN) X;have ZS:∀x,M' x->x<(w1:Nat):=cm.cx;have gI:=oO.cx (λx k=>ZS x k);clear oO;obtain⟨-,-,-,-,-,-,-,-,_,_⟩:=uX B8.box;refine kW 9 λK aL=>?_;refine Bj ?_;intro _;obtain⟨Pw,v8⟩:=B8.rP (w':=aN.setCell (p,8) (aq cE cZ c2)) (t:=⟨cE,cZ,c2⟩) (tx:=th (ts.map b2.tx) i) (gI.mono (λw k=>⟨wa,k,pb⟩)) rfl;go_wp2;go_ret;refine⟨_,_,_,rfl,⟨{v1 with tx:=⟨cE,cZ,c2⟩},?_⟩,((vg.ext (show Z w1 aN from X)).trans (ig.kF v8 B8.bI.1)).cC X⟩;rw[show bd.tx=ts.map b2.tx from kI.symm];exact Pw
def EP:Maps.Keyed prog 3:=Maps.int_keyed underlying3
def CU{k:Int}(h:(Lit.int .i64 k).wf=true):keyOf prog 3 k=some (.int .i64 k):=Maps.keyOf_int_mk underlying3 h
def au8:(match prog.underlying 54 with|some (.array _ _)|some (.struct _)=>true|_=>false)=true:=by rw[underlying54]
def aij:(54:TypeId)<prog.types.size:=Nat.le_of_ble_eq_true bV
def au9:prog.keyTypeAt 2 54=true:=bV
def ER:Maps.Keyed prog 54:=Maps.Keyed.of_law (deep_law_laid ahV (m:=2) J aij au9 au8)
def aik:prog.cellsOf 54=3:=bV
def ava:prog.cellsOf 41=1:=bV
def avb:prog.keyType 54=true:=bV
def dx.wf(h:dx i):(Lit.int .i64 i.b).wf=true/\(Lit.int .u64 i.l).wf=true/\(Lit.int .u64 i.s).wf=true:=by
 have bS:IntKind.i64.min=-9223372036854775808:=by rfl
 have bE:IntKind.i64.max=9223372036854775807:=by rfl
 have eV:IntKind.u64.min=0:=by rfl
 have gU:IntKind.u64.max=18446744073709551615:=by rfl
 have ae:=h.b;have ak:=h.l;have aM:=h.s;unfold kP at ak aM;simp only[Lit.wf,bS,bE,eV,gU,ke,jQ];omega
def GG(h:dx i):keyOf prog 54 (.agg #[i.b,ad i.l,ad i.s])=some (j2 i):=by
 obtain⟨w1,aN,aY⟩:=h.wf;have bc:(Value.agg #[i.b,ad i.l,ad i.s]).formed prog 54=true:=by simp[Value.formed,underlying54,aik]
 obtain⟨m,hm⟩:∃m,prog.types.size=m+1:=⟨prog.types.size - 1,(Nat.sub_add_cancel (NI (hX _) aij)).symm⟩;unfold keyOf;simp only[underlying54];rw[bm (by simp[avb,bc]),hm];unfold Program.keyLits;simp only[underlying54,Value.cells];rw[bm ⟨by rw[aik];rfl,by simp⟩];simp[Program.keyLits,underlying3,underlying41,ahY,ava,w1,aN,aY,j2]
def ZV{j:aA}(aO:dx i)(aJ:dx j)(h:j2 i=j2 j):i=j:=by
 have:=ER.inj (GG aO) (by rw[h];exact GG aJ);injection this with this;injection this with this;simp at this;cases i;cases j;simp_all
def Ak.get{tm:Nat}{bl:List aA}(h:Ak w tm bl)(a6:∀j,j∈bl->dx j)(aO:dx i):
  ∃(n s:Nat) (f:Lit->Option Value) (z:Int),fl w prog 54 tm n s f/\(f (j2 i)).getD ar=.int .i64 z/\(f (j2 i)).isSome=ik bl i:=by
 obtain⟨n,s,f,ae,_,_,bn,cb⟩:=h;cases hm:ik bl i with
 |true=>
  have IX:i∈bl:=Ot.1 hm;obtain⟨k,hk,rfl⟩:=List.getElem_of_mem IX;exact⟨n,s,f,k,ae,by rw[bn k hk];rfl,by rw[bn k hk];rfl⟩
 |false=>
  refine⟨n,s,f,0,ae,?_,?_⟩
  all_goals
   cases bc:f (j2 i)with
   |none=>rfl
   |some v=>
    obtain⟨j,aJ,e⟩:=cb _ _ bc
    rw[ZV aO (a6 j aJ) e,Ot.2 aJ]at hm
    cases hm
def LA(w:aC):w4 w none 0 0 []:=⟨[],a1.nil _ bO.bH,(λp aV=>by cases aV),rfl⟩
def avc(w:aC):tu w pf S1:=⟨rfl,rfl,a1.nil _ V.bH,LA w,LA w,LA w,a1.nil _ aA.bH,a1.nil _ aA.bH⟩
def Aj.get{kY:Nat}{e8:Nat->Option dC}(h:Aj w M kY e8)(hk:k<1000000):
  ∃(n s:Nat) (f:Lit->Option Value) (x:ky),fl w prog 3 kY n s f/\(f (.int .i64 k)).getD (.agg #[pf.k,ad pf.h,pf.v,pf.q,pf.e,pf.p,pf.b,pf.d])=.agg #[x.k,ad x.h,x.v,x.q,x.e,x.p,x.b,x.d]/\dq M w (λw=>tu w x ((e8 k).getD S1)):=by
 obtain⟨n,s,f,_,ae,_,_,_,cb⟩:=h;have:=cb k hk;cases ax:e8 k with
 |none=>
  rw[ax]at this;exact⟨n,s,f,pf,ae,by rw[this.2];rfl,λw' _=>avc w'⟩
 |some m=>
  rw[ax]at this;obtain⟨_,x,bY,ew⟩:=this;exact⟨n,s,f,x,ae,by rw[bY];rfl,ew⟩
def avd:(prog.info? 232).map (λi=>(i.zero,i.size,i.bytes))=some (some (.agg #[pf.k,ad pf.h,pf.v,pf.q,pf.e,pf.p,pf.b,pf.d]),8,160):=bV
def ail(w:aC):(zeroValue 232).run prog w=.ok (.agg #[pf.k,ad pf.h,pf.v,pf.q,pf.e,pf.p,pf.b,pf.d]) w:=zeroValue232 w
def Uh(w:aC):(zeroValue 3).run prog w=.ok ar w:=zeroValue3 w
def Ui{b:az}(H:dU w M D O c p q b v)(a6:∀j,j∈b.bl->dx j)(i:aA)(aO:dx i):
  aR 92 #[p,i] w (cM (.bool (b.wU i)) w):=by
 obtain⟨n,s,f,z,ef,eM,av⟩:=H.yf.get a6 aO;obtain⟨_,_,ec⟩:=H.dQ.st;obtain⟨y,hy⟩:∃y,ik b.bl i=y:=⟨_,rfl⟩;have jS:b.wU i=(y||ik b.st.ay i):=by rw[<-hy];rfl
 rw[jS];rw[hy]at av;replace ef:=I ef;replace eM:=I eM;replace av:=I av;have b8:=I (GG aO);have bB:=I ec.b;replace H:=I H;go_enter func92,ntmps92;go_wp2_with fail;have gp:=I (H.ext (w':=w.alloc i) X).box;have pR:=I (show(w.alloc i).heap[(w:Nat)]?=some (i:Obj)from hT);have yi:=I (ef.ext (show Z w (w.alloc i)from X));refine sI (λw'=>Z (w.alloc i) w') (λa7=>?_);refine Ag ?_;refine lA 3 (·.aB gp) ?_;refine lA 4 (·.aB pR) ?_;refine cX 5 ?_ (hy:=λw iA=>by(try dsimp only at iA);(have dV:=(yi.ext iA).ZD ER underlying158 (Uh _) (y:=_) rfl b8;rw[eM.out,av.out]at dV);exact IG);refine Pu ?_;refine cX 9 ?_;refine cX 10 ?_;refine wpAnyH_done bV ?_ _;cases y with
 |true=>
  go_wp2_with fail;refine Y4 ?_;refine Is ?_;intro cY gH;go_wp2;go_ret;exact⟨rfl,X⟩
 |false=>
  go_wp2_with fail;refine sI (λw'=>Z (w.alloc i) w') (λa7=>?_);refine Ag ?_;refine cX 3 ?_;refine cX 4 ?_;refine lA 5 (·.aB gp) ?_;refine lA 6 (·.aB pR) ?_;refine hE 7 λK aL=>?_;(go_simp;(go_at_call 137;refine(yI v.s b.st.ay i _ (bB.ext X)).mono ?_;rintro e _⟨rfl,gj⟩;replace gj:=I gj);refine vf ?_;intro a7);refine cX 8 ?_;refine cX 9 ?_;refine wpAnyH_done bV ?_ _;go_wp2;go_ret;exact⟨rfl,X⟩
def aim{W:aC}{b:az}(H:dU W M D O c p q b v)(ain:Z W w)(dp:jn c.ps=true)(hm:b.b6<c.ps.length):
  aR 150 #[p] w λe w'=>∃a n cap ms,e=.returned (aq a n cap)/\a1 w' 8 o1.cs a n cap ms/\(∀p,p∈ms->tu W p.x p.m)/\(∀ai,a=some ai->(w:Nat)<=ai.block/\ai.block<(w':Nat))/\ms.map (·.m)=b.mz c/\Z w w':=by
 have h:=H.ext ain;have Ac:=id ain;have gp:=I h.box;have ny:c.ps.length<=16:=by
  unfold jn at dp;simp only[ke,jQ]at dp;exact dp.1.2
 have yN:∀k,k∈b.cc c->k<16:=λk hk=>by
  unfold az.cc kE at hk;have:=qI.1 (mI.1 hk).1;omega
 have qa:(b.cc c).length<=16:=by
  have:(b.cc c).length<=(List.range c.ps.length).length:=xq _ _;rw[IY]at this;omega
 obtain⟨oG,k6⟩:∃oG,b.cc c=oG:=⟨_,rfl⟩;have vh:b.mz c=oG.map b.je:=by unfold az.mz;rw[k6]
 rw[vh];rw[k6]at yN qa;have ave:Hid (∀w',Z w w'->aR 152 #[p] w' (p3 3 1 dD (oG.map Int.ofNat) w')):=λw' U=>k6▸ZO (h.ext U) dp hm;replace yN:=I yN;replace H:=I H;replace dp:=I dp;go_enter func150,ntmps150;go_wp2_with fail;refine(ave _ X).mono ?_;rintro e w1⟨_,dj,_,rfl,sQ,cm⟩;have jK:=sQ.aF;have kC:dj=oG.length:=by rw[jK.neq,cr]
 subst kC;replace jK:=I jK;replace cm:=I cm;obtain⟨dc,eo,dB,ej,fe⟩:=info_parts avd;replace eo:=I eo;replace dB:=I dB;replace ej:=I ej;replace fe:=I fe;go_wp2_with fail;go_loopg [3,9] (oG.length) (λg e1 dN wr=>∃(k:Nat) (ab:bk) (m aQ:Nat) (ms:List o1),g+k=oG.length/\dN=.int .i64 (k:Int)/\e1=.slice ab m aQ/\m=k/\Hid (Own wr w1 232 8 o1.cs ab m aQ ms)/\Hid (∀p,p∈ms->tu W p.x p.m)/\Hid (ms.map (·.m)=(oG.take k).map b.je)/\Hid (Z w1 wr));case atStart=>exact⟨0,none,0,0,[],J,rfl,rfl,rfl,Own.nil _ _ _ o1.bH,(λp aV=>by cases aV),rfl,Z.refl _⟩
 case round=>
  obtain⟨k,ab,m,aQ,ms,_,rfl,rfl,hi,aE,ES,ku,U⟩:=hrel;subst hi;by_cases hk:m<oG.length
  ·obtain⟨fC,o,rfl,ao⟩:=jK.get m (by rw[cr];exact hk);have d0:wr.cell? (fC,o+m)=some ↑(oG[m]:Int):=by
    have:=AI ao;rw[jT,Et]at this;exact U.ah this
   have va:Z w wr:=X;obtain⟨_,_,_,iF,Uj,cv,bb⟩:=H.gx.get (k:=oG[m]) (by have:=yN.out _ (c7 hk);omega);have wQ:=aI (o:=10) (va.aB gp) rfl;have ef:=I (Uj.ext (Ac.trans va));replace cv:=I cv;replace bb:=I bb;have b8:=I (CU (k:=(oG[m]:Int)) (uk J (by have:=yN.out _ (c7 hk);omega)));have b0:(0:Int)<=(m:Int):=J;have bd:(m:Int)<(oG.length:Int):=J;go_wp2_with (first|(at_lookup;(refine Gw rfl (λK aL=>ahU _ _ rfl EP underlying157 _ (ail _) rfl rfl ef rfl b8 ?_);rw[cv.out];refine aL _ _ ?_;clear aL K))|(at_builtin;refine hf (ys:=ms) rfl (.tmp 13) (.tmp 20) 236 rfl dc _ 160 underlying236 eo dB ej fe rfl af rfl (aE.ext ((Z.refl _).alloc _)) ⟨iF,b.je oG[m]⟩ _ rfl (fc (cs:=o1.cs ⟨iF,b.je oG[m]⟩) rfl) (ky.cN _) J af (Z.size (U.trans ((Z.refl _).alloc _))) ?_;intro _ _ _ hb fq));change Hid _ at fq hb;go_wp2_with fail;go_roundg (gk - 1);case measure=>omega
   case rel=>
    have q4:=aE.ext ((Z.refl wr).alloc iF);refine⟨m+1,_,_,_,ms++[(⟨iF,b.je oG[m]⟩:o1)],J,by go_num,rfl,rfl,hb,λy hy=>?_,?_,fq.ext q4 (bA _) (U.trans ((Z.refl _).alloc _))⟩
    ·rcases iR.1 hy with hy|hy
     ·exact ES y hy
     ·obtain rfl:=iH.1 hy;exact bb.dQ
    ·rw[gS,ku.out,iX hk,gS];rfl
  ·have b9:oG.take m=oG:=ir J;rw[b9]at ku;have tA:Hid (Z w wr):=X;go_wp2;go_ret;exact⟨ab,m,aQ,ms,rfl,aE.aF,ES,λai aj=>⟨eh cm.size (aE.lt ai aj).1,(aE.lt ai aj).2⟩,ku,tA⟩
def aio{b:az}(h:dU w M D O c p q b v)(a6:jn c.ps=true)(hm:b.b6<c.ps.length):
  aR 150 #[p] w λe w'=>∃a n cap ms,e=.returned (aq a n cap)/\Lx w' a n cap ms/\ms.map (·.m)=b.mz c/\Z w w':=
 (aim h (Z.refl _) a6 hm).mono λ_ _ ⟨a,n,cap,ms,ae,ak,aM,_,cb,ey⟩=>⟨a,n,cap,ms,ae,⟨ak,λp aV=>(aM p aV).ext ey⟩,cb,ey⟩
def aip{b o:Nat}{x:b1}(h:r9 w b o x.cs):
  w.cell? (b,o)=some ↑x.k/\w.cell? (b,o+1)=some ↑x.id.b/\w.cell? (b,o+2)=some ↑(ad x.id.l)/\w.cell? (b,o+3)=some ↑(ad x.id.s)/\w.cell? (b,o+4)=some ↑x.c/\w.cell? (b,o+5)=some ↑(ad x.u)/\w.cell? (b,o+6)=some ↑x.f/\w.cell? (b,o+7)=some ↑x.e:=
 ⟨h 0 _ rfl,h 1 _ rfl,h 2 _ rfl,h 3 _ rfl,h 4 _ rfl,h 5 _ rfl,h 6 _ rfl,h 7 _ rfl⟩
def aiq{α:Type}{p q:α->Bool}:∀(l:List α),(∀x,x∈l->p x=true->q x=false)->(l.filter p).length+(l.filter q).length<=l.length
 | [],_=>by simp
 |x::l,h=>by
  have cI:=aiq l (λy hy=>h y (kA _ hy))
  have U:=h x kh
  rw[HL,HL,mv]
  cases aV:p x<;>cases bq:q x
  ·simp;omega
  ·simp;omega
  ·simp;omega
  ·rw[U aV]at bq;cases bq
def avf(l:List lX)(d:bg):(yF l d).length<=l.length+1:=by
 unfold yF;split
 ·have h:=aiq (p:=λs=>decide (qF s d.c d.u<0)) (q:=λs=>decide (0<qF s d.c d.u)) l (λx _ h=>avg);rw[cH,cH];split<;>simp only[KS,nW]<;>omega
 ·omega
def avh{l:List lX}{s:lX}(h:s∈yF l d):s∈l\/s.ts=d.ts:=by
 unfold yF at h;split at h
 ·rcases iR.1 h with h|h
  ·exact .inl (mI.1 h).1
  ·rcases iR.1 h with h|h
   ·split at h
    ·rw[iH.1 h];exact .inr rfl
    ·cases h
   ·exact .inl (mI.1 h).1
 ·exact .inl h
def dD.nt(i:Int):∀u∈dD i,u.oneCell'=true:=by intro u al;simp only[dD,iH]at al;subst al;rfl
def Uk(l:List bg):∀o:List lX,(l.foldl tZ o).length<=o.length+l.length:=by
 induction l with
 |nil=>exact λo=>bA _
 |cons d l cI=>
  intro o;rw[mM,mv];refine eh (cI _) ?_;have:=avf o d;unfold tZ;split<;>omega
def avi(l:List bg):∀(o:List lX) (s:lX),s∈l.foldl tZ o->s∈o\/∃d,d∈l/\s.ts=d.ts:=by
 induction l with
 |nil=>exact λo s h=>.inl h
 |cons d l cI=>
  intro o s h;rw[mM]at h;rcases cI _ s h with k|⟨y6,ae,ak⟩
  ·unfold tZ at k;split at k
   ·exact .inl k
   ·exact(avh k).imp id (λe=>⟨d,kh,e⟩)
  ·exact .inr ⟨y6,kA _ ae,ak⟩
def air{l:List bg}(hk:k<l.length):j1 (l.take (k+1))=tZ (j1 (l.take k)) l[k]:=by
 unfold j1;exact Ca
def ZW{l:List bg}(h:∀d,d∈l->hP d)(k:Nat):∀s,s∈j1 (l.take k)->s.ts.length<=100:=λs hs=>by
 rcases avi _ _ s hs with ae|⟨d,ae,ak⟩
 ·cases ae
 ·rw[ak];exact(h d (AO ae)).rH.ts
def ZX{b:az}(h:dU w M D O c p q b v)(fP:∀d,d∈b.st.ag->hP d)(an:b.st.ag.length<=10000)(pl:Nat)(tq:pl<=b.st.ag.length):
  Calls prog 99 #[.pointer (some ⟨p,0,none⟩),.int .i64 pl] w (M3 (j1 (b.st.ag.take pl)) w):=by
 have dw:=aI (o:=5) h.box rfl;obtain⟨ag,_,ec⟩:=h.dQ.st;have Ab:ag.length=b.st.ag.length:=by rw[<-ec.j9,cr]
 have eu:=ec.l.aF.neq;have hm:=ec.l.aF.max;have gV:=ec.l.aF.len;unfold maxLen at hm;obtain⟨fG,vh⟩:∃fG,v.s.l.a=fG:=⟨_,rfl⟩;have bL:=ec.l;rw[vh]at bL;have WV:w.cell? ⟨p,5,none⟩=some (.slice fG v.s.l.n v.s.l.c):=vh▸dw;have bM:=I ec.j9;have d0:(pl:Int)<=(v.s.l.c:Int):=J;have jX:(0:Int)<=(pl:Int):=J;change Hid _ at bL fP eu;clear h ec vh dw;go_enter func99,ntmps99;go_wp2_with fail;go_loopg [5,16] pl (λg e1 dN wr=>∃(k:Nat) (aw:bk) (m aQ:Nat) (ys:List ck),g+k=pl/\dN=.int .i64 (k:Int)/\e1=.slice aw m aQ/\Hid (sY wr aw m aQ ys)/\Hid (ys.map ck.d=j1 (b.st.ag.take k))/\Hid (Z w wr));case atStart=>exact⟨0,none,0,0,[],J,rfl,rfl,sY.nil _,rfl,X⟩
 case round=>
  obtain⟨k,aw,m,aQ,ys,_,rfl,rfl,nN,ku,U⟩:=hrel;by_cases hk:k<pl
  ·have qa:k<ag.length:=J;obtain⟨fC,o,rfl,ao⟩:=bL.aF.get k qa;obtain⟨_,_,c2,_,_,_,_,_⟩:=pd (w:=wr) (b:=fC) (o:=o+k*8) (x:=ag[k].x) (λj v aJ=>U.ah (ao j v aJ));have c5:ag[k].d=b.st.ag[k]'J:=by
    have ae:(ag.map (·.d))[k]? =b.st.ag[k]? :=by rw[bM.out]
    rw[nu,fz qa,fz J]at ae;exact wL ae
   have bb:=I (bL.ct ag[k] (c7 qa));have ET:=fP.out (b.st.ag[k]'J) (c7 _);rw[<-c5]at ET;have hlen:m<=10000:=by
    rw[nN.aF.neq,<-cr (f:=ck.d),ku.out];have:=Uk (b.st.ag.take k) [];rw[nW,o9]at this;unfold j1;omega
   have eH:∀s,s∈ys->s.ts.length<=10000:=λs hs=>ais;have wG:ag[k].d.ts.length<=10000:=eh ET.rH.ts J;have oK:Hid (ag[k].x.k=ag[k].d.k):=bb.k;have hS:=air (l:=b.st.ag) (k:=k) J;rw[<-c5]at hS;have b0:(0:Int)<=(k:Int):=J;have bd:(k:Int)<(pl:Int):=J;change Hid _ at eH c5 hS;clear ET ao;by_cases nR:ag[k].x.k=1
   ·go_wp2_with fail;go_roundg (gk - 1);case measure=>omega
    case rel=>exact⟨k+1,aw,m,aQ,ys,J,by go_num,rfl,nN.ext X,ait,X⟩
   ·go_wp2_with fail;refine(acT aw m aQ ys ag[k].x ag[k].d _ (nN.ext X) (bb.ext X) eH hlen wG).mono ?_;rintro e _⟨cE,cZ,c2,LB,rfl,lD,kc,bz⟩;change Hid _ at lD kc bz;go_wp2_with fail;go_roundg (gk - 1);case measure=>omega
    case rel=>exact⟨k+1,cE,cZ,c2,LB,J,by go_num,rfl,lD,by rw[hS.out,kc.out,ku.out];unfold tZ;rw[if_neg (by rw[<-oK.out];exact nR)];exact rfl,X⟩
  ·have b9:k=pl:=J;subst b9;go_wp2;go_ret;exact⟨aw,m,aQ,ys,rfl,nN,ku,U⟩
def avj{b:az}(h:dU w M D O c p q b v)(ao:jL c)(dX:Nat)(hk:dX<c.ps.length):
  Calls prog 224 #[.pointer (some ⟨p,0,none⟩),.int .i64 dX] w (p3 3 1 dD (lP c dX) w):=by
 have H:=I h;have gp:=I h.box;have c2:=aI (o:=2) h.box rfl;have dp:=I ao.rQ;have cy:=I h.dQ.cD;have LC:=h.dQ.aj;have z8:=h.dQ.cD.neq;have aiu:=LC.neq;have hm:=LC.max;have aT:=LC.len;unfold maxLen at hm;obtain⟨fG,vh⟩:∃fG,v.aj.a=fG:=⟨_,rfl⟩;rw[vh]at LC;have avk:w.cell? ⟨p,2,none⟩=some (.slice fG v.aj.n v.aj.c):=vh▸c2;have qD:=I LC;have LD:=ao.an.2;have ba:=I ao.xU;have gV:∀k,k<=c.hs.length->lP c dX=((List.range c.hs.length).filter (λj=>qO c.ps dX (c.hs.getD j 0).toNat)).map Int.ofNat:=λ_ _=>rfl;rw[gV 0 (hX _)];have CG:=I z8;have Ln:=I aiu;clear h ao LC gV z8 aiu vh c2;obtain⟨dc,aJ,tL,oM,lK⟩:=info_parts S0;have eo:=I aJ;have dB:=I tL;have ej:=I oM;have fe:=I lK;clear aJ tL oM lK;go_enter func224,ntmps224;go_wp2_with fail;go_loopg [5,13] (c.hs.length) (λg e1 dN wr=>∃(k:Nat) (ab:bk) (m aQ:Nat) (ys:List Int),g+k=c.hs.length/\dN=.int .i64 (k:Int)/\e1=.slice ab m aQ/\Hid (Own wr w.heap.size 3 1 dD ab m aQ ys)/\Hid (ys=((List.range k).filter (λj=>qO c.ps dX (c.hs.getD j 0).toNat)).map Int.ofNat)/\Hid (Z w wr));case atStart=>exact⟨0,none,0,0,[],J,rfl,rfl,Own.nil _ _ _ (λ_=>rfl),rfl,X⟩
 case round=>
  obtain⟨k,ab,m,aQ,ys,_,rfl,rfl,aE,ku,U⟩:=hrel;by_cases qa:k<c.hs.length
  ·obtain⟨fC,o,rfl,fW⟩:=qD.out.get k qa;obtain⟨g1,p4⟩:∃g1:Nat,c.hs[k]=(g1:Int):=⟨c.hs[k].toNat,by have:=ba.out c.hs[k] (c7 qa);omega⟩;have GH:g1<c.ps.length:=by have:=ba.out c.hs[k] (c7 qa);omega
   have d0:wr.cell? ⟨fC,o+k,none⟩=some (.int .i64 (g1:Int)):=by
    have:=AI fW;rw[jT,p4]at this;exact U.out.ah this
   have jX:=aI (o:=1) (U.out.aB gp.out) rfl;have ij:=U.out.ah avk;have qg:qO c.ps dX (c.hs.getD k 0).toNat=qO c.ps dX g1:=by
    rw[xO,fz qa,K8,p4,nQ]
   have W3:m<=32:=by
    rw[aE.out.neq,ku.out,cr];have:((List.range k).filter (λj=>qO c.ps dX (c.hs.getD j 0).toNat)).length<=(List.range k).length:=xq _ _;rw[IY]at this;omega
   have H8:=I qg;have b0:(0:Int)<=(k:Int):=J;have bd:(k:Int)<(c.hs.length:Int):=J;have hv:(k:Int)<(v.aj.n:Int):=by have:=Ln.out;omega
   clear fW qg;go_wp2_with fail;refine(arM v.cD.a v.cD.n v.cD.c dX g1 c.ps _ (cy.out.ext X) dp.out (by have:=CG.out;omega) (by have:=CG.out;omega)).mono ?_;rintro e aN⟨rfl,cj⟩;have bz:=I cj;clear cj;obtain⟨z,bf⟩:∃z,qO c.ps dX g1=z:=⟨_,rfl⟩;have eM:=I (H8.out.trans bf);rw[bf];clear bf H8;cases z with
   |true=>
    go_wp2_with (at_builtin;refine hf (ys:=ys) rfl (.tmp 25) (.tmp 27) 22 rfl dc _ 8 underlying22 eo.out dB.out ej.out fe.out rfl af rfl (aE.out.ext (bz.out.trans ((Z.refl _).alloc _))) (k:Int) _ rfl (fc (cs:=dD (k:Int)) rfl) (dD.nt _) J af (Z.size (U.out.trans (bz.out.trans ((Z.refl _).alloc _)))) ?_;intro _ _ _ hb fq);have LF:=I fq;have jo:=I hb;clear hb fq;go_wp2_with fail;go_roundg (gk - 1);case measure=>omega
    case rel=>
     have q4:=aE.out.ext (bz.out.trans ((Z.refl aN).alloc (.cells #[.int .i64 (k:Int)] 3)));refine⟨k+1,_,_,_,ys++[(k:Int)],J,by go_num,rfl,jo,?_,LF.out.ext q4 (bA _) (U.out.trans (bz.out.trans ((Z.refl _).alloc _)))⟩;rw[ku.out,Kq,zC,HL,eM.out,gS];rfl
   |false=>
    go_wp2_with fail;go_roundg (gk - 1);case measure=>omega
    case rel=>
     refine⟨k+1,_,_,_,ys,J,by go_num,rfl,aE.out.ext bz.out,?_,X⟩;show ys=_;rw[ku.out,Kq,zC,HL,eM.out,gS];simp
  ·have b9:k=c.hs.length:=J;subst b9;have hv:¬((c.hs.length:Int)<(v.aj.n:Int)):=by have:=Ln.out;omega
   go_wp2;go_ret;exact⟨ab,m,aQ,rfl,ku.out▸aE.out,U.out⟩
def xa(ob pV:Nat)(K:Nat->Prop):Nat->Prop:=λx=>x=ob\/(pV<=x/\¬K x)
def fO.avl{ob pV:Nat}{K:ff}{x:b1}{cs:Array Value}{fr:Nat×Nat}(h:fO w base x d)(aa:w.heap[ob]?=some (.cells cs 42 fr))(aT:(w:Nat)<=pV):dq (xa ob pV K) w (λw=>h0 w x d):=λw' al=>by
 have hk:∀{α:Type}{base:Nat}{e:TypeId}{sz:Nat}{c:α->List Value}{aw:bk}{n cap:Nat}{ys:List α},Own w base e sz c aw n cap ys->e≠42->Own w' base e sz c aw n cap ys:=λo he=>
  al.bI o (λai aj k=>k.elim (o.eQ aa he ai aj) (λz=>by have:=(o.lt ai aj).2;have:=z.1;omega))
 obtain⟨ys,bS,bE,eV⟩:=h.e;exact(fO.ct (⟨h.k,h.id,h.c,h.u,hk h.f af,ys,bS,hk bE af,λy hy=>hk (eV y hy) af⟩:fO w' base x d))
def avm(y:b1)(i:aA)(ot:Nat)(w:aC)(ae:w.cell? (ot,1)=some ↑i.b)(ak:w.cell? (ot,2)=some ↑(ad i.l))(aM:w.cell? (ot,3)=some ↑(ad i.s)):
  aR 221 #[y,ot] w (cM (.bool (cf y.id i)) w):=by
 refine aiv ?_;intro ax bQ bY ew;go_enter func221,ntmps221;go_wp2_with fail;go_ret;exact⟨rfl,X⟩
def aiw{bs:aC}{b:az}(H:dU bs M D O c p q b v)(j3:∀j,j∈b.bl->dx j)(bU:Z bs w)(ob gr pV:Nat)(K:ff)(ae:(bs:Nat)<=ob)(ak:(bs:Nat)<=gr)(di:gr≠ob)(aM:ob<pV)(bn:gr<pV)(cb:pV<=(w:Nat))(IZ:w.heap[gr]?=some (.cells #[p] 103))(fF:bk)(on fZ:Nat)(os:List bO)(im:w.heap[ob]?=some (.cells #[aq fF on fZ] 42))(ba:Own w pV 66 8 bO.cs fF on fZ os)(GI:∀p,p∈os->dq (xa ob pV K) w (λw=>h0 w p.x p.d))(hs:os.length<=16)(aL:∀x,K x->x<(w:Nat))(avn:∀ai,fF=some ai->¬K ai.block)(fG:bk)(ei lc:Nat)(xs:List bO)(EU:dq (xa ob pV K) w (λw=>ja w fG ei lc xs))(n3:∀p,p∈xs->dx p.d.id):
  Calls prog 220 #[aq fG ei lc,ob,gr] w λe w'=>e=.returned (.tuple #[])/\aG (xa ob pV K) w w'/\∃px o3 rq lE,w'.heap[ob]?=some (.cells #[aq px o3 rq] 42)/\Own w' pV 66 8 bO.cs px o3 rq lE/\(∀p,p∈lE->dq (xa ob pV K) w' (λw=>h0 w p.x p.d))/\lE.length<=16/\(∀ai,px=some ai->¬K ai.block)/\lE.map (·.d)=(xs.map (·.d)).foldl (nC b) (os.map (·.d)):=by
 obtain⟨ca,bJ,bF,bG,bK⟩:=info_parts AM;obtain rfl:=EU.dQ.aF.neq;have hm:=EU.dQ.aF.max;have aT:=EU.dQ.aF.len;unfold maxLen at hm;replace im:=I im;replace ba:=I ba;replace GI:=I GI;replace bJ:=I bJ;replace bF:=I bF;replace bG:=I bG;replace bK:=I bK;replace H:=I H;replace bU:=I bU;replace j3:=I j3;replace IZ:=I IZ;replace EU:=I EU;replace n3:=I n3;go_enter func220,ntmps220;go_wp2_with fail;go_loopg [9] (xs.length) (λg dN wr=>∃(k:Nat) (px:bk) (o3 rq:Nat) (lE:List bO),g+k=xs.length/\dN=.int .i64 (k:Int)/\Hid (aG (xa ob pV K) w wr)/\Hid (wr.heap[ob]?=some (.cells #[aq px o3 rq] 42))/\Hid (Own wr pV 66 8 bO.cs px o3 rq lE)/\Hid (∀p,p∈lE->dq (xa ob pV K) wr (λw=>h0 w p.x p.d))/\lE.length<=16/\Hid (∀ai,px=some ai->¬K ai.block)/\Hid (lE.map (·.d)=((xs.take k).map (·.d)).foldl (nC b) (os.map (·.d))));case atStart=>exact⟨0,fF,on,fZ,os,J,rfl,aG.refl _ _,im,ba,GI,hs,avn,rfl⟩
 case round=>
  obtain⟨k,px,o3,rq,lE,_,rfl,gI,rr,dO,I0,GJ,LG,ku⟩:=hrel;by_cases hk:k<xs.length
  ·have ZY:=EU.out _ gI.out;obtain⟨fC,o,rfl,ao⟩:=ZY.aF.get k hk;obtain⟨_,_,_,_,_,_,_,_⟩:=pd (w:=wr) (b:=fC) (o:=o+k*8) (x:=xs[k].x) (λj v aJ=>ao j v aJ);have bb:Hid (dq (xa ob pV K) wr (λw=>h0 w xs[k].x xs[k].d)):=λw' al=>(EU.out _ (gI.out.trans al)).ct _ (c7 hk);have yj:Z bs wr:=gI.out.ext (λb aa=>aa.elim (λe=>by rw[e];exact ae) (λz=>by have:=bU.out.size;have:=z.1;omega)) bU.out;have ZZ:=(gI.out.block gr (bT IZ.out) (λz=>z.elim di (λy=>by have:=y.1;omega))).trans IZ.out;have uU:=ZY.ct _ (c7 hk)|>.id;refine kt ?_;intro b0 bd;have ap2:=aI (o:=0) (((Z.refl wr).alloc xs[k].x).aB rr.out) rfl;replace ZZ:=I ZZ;replace yj:=I yj;replace uU:=I uU;clear ZY ao;have aix:dx xs[k].x.id:=by rw[uU.out];exact n3.out _ (c7 hk)
   have LH:=I dO.out;go_wp2_with fail;have fQ:Hid ((wr.alloc xs[k].x).heap[(wr:Nat)]?=some (xs[k].x:Obj)):=fi rfl;obtain⟨LI,Ul⟩:∃z,(lE.map (·.x)).any (λy:b1=>cf y.id xs[k].x.id)=z:=⟨_,rfl⟩;refine(RV px o3 rq (lE.map (·.x)) (λy=>cf y.id xs[k].x.id) 221 ⟨wr.heap.size,0,none⟩ _ ((a1.map (c:=b1.cs) (λp:bO=>p.x) LH.out.aF (λ_=>rfl)).ext X) (λ_ _=>by kernel_rfl) (λy _ w' sK=>avm y xs[k].x.id wr.heap.size w' (aI (sK.aB fQ.out) rfl) (aI (sK.aB fQ.out) rfl) (aI (sK.aB fQ.out) rfl))).mono ?_;rintro e aN⟨rfl,cj⟩;rw[Ul];have iV:=I (cj.aB fQ.out);have bz:=I (Z.trans (show Z wr (wr.alloc xs[k].x)from X) cj);have GK:Hid (Z bs aN):=yj.out.trans bz.out;have Z0:=I (bz.out.aB rr.out);have avo:=I (bz.out.aB ZZ.out);obtain⟨ag,_,ec⟩:=H.out.dQ.st;obtain⟨bf,I1⟩:∃z,(ag.map (·.x)).any (λx:b1=>cf x.id xs[k].x.id)=z:=⟨_,rfl⟩;obtain⟨Px,Py⟩:∃z,b.wU xs[k].x.id=z:=⟨_,rfl⟩;have bL:=I ec.l.dz;replace I1:=I I1;replace Py:=I Py;replace Ul:=I Ul;have IA:=I (y5 ec.l ec.j9 xs[k].x.id);clear cj ec;go_upto_region 4 with (fail);go_cut [36] (λu fD=>u=.bool (LI||bf||Px||decide (16<=o3))/\Hid (Z aN fD));case first=>
    have q1:=fo.cell (w:=aN) (a:=⟨gr,0,none⟩) (v:=.pointer (some ⟨p,0,none⟩)) (aI avo.out rfl);have dP:=fo.cell (w:=aN) (a:=(p,4)) (v:=.int .u64 v.s.cO) (aI ((H.out.ext GK.out).box) rfl);have fp:=fo.cell (w:=aN) (a:=(p,5)) (v:=.slice v.s.l.a v.s.l.n v.s.l.c) (aI ((H.out.ext GK.out).box) rfl);have iw:=fo.cell (w:=aN) (a:=(p,6)) (v:=.slice v.s.p.a v.s.p.n v.s.p.c) (aI ((H.out.ext GK.out).box) rfl);have ov:=fo.cell (w:=aN) (a:=(p,7)) (v:=.slice v.s.b.a v.s.b.n v.s.b.c) (aI ((H.out.ext GK.out).box) rfl);have xu:=fo.cell (w:=aN) (a:=(wr,1)) (v:=.int .i64 xs[k].x.id.b) (aI iV.out rfl);have DJ:=fo.cell (w:=aN) (a:=(wr,2)) (v:=.int .u64 xs[k].x.id.l) (aI iV.out rfl);have aiy:=fo.cell (w:=aN) (a:=(wr,3)) (v:=.int .u64 xs[k].x.id.s) (aI iV.out rfl);have Z1:=fo.cell (w:=aN) (a:=(ob,0)) (v:=.slice px o3 rq) (aI Z0.out rfl);cases LI with
    |true=>
     go_wp2_with fail;refine Y4 ?_;refine Is ?_;intro cY gH;go_wp2_with fail;go_meet;exact⟨rfl,gH⟩
    |false=>
     cases bf with
     |true=>
      refine Z2 ?_;intro cY gH;go_wp2_with fail;go_meet;exact⟨rfl,gH⟩
     |false=>
      cases Px with
      |true=>
       refine Z2 ?_;intro cY gH;go_wp2_with fail;go_meet;exact⟨rfl,gH⟩
      |false=>
       refine Z2 ?_;intro cY gH;go_wp2_with fail;go_meet;refine⟨eP Value.bool ?_,gH⟩;simp only[Bool.or_self,K7];exact FI.2 J
   case rest=>
    obtain⟨rfl,Um⟩:=hcut;have bS:eD (lE.map (·.d)) xs[k].x.id=LI:=(R1 rfl (λp aV=>(I0.out p aV).dQ.id)).symm.trans Ul.out;have bE:eD b.st.ag xs[k].x.id=bf:=IA.out.symm.trans I1.out;have eV:=Py.out;have sr:o3=lE.length:=LH.out.neq;have ec:nC b (lE.map (·.d)) xs[k].d=if (LI||bf||Px||decide (16<=o3))=true then lE.map (·.d) else lE.map (·.d)++[xs[k].d]:=by
     unfold nC;rw[<-uU.out,bS,bE,eV,cr,<-sr];cases LI<;>cases bf<;>cases Px<;>simp
    have hS:((xs.take (k+1)).map (·.d)).foldl (nC b) (os.map (·.d))=nC b (lE.map (·.d)) xs[k].d:=by
     rw[iX hk,gS,CV,<-ku.out];rfl
    rw[ec]at hS;obtain⟨z,Z3⟩:∃z,(LI||bf||Px||decide (16<=o3))=z:=⟨_,rfl⟩;rw[Z3]at hS ⊢;have EV:Hid (Z wr wc):=bz.out.trans Um.out;have avp:z=false->o3<16:=λe=>by
     subst e;simp only[JP,zy]at Z3;omega
    replace hS:=I hS;have Z4:Hid (∀ai,px=some ai->ai.block≠ob):=LH.out.eQ rr.out af;replace sr:=I sr;clear bS bE eV ec Z3;cases z with
    |true=>
     go_wp2_with fail;go_roundg (gk - 1);case measure=>omega
     case rel=>
      have al:aG (xa ob pV K) wr wc:=.of EV.out;exact⟨k+1,px,o3,rq,lE,J,by go_num,gI.out.trans al,EV.out.aB rr.out,LH.out.ext EV.out,λy hy=>(I0.out y hy).step al (b4.eG _ _),GJ,LG,by rw[hS.out];exact rfl⟩
    |false=>
     have ny:=avp rfl;have avq:=I (((Z.refl wc).alloc xs[k].x).aB (EV.out.aB rr.out));have Am:=Um.out.aB iV.out;obtain⟨_,_,_,_,_,_,_,_⟩:=lI Am;have g0:=aI (o:=0) (EV.out.aB rr.out) rfl;have fX:Hid (pV<=(wc:Nat)):=eh cb (eh gI.out.size EV.out.size);go_wp2_with (at_builtin;refine hf (ys:=lE) rfl (.tmp 37) (.tmp 39) 42 rfl ca _ 96 underlying42 bJ.out bF.out bG.out bK.out rfl af rfl (LH.out.ext (EV.out.trans ((Z.refl _).alloc _))) ⟨xs[k].x,xs[k].d⟩ _ rfl (fc (cs:=bO.cs ⟨xs[k].x,xs[k].d⟩) rfl) (bO.cN _) J af (eh fX.out ((Z.refl _).alloc _).size) ?_;intro g9 ie cG hb fq;have pT:=fq.aB avq.out Z4.out;have z0:=aI (o:=0) pT rfl;have mx:∀j,cG.frozen? ⟨ob,j,none⟩=false:=(λj=>nS pT));change Hid _ at fq hb pT;go_wp2_with fail;go_roundg (gk - 1);case measure=>omega
     case rel=>
      have al:aG (xa ob pV K) wr (cG.setCell (ob,0) (.slice (some (g9,0)) (o3+1) ie)):=
       ((aG.of (EV.out.trans ((Z.refl _).alloc xs[k].x))).trans ⟨fq.out.os,fq.out.tape,fq.out.output,fq.out.size,λy hy an=>fq.out.block y hy (λai aj e=>an (.inr (e▸⟨(LH.out.lt ai aj).1,LG.out ai aj⟩)))⟩).setCell (ob,0) (.inl (.inl rfl)) _
      refine⟨k+1,some ⟨g9,0,none⟩,o3+1,ie,lE++[(⟨xs[k].x,xs[k].d⟩:bO)],J,by go_num,gI.out.trans al,er pT.out 0 _,hb.out.nh pT.out af _,λy hy=>?_,by rw[cH,<-sr.out];exact ny,λai aj k3=>?_,by rw[hS.out,gS];exact rfl⟩
      ·rcases iR.1 hy with hy|hy
       ·exact(I0.out y hy).step al (b4.eG _ _)
       ·obtain rfl:=iH.1 hy;exact bb.out.step al (b4.eG _ _)
      ·cases aj;rcases fq.out.at_ with ⟨ai,bQ,bY⟩|bQ
       ·exact LG.out ai bQ (bY▸k3)
       ·have bS:=aL _ k3;have bE:=gI.out.size;have eV:=EV.out.size;rw[show g9=_ from bQ]at bS;simp at bS;omega
  ·refine se ?_;intro b9;rw[b9]at ku;clear b9;go_wp2;go_end0;exact⟨rfl,gI.out,px,o3,rq,rr.out,lE,dO.out,I0.out,GJ,LG.out,ku⟩
def avr{tx:List gN}(h:d∈rj tx):∃t,t∈tx/\t.e=d:=by
 unfold rj at h;obtain⟨t,ae,ak⟩:=kN.1 h;exact⟨t,(mI.1 (AO ae)).1,ak⟩
def avs{b:az}(h:gz c l R n b):∀m,m∈b.mz c->∀d,d∈m.c3->gY d:=λm hm d aD=>by
 unfold az.mz az.je at hm;obtain⟨k,_,rfl⟩:=kN.1 hm;cases ax:b.e8 k with
 |none=>rw[ax]at aD;cases aD
 |some m=>rw[ax]at aD;exact((h.e8 k m ax).c3.2 d aD).1
def aiz{b:az}(h:dU w M D O c p q b v)(hk:gz c l R n b)(avt:∀j,j∈b.bl->dx j)(a6:jn c.ps=true)(hm:b.b6<c.ps.length):
  aR 151 #[p] w λe w'=>∃a n cap ps,e=.returned (aq a n cap)/\ja w' a n cap ps/\ps.map (·.d)=b.nH c/\Z w w':=by
 have H:=I h;have b8:=I hk;have dp:=I a6;have j3:=I avt;obtain⟨ts,aiA,ru⟩:=h.dQ.tx;have avu:=I aiA;have avv:=I ru;have eH:=I (IV ru (λt a6=>(hk.tx t a6).eA));have r0:v.tx.n<=1000:=by rw[aiA.aF.neq,<-cr (f:=b2.tx),ru];have:=hk.tk;omega
 go_enter func151,ntmps151;have iT:=aI (o:=8) ((H.out.ext (w':=((w.alloc (.cells #[p] 103)).alloc AR)) X).box) rfl;go_wp2_with fail;refine(atQ v.tx.a v.tx.n v.tx.c ts _ (avu.out.ext X) eH.out r0).mono ?_;rintro e w1⟨cL,dv,c1,ys,rfl,LJ,Un,vA,bw⟩;have yG:=bw.aB (show((w.alloc (.cells #[p] 103)).alloc AR).heap[(w:Nat)]?=some (.cells #[p] 103)from hT);have rr:=bw.aB (show((w.alloc (.cells #[p] 103)).alloc AR).heap[(w:Nat)+1]?=some (AR:Obj)from hT);have fS:(w:Nat)+2<=(w1:Nat):=by have:=bw.size;simpa using this
 have bx:Hid (Z w w1):=Z.trans X bw;have uo:ys.map (·.d)=rj b.tx:=by rw[vA,avv.out]
 have avw:dq (xa (w.heap.size+1) w1 (λ_=>False)) w1 (λw=>ja w cL dv c1 ys):=λw' al=>
  ⟨(al.bI LJ (λai aj k=>k.elim (LJ.eQ rr af ai aj) (λz=>by have:=(LJ.lt ai aj).2;have:=z.1;omega))).aF,λp aV=>(Un p aV).avl rr (bA _) w' al⟩
 have pr:∀p,p∈ys->dx p.d.id:=λp aV=>by
  obtain⟨t,ae,ak⟩:=avr (tx:=b.tx) (d:=p.d) (by rw[<-uo];exact mJ aV);rw[<-ak];exact(b8.out.tx t ae).eA.ok.id
 have IZ:=I yG;have im:=I rr;have n3:=I avw;have avx:=I pr;have LK:=I uo;go_wp2_with fail;refine(aiw H.out j3.out bx.out (w.heap.size+1) w w1 (λ_=>False) J (bA _) J J J (bA _) IZ.out none 0 0 [] im.out (Own.nil _ _ _ bO.bH) (λp aV=>by cases aV) (by simp) (λ_ k=>k.elim) (λai aj=>by cases aj) cL dv c1 ys n3.out avx.out).mono ?_;rintro e aN⟨rfl,Z5,fF,on,fZ,os,avy,oO,avz,s9,_,pb⟩;have ih:=Z5.block w J (λk=>k.elim J (λz=>by have:=z.1;omega));have Z6:=I (ih.trans IZ.out);have bz:Hid (Z w aN):=Z5.ext (λx U=>U.elim (λe=>by rw[e];omega) (λz=>by have:=z.1;omega)) bx.out;have avA:=I avy;have b7:=I oO;have avB:=I avz;have kc:=I pb;have aiB:=I Z5.size;have d0:=aI (o:=0) Z6.out rfl;go_wp2_with fail;refine(aim H.out X dp.out hm).mono ?_;rintro e aY⟨a3,_,da,ms,rfl,Uo,avC,Z7,sd,dE⟩;obtain rfl:=Uo.neq;have vw:=Uo.max;have W3:=Uo.len;unfold maxLen at vw;have c9:=I dE;have EW:=I Uo;have LL:=I avC;have Z8:=I Z7;have EX:=I sd;obtain⟨oL,ns⟩:∃K:Nat->Prop,∀x,K x↔∃ai,a3=some ai/\x=ai.block:=⟨_,λ_=>Iff.rfl⟩;have zA:=I ns;go_wp2_with fail;go_loopg [18] (ms.length) (λg dN wr=>∃(k:Nat) (px:bk) (o3 rq:Nat) (lE:List bO),g+k=ms.length/\dN=.int .i64 (k:Int)/\Hid (aG (xa (w.heap.size+1) w1 oL) aY wr)/\Hid (wr.heap[(w:Nat)+1]?=some (.cells #[aq px o3 rq] 42))/\Hid (Own wr w1 66 8 bO.cs px o3 rq lE)/\Hid (∀p,p∈lE->dq (xa (w.heap.size+1) w1 oL) wr (λw=>h0 w p.x p.d))/\lE.length<=16/\Hid (∀ai,px=some ai->¬oL ai.block)/\Hid (lE.map (·.d)=(((ms.take k).map (·.m)).flatMap (·.c3)).foldl (nC b) ((rj b.tx).foldl (nC b) [])));case atStart=>
  refine⟨0,fF,on,fZ,os,J,rfl,aG.refl _ _,c9.out.aB avA.out,b7.out.ext c9.out,λy hy w' al=>?_,s9,λai aj hk=>?_,by rw[<-LK.out];exact kc.out⟩
  ·exact avB.out y hy w' ((aG.of c9.out).trans (al.mono (λx _ U=>U.imp id (λz=>⟨z.1,λe=>e.elim⟩))))
  ·obtain⟨Z9,ae,_⟩:=(zA.out _).1 hk;have aM:=(Z8.out Z9 ae).1;have bn:=(b7.out.lt ai aj).2;omega
 case round=>
  obtain⟨k,px,o3,rq,lE,_,rfl,gI,rr,dO,I0,GJ,LG,ku⟩:=hrel;have mw:Z w wr:=gI.out.ext (λx U=>U.elim (λe=>by rw[e];omega) (λz=>by have:=z.1;omega)) (bz.out.trans c9.out);have yj:=I mw;by_cases hk:k<ms.length
  ·obtain⟨fC,o,rfl,ao⟩:=EW.out.get k hk;have z8:¬(xa (w.heap.size+1) w1 oL) fC:=λz=>z.elim (λe=>by have:=(Z8.out _ rfl).1;have:=aiB.out;dsimp only at*;omega) (λy=>y.2 ((zA.out _).2 ⟨_,rfl,rfl⟩));have GL:∀j v,(o1.cs ms[k])[j]?=some v->wr.cell? (fC,o+k*8+j)=some v:=λj v aJ=>gI.out.cell (ao j v aJ) z8;have cT:wr.cell? (fC,o+k*8)=some ↑ms[k].x.k:=GL 0 _ rfl;have c1:=GL 1 _ rfl;have c2:=GL 2 _ rfl;have da:=GL 3 _ rfl;have dJ:=GL 4 _ rfl;have dw:=GL 5 _ rfl;have eC:=GL 6 _ rfl;have eK:=GL 7 _ rfl;have b0:(0:Int)<=(k:Int):=J;have bd:(k:Int)<(ms.length:Int):=J;have avD:=LL.out ms[k] (c7 hk);obtain⟨c3,Up,Co⟩:=avD.q.sj;have hV:=I Up;have zn:=I Co;have avE:∀p,p∈c3->dx p.d.id:=λp aV=>by
    refine(avs b8.out ms[k].m ?_ p.d ?_).ok.id
    ·rw[<-EX.out];exact mJ (c7 hk)
    ·rw[<-Co];exact mJ aV
   have avF:=I avE;have qa:∀x,oL x->x<(wr.alloc ms[k].x).heap.size:=λx U=>by
    obtain⟨ai,bS,bE⟩:=(zA.out x).1 U;have:=(Z8.out ai bS).2;have:=gI.out.size;simp;omega
   have Uq:=I qa;have am:Hid (aG (xa (w.heap.size+1) w1 oL) aY (wr.alloc ms[k].x)):=gI.out.alloc _;have eX:=I (yj.out.trans ((Z.refl wr).alloc ms[k].x));have avG:Hid ((wr.alloc ms[k].x).heap[(w:Nat)]?=some (.cells #[p] 103)):=(am.out.block _ (bT (c9.out.aB Z6.out)) (λz=>z.elim J (λy=>by have:=y.1;omega))).trans (c9.out.aB Z6.out);have avH:=I (((Z.refl wr).alloc ms[k].x).aB rr.out);have xr:=I (show(w1:Nat)<=(wr.alloc ms[k].x).heap.size from by have:=aiB.out;have:=c9.out.size;have:=am.out.size;omega)
   have hS:=I (show(((ms.take (k+1)).map (·.m)).flatMap (·.c3)).foldl (nC b) ((rj b.tx).foldl (nC b) [])=(c3.map (·.d)).foldl (nC b) (lE.map (·.d))from by
    rw[iX hk,gS,xk,CV,<-ku.out,zn.out]
    simp)
   go_wp2_with fail;refine(aiw H.out j3.out eX.out (w.heap.size+1) w w1 oL J (bA _) J J J xr.out avG.out px o3 rq lE avH.out (dO.out.ext ((Z.refl wr).alloc _)) (λy hy=>(I0.out y hy).step (.of ((Z.refl wr).alloc _)) (b4.eG _ _)) GJ Uq.out LG.out ms[k].x.q.a ms[k].x.q.n ms[k].x.q.c c3 (λw' al=>hV.out.ext (al.ext (λx U=>U.elim (λe=>by rw[e];omega) (λz=>by have:=z.1;omega)) eX.out)) avF.out).mono ?_;rintro e _⟨rfl,I2,avI,avJ,avK,avL,avM,GF,avN,O9,avO,Lz⟩;have pj:=I (am.out.trans I2);have avP:=I avM;have hj:=I GF;have avQ:=I avN;have avR:=I avO;have zo:=I Lz;go_wp2_with fail;go_roundg (gk - 1);case measure=>omega
   case rel=>exact⟨k+1,avI,avJ,avK,avL,J,by go_num,pj,avP,hj,avQ,O9,avR,by rw[hS.out,zo.out];exact rfl⟩
  ·have b9:ms.take k=ms:=ir J;rw[b9]at ku;have jX:=aI (o:=0) rr.out rfl;go_wp2;go_ret;have ch:ja wr px o3 rq lE:=⟨dO.out.aF,λp aV=>(I0.out p aV).dQ⟩;have jz:lE.map (·.d)=b.nH c:=by rw[ku.out,EX.out];rfl
   refine⟨px,o3,rq,?_⟩;first|exact⟨lE,rfl,ch,jz,yj.out⟩|exact⟨rfl,lE,ch,jz,yj.out⟩
section
def Ur{j:aA}:cf i j=true↔i=j:=by rw[AF,jQ]
def avS(c:bt)(b:az)(r:gJ):(b.note c r).1.e8=b.e8/\(b.note c r).1.b6=b.b6:=by
 unfold az.note;split
 ·exact⟨rfl,rfl⟩
 ·split<;>exact⟨rfl,rfl⟩
def avT(c:bt)(l:List bg):∀b:az,(qP c b l).e8=b.e8/\(qP c b l).b6=b.b6:=by
 induction l with
 |nil=>exact λb=>⟨rfl,rfl⟩
 |cons d l cI=>
  intro b;have h:=cI (b.vP c d).1;have k:=avS c b (hR b.st.ag.length d);exact⟨h.1.trans k.1,h.2.trans k.2⟩
def avU(c:bt)(b:az){l:List bg}(hk:k<l.length):qP c b (l.take (k+1))=((qP c b (l.take k)).vP c l[k]).1:=by
 unfold qP;exact Ca
def avV{f:aA->Int}(aD:d∈aX):eD (Cg f aX) d.id=decide (f d.id=1):=by
 unfold Cg eD;rw[vt,Az,jQ];constructor
 ·rintro ⟨y,ae,ak⟩;have:=(mI.1 ae).2;have e:=Ur.1 ak;rw[<-e];simpa using this
 ·intro h;exact⟨d,mI.2 ⟨aD,by simpa using h⟩,Ur.2 rfl⟩
def avW{f:aA->Int}(aD:d∈aX):ik (xx f aX) d.id=decide (f d.id=2):=by
 unfold xx ik;rw[vt,Az,jQ];constructor
 ·rintro ⟨i,ae,ak⟩;obtain⟨y,aM,rfl⟩:=kN.1 ae;have:=(mI.1 aM).2;have e:=Ur.1 ak;rw[<-e];simpa using this
 ·intro h;exact⟨d.id,kN.2 ⟨d,mI.2 ⟨aD,by simpa using h⟩,rfl⟩,Ur.2 rfl⟩
section
variable {w w' fj:World}{M M' CQ D bP Pr O bZ F7 S:Nat->Prop}{c:bt}{p q:Nat}{b:az}{v:tK}
def qf.ap{L:ff}{jd:List (dR)}{gM room:Nat}(h:qf w M D L p q jd gM room)(hs:∀x,M' x->M x)(aD:∀x,D x\/L x->M' x):qf w M' D L p q jd gM room:=
 let ⟨c0,hl,jv,ys,ae,ak,aM,bn,cb⟩:=h.ct
 ⟨h.zU,⟨c0,hl,jv,ys,ae,ak,aM,bn,λw' al=>cb w' (al.mono (λx _ k=>hs x k))⟩,h.p,aD,λx U=>h.cx x (hs x U),h.gK,h.ok⟩
def dU.ap(h:dU w M D O c p q b v)(hs:∀x,M' x->M x)(aD:∀x,D x->M' x)(aK:∀x,O x->M' x):dU w M' D O c p q b v:=by
 obtain⟨L,ae,ak,aM⟩:=h.dk;refine⟨h.box,λw' al=>h.lR w' (al.mono (λx _ k=>hs x k)),⟨L,ae.ap hs (λx U=>U.elim (aD x) (λk=>aK x (ak x k))),ak,aM⟩,?_,h.yf,h.bI,aK,h.gK,h.gQ⟩;obtain⟨n,s,f,e5,bQ,bY,ew,fm,iQ⟩:=h.gx;refine⟨n,s,f,e5,bQ,bY,ew,fm,λk hk=>?_⟩;have:=iQ k hk;cases ax:b.e8 k with
 |none=>rw[ax]at this;exact this
 |some m=>
  rw[ax]at this;obtain⟨cU,x,z2,z3⟩:=this;exact⟨cU,x,z2,λw' al=>z3 w' (al.mono (λx _ k=>hs x k))⟩
structure nj (w:World) (M D O:Nat->Prop) (w':World) (M' bP bZ:Nat->Prop):Prop where
 dT:aG (oE D O) w w'
 d:b4 w D bP
 o:b4 w O bZ
 m:b4 w M M'
def ig.x(h:ig w M D O w' M' bP bZ):nj w M D O w' M' bP bZ:=⟨h.dT,h.d,h.o,h.m⟩
def nj.wS(h:nj w M D O w' M' bP bZ)(k:ig w' M' bP bZ fj CQ Pr F7):nj w M D O fj CQ Pr F7:=
 ⟨h.dT.wS k.dT (λx U=>U.elim (λz=>(h.d.new x z).imp .inl id) (λz=>(h.o.new x z).imp .inr id)),h.d.trans k.d h.dT.size,h.o.trans k.o h.dT.size,h.m.trans k.m h.dT.size⟩
def nj.ext(h:nj w M D O w' M' bP bZ)(U:Z w' fj):nj w M D O fj M' bP bZ:=h.wS (.of U)
def nj.row(h:nj w M D O w' M' bP bZ)(al:aG S w' fj)(a8:∀x,S x->(w:Nat)<=x)(bc:b4 w' M' CQ):nj w M D O fj CQ bP bZ:=
 ⟨h.dT.wS al (λx U=>.inr (a8 x U)),h.d,h.o,h.m.trans bc h.dT.size⟩
def nj.wb(h:nj w M D O w' M' bP bZ)(aa:dU w' M' bP bZ c p q b v)(aD:∀x,D x->M x)(aK:∀x,O x->M x):dU w' (λx=>M x\/bP x\/bZ x) bP bZ c p q b v/\ig w M D O w' (λx=>M x\/bP x\/bZ x) bP bZ:=
 ⟨aa.ap (λx U=>U.elim (h.m.up x) (λk=>k.elim (aa.sP x) (aa.sub x))) (λ_ k=>.inr (.inl k)) (λ_ k=>.inr (.inr k)),
  h.dT,h.d,h.o,⟨λ_ k=>.inl k,λx U=>U.elim .inl (λk=>k.elim (λz=>(h.d.new x z).imp (aD x) id) (λz=>(h.o.new x z).imp (aK x) id))⟩,λ_ k=>k⟩
def nj.pJ{P:z6}(h:ig w M D O w' M' bP bZ)(aa:dU w M D O c p q b v)(k:dq M w P):dq M' w' P:=h.pJ (λx U=>U.elim (aa.sP x) (aa.sub x)) k
def ig.bI{kj:α->List Value}{ys:List α}(h:ig w M D O w' M' bP bZ)(aK:Own w base e sz kj aw n cap ys)(ax:∀ai,aw=some ai->¬D ai.block/\¬O ai.block):Own w' base e sz kj aw n cap ys:=
 h.dT.bI aK (λai aj k=>k.elim (ax ai aj).1 (ax ai aj).2)
def ig.row{kj:α->List Value}{ys:List α}(h:ig w M D O w' M' bP bZ)(aK:Own w base e sz kj aw n cap ys)(ax:∀ai,aw=some ai->M ai.block/\¬D ai.block/\¬O ai.block):∀ai,aw=some ai->M' ai.block/\¬bP ai.block/\¬bZ ai.block:=λai aj=>
 have aT:=(aK.lt ai aj).2
 ⟨h.m.up _ (ax ai aj).1,λk=>(h.d.new _ k).elim (ax ai aj).2.1 (λz=>by omega),λk=>(h.o.new _ k).elim (ax ai aj).2.2 (λz=>by omega)⟩
end
def avX(y:b1)(i:aA)(ot:Nat)(w:aC)(ae:w.cell? (ot,1)=some ↑i.b)(ak:w.cell? (ot,2)=some ↑(ad i.l))(aM:w.cell? (ot,3)=some ↑(ad i.s)):
  aR 209 #[y,ot] w (cM (.bool (cf y.id i)) w):=by
 refine aiv ?_;intro ax bQ bY ew;clear ae ak aM;go_enter func209,ntmps209;go_wp2_with fail;go_ret;exact⟨rfl,X⟩
end
def dU.avY{b:az}(h:dU w M D O c p q b v){t:iY}{cW:List bg}(hs:dq M w (λw=>w4 w t.a t.n t.c cW))(he:w'=w.setCell (p,13) t):
  dU w' M D O c p q {b with cW:=cW} {v with cW:=t}/\aG (·=p) w w':=by
 subst he;have al:=(aG.refl (·=p) w).setCell (p,13) (.inl rfl) t;refine⟨h.kF al (er h.box 13 _) ?_ rfl rfl rfl rfl rfl rfl,al⟩;exact((h.lR.and hs).mono (λw k=>⟨k.1.cD,k.1.aj,k.1.st,k.1.tx,k.1.eN,k.2⟩)).step (al.cN (h.sub _ h.bI.1)) (b4.eG _ _)
def aDw{cG:aC}{M' bP bZ:ff}{b:az}{g9 ie:Nat}{rx:List bO}{P:z6}{x:b1}{o:Obj}(br:dU w1 M' bP bZ c p q b v)(fy:nj w M D O w1 M' bP bZ)(dO:Own w1 w 66 8 bO.cs c0 hl jv rx)(bC:∀ai,c0=some ai->M' ai.block/\¬bP ai.block/\¬bZ ai.block)(kz:∀p,p∈rx->dq M' w1 (λw=>h0 w p.x p.d))(fE:dq M' w1 P)(U:dq M' w1 (λw=>h0 w x d))(bu:lH (w1.alloc o) cG c0 g9)(tQ:Own cG w 66 8 bO.cs (some (g9,0)) (hl+1) ie (rx++[⟨x,d⟩])):
  ∃iN,dU cG iN bP bZ c p q b v/\nj w M D O cG iN bP bZ/\(∀ai,some ((g9,0):Addr)=some ai->iN ai.block/\¬bP ai.block/\¬bZ ai.block)/\(∀p,p∈rx++[⟨x,d⟩]->dq iN cG (λw=>h0 w p.x p.d))/\dq iN cG P:=by
 refine aiC ?_;intro oJ fS al a8 ho py bc;have aO:∀Q,dq M' w1 Q->dq (la M' (·=g9)) cG Q:=λQ k=>(k.step (.of oJ) (b4.eG _ _)).step (al.sub a8) bc;refine⟨la M' (·=g9),(br.ext oJ).step al a8 (λy hy ⟨ai,aj,e⟩=>hy.elim (e▸(bC ai aj).2.1) (e▸(bC ai aj).2.2)) bc (λy hy=>?_),(fy.ext oJ).row al (λy ⟨ai,aj,e⟩=>e▸(dO.lt ai aj).1) bc,λai aj=>?_,λy hy=>?_,aO _ fE⟩;exact aiD;exact aiE
 ·rcases iR.1 hy with hy|hy
  ·exact aO _ (kz y hy)
  ·obtain rfl:=iH.1 hy;exact aO _ U
def aiF{b:az}(H:dU w M D O c p q b v)(b8:gz c l R n b)(ao:ka c)(hm:b.b6<c.ps.length)(j3:∀j,j∈b.bl->dx j):
  aR 145 #[p] w (yg c p q w M D O (.tuple #[]) (b.fU c)):=by
 have dp:=I ao.rQ;have ax:=ao.room;have avZ:=I H.sP;have av0:=I H.sub;have yk:=I H.cx;replace H:=I H;replace b8:=I b8;replace j3:=I j3;clear ao;obtain⟨rs,fV⟩:∃rs,b.fU c=rs:=⟨_,rfl⟩;rw[fV];replace fV:=I fV;go_enter func145,ntmps145;go_step3;go_wp2_with fail;refine(Ps (H.ext X)).mono ?_;rintro e bs⟨rfl,cS⟩;replace cS:=I cS;cases xb:b.h5 with
 |false=>
  have gd:=fV.out;unfold az.fU at gd;rw[bm xb]at gd;subst gd;clear xb;go_wp2;rw[nJ];go_end0;exact⟨M,D,O,rfl,⟨v,H.ext cS⟩,.of cS⟩
 |true=>
  have gd:=fV.out;unfold az.fU at gd;rw[bj (by rw[xb];decide)]at gd;replace fV:=I gd;clear gd xb;have LM:=I ((H.ext cS).box);obtain⟨ag,ps,ec⟩:=H.dQ.st;obtain⟨Us,lC,xc⟩:=H.dQ.cW.sj;have Pz:=I ec.l;have IA:=I ec.j9;have w2:=I ec.b;have av1:=I (Ly xc (λd aD=>(b8.x0 d aD).1.ok));have LN:v.cW.n<=1000000:=by rw[lC.aF.neq,<-cr (f:=(·.d)),xc];have:=b8.cW;omega
  have Ut:=I (S5 c b8.S8);replace lC:=I lC;replace xc:=I xc;clear ec;go_upto_region 2 with (fail);go_cut [4,5] (λe1 DO fD=>∃(fF fG:bk) (on fZ ei lc:Nat) (os aiG:List bO),e1=.slice fF on fZ/\DO=.slice fG ei lc/\Hid (fx fD w fF on fZ os)/\Hid (os.map (·.d)=(b.ti c).1)/\Hid (fx fD w fG ei lc aiG)/\Hid (aiG.map (·.d)=(b.ti c).2)/\Hid (Z w fD));case first=>
   go_wp2_with fail;refine sI (Z bs) (λa7=>?_);refine Ag ?_;refine lA 3 (·.aB LM) ?_;refine Lm ?_;refine lA 7 (·.aB LM) ?_;refine cX 8 ?_;refine hE 9 λK aL=>?_;(go_simp;(go_at_call 151;refine(aiz (H.ext X) b8 j3 dp hm).mono ?_;rintro e aN⟨tv,sL,tw,c3,rfl,hV,zn,gj⟩;replace hV:=I hV;replace zn:=I zn;replace gj:=I gj);refine vf ?_;intro a7);refine hE 10 λK aL=>?_;have SB:sL<=1000000:=by rw[hV.aF.neq,<-cr (f:=(·.d)),zn.out];have:=Ut.out.2;omega
   (go_simp;(go_at_call 206;refine(apV v.s (ag.map (·.x)) b.st.ay v.cW.a v.cW.n v.cW.c Us tv sL tw c3 _ (Pz.dz.ext X) (w2.ext X) (lC.ext X) av1 hV (Ly zn (λd aD=>(Ut.out.1 d aD).1.ok)) LN SB).mono ?_;rintro e _⟨fF,on,fZ,os,fG,ei,lc,r2,rfl,dn,b7,cz,dW,fT⟩;replace dn:=I dn;replace b7:=I b7;replace cz:=I cz;replace dW:=I dW;replace fT:=I fT);refine vf ?_;intro a7);refine cX 11 ?_;refine cX 12 ?_;refine cX 13 ?_;refine hE 14 λK aL=>?_;go_simp;refine aL _ _ Bg λa7=>eY ?_;refine hE 15 λK aL=>?_;go_simp;refine aL _ _ Bg λa7=>eY ?_;refine wpAnyH_done bV ?_ _;go_wp2_with fail;go_meet;have pq:(w:Nat)<=(aN:Nat):=Z.size (show Z w aN from X);have kC:yL (ag.map (·.x)) b.st.ay=b.dj:=auW Pz IA _;exact⟨fF,fG,on,fZ,ei,lc,os,r2,rfl,rfl,dn.mono pq,by rw[b7.out,kC,xc.out,zn.out];exact rfl,cz.mono pq,by rw[dW.out,kC,xc.out,zn.out];exact rfl,X⟩
  case rest=>
   obtain⟨fF,fG,_,fZ,_,lc,os,r2,rfl,rfl,sQ,pI,Ga,vN,Um⟩:=hcut;obtain rfl:=sQ.cg.neq;obtain rfl:=Ga.cg.neq;have vw:=sQ.cg.aF.max;have aiH:=Ga.cg.aF.max;have av2:=Ga.cg.aF.len;unfold maxLen at vw aiH;obtain⟨sR,EY⟩:∃A,(b.ti c).1=A:=⟨_,rfl⟩;obtain⟨yl,Uu⟩:∃A,(b.ti c).2=A:=⟨_,rfl⟩;have I3:=afo b.dj (b.nH c) (b.cW,[]);have Uv:∀d,d∈sR->gY d:=λd aD=>((I3.1 d (by rw[<-EY]at aD;exact aD)).elim (b8.x0 d) (Ut.out.1 d)).1;have a2:∀d,d∈yl->gY d:=λd aD=>((I3.2.1 d (by rw[<-Uu]at aD;exact aD)).elim (λk=>by cases k) (Ut.out.1 d)).1;rw[EY]at pI;rw[Uu]at vN;have de:=fV.out;rw[EY,Uu]at de;have Bz:Hid (dq M wc (λw=>ja w fF os.length fZ os/\ja w fG r2.length lc r2)):=(sQ.cx yk).and (Ga.cx yk);have b7:=I pI;change Hid _ at vN Um;have AJ:os.length<=4:=by
    have bn:=I3.2.2;have cb:os.length=sR.length:=by rw[<-pI.out,cr]
    have ey:=b8.cW;have iZ:(s5 b.dj b.cW (b.nH c)).1=sR:=EY;unfold s5 at iZ;rw[iZ]at bn;dsimp only at bn;omega
   replace Uv:=I Uv;replace a2:=I a2;replace de:=I de;clear sQ pI Ga EY Uu I3 fV;go_wp2_with fail;go_loopg [38] r2.length (λg dN wr=>∃(k:Nat) (M' bP bZ:ff) (gW:tK),g+k=r2.length/\dN=.int .i64 (k:Int)/\Hid (dU wr M' bP bZ c p q (qP c b (yl.take k)) gW)/\Hid (gz c l R n (qP c b (yl.take k)))/\Hid (ig w M D O wr M' bP bZ)/\Hid (dq M' wr (λw=>ja w fF os.length fZ os/\ja w fG r2.length lc r2)));case atStart=>exact⟨0,M,D,O,v,J,rfl,H.ext X,b8,.of X,Bz⟩
   case round=>
    obtain⟨k,M',bP,bZ,gW,bu,rfl,br,aL,fy,fE⟩:=hrel;by_cases hk:k<r2.length
    ·have iG:=fE.dQ.2;obtain⟨fC,o,rfl,fW⟩:=iG.aF.get k hk;obtain⟨cT,c1,c2,da,dJ,dw,eC,eK⟩:=pd (w:=wr) (b:=fC) (o:=o+k*8) (x:=r2[k].x) fW;have n3:=I (iG.ct _ (c7 hk));have An:k<yl.length:=by rw[<-vN.out,cr];exact hk
     have k7:r2[k].d=yl[k]:=by
      have ae:(r2.map (·.d))[k]? =yl[k]? :=by rw[vN.out]
      rw[nu,fz hk,fz An]at ae;exact wL ae
     have pW:gY r2[k].d:=by rw[k7];exact a2 _ (c7 An)
     have hS:qP c b (yl.take (k+1))=((qP c b (yl.take k)).vP c r2[k].d).1:=by rw[k7];exact avU c b An
     have EO:=aif aL pW;rw[<-hS]at EO;have b0:(0:Int)<=(k:Int):=J;have bd:(k:Int)<(r2.length:Int):=J;replace hS:=I hS;replace pW:=I pW;replace EO:=I EO;clear iG fW k7;go_wp2_with fail;refine(aii (br.ext (w':=wr.alloc r2[k].x) X) aL ax r2[k].x r2[k].d (n3.ext X) pW).mono ?_;rintro e _⟨kq,nU,Bp,rfl,⟨v5,kQ⟩,EZ⟩;rw[<-hS.out]at kQ;replace kQ:=I kQ;have zo:=I ((fy.ext ((Z.refl wr).alloc r2[k].x)).trans EZ);have CW:=I (nj.pJ EZ (br.ext ((Z.refl wr).alloc r2[k].x)) (fE.step (.of ((Z.refl wr).alloc r2[k].x)) (b4.eG _ _)));clear EZ;go_wp2_with fail;go_roundg (gk - 1);case measure=>omega
     case rel=>exact⟨k+1,kq,nU,Bp,v5,J,by go_num,kQ,EO,zo,CW⟩
    ·have b9:yl.take k=yl:=ir (by rw[<-vN.out,cr];omega);rw[b9]at br aL;clear b9;have BA:=avT c yl b;have Uw:az.mz c (qP c b yl)=b.mz c:=by unfold az.mz az.cc az.je;rw[BA.1,BA.2]
     have uo:(qP c b yl).b6<c.ps.length:=by rw[BA.2];exact hm
     have h9:=de;obtain⟨hv,ih⟩:∃hv,qP c b yl=hv:=⟨_,rfl⟩;rw[ih]at br aL Uw uo;have fV:=h9.out;rw[ih]at fV;replace fV:=I fV;replace Uw:=I Uw;clear de h9 ih BA;go_wp2_with fail;refine(aio (br.ext X) dp uo).mono ?_;rintro e _⟨ea,dj,AK,ms,rfl,LL,sd,mc⟩;replace LL:=I LL;have EX:=I (sd.trans Uw);replace mc:=I mc;clear sd;go_wp2_with fail;refine(ap1 fF os.length fZ os ea dj AK (ms.map o1.dX) _ (fE.dQ.1.ext X) (Ly b7 (λd aD=>(Uv d aD).ok)) LL.cc J).mono ?_;rintro e df⟨mN,p9,nd,ys,ek,jj,sl,_,_,_,_,rfl,oM,lK,hY,_,_,mq⟩;have bc:p5 (ms.map o1.dX)=aCW (b.mz c):=by funext i;rw[aia,EX.out]
     rw[bc,b7.out]at lK hY;have PA:=br.cx
     have aiI:dq M' df (λw=>a1 w 8 b1.cs mN p9 nd (ys.map (·.x))/\a1 w 3 aA.cs ek jj sl (xx (aCW (b.mz c)) sR)):=
      ((oM.cx (λx U=>gw (PA x U) (Z.size mc))).mono (λw k=>k.dz)).and (hY.cx (λx U=>gw (PA x U) (Z.size mc)))
     have LO:=I (((fE.step (.of (mc.trans mq)) (b4.eG _ _)).mono (λw k=>k.1)).and aiI);have PB:=I (br.ext (mc.trans mq));have iq:=I (fy.x.ext (mc.trans mq));have p8:Hid ((ys.map (·.x)).map (·.id)=(Cg (aCW (b.mz c)) sR).map (·.id)):=ZM oM.sj lK;obtain⟨f,aiJ⟩:∃f,aCW (b.mz c)=f:=⟨_,rfl⟩;have PC:=fV.out;rw[aiJ]at PC LO p8;replace PC:=I PC;clear oM lK hY mq bc PA aiI br fy fE mc LL EX fV aiJ vw aiH av2;refine YQ ?_;intro ca bJ bF bG bK;have Ux:=I aL;clear aL;go_wp2_with fail;go_step3;go_wp2_with fail;go_loopg [11,56] os.length (λg e1 dN wr=>∃(k:Nat) (M' bP bZ:ff) (b':az) (gW:tK) (c0:bk) (hl jv:Nat) (rx:List bO),g+k=os.length/\dN=.int .i64 (k:Int)/\e1=.slice c0 hl jv/\hl<=k/\Hid (dU wr M' bP bZ c p q b' gW)/\Hid (gz c l R n b')/\Hid (nj w M D O wr M' bP bZ)/\Hid (Own wr w.heap.size 66 8 bO.cs c0 hl jv rx)/\Hid (∀ai,c0=some ai->M' ai.block/\¬bP ai.block/\¬bZ ai.block)/\Hid (∀p,p∈rx->dq M' wr (λw=>h0 w p.x p.d))/\Hid (dq M' wr (λw=>ja w fF os.length fZ os/\a1 w 8 b1.cs mN p9 nd (ys.map (·.x))/\a1 w 3 aA.cs ek jj sl (xx f sR)))/\Hid ((sR.take k).foldl (wV c f) (hv,[])=(b',rx.map (·.d))));case atStart=>exact⟨0,_,_,_,hv,gW,none,0,0,[],J,rfl,rfl,bA _,PB,Ux,iq,Own.nil _ _ _ bO.bH,(λai aj=>by cases aj),(λp aV=>by cases aV),LO,rfl⟩
     case round=>
      obtain⟨k,M',bP,bZ,b',_,c0,hl,jv,rx,_,rfl,rfl,_,br,aL,fy,dO,bC,kz,fE,ch⟩:=hrel;by_cases hk:k<os.length
      ·have iG:=fE.dQ.1;obtain⟨fC,o,rfl,fW⟩:=iG.aF.get k hk;obtain⟨_,_,_,_,_,_,_,_⟩:=pd (w:=wr) (b:=fC) (o:=o+k*8) (x:=os[k].x) fW;have n3:Hid (dq M' wr (λw=>h0 w os[k].x os[k].d)):=fE.mono (λw k=>k.1.ct _ (c7 hk));have An:k<sR.length:=by rw[<-b7.out,cr];exact hk
       have k7:os[k].d=sR[k]:=by
        have yi:(os.map (·.d))[k]? =sR[k]? :=by rw[b7.out]
        rw[nu,fz hk,fz An]at yi;exact wL yi
       have pW:gY os[k].d:=by rw[k7];exact Uv _ (c7 An)
       have hS:(sR.take (k+1)).foldl (wV c f) (hv,[])=wV c f (b',rx.map (·.d)) os[k].d:=by
        rw[iX An,CV,ch.out,k7];rfl
       have ym:os[k].d∈sR:=by rw[k7];exact c7 An
       have yn:os[k].x.id=os[k].d.id:=n3.dQ.id;have aiK:(ys.map (·.x)).any (λy:b1=>cf y.id os[k].x.id)=decide (f os[k].d.id=1):=by
        rw[<-avV ym,yn];unfold eD;have bS:(ys.map (·.x)).any (λy:b1=>cf y.id os[k].d.id)=((ys.map (·.x)).map (·.id)).any (λi=>cf i os[k].d.id):=by rw[xm,xm,xm];rfl
        have bE:(Cg f sR).any (λd=>cf d.id os[k].d.id)=((Cg f sR).map (·.id)).any (λi=>cf i os[k].d.id):=by rw[xm];rfl
        rw[bS,bE,p8.out]
       have als:(xx f sR).any (λi=>cf i os[k].x.id)=decide (f os[k].d.id=2):=by rw[yn];exact avW ym
       have b0:(0:Int)<=(k:Int):=J;have bd:(k:Int)<(os.length:Int):=J;have fQ:Hid ((wr.alloc os[k].x).heap[(wr:Nat)]?=some (os[k].x:Obj)):=fi rfl;replace hS:=I hS;replace pW:=I pW;replace yn:=I yn;replace als:=I als;clear iG fW k7 ym;go_wp2_with fail;refine(RV mN p9 nd (ys.map (·.x)) (λy=>cf y.id os[k].x.id) 209 ⟨wr.heap.size,0,none⟩ _ (fE.dQ.2.1.ext X) (λ_ _=>by kernel_rfl) (λy _ w' sK=>avX y os[k].x.id wr.heap.size w' (aI (sK.aB fQ) rfl) (aI (sK.aB fQ) rfl) (aI (sK.aB fQ) rfl))).mono ?_;rintro e _⟨rfl,jl⟩;rw[aiK];have iV:=I (jl.aB fQ);have n5:=I (((Z.refl wr).alloc os[k].x).trans jl);clear aiK jl fQ;obtain⟨nM,GM⟩:∃nM,f os[k].d.id=nM:=⟨_,rfl⟩;have eO:=als.out;rw[GM]at eO;rw[GM];replace GM:=I GM;clear als;have kM:=I (br.ext n5);have jA:=I (fy.ext n5);have su:=I (dO.ext n5);have LP:=I (λp aV=>(kz p aV).step (.of n5) (b4.eG _ _));have tB:=I (fE.step (.of n5) (b4.eG _ _));have I4:=I (n3.step (.of n5) (b4.eG _ _));have tC:Hid (∀x,M' x->x≠wr.heap.size):=λx U=>by have:=br.cx x U;omega
       clear br fy dO kz fE n3;by_cases yi:nM=1
       ·subst yi;have e4:decide ((1:Int)=1)=true:=rfl;rw[e4];clear e4 eO;obtain⟨qU,z,n4⟩:∃qU z,b'.vP c os[k].d=(qU,z):=⟨_,_,rfl⟩;obtain⟨f0,f1,f2,f3,f4,f5,f6,f7⟩:=lI iV;go_wp2_with fail;refine(aii kM aL ax os[k].x os[k].d I4.dQ pW).mono ?_;rintro e cG⟨iN,ib,nF,rfl,⟨v9,jB⟩,jq⟩;have pz:=aif aL pW;rw[n4]at jB pz;rw[n4];replace n4:=I n4;replace jB:=I jB;replace pz:=I pz;refine aiL ?_;intro mV jo CX I5 me nE hG;clear jq f0 f1 f2 f3 f4 f5 f6 f7;obtain⟨f0,f1,f2,f3,f4,f5,f6,f7⟩:=lI hG;cases z with
        |true=>
         go_wp2_with fail;try (go_step3;go_wp2_with fail)
         go_roundg (gk - 1);case measure=>omega
         case rel=>exact⟨k+1,_,_,_,qU,v9,c0,hl,jv,rx,J,by go_num,rfl,J,jB,pz,mV,jo,CX,I5,me,by rw[hS.out];unfold wV;dsimp only;rw[GM.out,if_pos rfl,n4.out];exact rfl⟩
        |false=>
         go_wp2_with (at_builtin;refine hf (ys:=rx) rfl (.tmp 85) (.tmp 87) 42 rfl ca _ 96 underlying42 bJ bF bG bK rfl af rfl (jo.ext ((Z.refl _).alloc _)) ⟨os[k].x,os[k].d⟩ _ rfl (fc (cs:=bO.cs ⟨os[k].x,os[k].d⟩) rfl) (bO.cN _) J af (eh mV.dT.size ((Z.refl _).alloc _).size) ?_;intro ee vF et xd BB);obtain⟨I6,lS,ll,yo,zq,BC⟩:=aDw jB mV jo CX I5 me nE BB xd;replace lS:=I lS;replace ll:=I ll;replace yo:=I yo;replace zq:=I zq;replace BC:=I BC;change Hid _ at xd;clear BB;go_wp2_with fail;go_roundg (gk - 1);case measure=>omega
         case rel=>exact⟨k+1,I6,_,_,_,_,_,hl+1,vF,rx++[(⟨os[k].x,os[k].d⟩:bO)],J,by go_num,rfl,J,lS,pz,ll,xd,yo,zq,BC,by rw[hS.out,List.map_append];unfold wV;dsimp only;rw[GM.out,if_pos rfl,n4.out];exact rfl⟩
       ·have e4:decide (nM=1)=false:=lo yi;rw[e4];clear e4;by_cases ak:nM=2
        ·subst ak;have BD:decide ((2:Int)=2)=true:=rfl;rw[BD]at eO;change Hid _ at eO;clear BD yi;obtain⟨qU,z,n4⟩:∃qU z,b'.xS c os[k].x.id=(qU,z):=⟨_,_,rfl⟩;obtain⟨f0,f1,f2,f3,f4,f5,f6,f7⟩:=lI iV;go_wp2_with fail;refine(tN ek jj sl (xx f sR) os[k].x.id _ tB.dQ.2.2).mono ?_;rintro e aCF⟨rfl,vi⟩;rw[eO.out];replace kM:=I (kM.ext vi);replace jA:=I (jA.ext vi);replace su:=I (su.ext vi);replace LP:=I (λp aV=>(LP p aV).step (.of vi) (b4.eG _ _));replace tB:=I (tB.step (.of vi) (b4.eG _ _));replace I4:=I (I4.step (.of vi) (b4.eG _ _));replace iV:=I (vi.aB iV);clear vi f0 f1 f2 f3 f4 f5 f6 f7;obtain⟨f0,f1,f2,f3,f4,f5,f6,f7⟩:=lI iV;have GN:dx os[k].x.id:=by rw[yn.out];exact pW.ok.id
         go_wp2_with fail;refine(au6 kM aL ax os[k].x.id GN).mono ?_;rintro e _⟨_,_,_,rfl,⟨v9,jB⟩,jq⟩;have pz:=au5 aL GN;rw[n4]at jB pz;rw[n4];replace n4:=I n4;replace jB:=I jB;replace pz:=I pz;refine aiL ?_;intro mV jo CX I5 me nE hG;clear jq f0 f1 f2 f3 f4 f5 f6 f7;obtain⟨f0,f1,f2,f3,f4,f5,f6,f7⟩:=lI hG;cases z with
         |true=>
          go_wp2_with fail;try (go_step3;go_wp2_with fail)
          go_roundg (gk - 1);case measure=>omega
          case rel=>exact⟨k+1,_,_,_,qU,v9,c0,hl,jv,rx,J,by go_num,rfl,J,jB,pz,mV,jo,CX,I5,me,by rw[hS.out];exact aiM⟩
         |false=>
          go_wp2_with (at_builtin;refine hf (ys:=rx) rfl (.tmp 85) (.tmp 87) 42 rfl ca _ 96 underlying42 bJ bF bG bK rfl af rfl (jo.ext ((Z.refl _).alloc _)) ⟨os[k].x,os[k].d⟩ _ rfl (fc (cs:=bO.cs ⟨os[k].x,os[k].d⟩) rfl) (bO.cN _) J af (eh mV.dT.size ((Z.refl _).alloc _).size) ?_;intro ee vF et xd BB);obtain⟨I6,lS,ll,yo,zq,BC⟩:=aDw jB mV jo CX I5 me nE BB xd;replace lS:=I lS;replace ll:=I ll;replace yo:=I yo;replace zq:=I zq;replace BC:=I BC;change Hid _ at xd;clear BB;go_wp2_with fail;go_roundg (gk - 1);case measure=>omega
          case rel=>exact⟨k+1,I6,_,_,_,_,_,hl+1,vF,rx++[(⟨os[k].x,os[k].d⟩:bO)],J,by go_num,rfl,J,lS,pz,ll,xd,yo,zq,BC,by rw[hS.out,gS];exact aiM⟩
        ·have BD:decide (nM=2)=false:=lo ak;rw[BD]at eO;change Hid _ at eO;replace yi:=I yi;change Hid _ at ak;clear BD;obtain⟨f0,f1,f2,f3,f4,f5,f6,f7⟩:=lI iV;go_wp2_with fail;refine(tN ek jj sl (xx f sR) os[k].x.id _ tB.dQ.2.2).mono ?_;rintro e _⟨rfl,vi⟩;rw[eO.out];replace kM:=I (kM.ext vi);replace jA:=I (jA.ext vi);replace su:=I (su.ext vi);replace LP:=I (λp aV=>(LP p aV).step (.of vi) (b4.eG _ _));replace tB:=I (tB.step (.of vi) (b4.eG _ _));replace I4:=I (I4.step (.of vi) (b4.eG _ _));replace iV:=I (vi.aB iV);clear vi f0 f1 f2 f3 f4 f5 f6 f7;obtain⟨_,_,_,_,_,_,_,_⟩:=lI iV;go_wp2_with (at_builtin;refine hf (ys:=rx) rfl (.tmp 85) (.tmp 87) 42 rfl ca _ 96 underlying42 bJ bF bG bK rfl af rfl (su.ext ((Z.refl _).alloc _)) ⟨os[k].x,os[k].d⟩ _ rfl (fc (cs:=bO.cs ⟨os[k].x,os[k].d⟩) rfl) (bO.cN _) J af (eh jA.dT.size ((Z.refl _).alloc _).size) ?_;intro _ vF _ xd BB);obtain⟨I6,lS,ll,yo,zq,BC⟩:=aDw kM jA su bC LP tB I4 BB xd;replace lS:=I lS;replace ll:=I ll;replace yo:=I yo;replace zq:=I zq;replace BC:=I BC;change Hid _ at xd;clear BB;go_wp2_with fail;go_roundg (gk - 1);case measure=>omega
         case rel=>exact⟨k+1,I6,_,_,_,_,_,hl+1,vF,rx++[(⟨os[k].x,os[k].d⟩:bO)],J,by go_num,rfl,J,lS,aL,ll,xd,yo,zq,BC,by rw[hS.out,List.map_append];unfold wV;dsimp only;rw[GM.out,if_neg yi.out,if_neg ak.out];exact rfl⟩
      ·have b9:sR.take k=sR:=ir (by rw[<-b7.out,cr];omega);rw[b9]at ch;clear b9;obtain⟨te,y1⟩:=fy.wb br avZ av0;have rY:dq (λx=>M x\/bP x\/bZ x) wr (λw=>w4 w c0 hl jv (rx.map (·.d))):=λw' al=>by
        have aK:=al.bI dO (λai aj k=>k.elim (λz=>by have:=yk.out _ z;have:=(dO.lt ai aj).1;omega) (λz=>z.elim (bC ai aj).2.1 (bC ai aj).2.2));exact⟨rx,aK.aF,λp aV=>kz p aV w' (al.mono (λx _ z=>z.elim (fy.m.up x) (λy=>y.elim (br.sP x) (br.sub x)))),rfl⟩
       obtain⟨v7,v8⟩:=te.avY (w':=wr.setCell (p,13) (aq c0 hl jv)) (t:=⟨c0,hl,jv⟩) rY rfl;obtain⟨-,-,-,-,-,-,-,-,-,-,-,-,-,_,_⟩:=aqh te.box;have zm:=I (y1.trans (ig.kF v8 te.bI.1));have gd:=PC.out;have he:hv.zY c sR f=(b',rx.map (·.d)):=ch;rw[he]at gd;subst gd;replace v7:=I v7;clear v8 te y1 rY PC he;go_wp2;go_end0;exact⟨_,_,_,rfl,⟨_,v7⟩,zm⟩
def aiN{b:az}(H:dU w M D O c p q b v)(b8:gz c l R n b)(ax:c.room<=1048576)(i:aA)(bb:dx i)(fI cA:Nat)(I7:w.heap[fI]?=some (.cells #[p] 103))(pH:w.heap[cA]?=some (.cells #[(.func (.func 238) #[p] #[])] 224)):
  aR 239 #[i,fI,cA] w (yg c p q w M D O (.tuple #[]) (b.pN c i)):=by
 obtain⟨_,ps,ec⟩:=H.dQ.st;have tD:=I ec.p.dz;have Lf:=I (y5 ec.p ec.ma i);have gp:=I ((H.ext ((Z.refl w).alloc i)).box);have pR:Hid ((w.alloc i).heap[(w:Nat)]?=some (i:Obj)):=fi rfl;have PD:=I (((Z.refl w).alloc i).aB I7);have LQ:=I (((Z.refl w).alloc i).aB pH);change Hid _ at H b8 bb;clear ec I7 pH;obtain⟨z,bf⟩:∃z,eD b.st.ps i=z:=⟨_,rfl⟩;have PE:b.pN c i=if z=true then (b.note c (yW i)).1 else b:=by unfold az.pN;rw[bf]
 obtain⟨rs,gd⟩:∃rs,b.pN c i=rs:=⟨_,rfl⟩;rw[gd];have fV:=I (PE.symm.trans gd);have eM:=I (Lf.trans bf);clear PE bf Lf gd;go_enter func239,ntmps239;refine aDv ?_;intro _ _ a7;refine lA 4 (·.aB pR) ?_;refine hE 5 λK aL=>?_;(go_simp;(go_at_call 141;refine(vB v.s (ps.map (·.x)) i _ (tD.ext X)).mono ?_;rintro e aN⟨rfl,gj⟩;rw[eM.out];change Hid _ at gj);refine vf ?_;intro a7);refine wpAnyH_done bV ?_ _;have n0:=aI (o:=0) ((show Z (w.alloc i) aN from X).aB LQ) rfl;obtain⟨_,_,_⟩:=iE ((show Z (w.alloc i) aN from X).aB pR);cases z with
 |false=>
  have gd:=fV.out;rw[bj af]at gd;subst gd;go_wp2_with fail;go_end0;exact ZR
 |true=>
  have gd:=fV.out;rw[bm rfl]at gd;subst gd;go_wp2_with fail;refine(Pt (H.ext X) b8 ax rI (yW i) (Tz _) (λ_=>rfl) (YA bb) (.inr (.inr (.inr (.inr ⟨i,rfl,bb⟩))))).mono ?_;rintro e _⟨LR,mQ,aiO,rfl,Uy,Gx⟩;go_wp2;go_end0;exact⟨LR,mQ,aiO,rfl,Uy,Gx.cC X⟩
def av3{kj:α->List Value}{cG:aC}{M' bP bZ:ff}{b:az}{g9 ie:Nat}{rx av4:List α}{o:Obj}(br:dU w1 M' bP bZ c p q b v)(fy:nj w M D O w1 M' bP bZ)(dO:Own w1 w e sz kj c0 hl jv rx)(bC:∀ai,c0=some ai->M' ai.block/\¬bP ai.block/\¬bZ ai.block)(bu:lH (w1.alloc o) cG c0 g9)(tQ:Own cG w e sz kj (some (g9,0)) m ie av4):
  ∃iN,dU cG iN bP bZ c p q b v/\nj w M D O cG iN bP bZ/\(∀ai,some ((g9,0):Addr)=some ai->iN ai.block/\¬bP ai.block/\¬bZ ai.block)/\∀Q,dq M' w1 Q->dq iN cG Q:=by
 refine aiC ?_;intro oJ fS al a8 ho py bc;refine⟨la M' (·=g9),(br.ext oJ).step al a8 (λy hy ⟨ai,aj,e⟩=>hy.elim (e▸(bC ai aj).2.1) (e▸(bC ai aj).2.2)) bc (λy hy=>?_),(fy.ext oJ).row al (λy ⟨ai,aj,e⟩=>e▸(dO.lt ai aj).1) bc,λai aj=>?_,λQ k=>(k.step (.of oJ) (b4.eG _ _)).step (al.sub a8) bc⟩;exact aiD;exact aiE
def E0(c0:Option Addr):Nat->Prop:=λy=>∃ai,c0=some ai/\ai.block=y
def av5{kj:α->List Value}{b:az}{rx:List α}(h:dU w M D O c p q b v)(U:Z w w1)(dO:Own w1 w e sz kj c0 hl jv rx):
  dU w1 (la M (E0 c0)) D O c p q b v/\nj w M D O w1 (la M (E0 c0)) D O/\∀ai,c0=some ai->la M (E0 c0) ai.block/\¬D ai.block/\¬O ai.block:=by
 have ho:=h.cx;have bc:b4 w M (la M (E0 c0)):=⟨λ_ k=>.inl k,λy hy=>hy.imp id (fun⟨ai,aj,e⟩=>e▸(dO.lt ai aj).1)⟩;refine⟨h.step (S:=λ_=>False) (.of U) (λ_ k=>k.elim) (λ_ _ k=>k) bc (λy hy=>?_),⟨.of U,b4.refl _ _,b4.refl _ _,bc⟩,λai aj=>⟨.inr ⟨ai,aj,rfl⟩,λk=>?_,λk=>?_⟩⟩
 ·rcases hy with hy|⟨ai,aj,e⟩
  ·exact gw (ho y hy) U.size
  ·rw[<-e];exact(dO.lt ai aj).2
 ·have:=ho _ (h.sP _ k);have:=(dO.lt ai aj).1;omega
 ·have:=ho _ (h.sub _ k);have:=(dO.lt ai aj).1;omega
def dU.av6{b:az}(h:dU w M D O c p q b v){t:iY}{cW:List aA}(hs:dq M w (λw=>a1 w 3 aA.cs t.a t.n t.c cW))(he:w'=w.setCell (p,11) t):
  dU w' M D O c p q {b with eN:=cW} {v with eN:=t}/\aG (·=p) w w':=by
 subst he;have al:=(aG.refl (·=p) w).setCell (p,11) (.inl rfl) t;refine⟨h.kF al (er h.box 11 _) ?_ rfl rfl rfl rfl rfl rfl,al⟩;exact((h.lR.and hs).mono (λw k=>⟨k.1.cD,k.1.aj,k.1.st,k.1.tx,k.2,k.1.cW⟩)).step (al.cN (h.sub _ h.bI.1)) (b4.eG _ _)
def av7(h:w.grownBy w' (Value.ownBlock (aq aw n cap))):aG (E0 aw) w w':=
 ⟨h.os,h.tape,h.output,h.size,λb aa an=>h.block b aa (λe=>by
  cases aw with
  |none=>cases e
  |some ai=>exact an ⟨ai,rfl,(wL e).symm⟩)⟩
def fx.aiP{S:ff}{aDn:Nat}{c:Nat}{kj:α->List Value}{rx:List α}(h:fx w base a n c ps)(ax:Own w aDn e sz kj c0 hl jv rx)(aW:66≠e)(ae:154≠e)(ak:34≠e)(aM:77≠e)(al:aG S w w')(a8:∀x,S x->x<base\/E0 c0 x):fx w' base a n c ps:=by
 have hk:∀{β:Type}{bE:TypeId}{PF:Nat}{c2:β->List Value}{aw:bk}{cZ zj:Nat}{ys:List β},Own w base bE PF c2 aw cZ zj ys->bE≠e->Own w' base bE PF c2 aw cZ zj ys:=λo he=>
  al.bI o (λai aj k=>(a8 _ k).elim (λz=>by have:=(o.lt ai aj).1;omega) (fun⟨Z9,aa,ot⟩=>(o.gQ ax he) ai Z9 aj aa ot.symm))
 refine⟨hk h.cg aW,λp aV=>?_⟩;have LS:=h.ct p aV;obtain⟨ys,bS,bE,eV⟩:=LS.e;exact⟨LS.k,LS.id,LS.c,LS.u,hk LS.f ae,ys,bS,hk bE ak,λy hy=>hk (eV y hy) aM⟩
def av8(c:bt)(l:List bg)(k:Nat)(hk:k<l.length)(st:az×List aA):(l.take (k+1)).foldl (vR c) st=vR c ((l.take k).foldl (vR c) st) l[k]:=Ca
def av9{b:az}(H:dU w M D O c p q b v)(b8:gz c l R n b)(ax:c.room<=1048576)(j3:∀j,j∈b.bl->dx j)(fG:bk)(ei lc:Nat)(xs:List bO)(bU:ja w fG ei lc xs)(av:∀p,p∈xs->gY p.d)(ny:ei<=16):
  aR 241 #[p,aq fG ei lc] w (yg c p q w M D O (.tuple #[]) (b.ua c (xs.map (·.d)))):=by
 obtain⟨ca,bJ,bF,bG,bK⟩:=info_parts AM;obtain⟨dc,eo,dB,ej,fe⟩:=info_parts zE;obtain rfl:=bU.aF.neq;have hm:=bU.aF.max;unfold maxLen at hm;have gp:=I H.box;obtain⟨ag,ps,fR⟩:=H.dQ.st;obtain⟨rs,fV⟩:∃rs,b.ua c (xs.map (·.d))=rs:=⟨_,rfl⟩;rw[fV];change Hid _ at fV bJ bF bG bK eo dB ej fe H b8 j3 bU av fR;go_enter func241,ntmps241;go_wp2_with fail;go_loopg [5,6,19] (xs.length) (λg nM lu dN wr=>∃(k:Nat) (fA:bk) (fn fB:Nat) (hZ:List aA) (ee:bk) (CY gc:Nat) (gs:List bO),g+k=xs.length/\dN=.int .i64 (k:Int)/\nM=.slice fA fn fB/\lu=.slice ee CY gc/\fn<=k/\CY<=k/\Hid (Own wr w 54 3 aA.cs fA fn fB hZ)/\Hid (hZ=(((xs.take k).map (·.d)).filter (λd=>ik b.bl d.id)).map (·.id))/\Hid (Own wr w 66 8 bO.cs ee CY gc gs)/\Hid (gs.map (·.d)=((xs.take k).map (·.d)).filter (λd=> !ik b.bl d.id))/\Hid (∀p,p∈gs->h0 w p.x p.d)/\Hid (Z w wr));case atStart=>exact⟨0,none,0,0,[],none,0,0,[],J,rfl,rfl,rfl,bA _,bA _,Own.nil _ _ _ aA.bH,rfl,Own.nil _ _ _ bO.bH,rfl,(λp aV=>by cases aV),X⟩
 case round=>
  obtain⟨k,fA,fn,fB,hZ,ee,CY,gc,gs,bu,rfl,rfl,rfl,_,_,hF,Uz,LU,x5,UA,U⟩:=hrel;by_cases hk:k<xs.length
  ·obtain⟨fC,o,rfl,fW⟩:=bU.aF.get k hk;obtain⟨cT,c1,c2,da,dJ,dw,eC,eK⟩:=pd (w:=wr) (b:=fC) (o:=o+k*8) (x:=xs[k].x) (λj v aJ=>U.ah (fW j v aJ));have n3:=I (bU.ct _ (c7 hk));have yn:=n3.id;have GN:dx xs[k].x.id:=by rw[yn];exact(av _ (c7 hk)).ok.id
   obtain⟨_,_,f2,_,PG,lj,s9⟩:=H.yf.get j3 GN;have bx:Hid (Z w (wr.alloc xs[k].x)):=U.trans ((Z.refl wr).alloc _);have rC:=I (PG.ext bx);obtain⟨t,a6⟩:∃t,ik b.bl xs[k].x.id=t:=⟨_,rfl⟩;have lD:=I (s9.trans a6);have oI:=I (GG GN);have fQ:Hid ((wr.alloc xs[k].x).heap[(wr:Nat)]?=some (xs[k].x:Obj)):=fi rfl;have ZU:=I (bx.aB gp);have aDr:((((xs.take (k+1)).map (·.d)).filter (λd=>ik b.bl d.id)).map (·.id))=hZ++if t=true then [xs[k].x.id] else []:=by
    rw[iX hk,gS,zC,gS,<-Uz.out];simp only[tj,ID,HL,Lc];rw[<-yn,a6];cases t<;>simp[yn]
   have aDs:((xs.take (k+1)).map (·.d)).filter (λd=> !ik b.bl d.id)=gs.map (·.d)++if t=true then [] else [xs[k].d]:=by
    rw[iX hk,gS,zC,<-x5.out];simp only[tj,ID,HL,Lc];rw[<-yn,a6];cases t<;>simp
   refine kt ?_;intro b0 bd;change Hid _ at yn lj aDr aDs;clear fW GN PG s9 a6;go_wp2_with fail;refine sI (λw'=>Z (wr.alloc xs[k].x) w') (λa7=>?_);refine Ag ?_;refine lA 3 (·.aB ZU) ?_;refine cX 4 ?_;refine lA 5 (·.aB fQ) ?_;refine cX 6 ?_ (hy:=λw iA=>by(try dsimp only at iA);(have dV:=(rC.ext iA).ZD ER underlying158 (Uh _) (y:=_) rfl oI;rw[lj.out,lD.out]at dV);exact IG);refine cX 7 ?_;refine cX 8 ?_;refine cX 9 ?_;refine cX 10 ?_;refine cX 11 ?_;refine wpAnyH_done bV ?_ _;have aiQ:=(Z.drew (Z.refl (wr.alloc xs[k].x))).aB fQ;obtain⟨_,f1,f2,f3,_,_,_,_⟩:=lI aiQ;clear aiQ;cases t with
   |true=>
    go_wp2_with (at_builtin;refine hf (ys:=hZ) rfl (.tmp 34) (.tmp 37) 31 rfl dc _ 24 underlying31 eo dB ej fe rfl af rfl (hF.ext X) xs[k].x.id _ rfl (fc (cs:=aA.cs xs[k].x.id) (by simp)) (aA.cN _) J af (Z.size X) ?_;intro g9 ie cG hb fq);change Hid _ at hb;have LF:=I (fq.AB (hF.ext X) (LU.ext X) af);have nE:=I (fq.ext (W:=w) (hF.ext X) (bA _) X);clear fq;go_wp2_with fail;go_roundg (gk - 1);case measure=>omega
    case rel=>exact⟨k+1,_,fn+1,ie,hZ++[xs[k].x.id],ee,CY,gc,gs,J,by go_num,rfl,rfl,J,J,hb,aDr.symm,LF,by show _=_;rw[aDs.out];simp,UA,nE⟩
   |false=>
    go_wp2_with (at_builtin;refine hf (ys:=gs) rfl (.tmp 39) (.tmp 41) 42 rfl ca _ 96 underlying42 bJ bF bG bK rfl af rfl (LU.ext X) ⟨xs[k].x,xs[k].d⟩ _ rfl (fc (cs:=bO.cs ⟨xs[k].x,xs[k].d⟩) (by simp)) (bO.cN _) J af (Z.size X) ?_;intro _ ie cG hb fq);change Hid _ at hb;have awa:=I (fq.AB (LU.ext X) (hF.ext X) af);have nE:=I (fq.ext (W:=w) (LU.ext X) (bA _) X);clear fq;go_wp2_with fail;go_roundg (gk - 1);case measure=>omega
    case rel=>
     refine⟨k+1,fA,fn,fB,hZ,_,CY+1,ie,gs++[(⟨xs[k].x,xs[k].d⟩:bO)],J,by go_num,rfl,rfl,J,J,awa,by show _=_;rw[aDr.out];simp,hb,by rw[aDs.out,gS];exact rfl,λy hy=>?_,nE⟩;rcases iR.1 hy with hy|hy
     ·exact UA y hy
     ·obtain rfl:=iH.1 hy;exact n3
  ·refine se ?_;intro b9;rw[b9]at Uz x5;clear b9;have aiR:=U.aB gp;obtain⟨-,-,-,-,dJ,dw,eC,eK⟩:=lI aiR;clear aiR;go_wp2_with fail;refine(apI v.s (ag.map (·.x)) (ps.map (·.x)) b.st.ay ee CY gc gs _ (fR.l.dz.ext X) (fR.p.dz.ext X) (fR.b.ext X) ⟨LU.aF.ext X,λy hy=>(UA y hy).ext X⟩ ?_ ?_ J).mono ?_
   ·intro y hy;have ae:y.d∈(xs.map (·.d)).filter (λd=> !ik b.bl d.id):=by rw[<-x5.out];exact mJ hy
    obtain⟨z,ak,aM⟩:=kN.1 (mI.1 ae).1;rw[<-aM];exact(av z ak).ok.rH
   ·rw[fR.jE];have:=(b8.Uf ax).2.1;omega
   rintro e aN⟨aw,aDt,ac,_,h2,_,e9,rfl,mf,l8,qN,bz⟩;have kC:p7 (ag.map (·.x)) (ps.map (·.x)) b.st.ay=λi=>eD b.st.ag i||eD b.st.ps i||ik b.st.ay i:=auX fR.l fR.j9 fR.p fR.ma _;have aiS:pe (p7 (ag.map (·.x)) (ps.map (·.x)) b.st.ay) v.s.p.n (gs.map (·.d))=b.alx (xs.map (·.d)):=by
    rw[kC,fR.jE,x5.out];rfl
   rw[aiS]at l8 qN;have Ab:((xs.map (·.d)).filter (λd=> !ik b.bl d.id)).length<=16:=eh (xq _ _) (by rw[cr];exact ny);have tq:(b.alx (xs.map (·.d))).1.length<=16/\(b.alx (xs.map (·.d))).2.length<=16:=by
    have:=W2 (λi=>eD b.st.ag i||eD b.st.ps i||ik b.st.ay i) b.st.ps.length ((xs.map (·.d)).filter (λd=> !ik b.bl d.id)) ([],[]);unfold az.alx pe;simp only[nW,om]at this;omega
   have tD:∀d,d∈(b.alx (xs.map (·.d))).1->gY d:=λd aD=>by
    have UB:d∈(((xs.map (·.d)).filter (λd=> !ik b.bl d.id)).foldl (nx (λi=>eD b.st.ag i||eD b.st.ps i||ik b.st.ay i) b.st.ps.length) ([],[])).1:=aD;have ae:=(aft _ _ _ _).1 d UB;rcases ae with ae|ae
    ·cases ae
    ·obtain⟨z,ak,aM⟩:=kN.1 (mI.1 ae).1;rw[<-aM];exact av z ak
   have Gr:h2<=16:=by rw[qN.neq];exact tq.2
   have aCG:e9.length<=16:=by rw[<-cr (f:=(·.d)),l8];exact tq.1
   obtain⟨Es,LV⟩:∃P,(b.alx (xs.map (·.d))).1=P:=⟨_,rfl⟩;obtain⟨UC,GO⟩:∃P,(b.alx (xs.map (·.d))).2=P:=⟨_,rfl⟩;rw[LV]at l8 tD;rw[GO]at qN;have de:=fV.out;unfold az.ua az.Om at de;rw[LV,GO,<-Uz.out]at de;have awb:=show Z w aN from X;have rC:=I (hF.ext bz);have awc:=I U.size;have vZ:∀x,M x->x<(wr:Nat):=λx cw=>gw (H.cx x cw) awc;change Hid _ at mf l8 qN bz tD de;clear kC aiS Ab tq LV GO fV Uz x5 UA hF LU dJ dw eC eK;go_wp2_with (at_builtin;refine wpList_plain rfl λoL ns=>?_;refine wC (c:=aA.cs) (ys0:=hZ) (ys:=UC) (.tmp 53) (.tmp 54) 31 54 rfl dc _ 24 underlying31 eo dB ej fe rfl af rfl w awb rC rfl qN.aF aA.cN J af ?_;intro vz _ be cV Cn qb lL Li;subst Cn;refine ns _ _ ?_);have aiT:=av7 Li;have bi:=I (mf.aiP rC af af af af aiT (λx U=>.inr U));obtain⟨nY,po,oA⟩:=av5 H lL qb;have Ae:dq (la M (E0 vz)) cV (λw=>ja w aw aDt ac e9):=λw' al=>(bi.aiP qb af af af af al (λx U=>U.imp (vZ x) id)).sj;change Hid _ at qb;obtain rfl:=bi.cg.neq;change Hid _ at nY po oA Ae;clear lL Li aiT mf qN rC bi;go_wp2_with fail;go_loopg [5,58] (e9.length) (λg nM dN wr=>∃(k:Nat) (M' bP bZ:ff) (b':az) (gW:tK) (c0:bk) (hl jv:Nat) (rx:List aA),g+k=e9.length/\dN=.int .i64 (k:Int)/\nM=.slice c0 hl jv/\hl<=32+k/\Hid (dU wr M' bP bZ c p q b' gW)/\Hid (gz c l R n b')/\Hid (nj w M D O wr M' bP bZ)/\Hid (Own wr w 54 3 aA.cs c0 hl jv rx)/\Hid (∀ai,c0=some ai->M' ai.block/\¬bP ai.block/\¬bZ ai.block)/\Hid (dq M' wr (λw=>ja w aw e9.length ac e9))/\Hid ((Es.take k).foldl (vR c) (b,hZ++UC)=(b',rx)));case atStart=>exact⟨0,_,D,O,b,v,vz,fn+h2,be,hZ++UC,J,rfl,rfl,J,nY,b8,po,qb,oA,Ae,rfl⟩
   case round=>
    obtain⟨k,_,bP,bZ,b',_,c0,hl,jv,rx,_,rfl,rfl,_,br,aL,fy,dO,bC,fE,ch⟩:=hrel;by_cases hk:k<e9.length
    ·have iG:=fE.dQ;obtain⟨fC,o,rfl,fW⟩:=iG.aF.get k hk;obtain⟨_,_,_,_,_,_,_,_⟩:=pd (w:=wr) (b:=fC) (o:=o+k*8) (x:=e9[k].x) fW;have n3:=I (iG.ct _ (c7 hk));have An:k<Es.length:=by rw[<-l8.out,cr];exact hk
     have k7:e9[k].d=Es[k]:=by
      have ae:(e9.map (·.d))[k]? =Es[k]? :=by rw[l8.out]
      rw[nu,fz hk,fz An]at ae;exact wL ae
     have pW:gY e9[k].d:=by rw[k7];exact tD _ (c7 An)
     have hS:=av8 c Es k An (b,hZ++UC);rw[ch.out,<-k7]at hS;have fQ:Hid ((wr.alloc e9[k].x).heap[(wr:Nat)]?=some (e9[k].x:Obj)):=fi rfl;obtain⟨qU,z,n4⟩:∃qU z,b'.note c (jx e9[k].d)=(qU,z):=⟨_,_,rfl⟩;have b0:(0:Int)<=(k:Int):=J;have bd:(k:Int)<(e9.length:Int):=J;change Hid _ at hS pW;clear iG fW k7;go_wp2_with fail;refine(Pt (br.ext (w':=wr.alloc e9[k].x) X) aL ax e9[k].x (jx e9[k].d) (n3.ext X) (λk=>absurd rfl k.2) (Yz pW) (.inr (.inr (.inl ⟨_,rfl,pW.ok⟩)))).mono ?_;rintro e _⟨_,_,_,rfl,⟨v9,jB⟩,jq⟩;have pz:=IU aL (Yz pW) (au4 _);rw[n4]at jB pz;rw[n4];have oJ:=(Z.refl wr).alloc e9[k].x;have mV:=I ((fy.ext oJ).wS jq);have jo:=I (jq.bI (dO.ext oJ) (λai aj=>(bC ai aj).2));have CX:=I (jq.row (dO.ext oJ) bC);have me:=I (nj.pJ jq (br.ext oJ) (fE.step (.of oJ) (b4.eG _ _)));have GQ:=br.cx;have hG:=(jq.dT.block _ (bT fQ) (λz=>z.elim (λy=>by have:=GQ _ (br.sP _ y);omega) (λy=>by have:=GQ _ (br.sub _ y);omega))).trans fQ;obtain⟨-,_,_,_⟩:=vx hG;have yn:=I n3.id;change Hid _ at n4 jB pz;clear jq oJ GQ hG br aL fy dO bC fE ch;cases z with
     |true=>
      go_wp2_with fail;go_roundg (gk - 1);case measure=>omega
      case rel=>exact⟨k+1,_,_,_,qU,v9,c0,hl,jv,rx,J,by go_num,rfl,J,jB,pz,mV,jo,CX,me,by rw[hS.out];unfold vR;rw[n4.out,if_pos rfl];exact rfl⟩
     |false=>
      go_wp2_with (at_builtin;refine hf (ys:=rx) rfl (.tmp 67) (.tmp 70) 31 rfl dc _ 24 underlying31 eo dB ej fe rfl af rfl (jo.ext ((Z.refl _).alloc _)) e9[k].x.id _ rfl (fc (cs:=aA.cs e9[k].x.id) rfl) (aA.cN _) J af (eh mV.dT.size ((Z.refl _).alloc _).size) ?_;intro _ vF _ xd BB);obtain⟨I6,lS,ll,yo,aiU⟩:=av3 jB mV jo CX BB xd;change Hid _ at lS ll yo;have zq:=I (aiU _ me);change Hid _ at xd;clear aiU BB;go_wp2_with fail;go_roundg (gk - 1);case measure=>omega
      case rel=>exact⟨k+1,I6,_,_,qU,v9,_,hl+1,vF,rx++[e9[k].x.id],J,by go_num,rfl,J,lS,pz,ll,xd,yo,zq,by rw[hS.out];unfold vR;rw[n4.out,if_neg (by simp),yn.out];exact rfl⟩
    ·have b9:Es.take k=Es:=ir (by rw[<-l8.out,cr];omega);rw[b9]at ch;clear b9;obtain⟨te,y1⟩:=fy.wb br H.sP H.sub;have rY:dq (λx=>M x\/bP x\/bZ x) wr (λw=>a1 w 3 aA.cs c0 hl jv rx):=λw' al=>
      (al.bI dO (λai aj k=>k.elim (λz=>by have:=H.cx _ z;have:=(dO.lt ai aj).1;omega) (λz=>z.elim (bC ai aj).2.1 (bC ai aj).2.2))).aF
     obtain⟨v7,v8⟩:=te.av6 (w':=wr.setCell (p,11) (aq c0 hl jv)) (t:=⟨c0,hl,jv⟩) rY rfl;obtain⟨-,-,-,-,-,-,-,-,-,-,-,_,_⟩:=aqg te.box;have zm:=I (y1.trans (ig.kF v8 te.bI.1));have gd:=de.out;rw[ch.out]at gd;subst gd;change Hid _ at v7;clear v8 te y1 rY de;go_wp2;go_end0;exact⟨_,_,_,rfl,⟨_,v7⟩,zm⟩
end Go.Proofs.YtfiiblnenhdlhaaGreat
