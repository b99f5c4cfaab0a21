/- Part. -/
import Derived.Test.YtfiiblnenhdlhaaGreatC3
set_option linter.unusedVariables false
set_option linter.unusedSimpArgs false
set_option linter.defProp false
set_option maxRecDepth 100000
set_option maxHeartbeats 4000000
namespace Go.Proofs.YtfiiblnenhdlhaaGreat
open Go.RowKit Tryz
variable {cs:Array Value}{z:Int}{rs:List Nat}{au ps:List bU}{cp:List e9}{b base cap h k m n:Nat}{S:Nat->Prop}{a:Option Addr}{α β:Type}{t:TypeId}{w w':World}{x:bR}{d:bb}{r:e9}
def IP{c:α->List Value}{sz:Nat}{ys0 ys:List α}{P:Program}{ops:Array Oper}{o:Oper}{a:Act}{K:Act->aC->Prop}{Q:Exit->Act->aC->Prop}{E:Prop}(nz:o.guard=none)(s x:Operand)(t e:TypeId)(aM:o.op=.call {callee:=.builtin .append,args:=#[s,x],argTypes:=#[t,t]})(i:TypeInfo)(z:Value)(bytes:Nat)(bm:P.underlying t=some (.slice e))(aK:P.info? e=some i)(bp:i.zero=some z)(yN:i.size=sz)(wS:i.bytes=bytes)(yO:z.cells.size=sz)(fs:0<sz){aA:bl}{n0 wW:Nat}(hs:a.eval s=.slice aA n0 wW)(aJ:aH w base e sz c aA n0 wW ys0)(CH:base<=(w:Nat)){sa:bl}(X:a.eval x=.slice sa n cap)(bj:a7 w sz c sa n cap ys)(af:∀y,∀u∈c y,u.oneCell'=true)(aq:(n0+n)*bytes<=140737488355328)(jt:0<bytes)(Es:0<n)(h:∀g dE w',aH w' base e sz c (some (g,0)) (n0+n) dE (ys0++ys)->lL w w' aA g->K (a.put o.dst (.slice (some (g,0)) (n0+n) dE)) w'):if Region.wanted o (yielded ops a.tmps)=true then Oper.wp P o a w K Q else E:=by
 have hbound:n0+n<=(n0+n)*bytes:=Ny _ jt;cases sa with
 |none=>have:=bj.none rfl;have:=bj.len;omega
 |some ai=>
  refine step_append_lies w nz s x t aM base e i z sz bytes bm aK bp yN wS yO fs (ao aA n0 wW) n0 _ hs aJ.row ai n cap (ys.flatMap c) X bj.W5 (bj.Nx fs) ?_ Es (by simp only[maxLen];omega) aq CH _ rfl ?_;exact R2
  ·intro g dE w' pv b2 j1 _;rw[<-vN]at pv;have hlen:n0+n=(ys0++ys).length:=by rw[c9,<-aJ.neq,<-bj.neq]
   refine h g dE w' ⟨pv,hlen,bj.bI⟩ ⟨b2.os,b2.tape,b2.output,b2.size,λb ad dj=>b2.block b ad (λe=>?_),?_⟩;exact RN;exact RO
def apa(M D L:eZ)(p q:Nat)(jn:List (eg))(fF room:Nat)(a:bl)(n c:Nat)(xs:List gN)(w:aC)(H:qy w M D L p q jn fF room)(tC:cv M w (λw=>xg w a n c xs))(aZ:0<n)(aq:n<=1000)(e3:∀x,x∈xs->1<=x.aB.length/\x.aB.length<=4000)(bk:(gj jn).length+(gj (xs.map (·.aB))).length<=room):
  aS 311 #[p,ao a n c] w λe w'=>e=.returned av/\∃bX la,qy w' (k9 M (n5 bX la)) bX la p q (jn++xs.map (·.aB)) fF room/\aI (n5 D L) w w'/\b4 w D bX/\b4 w L la:=by
 obtain⟨dK,eY,e5,e6,e7⟩:=fB Tq;obtain⟨hD,h5,j3,ys,H1,dg,fO,gC,hg⟩:=H.ck;have eB:w.cell? (p,0)=some ↑q:=aL H1 rfl;have bV:=tC.c8;have YO:=bV.aF.neq;have adV:aa (∀cz:List gN,cz.map (·.aB)=xs.map (·.aB)->cz.length=n):=λcz bp=>by have:=eH List.length bp;rw[cx,cx]at this;omega
 have aAe:h5<=200000:=by
  have cm:=Le jn;have fo:=H.AE.max;have iM:=dg.neq;have kB:=eH List.length gC;rw[cx]at kB;omega
 replace eY:=I eY;replace e5:=I e5;replace e6:=I e6;replace e7:=I e7;replace bV:=I bV;replace tC:=I tC;replace H:=I H;replace H1:=I H1;replace dg:=I dg;replace fO:=I fO;replace gC:=I gC;replace hg:=I hg;replace YO:=I YO;go_enter func311,ntmps311;go_wp2_with fail;refine(YM _ _ _ xs _ bV J e3).mono ?_;rintro e _⟨cE,da,_,rfl,c7,bE⟩;have fC:=c7.neq;have apb:0<da:=by have:=Le (xs.map (·.aB));rw[cx,<-YO.out]at this;omega
 have qz:=bE.ag eB;replace c7:=I c7;replace fC:=I fC;replace bE:=I bE;go_wp2_with fail;refine(adP D q _ _ _ _ _ _ _ _ (H.AE.ext bE) c7.aF apb (by rw[fC.out];exact bk)).mono ?_;rintro e aN⟨rfl,sM,hQ,e8,nC⟩;have Lf:=H.gL;have mm:=(e8.block p (bZ (bE.ay H1)) (λk=>Lf p k H.p)).trans (bE.ay H1);have dI:=e8.bS (dg.ext bE) (λai ak k=>Lf _ k (fO ai ak));have aAf:aN.cell? (p,1)=some ↑(ao hD h5 j3):=aL mm rfl;have jx:aI D w aN:=(aI.of bE).trans e8;have lV:=I (tC aN (jx.sub (λb ad=>H.sub b (.inl ad))));replace hQ:=I hQ;replace jx:=I jx;replace nC:=I nC;replace mm:=I mm;replace dI:=I dI;have bz:=I bE.size;clear e8 eB qz;go_wp2_with fail;go_region_law (first|(refine IP (ys0:=ys) (ys:=cz) (c:=gN.cs) rfl (.tmp 31) (.tmp 33) 114 107 rfl dK _ 24 OW eY e5 e6 e7 rfl ah rfl (dI.ext (fc.trans U)) (gz _) rfl (cK.cj.aF.ext U) gN.cQ (by have:=adV.out cz EO;have:=cK.cj.neq;omega) ah (by have:=adV.out cz EO;have:=cK.cj.neq;omega) ?_;intro g dF cB q3 YP;have Tz:=YP.ay ((show Z a6 _ from U).ay q4) (λai ak k=>dI.eW mm ah ai ak k);have aAg:=aL (o:=1) Tz rfl;have aAh:∀j,cB.frozen? ⟨p,j,none⟩=false:=(λj=>nM Tz);have ed:=I q3;have AF:=I YP;have adW:=I Tz;clear q3 YP Tz)|(rw[bc (show _=true by simp[Region.wanted])];go_simp;go_at_call 79;refine(YL _ _ _ xs _ (lV.ext U) J (λx X=>(e3 x X).2)).mono ?_;rintro e a6⟨a3,fI,_,cz,rfl,GC,AB,kL⟩;have q4:=kL.ay ((show Z aN _ from U).ay mm);have aAi:=aL (o:=1) q4 rfl;have cK:=I GC;have EO:=I AB;have fc:=I (Z.trans (show Z aN _ from U) kL);replace q4:=I q4;clear GC AB kL))
 all_goals
  go_wp2
  go_ret
  have p7:(w:Nat)<=(aN:Nat):=jx.size
  have IQ:=hQ.b5
  have EP:∀b,L b->b<(w:Nat):=λb ad=>H.b5 b (H.sub b (.inr ad))
  have OX:=H.b5
  have TA:=fc.size
  have we:=ed.lt _ rfl
  simp only at we
  have apc:=AF.at_
  have YQ:aI L aN (cB.setCell (p,1) (.slice (some (g,0)) (h5+fI) dF)):=by
   refine aI.setCell (S:=L) ?_ (p,1) (.inl H.p) _
   have kL:=fc.out
   exact aI.trans (aI.of (show Z aN _ from by exact U)) ⟨AF.os,AF.tape,AF.output,AF.size,λb ad nN=>AF.block b ad (λai ak e=>nN (e▸fO.out ai ak))⟩
  have YR:aI L a6 (cB.setCell (p,1) (.slice (some (g,0)) (h5+fI) dF)):=by
   refine aI.setCell (S:=L) ?_ (p,1) (.inl H.p) _
   exact aI.trans (aI.of (show Z a6 _ from by exact U)) ⟨AF.os,AF.tape,AF.output,AF.size,λb ad nN=>AF.block b ad (λai ak e=>nN (e▸fO.out ai ak))⟩
  have g3:=AF.size
  have Lg:∀b,sM b->¬L b:=λb ad a1=>(nC.new b ad).elim (λk=>Lf b k a1) (λk=>by have:=EP b a1;have:=bz.out;omega)
  have xi:L g\/g=(a6:Nat):=apc.imp (fun⟨ai,ak,e⟩=>e▸fO.out ai ak) id
  have YS:(cB.setCell (p,1) (.slice (some (g,0)) (h5+fI) dF)).heap.size=(cB:Nat):=by simp[World.setCell]
  have p6:=ed.lY adW (j:=1) ah (.slice (some (g,0)) (h5+fI) dF)
  have Lh:=cK.ee YR (λb ad=>by have:=EP b ad;show b<(aN:Nat);omega)
  have BK:b4 w M (k9 M (n5 sM (λb=>L b\/b=g))):=⟨λb ad=>.inl ad,λb ad=>by
   rcases ad with ad|ad|ad|ad
   ·exact .inl ad
   ·exact(nC.new b ad).elim (λk=>.inl (H.sub b (.inl k))) (λk=>.inr (ek bz k))
   ·exact .inl (H.sub b (.inr ad))
   ·subst ad
    exact xi.elim (λk=>.inl (H.sub _ (.inr k))) (λk=>.inr J)⟩
  have apd:=hg.step ((jx.sub (λb ad=>H.sub b (.inl ad))).trans (YQ.sub (λb ad=>H.sub b (.inr ad)))) BK
  have YT:=Lh.kS (M:=k9 M (n5 sM (λb=>L b\/b=g))) (λb ad=>by
   rcases ad with ad|ad|ad|ad
   ·have:=OX b ad;exact .inl (show b<(aN:Nat) by omega)
   ·exact .inl (IQ b ad)
   ·have:=EP b ad;exact .inl (show b<(aN:Nat) by omega)
   ·subst ad
    rcases p6.row.2 with ⟨bw,_⟩|⟨F4,aR,cur,bw,_,bC,_⟩
    ·cases bw
    ·simp only[Value.slice.injEq,Option.some.injEq,Addr.mk.injEq,H9]at bw
     obtain⟨rfl,_⟩:=bw
     exact .inr (.inr ⟨_,_,_,bC,ah⟩))
  refine⟨rfl,sM,λb=>L b\/b=g,⟨?_,⟨some (g,0),h5+fI,dF,ys++cz,en adW 1 _,p6,λai ak=>by cases ak;exact .inr rfl,by rw[fT,gC.out,EO.out],λw' aj y hy=>(ie.1 hy).elim (λk=>apd w' aj y k) (λk=>YT w' aj y k)⟩,.inl H.p,λb ad=>.inr ad,λb ad=>?_,λb ad a1=>?_,?_⟩,(jx.sub (λb ad=>.inl ad)).trans (YQ.sub (λb ad=>.inr ad)),⟨nC.up,λb ad=>(nC.new b ad).imp id (λk=>ek bz k)⟩,⟨λb ad=>.inl ad,λb ad=>?_⟩⟩
  ·have e:gj (jn++xs.map (·.aB))=gj jn++gj (xs.map (·.aB)):=by unfold gj;rw[vN]
   rw[e]
   exact hQ.ee YQ Lg
  ·rw[YS]
   rcases ad with ad|ad|ad|ad
   ·have:=OX b ad;omega
   ·have:=IQ b ad;omega
   ·have:=EP b ad;omega
   ·subst ad;exact we.2
  ·rcases a1 with a1|a1
   ·exact Lg b ad a1
   ·subst a1
    have:=IQ _ ad
    exact xi.elim (λk=>Lg _ ad k) (λk=>by omega)
  ·intro x X
   rcases ie.1 X with X|X
   ·exact H.ok x X
   ·obtain⟨y,hy,rfl⟩:=lU.1 X
    exact e3 y hy
  ·rcases ad with ad|ad
   ·exact .inl ad
   ·subst ad
    exact xi.elim .inl (λk=>.inr J)
def ape(M D L:eZ)(p q:Nat)(jn:List (eg))(fF room:Nat)(a:bl)(n c:Nat)(xs:List gN)(w:aC)(H:qy w M D L p q jn fF room)(Ey:cv M w (λw=>xg w a n c xs))(aq:n<=1000)(e3:∀x,x∈xs->1<=x.aB.length/\x.aB.length<=4000)(bk:room<(gj jn).length+(gj (xs.map (·.aB))).length):
  aS 311 #[p,ao a n c] w (cU (bo 90) w):=by
 obtain⟨_,_,_,_,af,an,aO,bt,cC⟩:=H.ck;have eB:w.cell? (p,0)=some ↑q:=aL af rfl;have bV:=I Ey.c8;replace H:=I H;clear Ey af an aO bt cC;go_enter func311,ntmps311;go_wp2_with fail;refine(YM _ _ _ xs _ bV J e3).mono ?_;rintro e _⟨cE,_,_,rfl,c7,bE⟩;have fC:=c7.neq;have qz:=bE.ag eB;replace c7:=I c7;replace fC:=I fC;replace bE:=I bE;go_wp2_with fail;refine(ao1 D q _ _ _ _ _ _ _ _ (H.AE.ext bE) c7.aF (by rw[fC.out];exact bk)).mono ?_;rintro e _⟨rfl,fW⟩;replace fW:=I fW;go_wp2;go_ret;exact⟨rfl,bE.trans fW⟩
def aI.xj{adX:eZ}{w1 aN:aC}(h:aI S w w1)(k:aI adX w1 aN)(bk:∀b,adX b->S b\/(w:Nat)<=b):aI S w aN:=
 ⟨k.os.trans h.os,k.tape.trans h.tape,k.output.trans h.output,ek h.size k.size,λb ad aq=>(k.block b (fQ ad h.size) (λq=>(bk b q).elim aq (λz=>by omega))).trans (h.block b ad aq)⟩
def qy.apf{M D L:eZ}{p q:Nat}{jn:List (eg)}{fF room:Nat}(h:qy w M D L p q jn fF room)(aG:lB w' D q (gj jn) m room)(aj:aI D w w'):qy w' M D L p q jn m room:=by
 obtain⟨hD,h5,j3,ys,af,an,aO,bt,cC⟩:=h.ck;exact⟨aG,⟨hD,h5,j3,ys,(aj.block _ (bZ af) (λk=>h.gL p k h.p)).trans af,aj.bS an (λai ak k=>h.gL _ k (aO ai ak)),aO,bt,cC.step (aj.sub (λb ad=>h.sub b (.inl ad))) (b4.refl _ _)⟩,h.p,h.sub,λb ad=>fQ (h.b5 b ad) aj.size,h.gL,h.ok⟩
def apg(M D L:eZ)(p q:Nat)(jn:List (eg))(fF room:Nat)(a:bl)(n c:Nat)(xs:List gN)(w:aC)(H:qy w M D L p q jn fF room)(tC:cv M w (λw=>xg w a n c xs))(aZ:0<n)(aq:n<=1000)(e3:∀x,x∈xs->1<=x.aB.length/\x.aB.length<=4000)(bk:(gj jn).length+(gj (xs.map (·.aB))).length<=room):
  aS 288 #[p,ao a n c] w λe w'=>e=.returned av/\∃bX la,qy w' (k9 M (n5 bX la)) bX la p q (jn++xs.map (·.aB)) (gj (jn++xs.map (·.aB))).length room/\aI (n5 D L) w w'/\b4 w D bX/\b4 w L la:=by
 change aa _ at H tC;go_enter func288,ntmps288;go_wp2_with fail;refine(apa M D L p q jn fF room a n c xs _ H tC aZ aq e3 bk).mono ?_;rintro e w1⟨rfl,Di,zn,pc,ih,o4,adY⟩;obtain⟨_,_,_,_,af,-⟩:=pc.ck;have eB:w1.cell? (p,0)=some ↑q:=aL af rfl;change aa _ at pc ih o4 adY;clear af;go_wp2_with fail;refine(aoZ Di q _ _ _ _ pc.AE).mono ?_;rintro e _⟨rfl,hQ,jx⟩;change aa _ at hQ jx;go_wp2;go_ret;refine⟨rfl,Di,zn,pc.apf hQ jx,ih.xj jx (λb ad=>(o4.new b ad).imp .inl id),o4,adY⟩
def aph(M D L:eZ)(p q:Nat)(jn:List (eg))(fF room:Nat)(a:bl)(n c:Nat)(xs:List gN)(w:aC)(H:qy w M D L p q jn fF room)(tC:cv M w (λw=>xg w a n c xs))(aq:n<=1000)(e3:∀x,x∈xs->1<=x.aB.length/\x.aB.length<=4000)(bk:room<(gj jn).length+(gj (xs.map (·.aB))).length):
  aS 288 #[p,ao a n c] w (cU (bo 90) w):=by
 change aa _ at H tC;go_enter func288,ntmps288;go_wp2_with fail;refine qQ (ape M D L p q jn fF room a n c xs _ H tC aq e3 bk) λw1 bn=>?_;go_wp2;go_ret;exact⟨rfl,bn⟩
def api(M D L:eZ)(p q:Nat)(jn:List (eg))(fF room:Nat)(a:bl)(n c:Nat)(xs:List gN)(w:aC)(H:qy w M D L p q jn fF room)(tC:cv M w (λw=>xg w a n c xs))(aq:n<=200000)(e3:∀x,x∈xs->1<=x.aB.length/\x.aB.length<=4000)(bk:(gj (xs.map (·.aB))).length<=room):
  aS 188 #[p,ao a n c] w λe w'=>e=.returned av/\∃bX la,qy w' (k9 M (n5 bX la)) bX la p q (xs.map (·.aB)) (gj (xs.map (·.aB))).length room/\aI (n5 D L) w w'/\b4 w D bX/\b4 w L la:=by
 obtain⟨_,_,_,_,H1,an,aO,bt,cC⟩:=H.ck;have eB:w.cell? (p,0)=some ↑q:=aL H1 rfl;have bV:=I tC.c8;replace tC:=I tC;replace H:=I H;replace H1:=I H1;clear an aO bt cC;go_enter func188,ntmps188;go_wp2_with fail;refine(YM _ _ _ xs _ bV J e3).mono ?_;rintro e _⟨cE,_,_,rfl,c7,bE⟩;have fC:=c7.neq;have qz:=bE.ag eB;replace c7:=I c7;replace fC:=I fC;replace bE:=I bE;go_wp2_with fail;refine(ao4 D q _ (gj (xs.map (·.aB))) _ _ _ _ _ _ (H.AE.ext bE) c7.aF (by rw[fC.out];exact bk)).mono ?_;rintro e aN⟨rfl,sM,hQ,e8,nC⟩;have Lf:=H.gL;have mm:=(e8.block p (bZ (bE.ay H1)) (λk=>Lf p k H.p)).trans (bE.ay H1);have jx:aI D w aN:=(aI.of bE).trans e8;have lV:=I (tC aN (jx.sub (λb ad=>H.sub b (.inl ad))));replace hQ:=I hQ;replace jx:=I jx;replace nC:=I nC;replace mm:=I mm;have bz:=I bE.size;clear e8 eB qz;go_wp2_with fail;refine(YL _ _ _ xs _ lV J (λx X=>(e3 x X).2)).mono ?_;rintro e a6⟨a3,fI,cV,cz,rfl,cK,EO,fc⟩;have q4:=fc.ay mm;obtain⟨_,_,_⟩:=SS q4;replace cK:=I cK;replace EO:=I EO;replace fc:=I fc;replace q4:=I q4;go_wp2;go_ret;have p7:(w:Nat)<=(aN:Nat):=jx.size;have IQ:=hQ.b5;have EP:∀b,L b->b<(w:Nat):=λb ad=>H.b5 b (H.sub b (.inr ad));have OX:=H.b5;have TA:=fc.size;have ER:aI L aN (a6.setCell (p,1) (ao a3 fI cV)):=aI.setCell (S:=L) (aI.of fc) (p,1) (.inl H.p) _;have YR:aI L a6 (a6.setCell (p,1) (ao a3 fI cV)):=aI.setCell (S:=L) (aI.refl _ a6) (p,1) (.inl H.p) _;have YS:(a6.setCell (p,1) (ao a3 fI cV)).heap.size=(a6:Nat):=by simp[World.setCell]
 have Lg:∀b,sM b->¬L b:=λb ad a1=>(nC.new b ad).elim (λk=>Lf b k a1) (λk=>by have:=EP b a1;have:=bz.out;omega);have Lh:=cK.ee YR (λb ad=>by have:=EP b ad;omega)
 have YT:=Lh.kS (M:=k9 M (n5 sM (λb=>L b\/∃ai,a3=some ai/\ai.block=b))) (λb ad=>by
  rcases ad with ad|ad|ad|ad
  ·have:=OX b ad;exact .inl J
  ·exact .inl (IQ b ad)
  ·have:=EP b ad;exact .inl J
  ·exact .inr (.inl ad))
 refine⟨rfl,sM,λb=>L b\/∃ai,a3=some ai/\ai.block=b,⟨hQ.ee ER Lg,⟨a3,fI,cV,cz,en q4 1 _,Lh.cj.mono (gz _),λai ak=>.inr ⟨ai,ak,rfl⟩,EO,YT⟩,.inl H.p,λb ad=>.inr ad,λb ad=>?_,λb ad a1=>?_,λx X=>?_⟩,(jx.sub (λb ad=>.inl ad)).trans (ER.sub (λb ad=>.inr ad)),⟨nC.up,λb ad=>(nC.new b ad).imp id (λk=>ek bz k)⟩,⟨λb ad=>.inl ad,λb ad=>?_⟩⟩
 ·rw[YS];rcases ad with ad|ad|ad|⟨ai,ak,rfl⟩
  ·have:=OX b ad;omega
  ·have:=IQ b ad;omega
  ·have:=EP b ad;omega
  ·exact(cK.cj.lt ai ak).2
 ·rcases a1 with a1|⟨ai,ak,rfl⟩
  ·exact Lg b ad a1
  ·have:=IQ _ ad;have:=(cK.cj.lt ai ak).1;omega
 ·obtain⟨y,hy,rfl⟩:=lU.1 X;exact e3 y hy
 ·rcases ad with ad|⟨ai,ak,rfl⟩
  ·exact .inl ad
  ·have:=(cK.cj.lt ai ak).1;exact .inr J
def TB(x:bR)(d:bb)(w:aC)(a8:hK w x d)(hs:my d):aS 138 #[x] w (NW d w):=by
 refine NY ?_;intro ct bO bL bM bP dK eY e5 e6 e7 eB lQ lR lS lT cD ky jv db bm he ak;obtain⟨hl,ma,iI,mb,⟨eS,fn,eT⟩,⟨dL,_,dO⟩⟩:=x;dsimp only at db jv ⊢;obtain rfl:=jv.aF.neq;refine NZ ?_;intro hm KN KO dG;replace a8:=I a8;replace db:=I db;replace jv:=I jv;replace ky:=I ky;replace bO:=I bO;replace bL:=I bL;replace bM:=I bM;replace bP:=I bP;replace eY:=I eY;replace e5:=I e5;replace e6:=I e6;replace e7:=I e7;replace lQ:=I lQ;replace lR:=I lR;replace lS:=I lS;replace lT:=I lT;clear bm he ak hs;go_enter func138,ntmps138;refine N0 ?round;intro aA dE w1 cO c1 c2 cV dF dH eJ eM gn eI hn hL ib k6 pC uj uX y0 c7 bz w5 tn _ _ gk wr u3 u5 u13 u14 u15 u16 u17 u18 u19 u20 u21 u22 hrel _ _ _ _;case round=>
  obtain⟨k,ab,m,aR,ys,_,rfl,rfl,aJ,X⟩:=hrel;refine N1 ?_;intro hk
  ·refine KP ?_;intro cb;rw[cb]at aJ;refine N2 ?_;clear cO c1 c2 cV dF dH eJ eM gn eI hn hL ib k6 pC uj uX y0;intro dV q1 dk eP gV mO vV Br lr gM kM oG aBs aBt w6 vW KQ KR Ev hf;go_wp2_with fail;refine ke (v:=.agg #[hl,ma.b,ae ma.l,ae ma.s,iI,ae mb,ao aA fn dE,ao ab m aR]) (by simp[results,results138,go_sem,lr,gM,kM,oG,aBs,aBt,w6,vW]) rfl ⟨⟨hl,ma,iI,mb,⟨aA,fn,dE⟩,⟨ab,m,aR⟩⟩,rfl,⟨a8.out.k,a8.out.id,a8.out.c,a8.out.u,aH.mono (base:=(w:Nat)+1+1) ?_ (N3 (l9 _)),ys,by rw[aJ.out.2.1,ky.out],aH.mono (base:=(w1:Nat)) ?_ (lu tn),λy hy=>aH.mono (base:=(w1:Nat)) ?_ (lu tn)⟩,?_⟩;exact N4;exact N5;exact N6;exact N7
def apj(x:bR)(d:bb)(w:aC)(a8:hK w x d)(hs:my d):aS 122 #[x] w (NW d w):=by
 refine NY ?_;intro ct bO bL bM bP dK eY e5 e6 e7 eB lQ lR lS lT cD ky jv db bm he ak;obtain⟨hl,ma,iI,mb,⟨eS,fn,eT⟩,⟨dL,_,dO⟩⟩:=x;dsimp only at db jv ⊢;obtain rfl:=jv.aF.neq;refine NZ ?_;intro hm KN KO dG;replace a8:=I a8;replace db:=I db;replace jv:=I jv;replace ky:=I ky;replace bO:=I bO;replace bL:=I bL;replace bM:=I bM;replace bP:=I bP;replace eY:=I eY;replace e5:=I e5;replace e6:=I e6;replace e7:=I e7;replace lQ:=I lQ;replace lR:=I lR;replace lS:=I lS;replace lT:=I lT;clear bm he ak hs;go_enter func122,ntmps122;refine N0 ?round;intro aA dE w1 cO c1 c2 cV dF dH eJ eM gn eI hn hL ib k6 pC uj uX y0 c7 bz w5 tn _ _ gk wr u3 u5 u13 u14 u15 u16 u17 u18 u19 u20 u21 u22 hrel _ _ _ _;case round=>
  obtain⟨k,ab,m,aR,ys,_,rfl,rfl,aJ,X⟩:=hrel;refine N1 ?_;intro hk
  ·refine KP ?_;intro cb;rw[cb]at aJ;refine N2 ?_;clear cO c1 c2 cV dF dH eJ eM gn eI hn hL ib k6 pC uj uX y0;intro dV q1 dk eP gV mO vV Br lr gM kM oG aBs aBt w6 vW KQ KR Ev hf;go_wp2_with fail;refine ke (v:=.agg #[hl,ma.b,ae ma.l,ae ma.s,iI,ae mb,ao aA fn dE,ao ab m aR]) (by simp[results,results122,go_sem,lr,gM,kM,oG,aBs,aBt,w6,vW]) rfl ⟨⟨hl,ma,iI,mb,⟨aA,fn,dE⟩,⟨ab,m,aR⟩⟩,rfl,⟨a8.out.k,a8.out.id,a8.out.c,a8.out.u,aH.mono (base:=(w:Nat)+1+1) ?_ (N3 (l9 _)),ys,by rw[aJ.out.2.1,ky.out],aH.mono (base:=(w1:Nat)) ?_ (lu tn),λy hy=>aH.mono (base:=(w1:Nat)) ?_ (lu tn)⟩,?_⟩;exact N4;exact N5;exact N6;exact N7
def TC(x:bR)(d:bb)(w:aC)(a8:hK w x d)(hs:my d):aS 160 #[x] w (NW d w):=by
 refine NY ?_;intro ct bO bL bM bP dK eY e5 e6 e7 eB lQ lR lS lT cD ky jv db bm he ak;obtain⟨hl,ma,iI,mb,⟨eS,fn,eT⟩,⟨dL,_,dO⟩⟩:=x;dsimp only at db jv ⊢;obtain rfl:=jv.aF.neq;refine NZ ?_;intro hm KN KO dG;replace a8:=I a8;replace db:=I db;replace jv:=I jv;replace ky:=I ky;replace bO:=I bO;replace bL:=I bL;replace bM:=I bM;replace bP:=I bP;replace eY:=I eY;replace e5:=I e5;replace e6:=I e6;replace e7:=I e7;replace lQ:=I lQ;replace lR:=I lR;replace lS:=I lS;replace lT:=I lT;clear bm he ak hs;go_enter func160,ntmps160;refine N0 ?round;intro aA dE w1 cO c1 c2 cV dF dH eJ eM gn eI hn hL ib k6 pC uj uX y0 c7 bz w5 tn _ _ gk wr u3 u5 u13 u14 u15 u16 u17 u18 u19 u20 u21 u22 hrel _ _ _ _;case round=>
  obtain⟨k,ab,m,aR,ys,_,rfl,rfl,aJ,X⟩:=hrel;refine N1 ?_;intro hk
  ·refine KP ?_;intro cb;rw[cb]at aJ;refine N2 ?_;clear cO c1 c2 cV dF dH eJ eM gn eI hn hL ib k6 pC uj uX y0;intro dV q1 dk eP gV mO vV Br lr gM kM oG aBs aBt w6 vW KQ KR Ev hf;go_wp2_with fail;refine ke (v:=.agg #[hl,ma.b,ae ma.l,ae ma.s,iI,ae mb,ao aA fn dE,ao ab m aR]) (by simp[results,results160,go_sem,lr,gM,kM,oG,aBs,aBt,w6,vW]) rfl ⟨⟨hl,ma,iI,mb,⟨aA,fn,dE⟩,⟨ab,m,aR⟩⟩,rfl,⟨a8.out.k,a8.out.id,a8.out.c,a8.out.u,aH.mono (base:=(w:Nat)+1+1) ?_ (N3 (l9 _)),ys,by rw[aJ.out.2.1,ky.out],aH.mono (base:=(w1:Nat)) ?_ (lu tn),λy hy=>aH.mono (base:=(w1:Nat)) ?_ (lu tn)⟩,?_⟩;exact N4;exact N5;exact N6;exact N7
section
attribute [local go_sem ↓] Go.wp_at_zero Go.wp_at_succ
def adZ(er:bl)(fk lc:Nat)(xs:List bU)(w:aC)(bG:iG w er fk lc xs)(Ex:∀p,p∈xs->my p.d)(kA:fk<=1000000):
  aS 72 #[ao er fk lc] w (SA (xs.map (·.d)) w):=by
 obtain⟨ct,bO,bL,bM,bP⟩:=fB Ao;obtain rfl:=bG.aF.neq;have hm:=bG.aF.max;have a1:=bG.aF.len;unfold maxLen at hm;change aa _ at bG Ex bO bL bM bP;go_enter func72,ntmps72;go_wp2_with fail;refine aci ?round;intro gk wr u3 u5 u8 u9 u10 u11 u12 u13 u14 u15 u16 u17 hrel _ _ _ _;case round=>
  obtain⟨k,aA,m,aR,ys,_,rfl,rfl,aJ,X⟩:=hrel;by_cases hk:k<xs.length
  ·obtain⟨b,o,rfl,al⟩:=bG.aF.get k hk;refine XJ ?_;intro cO c1 c2 cV dF dH eJ eM bV ev;refine acj ?_;intro ho;obtain rfl:k=m:=ho.symm;refine ack ?_;intro lq;clear al;refine jU ?_;intro b0 bf;go_wp2_with (first|(go_at_call 122;refine(apj xs[k].x xs[k].d _ (bV.ext U) ev).mono ?_;rintro e w'⟨cH,rfl,kg,cG⟩;have jt:=cG.size;change aa _ at kg cG)|(at_builtin;refine hc (ys:=ys) rfl _ _ 42 rfl ct _ 96 aiM bO bL bM bP rfl ah rfl (aJ.out.1.ext U) ⟨cH,xs[k].d⟩ _ rfl (fi (cs:=bU.cs ⟨cH,xs[k].d⟩) rfl) (bU.cQ _) J ah (Z.size U) ?_;intro g _ _ gd b2;have cK:=I gd;have b9:=I b2;clear gd b2));exact acm
  ·refine sy ?_;intro cb;exact acn
end
def BL(ps:List Int)(n:Nat):Bool:=decide (n=0)||decide (0<=ps.getD n 0/\ps.getD n 0<(n:Int))
def j8(ps:List Int):Bool:=decide (1<=ps.length/\ps.length<=16)&&(decide (ps.getD 0 0=-1)&&(List.range ps.length).all (BL ps))
def Dj(b:Bool):Int:=if b=true then 0 else 120
def apk{ps:List Int}(h:¬(1<=ps.length/\ps.length<=16)):(120:Int)=Dj (j8 ps):=by unfold j8;rw[je h];rfl
def apl{ps:List Int}(h:¬ps.getD 0 0=-1):(120:Int)=Dj (j8 ps):=by unfold j8;rw[je h,CP,wV];rfl
def apm{ps:List Int}(hk:k<ps.length)(h:BL ps k=false):(120:Int)=Dj (j8 ps):=by
 have:(List.range ps.length).all (BL ps)=false:=Ky.2 ⟨k,xd.2 hk,by rw[h];decide⟩;unfold j8;rw[this,wV,wV];rfl
def apn{ps:List Int}(h:1<=ps.length/\ps.length<=16)(aZ:ps.getD 0 0=-1)(k:(List.range ps.length).all (BL ps)=true):(0:Int)=Dj (j8 ps):=by unfold j8;rw[jf h,jf aZ,k];rfl
def ES{ps:List Int}(hk:k<ps.length):ps.getD k 0=ps[k]:=by rw[xk,eK hk];rfl
def YU{o:Nat}{xs:List Int}(h:a7 w 1 dP (some (b,o)) n cap xs)(k:Nat)(hk:k<xs.length):w.cell? (b,o+k)=some ↑xs[k]:=acJ
def Li(a:bl)(n cap:Nat)(ps:List Int)(w:aC)(ar:a7 w 1 dP a n cap ps):
  aS 29 #[ao a n cap] w (cU (.int .i64 (Dj (j8 ps))) w):=by
 obtain rfl:=ar.neq;have hm:=ar.max;unfold maxLen at hm;change aa _ at ar;by_cases af:1<=ps.length/\ps.length<=16
 ·obtain⟨af,n1⟩:=af;have i1:¬(ps.length:Int)<1:=J;have mv:¬(16:Int)<(ps.length:Int):=J;obtain⟨b,o,rfl,al⟩:=ar.get 0 J;have cO:=YU ar 0 J;rw[uo]at cO;clear al;by_cases aZ:ps[0]=-1
  ·have YV:=I aZ;rw[aZ]at cO;clear aZ;go_enter func29,ntmps29;go_wp2_with fail;go_loopg [3] (ps.length) (λg dS wr=>∃k:Nat,g+k=ps.length+1/\(1<=k/\k<=ps.length)/\dS=.int .i64 (k:Int)/\aa ((List.range k).all (BL ps)=true)/\aa (Z w wr));case atStart=>exact⟨1,J,J,rfl,I (by simp[BL]),U⟩
   case round=>
    obtain⟨k,_,_,rfl,e3,X⟩:=hrel;by_cases hk:k<ps.length
    ·have apo:=X.ag (YU ar k hk);have dA:(k:Int)<(ps.length:Int):=J;have b0:(0:Int)<=(k:Int):=J;by_cases oM:ps[k]<0;exact ad0
     ·by_cases aAj:ps[k]>=(k:Int);exact ad0
      ·go_wp2;go_roundg (gk - 1);case measure=>omega
       case rel=>exact⟨k+1,J,J,by go_num,X8 e3 (by unfold BL;rw[ES hk];simp;omega),U⟩
    ·have TD:k=ps.length:=J;rw[TD]at e3;clear TD;go_wp2;go_ret;refine⟨jk (apn ⟨af,n1⟩ (by rw[ES J];exact YV) e3),?_⟩;exact U
  ·have YV:=I aZ;go_enter func29,ntmps29;go_wp2;go_ret;refine⟨jk (apl (by rw[ES J];exact YV)),?_⟩;exact U
 ·have H1:=I af;by_cases aoa:ps.length<1
  ·have i1:(ps.length:Int)<1:=J;exact ad1
  ·have i1:¬(ps.length:Int)<1:=J;have mv:(16:Int)<(ps.length:Int):=J;exact ad1
def ad2{ps:List Int}(h:j8 ps=true):(1<=ps.length/\ps.length<=16)/\∀k (hk:k<ps.length),(k=0/\ps[k]=-1)\/(0<k/\0<=ps[k]/\ps[k]<(k:Int)):=by
 unfold j8 at h;simp only[jS,jT,Ad,xd]at h;refine⟨h.1,λk hk=>?_⟩;have an:=h.2.2 k hk;unfold BL at an;rw[ES hk]at an;by_cases eB:k=0
 ·subst eB;have:=h.2.1;rw[ES hk]at this;exact .inl ⟨rfl,this⟩
 ·simp[eB]at an;exact .inr ⟨J,an.1,an.2⟩
def YW(a:bl)(n cap m:Nat)(ps:List Int)(w:aC)(ar:a7 w 1 dP a n cap ps)(db:j8 ps=true)(hm:m<n):
  aS 277 #[ao a n cap,(m:Int)] w (cU (.bool true) w):=by
 have b0:(0:Int)<=(m:Int):=J;have bf:(m:Int)<(n:Int):=J;change aa _ at ar db;go_enter func277,ntmps277;go_wp2_with fail;refine(Li _ _ _ ps _ ar).mono ?_;rintro e _⟨he,X⟩;rw[db.out]at he;have he:e=.returned av:=he;subst he;change aa _ at X;go_wp2;go_ret;refine⟨rfl,?_⟩;exact U
def OY(ps:List Int)(a:Nat):Nat->Int->Bool
 |0,_=>false
 |f+1,b=>if b<0 then false else if (a:Int)=b then true else OY ps a f (ps.getD b.toNat 0)
def ET(ps:List Int)(a b:Nat):Bool:=OY ps a (ps.length+1) (b:Int)
def apq(s:bl)(n cap a b:Nat)(ps:List Int)(w:aC)(ar:a7 w 1 dP s n cap ps)(db:j8 ps=true)(ak:a<n)(ad:b<n):
  aS 279 #[ao s n cap,(a:Int),(b:Int)] w (cU (.bool (ET ps a b)) w):=by
 obtain rfl:=ar.neq;have hm:=ar.max;unfold maxLen at hm;change aa _ at ar db;go_enter func279,ntmps279;go_wp2_with fail;go_step3;go_wp2_with fail;refine qQ (YW _ _ _ a ps _ ar db ak) λw1 br=>?_;go_wp2_with fail;refine qQ (YW _ _ _ b ps _ (ar.ext br) db ad) λaN cn=>?_;go_wp2_with fail;go_step3;go_wp2_with fail;obtain⟨⟨af,_⟩,aY⟩:=ad2 db;go_loopg [2,7] (ps.length+1) (λg bv qX wr=>∃(f:Nat) (v:Int),g=f/\bv=.int .i64 v/\qX=.bool false/\v<(f:Int)/\v<(ps.length:Int)/\aa (OY ps a f v=ET ps a b)/\aa (Z w wr));case atStart=>exact⟨ps.length+1,(b:Int),rfl,rfl,rfl,J,J,rfl,U⟩
 case round=>
  obtain⟨f,v,rfl,rfl,rfl,bk,_,np,X⟩:=hrel;by_cases aZ:v<0
  ·have aAk:¬0<=v:=J;go_wp2;go_ret;refine⟨jl ?_,?_⟩
   ·rw[<-np.out];cases gk with
    |zero=>rfl
    |succ f=>show false=(if v<0 then false else _);rw[bc aZ]
   ·exact U
  ·obtain⟨k,rfl⟩:∃k:Nat,v=(k:Int):=⟨v.toNat,J⟩;have hk:k<ps.length:=J;obtain⟨GD,rfl⟩:∃GD,gk=GD+1:=⟨gk - 1,J⟩;have IS:=np.out;rw[show OY ps a (GD+1) (k:Int)=(if (k:Int)<0 then false else if (a:Int)=(k:Int) then true else OY ps a GD (ps.getD (k:Int).toNat 0))from rfl,aV aZ,kN,ES hk]at IS;change aa _ at IS;clear np;by_cases j2:a=k
   ·subst j2;go_wp2;go_ret;refine⟨jl (by rw[<-IS.out];simp),?_⟩;exact U
   ·obtain⟨_,_,rfl,al⟩:=ar.get k hk;have apo:=X.ag (YU ar k hk);have b0:(0:Int)<=(k:Int):=J;have OZ:¬(a:Int)=(k:Int):=J;have fH:=aY k hk;clear al;go_wp2;go_roundg GD;case measure=>omega
    case rel=>exact⟨GD,ps[k],rfl,rfl,rfl,J,J,I (by rw[<-IS.out,aV OZ]),U⟩
def AG(ps:List Int)(m:Int)(k:Nat):List Int:=((List.range k).filter (λj=>decide (ps.getD j 0=m))).map Int.ofNat
def apr{ps:List Int}{m:Int}(h:ps.getD k 0=m):AG ps m (k+1)=AG ps m k++[(k:Int)]:=by
 unfold AG;rw[Iy,yU,fT,YX (by simpa using h)];simp
def aps{ps:List Int}{m:Int}(h:¬ps.getD k 0=m):AG ps m (k+1)=AG ps m k:=by
 unfold AG;rw[Iy,yU,fT,TE (by simpa using h)];simp
def apt(ps:List Int)(m:Int)(k:Nat):(AG ps m k).length<=k:=by
 unfold AG;rw[cx];exact ek (vP _ _) (by simp)
def Lj(S:Nat->Prop)(W W':World):Prop:=∀c,S c->W'.heap[c]? =W.heap[c]?
def Lj.cell{W W':aC}(h:Lj S W W'){c o:Nat}(al:S c):W'.cell? (c,o)=W.cell? (c,o):=Ks (h c al)
def apu(F:Fence)(n:Nat)(kv:F.fn 301)(sP:F.round=none)(aq:1<=n)(l n9 pJ b off cap:Nat)(S:eZ)(ps:List Int)(m:Int)(ad:S b)(mQ:S pJ)(YN:ps.length<=16)(mn EU:List Int->aC->Prop)(sc:∀cN x W,mn cN W->cN.length<ps.length->YieldAt F (n - 1) prog l #[.int .i64 x] W λe W'=>
   (e=.returned (.bool true)/\mn (cN++[x]) W'/\Lj S W W')\/(e=.returned (.bool false)/\EU (cN++[x]) W'))(W:aC)(af:W.cell? (n9,0)=some (.slice (some (b,off)) ps.length cap))(an:W.cell? (pJ,0)=some ↑m)(al:∀j (aD:j<ps.length),W.cell? (b,off+j)=some ↑ps[j])(aZ:mn [] W):
  CallsIn F n prog 301 #[.func (.yield l) #[] #[],n9,pJ] W λe W'=>(∃v,e=.returned v)/\
   ((∃ys,ys=AG ps m ps.length/\mn ys W')\/(∃cN,True/\EU cN W')):=by
 refine callsIn_of_wp func301 rfl kv ?_ sP;simp only[ntmps301,Iv,me,pH,Nat.reduceAdd,Nat.reduceSub,Lk,Ll,Lm,Ln,mN,Gn];gi_wp2
 gi_loopw [8] (λi wr=>∃k:Nat,k<=ps.length/\i=.int .i64 k/\mn (AG ps m k) wr/\Lj S W wr)
  (λi _=>ps.length - (intOf i).toNat)
 case atStart=>exact⟨0,gz _,rfl,aZ,λ_ _=>rfl⟩
 case round=>
  obtain⟨k,_,rfl,Lo,qY⟩:=hrel;have hn:=(qY.cell mQ).trans an;by_cases fH:k<ps.length
  ·have apv:=(qY.cell ad).trans (al k fH);by_cases aY:ps[k]=m
   ·obtain⟨_,tmps,_,_,hy,bB⟩:=sc _ (k:Int) wr Lo (by have:=apt ps m k;omega);rw[aY]at apv;have hs:=apr (m:=m) ((ES fH).trans aY);gi_wp2;refine bB.mono ?_;rintro e _ (⟨rfl,IT,Ii⟩|⟨rfl,YY⟩)
    ·gi_wp2;go_roundw;case rel=>exact⟨k+1,J,by simp,by rw[hs];exact IT,λc q=>(Ii c q).trans (qY c q)⟩
     case measure=>simp[intOf];omega
    ·gi_wp2;refine ke (results_none rfl _ _ _) rfl ?_;exact⟨⟨_,rfl⟩,.inr ⟨_,trivial,YY⟩⟩
   ·have hs:=aps (m:=m) (k:=k) (ps:=ps) (by rw[ES fH];exact aY);gi_wp2;refine⟨λf h=>(by cases h),?_⟩;gi_wp2;exact⟨⟨k+1,J,by simp,by rw[hs];exact Lo,qY⟩,by simp[intOf];omega⟩
  ·obtain rfl:k=ps.length:=J;gi_wp2;go_end0;exact⟨⟨_,rfl⟩,.inl ⟨_,rfl,Lo⟩⟩
def apw(F:Fence)(n:Nat)(kv:F.fn 301)(sP:F.round=none)(aq:1<=n)(n9 pJ b off cap:Nat)(ps:List Int)(m:Int)(w:aC)(apx:n9<(w:Nat))(YZ:pJ<(w:Nat))(apy:b<(w:Nat))(YN:ps.length<=16)(af:w.cell? (n9,0)=some (.slice (some (b,off)) ps.length cap))(an:w.cell? (pJ,0)=some ↑m)(al:∀j (aD:j<ps.length),w.cell? (b,off+j)=some ↑ps[j]):
  SeqStopsK F n prog 301 #[n9,pJ] (λx:Int=>#[x]) (Lj (λc=>c=pJ\/c=b)) (λys=>ys=AG ps m ps.length) (λ_=>True) ps.length w:=λl mn EU W fq sA _ sc aZ=>
 apu F n kv sP aq l n9 pJ b off cap _ ps m (.inr rfl) (.inl rfl) YN mn EU sc W ((fq.cell (p:=⟨n9,0,none⟩) apx).trans af) ((fq.cell (p:=⟨pJ,0,none⟩) YZ).trans an) (λj aD=>(fq.cell (p:=⟨b,off+j,none⟩) apy).trans (al j aD)) aZ
section
attribute [local go_sem] Oper.semAt_some
def TF:(prog.info? 3).map (λi=>(i.zero,i.size,i.bytes))=some (some ↑av,1,8):=bQ
def dP.tD(i:Int):(dP i).length=1:=rfl
def apz(s:bl)(n cap:Nat)(m:Int)(w:aC):aS 278 #[ao s n cap,m] w λe w'=>
  e=.returned (.func (.func 301) #[] #[w,.pointer (some (w,1,0))])/\w'=(w.alloc (.cells #[ao s n cap] 22)).alloc (.cells #[m] 3):=by
 go_enter func278,ntmps278;go_wp2;go_ret;exact⟨rfl,rfl⟩
def apA{W w1:aC}{IU B:Nat}{e:TypeId}{size:Nat}{v gX:Value}{xs ys:List Value}{tmp:Obj}(bw:Boxed W B t v)(ad3:t≠e)(p6:W.ownsRow IU e size v k xs)(aAl:IU<=(W:Nat))(gp:base<=IU)(iX:base<=B)(bj:∀c,S c->c<IU/\c≠B)(pv:w1.ownsRow IU e size gX m ys)(b2:(W.alloc tmp).grownBy w1 v.ownBlock):
  Boxed w1 B t v/\Boxed (w1.setCell ⟨B,0,none⟩ gX) B t gX/\(w1.setCell ⟨B,0,none⟩ gX).ownsRow IU e size gX m ys/\KeepsOthers W (w1.setCell ⟨B,0,none⟩ gX)/\Lj S W (w1.setCell ⟨B,0,none⟩ gX)/\Below base W (w1.setCell ⟨B,0,none⟩ gX):=by
 have EV:Boxed w1 B t v:=(bw.alloc tmp).kept b2 (bw.not_row ad3 p6);have sd:∀j,v.ownBlock=some j->IU<=j:=λj EW=>by
  rcases p6.2 with ⟨rfl,_⟩|⟨g,cap,cur,rfl,ad,_,_⟩
  ·simp[Value.ownBlock]at EW
  ·obtain rfl:g=j:=by simpa[Value.ownBlock]using EW
   exact ad
 refine⟨EV,EV.set gX,pv.kept (grownBy_setCell' w1 B gX) (.inr (EV.not_row ad3 pv).symm),?_,?_,?_⟩
 ·refine((KeepsOthers.alloc W tmp).trans (KeepsOthers.of_grownBy b2 λj o EW aD=>?_)).trans (KeepsOthers.setCell _ _ _);rcases (p6.alloc tmp).2 with ⟨rfl,_⟩|⟨g,cap,cur,rfl,_,wa,_⟩
  ·simp[Value.ownBlock]at EW
  ·obtain rfl:g=j:=by simpa[Value.ownBlock]using EW
   rw[wa]at aD;cases aD;rfl
 ·intro c al;obtain⟨af,an⟩:=bj c al;have aO:c<W.heap.size:=J;have cm:(w1.setCell ⟨B,0,none⟩ gX).heap[c]? =w1.heap[c]? :=Below.heap_setCell _ _ _ c an;have cq:w1.heap[c]? =(W.alloc tmp).heap[c]? :=b2.block c (by simp;omega) (λe=>by have:=sd c e.symm;omega);have fo:(W.alloc tmp).heap[c]? =W.heap[c]? :=(World.grownBy_alloc W tmp none).block c aO (by simp);rw[cm,cq,fo]
 ·exact(((Below.refl base W).alloc J tmp).grown b2 (by simp;omega) (λj EW=>by have:=sd j EW;omega)).setCell (p:=(B,0)) iX gX
def apB(ei:List Int):ei.flatMap dP=ei.map (.int .i64):=by
 induction ei with
 |nil=>rfl
 |cons x ei cY=>rw[ny,cY];rfl
def apC{b0:Nat}{v:Value}{ei:List Int}(ad:b0<=base)(h:w.ownsRow base 3 1 v ei.length (ei.map (.int .i64))):∃aA cap,v=.slice aA ei.length cap/\aH w b0 3 1 dP aA ei.length cap ei:=by
 have ta:=h;rw[<-apB]at ta;rcases h.2 with ⟨rfl,aZ⟩|⟨g,cap,cur,rfl,_⟩
 ·rw[aZ]at ta ⊢;exact⟨none,0,rfl,(show aH w base 3 1 dP none 0 0 ei from⟨ta,aZ.symm,dP.tD⟩).mono ad⟩
 ·exact⟨_,cap,rfl,(show aH w base 3 1 dP _ ei.length cap ei from⟨ta,rfl,dP.tD⟩).mono ad⟩
def apD(s:bl)(n cap m:Nat)(ps:List Int)(w:aC)(ar:a7 w 1 dP s n cap ps)(db:j8 ps=true)(hm:m<n):
  Calls prog 223 #[ao s n cap,(m:Int)] w (qp 3 1 dP (AG ps (m:Int) ps.length) w):=by
 obtain⟨ct,aK,fa,fj,pB⟩:=fB TF;obtain⟨⟨af,n1⟩,b8⟩:=ad2 db;have l8:=ar.neq;have c3:=I l8;obtain⟨b,o,rfl,apE⟩:=ar.get 0 J;have cg:∀j (aD:j<ps.length),w.cell? ⟨b,o+j,none⟩=some (.int .i64 ps[j]):=by
  intro j aD;obtain⟨_,ll,e,al⟩:=ar.get j aD;cases e;simpa using al 0 _ rfl
 have mV:=Ee (cg 0 J);replace cg:=I cg;clear apE;subst l8;replace ar:=I ar;replace db:=I db;replace b8:=I b8;refine(EX (n:=4)).1 ?_;have sP:Fence.wide.round=none:=rfl;refine callsIn_of_wp_marks func223 rfl trivial ?_ sP;simp only[ntmps223,Iv,me,pH,Nat.reduceAdd,Nat.reduceSub,Lk,Ll,Lm,Ln,mN,Gn];gi_wp2;refine⟨trivial,EX.2 ((YW _ _ _ m ps _ ar db hm).mono ?_)⟩;rintro e w1⟨rfl,br⟩;replace br:=I br;gi_wp2;refine⟨trivial,EX.2 ((apz _ _ _ _ _).mono ?_)⟩;rintro e aN⟨rfl,rfl⟩;gi_wp2;rename_i K mx;have kE:=br.size;have Ez:=((Boxed.new w1 22 (.slice none 0 0)).alloc (.cells #[.slice (some ⟨b,o,none⟩) ps.length cap] 22)).alloc (.cells #[(m:Int)] 3);have b7:Z w (((w1.alloc (.cells #[aP] 22)).alloc (.cells #[.slice (some ⟨b,o,none⟩) ps.length cap] 22)).alloc (.cells #[(m:Int)] 3)):=((br.alloc _).alloc _).alloc _
 refine wpIn_rangeFunc_ownG sP ah (gf:=301) (lb:=#[.pointer (some ⟨w1.heap.size+1,0,none⟩),.pointer (some ⟨w1.heap.size+2,0,none⟩)]) rfl trivial (enters_of func301 bQ rfl)
  (apw Fence.wide 3 trivial sP ah (w1.heap.size+1) (w1.heap.size+2) b o cap ps (m:Int) _ (by simp) (by simp) (by simp at mV ⊢;omega) n1 (by simp[go_sem]) (by simp[go_sem]) (λj aD=>b7.ag (cg j aD)))
  (λh k c q=>(k c q).trans (h c q)) ?kT (Below.refl _ _) (λ_=>rfl)
  (fun(cN:List Int) W=>(∃v,Boxed W w1.heap.size 22 v/\W.ownsRow (w1.heap.size+3) 3 1 v cN.length (cN.map (Value.int .i64))/\True)/\Below w.heap.size w W/\w1.heap.size+3<=W.heap.size)
  (λ_ _ _=>False)
  (OwnFrom.and (Own.from (holdsRow_own (w1.heap.size+3) w1.heap.size 22 3 1 (λcN:List Int=>cN.length) (λcN:List Int=>cN.map (Value.int .i64)) (fun(_:List Int) _=>True)) _) (OwnFrom.and (ownFrom_below (bJ _) (by simp;omega)) (λ_ _ _ _ hs bC _=>ek hs bC.size)))
  (λ_ _ _ _ _ hs _ _=>hs)
  ⟨⟨_,Ez,World.ownsRow_nil _ _ _ _,trivial⟩,b7,by simp⟩
  (λx=> {tmps:=#[.slice (some ⟨b,o,none⟩) ps.length cap,.int .i64 (m:Int),undef,undef,.slice none 0 0,.pointer (some ⟨w1.heap.size,0,none⟩),.int .i64 x,.slice (some ⟨b,o,none⟩) ps.length cap,.int .i64 (m:Int),.bool true,.bool false,.slice (some ⟨b,o,none⟩) ps.length cap,.int .i64 (m:Int),.func (.func 301) #[] #[.pointer (some ⟨w1.heap.size+1,0,none⟩),.pointer (some ⟨w1.heap.size+2,0,none⟩)],.int .i64 x,undef,undef,undef,undef,undef],defers:= []}) ?assign ?body ?done ?stop
 case kT=>
  intro W l _ ll a1 fq _ _ c al;refine(grownBy_putObj' W l ll).block c ?_ ?_
  ·have:=(Et.1 fq).1;simp at a1;rcases al with rfl|rfl<;>omega
  ·simp at a1 ⊢;rcases al with rfl|rfl<;>omega
 case assign=>
  clear mx;intro l x W K aE;gi_wp2;exact aE
 case body=>
  clear mx;rintro l cN x W⟨⟨v,bw,p6,_⟩,bx,fs⟩ _;have al:=bw.cell;have dj:w1.heap.size≠w1.heap.size+3:=J;gi_wp2_with (gi_at_builtin;refine wpListIn_append_own _ rfl _ _ 22 rfl (w1.heap.size+3) 3 ct (.int .i64 0) 1 8 yW aK fa fj pB rfl ah _ _ _ rfl (p6.alloc _) ⟨W.heap.size,0,none⟩ 1 1 [.int .i64 x] rfl rfl (cell_one_new _ _ _) (by simp[Value.oneCell']) (by simp only[maxLen];omega) J (by simp;omega) ?_;intro _ _ pv b2 _;obtain⟨_,dE,rfl⟩:=ownsRow_succ pv;obtain⟨EV,Y0,kt,jV,apF,iX⟩:=apA (S:=λc=>c=w1.heap.size+2\/c=b) (base:=w.heap.size) bw ah p6 fs J J (by rintro c (rfl|rfl)<;>omega) pv b2;have KF:=EV.cell;have apG:=EV.frozen);exact⟨jV.from _,apF,⟨_,Y0,by simpa using kt,trivial⟩,bx.trans iX,by have:=iX.size;omega⟩
 case done=>
  rintro D _ W jw rfl⟨⟨v,bw,p6,_⟩,bx,_⟩ aE;have al:=bw.cell;refine mx _ _ ?_;gi_wp2;refine⟨by simp,.inl ⟨_,_,rfl,run_takeDeferred aE,?_⟩⟩;have Y1:=ownsRow_putObj p6 (.deferred none) aE rfl;obtain⟨aA,dE,rfl,dX⟩:=apC (b0:=w.heap.size) J Y1;exact⟨_,results_tmp rfl _ _ _,aA,_,dE,rfl,dX,bx.trans ((Below.refl _ _).grown (grownBy_putObj' W D _) (by have:=bx.size;omega) (λj EW=>by cases EW;simp at jw;omega))⟩
 case stop=>
  rintro D c _ W _ _ h _;exact h.elim
end
structure ew where
 l:Nat
 au:List bb
 ps:List bb
 aB:List ax
def kU:ew:=⟨0,[],[],[]⟩
def iP(l:List bb)(i:ax):Bool:=l.any (λd=>cc d.id i)
def kl(l:List ax)(i:ax):Bool:=l.any (λj=>cc j i)
def rH(l:List bb)(i:ax):List bb:=l.filter (λd=> !cc d.id i)
def fl(s:ew)(r:e9):Option ew:=
 if r.k=1 then (if r.n<=s.l then none else some {s with l:=r.n})
 else if r.k=2 then (if r.n≠s.au.length\/iP s.au r.e.id=true\/kl s.aB r.e.id=true then none else some {s with au:=s.au++[r.e],ps:=rH s.ps r.e.id})
 else if r.k=3 then (if iP s.au r.e.id=true\/iP s.ps r.e.id=true\/kl s.aB r.e.id=true then none else some {s with ps:=s.ps++[r.e]})
 else if r.k=4 then (if iP s.au r.id=true\/kl s.aB r.id=true then none else some {s with aB:=s.aB++[r.id],ps:=rH s.ps r.id})
 else if iP s.ps r.id=true then some {s with ps:=rH s.ps r.id} else none
def nT(s:ew):List e9->Option ew
 | []=>some s
 |r::l=>match fl s r with|some s'=>nT s' l|none=>none
def q5(s:ew):List e9:=
 (if s.l=0 then [] else [nR s.l])++(s.au.mapIdx iA++(s.ps.map kR++s.aB.map mU))
structure O0 (s:ew):Prop where
 l:gw s.l
 au:∀d,d∈s.au->gZ d
 ps:∀d,d∈s.ps->gZ d
 aB:∀i,i∈s.aB->dY i
 se:s.au.length<=200000
 h6:s.ps.length<=200000
 bW:s.aB.length<=200000
structure q6 (w:World) (s:iJ) (d:ew) (au ps:List bU):Prop where
 cX:s.cX=(d.l:Int)
 l:iG w s.l.a s.l.n s.l.c au
 jI:au.map (·.d)=d.au
 p:iG w s.p.a s.p.n s.p.c ps
 kV:ps.map (·.d)=d.ps
 b:a7 w 3 ax.cs s.b.a s.b.n s.b.c d.aB
def q6.ext{s:iJ}{d:ew}(h:q6 w s d au ps)(X:Z w w'):q6 w' s d au ps:=⟨h.cX,h.l.ext X,h.jI,h.p.ext X,h.kV,h.b.ext X⟩
def ad4{aU:List bb}(h:au.map (·.d)=aU){p:bU}(aY:p∈au):p.d∈aU:=by rw[<-h];exact nH aY
def q6.se{s:iJ}{d:ew}(h:q6 w s d au ps):s.l.n=d.au.length:=by rw[h.l.aF.neq,<-h.jI,cx]
def q6.h6{s:iJ}{d:ew}(h:q6 w s d au ps):s.p.n=d.ps.length:=by rw[h.p.aF.neq,<-h.kV,cx]
def AH{c:Nat}{aU:List bb}(h:iG w a n c au)(hm:au.map (·.d)=aU)(i:ax):(au.map (·.x)).any (λx=>cc x.id i)=iP aU i:=SB hm (λp aY=>(h.ck p aY).id)
structure rI (w:World) (base:Nat) (s:iJ) (d:ew) (au ps:List bU):Prop where
 cX:s.cX=(d.l:Int)
 l:fD w base s.l.a s.l.n s.l.c au
 jI:au.map (·.d)=d.au
 p:fD w base s.p.a s.p.n s.p.c ps
 kV:ps.map (·.d)=d.ps
 b:aH w base 54 3 ax.cs s.b.a s.b.n s.b.c d.aB
 gL:ox s.l.a s.p.a
def rI.ck{s:iJ}{d:ew}(h:rI w base s d au ps):q6 w s d au ps:=⟨h.cX,h.l.sE,h.jI,h.p.sE,h.kV,h.b.aF⟩
def rI.ext{s:iJ}{d:ew}(h:rI w base s d au ps)(X:Z w w'):rI w' base s d au ps:=⟨h.cX,h.l.ext X,h.jI,h.p.ext X,h.kV,h.b.ext X,h.gL⟩
def rI.mono{aBw:Nat}{s:iJ}{d:ew}(h:rI w base s d au ps)(ad:aBw<=base):rI w aBw s d au ps:=⟨h.cX,h.l.mono ad,h.jI,h.p.mono ad,h.kV,h.b.mono ad,h.gL⟩
def fD.nil(w:aC)(base:Nat):fD w base none 0 0 []:=⟨aH.nil _ _ _ bU.bI,λp aY=>by cases aY⟩
def fD.grow{aBw:Nat}{c:Nat}{e:TypeId}{sz:Nat}{h7:α->List Value}{aA:bl}{g:Nat}{cz:List α}(h:fD w base a n c ps)(bC:lL w w' aA g)(az:aH w aBw e sz h7 aA m cap cz)(aG:ox aA a)(af:e≠154)(an:e≠34)(aO:e≠77):fD w' base a n c ps:=
 ⟨bC.bS h.cj aG,λp aY=>(h.ck p aY).grow bC az af an aO⟩
def fD.qA{c pY g:Nat}(h:fD w base a n c ps)(bC:lL w w' a g)(aM:aH w' base 66 8 bU.cs (some (g,0)) (n+1) pY (ps++[⟨x,d⟩]))(he:fU w base x d):fD w' base (some (g,0)) (n+1) pY (ps++[⟨x,d⟩]):=
 ⟨aM,λp aY=>by
  rcases ie.1 aY with aY|aY
  ·exact(h.ck p aY).grow bC h.cj ah ah ah
  ·obtain rfl:=jg.1 aY
   exact he.grow bC h.cj ah ah ah⟩
def fU.ay(h:fU w base x d){fr:Nat×Nat}(ad:w.heap[b]?=some (.cells cs t fr))(af:154≠t)(an:34≠t)(aO:77≠t)(j:Nat)(u:Value):fU (w.setCell (b,j) u) base x d:=
 let ⟨ys,e,o,a⟩:=h.e
 ⟨h.k,h.id,h.c,h.u,h.f.lY ad af u,ys,e,o.lY ad an u,λy hy=>(a y hy).lY ad aO u⟩
def fD.ay{c:Nat}(h:fD w base a n c ps){fr:Nat×Nat}(ad:w.heap[b]?=some (.cells cs t fr))(aZ:66≠t)(af:154≠t)(an:34≠t)(aO:77≠t)(j:Nat)(u:Value):fD (w.setCell (b,j) u) base a n c ps:=
 ⟨h.cj.lY ad aZ u,λp aY=>(h.ck p aY).ay ad af an aO j u⟩
def tE(r:e9):Nat:=6+(gi r).length
def jo(l:List e9):Nat:=(l.map tE).sum
structure gy where
 e:bb
 a:Bool
def jJ(l:List gy)(i:ax):Nat:=l.findIdx (λt=>cc t.e.id i)
def vf(l:List gy)(i:ax):List gy:=l.eraseIdx (jJ l i)
def BM(d:bb):Bool:=decide (3000<(iL d).length)
def oN(l:List gy)(t:gy):Int×List gy:=
 if jJ l t.e.id<l.length then (170,l) else if 8<=l.length then (171,l) else if BM t.e=true then (172,l) else (0,l++[t])
def GF(ok:Bool)(l:List gy)(t:gy):Int×List gy:=
 if jJ l t.e.id<l.length then (170,l) else if ok=false then (110,l) else oN l t
def tF(l:List gy)(i:ax):Option gy:=match l[jJ l i]? with|some t=>if t.a=true then none else some t|none=>none
def GG(l:List gy)(i:ax)(e:List cI):Int×List gy:=
 match tF l i with
 |none=>(170,l)
 |some t=>
  if vb e=false then (40,l)
  else if 8<=t.e.aX.length then (171,l)
  else if BM {t.e with aX:=t.e.aX++[e]}=true then (172,l)
  else (0,l.set (jJ l i) {t with e:={t.e with aX:=t.e.aX++[e]}})
def GH(l:List gy)(i:ax):Int×List gy:=
 match tF l i with
 |none=>(170,l)
 |some t=>(0,l.set (jJ l i) {t with a:=true})
def GI(l:List gy)(i:ax):Int×List gy:=
 match tF l i with
 |none=>(170,l)
 |some _=>(0,vf l i)
def sQ(l:List gy):List bb:=((l.filter (·.a)).take 4).map (·.e)
structure dv where
 k:Int
 h:Nat
 vs:List V
 dq:List bb
 aX:List bb
 ps:List bb
 aB:List ax
 aU:List ax
def TG:dv:=⟨0,0,[],[],[],[],[],[]⟩
structure aT where
 dd:Nat
 st:ew
 tx:List gy
 fX:Nat
 gq:Nat->Option dv
 gP:List ax
 bD:List ax
 dT:List bb
 fz:List e9
structure bK where
 ps:List Int
 hs:List Int
 room:Nat
def TH(ps:List Int)(m:Nat):List Nat:=(List.range ps.length).filter (λj=>decide (ps.getD j 0=(m:Int)))
def aT.lf(b:aT):Bool:=decide (b.dd=0)
def aT.c5(c:bK)(b:aT):List Nat:=TH c.ps b.dd
def aT.oO(b:aT)(k:Nat):dv:=(b.gq k).getD TG
def aT.sR(c:bK)(b:aT):List dv:=(b.c5 c).map b.oO
def aT.EY(b:aT)(i:ax):Bool:=kl b.bD i||kl b.st.aB i
def aT.note(c:bK)(b:aT)(r:e9):aT×Bool:=
 match fl b.st r with
 |none=>(b,false)
 |some s=>
  if jo b.fz+tE r<=c.room then
   ({b with st:=s,fz:=b.fz++[r],tx:=if r.k=2 then vf b.tx r.e.id else b.tx},true)
  else (b,false)
def aT.zo(c:bK)(b:aT)(d:bb):aT×Bool:=b.note c (iA b.st.au.length d)
def aT.x1(c:bK)(b:aT)(i:ax):aT×Bool:=
 if (b.note c (mU i)).2=true then ({(b.note c (mU i)).1 with tx:=vf (b.note c (mU i)).1.tx i},true) else ((b.note c (mU i)).1,false)
def sS(b:aT)(out:List bb)(d:bb):List bb:=
 if (iP out d.id||(iP b.st.au d.id||b.EY d.id))=true\/16<=out.length then out else out++[d]
def aT.oW(c:bK)(b:aT):List bb:=((b.sR c).flatMap (·.dq)).foldl (sS b) ((sQ b.tx).foldl (sS b) [])
def BN(c5:List dv)(i:ax):Int:=if (c5.any λm=>vS m.vs i false)=true then 2 else if (c5.all λm=>vS m.vs i true)=true then 1 else 0
def zq(c:bK)(f:ax->Int)(st:aT×List bb)(d:bb):aT×List bb:=
 if f d.id=1 then
  (if (st.1.zo c d).2=true then ((st.1.zo c d).1,st.2) else ((st.1.zo c d).1,st.2++[d]))
 else if f d.id=2 then
  (if (st.1.x1 c d.id).2=true then ((st.1.x1 c d.id).1,st.2) else ((st.1.x1 c d.id).1,st.2++[d]))
 else (st.1,st.2++[d])
def aT.dm(b:aT)(i:ax):Bool:=iP b.st.au i||kl b.st.aB i
def aT.zr(c:bK)(b:aT):List bb×List bb:=xM b.dm b.dT (b.oW c)
def vg(c:bK)(b:aT)(l:List bb):aT:=l.foldl (λb d=>(b.zo c d).1) b
def aT.O1(c:bK)(b:aT)(l:List bb)(f:ax->Int):aT×List bb:=l.foldl (zq c f) (b,[])
def aT.km(c:bK)(b:aT):aT:=
 if b.lf=false then b
 else {((vg c b (b.zr c).2).O1 c (b.zr c).1 (BN (b.sR c))).1 with dT:=((vg c b (b.zr c).2).O1 c (b.zr c).1 (BN (b.sR c))).2}
def zs(o:List nY)(d:bb):List nY:=if d.k=1 then o else yT o d
def pK(l:List bb):List nY:=l.foldl zs []
def x2(l:List bb)(h:Nat):List bb:=(l.drop h).take 4
def Dk(c5:List dv)(out:List V)(i:ax):List V:=if BN c5 i≠0/\out.length<16 then out++[⟨i,decide (BN c5 i=1)⟩] else out
def Lp(c5:List dv)(ps:List bb)(rs:List ax):List V:=rs.foldl aBu (ps.foldl (λout d=>Dk c5 out d.id) [])
def aT.GJ(c:bK)(b:aT):dv:=⟨1,b.st.au.length,Lp (b.sR c) b.st.ps b.gP,b.oW c,[],[],[],[]⟩
def sT(c:bK)(hx:Nat):List Int:=((List.range c.hs.length).filter (λj=>ET c.ps hx (c.hs.getD j 0).toNat)).map Int.ofNat
def zt(au:List bb)(cl:List Int):Nat->List bb->List bb
 |_,[]=> []
 |h,d::l=>nG (pK (au.take h)) cl d::zt au cl (h+1) l
def aT.BO(c:bK)(b:aT)(hx:Nat):dv:=
 ⟨2,min (b.oO hx).h b.st.au.length,[],[],zt b.st.au (sT c hx) (min (b.oO hx).h b.st.au.length) (x2 b.st.au (min (b.oO hx).h b.st.au.length)),
  ((if b.lf=true then b.dT else b.st.ps).take 16).map (nG (pK b.st.au) (sT c hx)),
  y2 (b.st.aB++b.bD) ((b.oO hx).dq.map (·.id)),rv (λi=>iP b.st.au i||iP b.st.ps i||iP b.dT i) (b.oO hx).vs⟩
def uw(c:bK)(n:Nat):Nat:=(c.ps.getD n 0).toNat
def aT.qB(c:bK)(b:aT):List (Nat×dv):=(if b.lf=true then [] else [(uw c b.dd,b.GJ c)])++(b.c5 c).map (λk=>(k,b.BO c k))
def aT.pd(c:bK)(b:aT)(i:ax):aT:=if iP b.st.ps i=true then (b.note c (zg i)).1 else b
def zu(c:bK)(st:aT×List ax)(d:bb):aT×List ax:=if (st.1.note c (kR d)).2=true then ((st.1.note c (kR d)).1,st.2) else ((st.1.note c (kR d)).1,st.2++[d.id])
def aT.x3(b:aT)(l:List bb):List bb×List ax:=rz (λi=>iP b.st.au i||iP b.st.ps i||kl b.st.aB i) b.st.ps.length (l.filter (λd=> !kl b.bD d.id))
def aT.TI(c:bK)(b:aT)(l:List bb):aT×List ax:=(b.x3 l).1.foldl (zu c) (b,(l.filter (λd=>kl b.bD d.id)).map (·.id)++(b.x3 l).2)
def aT.ux(c:bK)(b:aT)(l:List bb):aT:={(b.TI c l).1 with gP:=(b.TI c l).2}
def aT.take(c:bK):Nat->List bb->aT->aT
 |_,[],b=>b
 |n,d::l,b=>
  if n≠b.st.au.length then aT.take c (n+1) l b
  else if (b.note c (iA n d)).2=true then aT.take c (n+1) l (b.note c (iA n d)).1 else (b.note c (iA n d)).1
def wh(c:bK)(b:aT)(i:ax):aT:=
 if b.EY i=true then b else aT.pd c {b with bD:=b.bD++[i],tx:=vf b.tx i} i
def aT.Dl(c:bK)(b:aT)(m:dv):aT:=(m.aU.foldl (aT.pd c) (m.aB.foldl (wh c) (aT.take c m.h m.aX b))).ux c m.ps
def aT.TJ(c:bK)(b:aT)(f:Nat):Bool:=(b.c5 c).contains f
def aT.GK(c:bK)(b:aT)(f:Nat):Bool:= !b.lf&&decide (c.ps.getD b.dd 0=(f:Int))
def aT.Lq(c:bK)(b:aT)(f:Nat)(m:dv):aT:=
 if b.TJ c f=true/\m.k=1 then aT.km c {b with gq:=λk=>if k=f then some m else b.gq k}
 else if b.GK c f=true/\m.k=2 then b.Dl c m
 else b
def p8(dd:Nat)(s:ew):aT:=⟨dd,{s with l:=s.l+1},[],0,λ_=>none,[],[],[],q5 {s with l:=s.l+1}⟩
def aT.xl(c:bK)(b:aT)(cl:Int):Bool:=decide (0<=cl/\cl<c.hs.length)&&decide (c.hs.getD cl.toNat 0=(b.dd:Int))
def aT.gQ(b:aT):ax:=⟨b.dd,b.st.l,(b.fX+1:Nat)⟩
def aT.pL(b:aT)(r:Int×List gy):Int×aT:=if r.1=0 then (0,{b with tx:=r.2,fX:=b.fX+1}) else (r.1,b)
def aT.uy(b:aT)(cl:Int):Int×aT:=b.pL (oN b.tx ⟨⟨1,b.gQ,cl,0,[],[]⟩,false⟩)
def aT.sub(b:aT)(cl:Int)(n:Nat)(f:List T):Int×aT:=b.pL (GF (nE f) b.tx ⟨⟨2,b.gQ,cl,n,f,[]⟩,true⟩)
def aT.zv(b:aT)(cl:Int)(n:Nat):Int×aT:=b.pL (oN b.tx ⟨⟨3,b.gQ,cl,n,[],[]⟩,true⟩)
def aT.ag(b:aT)(r:Int×List gy):Int×aT:=if r.1=0 then (0,{b with tx:=r.2}) else (r.1,b)
def aT.status(b:aT)(i:ax):Int:=
 if iP b.st.au i=true then 3 else if b.EY i=true then 4 else match b.tx[jJ b.tx i]? with|some t=>if t.a=true then 2 else 1|none=>0
def wi(cl:Int):Nat->List nY->List bb->List (List cI)×Nat
 |n,_,[]=>([],n)
 |n,s,d::r=>if wZ s cl d= [] then wi cl (n+1) (zs s d) r else (wZ s cl d,n+1)
def aT.Lr(b:aT)(cl:Int)(Y2:Nat):List (List cI)×Nat:=wi cl Y2 (pK (b.st.au.take Y2)) (b.st.au.drop Y2)
inductive oa where
 |up (b:aT)
 |down (l:List e9)
structure ba where
 bN:Nat->oa
 fg:Nat->Nat->List dv
 cur:Nat->Nat
def ba.hz(w:ba)(n:Nat)(b:oa):ba:={w with bN:=λk=>if k=n then b else w.bN k}
def ba.wj(w:ba)(a b:Nat)(l:List dv):ba:={w with fg:=λx y=>if x=a/\y=b then l else w.fg x y}
def ba.O2(w:ba)(c n:Nat):ba:={w with cur:=λk=>if k=c then n else w.cur k}
def nr(c:bK)(a b:Nat):Bool:=decide (a<c.ps.length/\b<c.ps.length)&&(decide (c.ps.getD a 0=(b:Int))||decide (c.ps.getD b 0=(a:Int)))
def ba.send(c:bK)(w:ba)(a b:Nat)(m:dv):ba:=if nr c a b=true/\(w.fg a b).length<8 then w.wj a b (w.fg a b++[m]) else w
def ba.BP(c:bK)(w:ba)(a:Nat)(l:List (Nat×dv)):ba:=l.foldl (λw o=>w.send c a o.1 o.2) w
def ba.tick(c:bK)(w:ba)(n:Nat):ba:=
 match w.bN n with
 |.down _=>w
 |.up b=>(w.hz n (.up (b.km c))).BP c n ((b.km c).qB c)
def ba.EZ(c:bK)(w:ba)(a b:Nat)(m:dv):ba:=
 match w.bN b with
 |.down _=>w
 |.up k=>w.hz b (.up (k.Lq c a m))
def ba.xm(c:bK)(w:ba)(a b:Nat):ba:=
 match w.fg a b with
 | []=>w
 |m::l=>(w.wj a b l).EZ c a b m
def ba.drain(c:bK):Nat->ba->Nat->Nat->ba
 |0,w,_,_=>w
 |f+1,w,a,b=>if (w.fg a b).length=0 then w else ba.drain c f (w.xm c a b) a b
def ba.Y3(c:bK)(w:ba)(n:Nat):ba:=(List.range c.ps.length).foldl (λw dst=>if dst=n then w else ba.drain c 9 w n dst) w
def ba.mW(c:bK)(w:ba)(n:Nat):ba:=
 match w.bN n with
 |.down _=>w
 |.up _=>(w.tick c n).Y3 c n
def TK(n:Nat):List Nat:=(List.range n).reverse++List.range n
def ba.round(c:bK)(w:ba):ba:=(TK c.ps.length).foldl (ba.mW c) w
def ba.drop(w:ba)(a b:Nat):ba:=w.wj a b (w.fg a b).tail
def ba.Dm(w:ba)(a b:Nat):ba:=if (w.fg a b).length=0\/(w.fg a b).length=8 then w else w.wj a b (w.fg a b++(w.fg a b).take 1)
def ba.Ls(w:ba)(a b:Nat):ba:=w.wj a b ((w.fg a b).tail++(w.fg a b).take 1)
def ba.pe(w:ba)(n:Nat):ba:=match w.bN n with|.up b=>w.hz n (.down b.fz)|.down _=>w
def vh(l:List e9):ew:=(nT kU l).getD kU
def ba.sU(w:ba)(n:Nat):ba:=match w.bN n with|.up _=>w|.down l=>w.hz n (.up (p8 n (vh l)))
def oa.st:oa->ew
 |.up b=>b.st
 |.down l=>vh l
def ba.new:ba:=⟨λn=>.up (p8 n kU),λ_ _=> [],λ_=>0⟩
def apH(n:Nat)(aZ:0<n)(h:n<255):(df (n+1)).length<=(df n).length:=by
 have e:nj 0=0:=SH;rw[y7,y7,On J J,On aZ J,show(n+1) / 256=0 by omega,show n / 256=0 by omega];exact bJ _
def gr(l:List bb):List ax:=l.map (·.id)
def ad5{l:List bb}{i:ax}:iP l i=true↔i∈gr l:=by
 unfold iP gr;rw[Bi,lU];constructor
 ·rintro ⟨d,aG,h⟩;rw[CR]at h;exact⟨d,aG,H4 h⟩
 ·rintro ⟨d,aG,h⟩;exact⟨d,aG,by rw[CR];exact jf h⟩
def O3{l:List ax}{i:ax}:kl l i=true↔i∈l:=by
 unfold kl;rw[Bi];constructor
 ·rintro ⟨d,aG,h⟩;rw[CR]at h;exact(H4 h)▸aG
 ·intro h;exact⟨i,h,by rw[CR];exact jf rfl⟩
def GL{l:List bb}{i:ax}:iP l i=false↔i∉gr l:=by rw[<-ad5,GM]
def O4{l:List ax}{i:ax}:kl l i=false↔i∉l:=by rw[<-O3,GM]
def ad6{l:List bb}{i:ax}:d∈rH l i↔d∈l/\d.id≠i:=by
 unfold rH;rw[pA,CR];simp
def Lt{l:List bb}{i j:ax}:j∈gr (rH l i)↔j∈gr l/\j≠i:=by
 unfold gr;simp only[lU,ad6];constructor
 ·rintro ⟨d,⟨af,an⟩,rfl⟩;exact⟨⟨d,af,rfl⟩,an⟩
 ·rintro ⟨⟨d,af,rfl⟩,an⟩;exact⟨d,⟨af,an⟩,rfl⟩
def TL(l:List bb)(i:ax):(rH l i).Sublist l:=List.filter_sublist
def apI{l:List bb}{i:ax}(h:i∉gr l):rH l i=l:=by
 unfold rH;rw[Sl];intro d aG;rw[CR];simp only[Eo,z7];exact λe=>h (e▸nH aG)
structure Dn (s:ew):Prop where
 se:(gr s.au).Nodup
 h6:(gr s.ps).Nodup
 bW:s.aB.Nodup
 eE:∀i,i∈gr s.au->i∉gr s.ps
 lb:∀i,i∈gr s.au->i∉s.aB
 fb:∀i,i∈gr s.ps->i∉s.aB
def apJ:Dn kU:=⟨tG,tG,tG,λi h=>(by cases h),λi h=>(by cases h),λi h=>(by cases h)⟩
def GN{l:List α}{a:α}(h:l.Nodup)(ak:a∉l):(l++[a]).Nodup:=
 TM.2 ⟨h,IV.2 ⟨tb,tG⟩,λx X y hy e=>ak ((jg.1 hy)▸e▸X)⟩
def IW(l:List bb)(d:bb):gr (l++[d])=gr l++[d.id]:=fT
def p9{l:List α}{a b:α}:b∈l++[a]↔b∈l\/b=a:=by rw[ie,jg]
inductive x4 (s:ew) (r:e9):ew->Prop where
 |cX (h:r.k=1) (aq:s.l<r.n):x4 s r {s with l:=r.n}
 |entry (h:r.k=2) (aq:r.n=s.au.length) (af:r.e.id∉gr s.au) (an:r.e.id∉s.aB):x4 s r {s with au:=s.au++[r.e],ps:=rH s.ps r.e.id}
 |ux (h:r.k=3) (af:r.e.id∉gr s.au) (an:r.e.id∉gr s.ps) (aO:r.e.id∉s.aB):x4 s r {s with ps:=s.ps++[r.e]}
 |rJ (h:r.k=4) (af:r.id∉gr s.au) (an:r.id∉s.aB):x4 s r {s with aB:=s.aB++[r.id],ps:=rH s.ps r.id}
 |pd (h:r.k≠1/\r.k≠2/\r.k≠3/\r.k≠4) (af:r.id∈gr s.ps):x4 s r {s with ps:=rH s.ps r.id}
def O5{s s':ew}(h:fl s r=some s'):x4 s r s':=by
 unfold fl at h;by_cases af:r.k=1
 ·rw[bc af]at h;split at h
  ·cases h
  ·rename_i aq;injection h with h;subst h;exact .cX af J
 rw[aV af]at h;by_cases an:r.k=2
 ·rw[bc an]at h;split at h
  ·cases h
  ·rename_i aq;injection h with h;subst h;simp only[not_or,GM,Decidable.not_not]at aq;exact .entry an aq.1 (GL.1 aq.2.1) (O4.1 aq.2.2)
 rw[aV an]at h;by_cases aO:r.k=3
 ·rw[bc aO]at h;split at h
  ·cases h
  ·rename_i aq;injection h with h;subst h;simp only[not_or,GM]at aq;exact .ux aO (GL.1 aq.1) (GL.1 aq.2.1) (O4.1 aq.2.2)
 rw[aV aO]at h;by_cases bt:r.k=4
 ·rw[bc bt]at h;split at h
  ·cases h
  ·rename_i aq;injection h with h;subst h;simp only[not_or,GM]at aq;exact .rJ bt (GL.1 aq.1) (O4.1 aq.2)
 rw[aV bt]at h;split at h
 ·rename_i aq;injection h with h;subst h;exact .pd ⟨af,an,aO,bt⟩ (ad5.1 aq)
 ·cases h
def x4.wf{s s':ew}(h:x4 s r s')(w:Dn s):Dn s':=by
 cases h with
 |cX h aq=>exact⟨w.se,w.h6,w.bW,w.eE,w.lb,w.fb⟩
 |entry h aq af an=>
  refine⟨by rw[IW];exact GN w.se af,w.h6.sublist ((TL _ _).map _),w.bW,λi aK aY=>?_,λi aK=>?_,λi aK=>w.fb i (Lt.1 aK).1⟩
  ·rw[IW,p9]at aK;have aY:=Lt.1 aY;exact aK.elim (λk=>w.eE i k aY.1) aY.2
  ·rw[IW,p9]at aK;exact aK.elim (w.lb i) (λk=>k▸an)
 |ux h af an aO=>
  refine⟨w.se,by rw[IW];exact GN w.h6 an,w.bW,λi aK aY=>?_,w.lb,λi aK=>?_⟩
  ·rw[IW,p9]at aY;exact aY.elim (w.eE i aK) (λk=>af (k▸aK))
  ·rw[IW,p9]at aK;exact aK.elim (w.fb i) (λk=>k▸aO)
 |rJ h af an=>
  refine⟨w.se,w.h6.sublist ((TL _ _).map _),GN w.bW an,λi aK aY=>w.eE i aK (Lt.1 aY).1,λi aK ad=>?_,λi aK ad=>?_⟩
  ·rw[p9]at ad;exact ad.elim (w.lb i aK) (λk=>af (k▸aK))
  ·have aK:=Lt.1 aK;rw[p9]at ad;exact ad.elim (w.fb i aK.1) aK.2
 |pd h af=>exact⟨w.se,w.h6.sublist ((TL _ _).map _),w.bW,λi aK aY=>w.eE i aK (Lt.1 aY).1,w.lb,λi aK=>w.fb i (Lt.1 aK).1⟩
def AI(s:ew)(r:e9)(l:List e9):nT s (r::l)=(fl s r).bind (λs'=>nT s' l):=by
 rw[nT];cases fl s r<;>rfl
def IX(s:ew)(a b:List e9):nT s (a++b)=(nT s a).bind (λs'=>nT s' b):=by
 induction a generalizing s with
 |nil=>rfl
 |cons r a cY=>
  rw[Gn,AI,AI];cases fl s r with
  |none=>rfl
  |some s'=>exact cY s'
def IY{Q:e9->Prop}{P:ew->Prop}(lX:∀s r s',Q r->P s->x4 s r s'->P s'){l:List e9}:∀{s s':ew},nT s l=some s'->(∀r,r∈l->Q r)->P s->P s':=by
 induction l with
 |nil=>intro s s' h _ aY;injection h with h;exact h▸aY
 |cons r l cY=>
  intro s _ h bs aY;rw[AI]at h;cases aM:fl s r with
  |none=>rw[aM]at h;cases h
  |some gM=>
   rw[aM]at h;exact cY h (λx X=>bs x (ni _ X)) (lX s r gM (bs r o1) aY (O5 aM))
def apK{l:List e9}{s s':ew}(h:nT s l=some s')(w:Dn s):Dn s':=
 IY (Q:=λ_=>True) (P:=Dn) (λ_ _ _ _ w o=>o.wf w) h (λ_ _=>trivial) w
def apL(n:Nat)(ys:List bb):∀xs:List bb,(gr (xs++ys)).Nodup->nT ⟨n,xs,[],[]⟩ (ys.mapIdx (λi d=>iA (xs.length+i) d))=some ⟨n,xs++ys,[],[]⟩:=by
 induction ys with
 |nil=>intro xs _;rw[nc];rfl
 |cons d ys cY=>
  intro xs h;have e:xs++d::ys=(xs++[d])++ys:=by rw[ig];rfl
  rw[List.mapIdx_cons,AI];refine ad7 ?_;intro aG;have aM:fl ⟨n,xs,[],[]⟩ (iA (xs.length+0) d)=some ⟨n,xs++[d],[],[]⟩:=by
   unfold fl;rw[aV (by simp[iA]),bc (by simp[iA]),aV]
   ·rfl
   ·simp only[not_or,GM,Decidable.not_not];exact⟨rfl,GL.2 aG,rfl⟩
  rw[aM];simp only[IZ];rw[e];have:=cY (xs++[d]) (by rw[<-e];exact h);rw[c9,GO]at this;rw[<-this];congr 2;funext i zw;congr 1;omega
def apM(n:Nat)(au:List bb)(ys:List bb):∀xs:List bb,(gr (xs++ys)).Nodup->(∀i,i∈gr au->i∉gr (xs++ys))->nT ⟨n,au,xs,[]⟩ (ys.map kR)=some ⟨n,au,xs++ys,[]⟩:=by
 induction ys with
 |nil=>intro xs _ _;rw[nc];rfl
 |cons d ys cY=>
  intro xs h a1;have e:xs++d::ys=(xs++[d])++ys:=by rw[ig];rfl
  rw[sf,AI];refine ad7 ?_;intro aG;have aM:fl ⟨n,au,xs,[]⟩ (kR d)=some ⟨n,au,xs++[d],[]⟩:=by
   unfold fl;rw[aV (by simp[kR]),aV (by simp[kR]),bc (by simp[kR]),aV]
   ·rfl
   ·simp only[not_or,GM];exact⟨GL.2 (λk=>a1 _ k (by simp[gr,kR])),GL.2 aG,rfl⟩
  rw[aM];simp only[IZ];rw[e];exact cY (xs++[d]) (by rw[<-e];exact h) (by rw[<-e];exact a1)
def apN(n:Nat)(au ps:List bb)(ys:List ax):∀xs:List ax,(xs++ys).Nodup->(∀i,i∈gr au->i∉xs++ys)->(∀i,i∈gr ps->i∉xs++ys)->nT ⟨n,au,ps,xs⟩ (ys.map mU)=some ⟨n,au,ps,xs++ys⟩:=by
 induction ys with
 |nil=>intro xs _ _ _;rw[nc];rfl
 |cons d ys cY=>
  intro xs h a1 aY;have e:xs++d::ys=(xs++[d])++ys:=by rw[ig];rfl
  rw[sf,AI];have aG:d∉xs:=λk=>(TM.1 h).2.2 d k d (by simp) rfl;have aM:fl ⟨n,au,ps,xs⟩ (mU d)=some ⟨n,au,ps,xs++[d]⟩:=by
   unfold fl;rw[aV (by simp[mU]),aV (by simp[mU]),aV (by simp[mU]),bc (by simp[mU]),aV]
   ·have:rH ps d=ps:=apI (λk=>aY _ k (by simp));simp only[mU,this]
   ·simp only[not_or,GM];exact⟨GL.2 (λk=>a1 _ k (by simp[mU])),O4.2 aG⟩
  rw[aM];simp only[IZ];rw[e];exact cY (xs++[d]) (by rw[<-e];exact h) (by rw[<-e];exact a1) (by rw[<-e];exact aY)
def Y4{s:ew}(w:Dn s)(aZ:0<s.l):nT kU (q5 s)=some s:=by
 obtain⟨l,au,ps,aB⟩:=s;simp only at aZ;unfold q5;rw[aV (by simp only;omega),IX];have af:nT kU [nR l]=some ⟨l,[],[],[]⟩:=by
  rw[AI];have:fl kU (nR l)=some ⟨l,[],[],[]⟩:=by
   unfold fl;rw[bc (by simp[nR]),aV (by simp[nR,kU];omega)];rfl
  rw[this];rfl
 rw[af,IZ,IX];have an:=apL l au [] (by simpa using w.se);simp only[pH,ow,mN]at an;have cq:au.mapIdx iA=au.mapIdx (λi d=>iA i d):=rfl;rw[cq,an,IZ,IX,apM l au ps [] (by simpa using w.h6) (by simpa using w.eE),IZ,apN l au ([]++ps) aB [] (by simpa using w.bW) (by simpa using w.lb) (by simpa using w.fb)];rfl
def I0(a b:List e9):jo (a++b)=jo a+jo b:=by unfold jo;rw[fT,List.sum_append]
def GQ(r:e9):jo [r]=tE r:=by simp[jo]
def apO{a b:List e9}(h:a.Sublist b):jo a<=jo b:=by
 unfold jo;induction h with
 |slnil=>exact bJ _
 |cons r _ cY=>rw[sf,Lu];omega
 |cons_cons r _ cY=>rw[sf,sf,Lu,Lu];omega
def Lv(n:Nat):List e9:=if n=0 then [] else [nR n]
def BQ(s:ew):jo (q5 s)=jo (Lv s.l)+(jo (s.au.mapIdx iA)+(jo (s.ps.map kR)+jo (s.aB.map mU))):=by
 unfold q5;rw[I0,I0,I0];rfl
def Y5(r:e9):Prop:=(r.k=3->r=kR r.e)/\(r.k=4->r=mU r.id)
def apP{s s':ew}(az:Y5 r)(h:x4 s r s'):jo (q5 s')<=jo (q5 s)+tE r:=by
 have aG:∀i,jo ((rH s.ps i).map kR)<=jo (s.ps.map kR):=λi=>apO ((TL _ _).map _);cases h with
 |cX h aq=>
  have e:tE r=jo [nR r.n]:=by
   rw[GQ];unfold tE gi;rw[aV (by rw[h];decide),aV (by rw[h];decide)];simp[h,nR]
  rw[BQ,BQ,e];have:Lv r.n= [nR r.n]:=aV J;dsimp only;rw[this];omega
 |entry h aq af an=>
  have e:tE r=jo [iA s.au.length r.e]:=by
   rw[GQ];unfold tE gi;rw[bc (.inl h),<-aq];simp[h,iA]
  rw[BQ,BQ,e,List.mapIdx_append,I0];have:=aG r.e.id;have cq:([r.e]:List bb).mapIdx (λi a=>iA (i+s.au.length) a)= [iA s.au.length r.e]:=by simp
  rw[cq];dsimp only;omega
 |ux h af an aO=>
  have e:tE r=jo [kR r.e]:=by rw[GQ,<-az.1 h]
  rw[BQ,BQ,e,fT,I0];simp only[sf,Lw];omega
 |rJ h af an=>
  have e:tE r=jo [mU r.id]:=by rw[GQ,<-az.2 h]
  rw[BQ,BQ,e,fT,I0];have:=aG r.id;simp only[sf,Lw];omega
 |pd h af=>
  rw[BQ,BQ];have:=aG r.id;simp only;omega
def apQ{l:List e9}:∀{s s':ew},nT s l=some s'->(∀r,r∈l->Y5 r)->jo (q5 s')<=jo (q5 s)+jo l:=by
 induction l with
 |nil=>intro s s' h _;injection h with h;subst h;simp[jo]
 |cons r l cY=>
  intro s _ h bs;rw[AI]at h;cases aM:fl s r with
  |none=>rw[aM]at h;cases h
  |some gM=>
   rw[aM]at h;have af:=cY h (λx X=>bs x (ni _ X));have an:=apP (bs r o1) (O5 aM);have e:jo (r::l)=tE r+jo l:=by unfold jo;rw[sf,Lu]
   omega
def apR(aZ:0<n)(h:n<255):jo (Lv (n+1))<=jo (Lv n):=by
 have af:Lv (n+1)= [nR (n+1)]:=aV J;have an:Lv n= [nR n]:=aV J;rw[af,an,GQ,GQ];unfold tE gi;have:=apH n aZ h;simp[nR];exact this
section
structure j9 (d:bb):Prop where
 ok:gZ d
 sz:(iL d).length<=3000
def apS{a b:Nat}(h:a<=b)(ad:b<=8):(df a).length<=(df b).length:=by
 have e:nj 0=0:=SH;rw[y7,y7];rcases C7 a with rfl|ak
 ·rw[e];omega
 ·rw[On ak J,On (fQ ak h) J,show a / 256=0 by omega,show b / 256=0 by omega];exact bJ _
def apT(f:α->List β){a b:List α}(h:a.Sublist b):(a.flatMap f).length<=(b.flatMap f).length:=by
 induction h with
 |slnil=>exact bJ _
 |cons r _ cY=>rw[ny,c9];omega
 |cons_cons r _ cY=>rw[ny,ny,c9,c9];omega
def ad8(l:List nY)(cl:List Int)(h:j9 d):j9 (nG l cl d):=by
 unfold nG;split
 ·rename_i hk;have hs:(CS (Sc l cl) d.aX).Sublist d.aX:=List.filter_sublist;rcases h.ok.k with ⟨bH,b1,dJ,eG,h4⟩|⟨bH,_⟩|⟨bH,_⟩
  ·refine⟨⟨h.ok.id,h.ok.c,h.ok.u,.inl ⟨bH,b1,dJ,ek hs.length_le eG,λe he=>h4 e (hs.subset he)⟩⟩,ek ?_ h.sz⟩;have af:=apS hs.length_le eG;have an:=apT (λe=>gY (o7 e)) hs;unfold iL;simp only[hk,if_true,c9];omega
  ·rw[hk]at bH;cases bH
  ·rw[hk]at bH;cases bH
 ·exact h
def apU{e:List cI}(h:vb e=true)(aK:∀a,a∈e->lx a.n):Au e:=⟨h,aK⟩
structure jq (c:bK) (Q:e9->Prop) (tl:List ax) (b b':aT):Prop where
 dd:b'.dd=b.dd
 fX:b'.fX=b.fX
 gq:b'.gq=b.gq
 tx:b'.tx.Sublist b.tx
 fz:∃rs,b'.fz=b.fz++rs/\nT b.st rs=some b'.st/\∀r,r∈rs->Q r
 p3:jo b.fz<=c.room->jo b'.fz<=c.room
 bD:∀i,i∈b'.bD->i∈b.bD\/i∈tl
 tH:b.bD.Nodup->b'.bD.Nodup
section
variable {c:bK}{Q ad9:e9->Prop}{tl aea:List ax}{b b' aeb:aT}
def jq.refl(c:bK)(Q:e9->Prop)(tl:List ax)(b:aT):jq c Q tl b b:=⟨rfl,rfl,rfl,List.Sublist.refl _,⟨[],by rw[nc],rfl,λr h=>(by cases h)⟩,id,λ_ h=>.inl h,id⟩
def jq.trans(h:jq c Q tl b b')(k:jq c Q tl b' aeb):jq c Q tl b aeb:=by
 obtain⟨rs,af,an,aO⟩:=h.fz;obtain⟨apV,bH,b1,dJ⟩:=k.fz;refine⟨k.dd.trans h.dd,k.fX.trans h.fX,k.gq.trans h.gq,k.tx.trans h.tx,⟨rs++apV,by rw[bH,af,ig],by rw[IX,an];exact b1,λr az=>(ie.1 az).elim (aO r) (dJ r)⟩,λbk=>k.p3 (h.p3 bk),λi aK=>(k.bD i aK).elim (h.bD i) .inr,λaq=>k.tH (h.tH aq)⟩
def jq.mono(h:jq c Q tl b b')(bs:∀r,Q r->ad9 r)(bm:∀i,i∈tl->i∈aea):jq c ad9 aea b b':=by
 obtain⟨rs,af,an,aO⟩:=h.fz;exact⟨h.dd,h.fX,h.gq,h.tx,⟨rs,af,an,λr az=>bs r (aO r az)⟩,h.p3,λi aK=>(h.bD i aK).imp id (bm i),h.tH⟩
def O6{x d:α}{l:List α}{p:Prop}(h:p\/d=x):p\/d∈x::l:=h.imp id (λe=>by rw[e];exact o1)
def I1(l:List gy)(i:ax):(vf l i).Sublist l:=TN _ _
def I2(c:bK)(tl:List ax)(b:aT)(az:Q r):jq c Q tl b (b.note c r).1:=by
 unfold aT.note;cases aM:fl b.st r with
 |none=>exact jq.refl _ _ _ _
 |some s=>
  dsimp only;split
  ·rename_i bk;refine⟨rfl,rfl,rfl,?_,⟨[r],rfl,?_,λx X=>(jg.1 X)▸az⟩,λ_=>?_,λ_ h=>.inl h,id⟩
   ·dsimp only;split
    ·exact I1 _ _
    ·exact List.Sublist.refl _
   ·rw[AI,aM];rfl
   ·dsimp only;rw[I0,GQ];exact bk
  ·exact jq.refl _ _ _ _
def Y6(c:bK)(tl:List ax)(b:aT)(az:∀n,Q (iA n d)):jq c Q tl b (b.zo c d).1:=I2 c tl b (az _)
def aec(c:bK)(tl:List ax)(b:aT){i:ax}(az:Q (mU i)):jq c Q tl b (b.x1 c i).1:=by
 have h:=I2 c tl b az;unfold aT.x1;split
 ·exact⟨h.dd,h.fX,h.gq,(I1 _ _).trans h.tx,h.fz,h.p3,h.bD,h.tH⟩
 ·exact h
def apW(c:bK)(tl:List ax)(l:List bb):∀b:aT,(∀d,d∈l->∀n,Q (iA n d))->jq c Q tl b (vg c b l):=by
 induction l with
 |nil=>intro b _;exact jq.refl _ _ _ _
 |cons d l cY=>
  intro b h;exact(Y6 c tl b (h d o1)).trans (cY _ (λx X=>h x (ni _ X)))
def apX(c:bK)(tl:List ax)(f:ax->Int)(l:List bb):∀(b b0:aT) (bh cN:List bb),(∀d,d∈l->(∀n,Q (iA n d))/\Q (mU d.id))->jq c Q tl b b0->bh.Sublist cN->
  jq c Q tl b (l.foldl (zq c f) (b0,bh)).1/\((l.foldl (zq c f) (b0,bh)).2).Sublist (cN++l):=by
 induction l with
 |nil=>intro b b0 bh cN _ h hw;exact⟨h,by rw[nc];exact hw⟩
 |cons d l cY=>
  intro b b0 bh cN bs h hw;rw[ry];have e:cN++d::l=(cN++[d])++l:=by rw[ig];rfl
  rw[e];have aG:=bs d o1;have az:=λx X=>bs x (ni d X);have w1:bh.Sublist (cN++[d]):=hw.trans (List.sublist_append_left _ _);have aN:(bh++[d]).Sublist (cN++[d]):=hw.append (List.Sublist.refl _);unfold zq;split
  ·split
   ·exact cY b _ _ _ az (h.trans (Y6 c tl b0 aG.1)) w1
   ·exact cY b _ _ _ az (h.trans (Y6 c tl b0 aG.1)) aN
  ·split
   ·split
    ·exact cY b _ _ _ az (h.trans (aec c tl b0 aG.2)) w1
    ·exact cY b _ _ _ az (h.trans (aec c tl b0 aG.2)) aN
   ·exact cY b _ _ _ az h aN
def aed(dm:ax->Bool)(aU:List bb):∀st:List bb×List bb,(∀d,d∈(aU.foldl (rA dm) st).1->d∈st.1\/d∈aU)/\(∀d,d∈(aU.foldl (rA dm) st).2->d∈st.2\/d∈aU)/\((aU.foldl (rA dm) st).1.length<=max st.1.length 4):=by
 induction aU with
 |nil=>intro st;exact Y7
 |cons x aU cY=>
  intro st;rw[ry];have key:(∀d,d∈(rA dm st x).1->d∈st.1\/d=x)/\(∀d,d∈(rA dm st x).2->d∈st.2\/d=x)/\(rA dm st x).1.length<=max st.1.length 4:=by
   unfold rA;split
   ·exact Y7
   ·split
    ·split
     ·exact⟨λd h=>p9.1 h,λd h=>.inl h,GR⟩
     ·exact Y7
    ·exact⟨λd h=>.inl h,λd h=>p9.1 h,O7 _ _⟩
  obtain⟨i1,mv,_⟩:=cY (rA dm st x);refine⟨λd h=>?_,λd h=>?_,J⟩
  ·exact Y8
  exact aee
def aef(b:aT)(l:List bb):∀out:List bb,(∀d,d∈l.foldl (sS b) out->d∈out\/d∈l)/\(l.foldl (sS b) out).length<=max out.length 16:=by
 induction l with
 |nil=>intro out;exact⟨λd h=>.inl h,O7 _ _⟩
 |cons x l cY=>
  intro out;rw[ry];obtain⟨i1,_⟩:=cY (sS b out x);have key:(∀d,d∈sS b out x->d∈out\/d=x)/\(sS b out x).length<=max out.length 16:=by
   unfold sS;split
   ·exact⟨λd h=>.inl h,O7 _ _⟩
   ·rename_i c6;exact⟨λd h=>p9.1 h,GR⟩
  refine⟨λd h=>?_,J⟩;exact Y8
structure Y9 (A:bb->Prop) (b:aT):Prop where
 tx:∀t,t∈b.tx->t.a=true->A t.e
 gq:∀k m,b.gq k=some m->∀d,d∈m.dq->A d
 dT:∀d,d∈b.dT->A d
variable {A:bb->Prop}
def TO(c:bK){b:aT}(h:Y9 A b):(∀d,d∈b.oW c->A d)/\(b.oW c).length<=16:=by
 obtain⟨af,an⟩:=aef b (sQ b.tx) [];obtain⟨bH,_⟩:=aef b ((b.sR c).flatMap (·.dq)) ((sQ b.tx).foldl (sS b) []);simp only[pH]at an;refine⟨λd aG=>?_,by unfold aT.oW;omega⟩;rcases bH d aG with k|k
 ·rcases af d k with k|k
  ·cases k
  ·unfold sQ at k;obtain⟨t,bm,rfl⟩:=lU.1 k;have bm:=pA.1 (Bt bm);exact h.tx t bm.1 bm.2
 ·obtain⟨m,hm,aG⟩:=SP.1 k;unfold aT.sR at hm;obtain⟨j,_,rfl⟩:=lU.1 hm;unfold aT.oO at aG;cases az:b.gq j with
  |none=>rw[az]at aG;cases aG
  |some m=>rw[az]at aG;exact h.gq j m az d aG
def apY(c:bK)(tl:List ax){b:aT}(h:Y9 A b)(iQ:∀d,A d->(∀n,Q (iA n d))/\Q (mU d.id))(hw:b.dT.length<=4):
  jq c Q tl b (b.km c)/\(∀d,d∈(b.km c).dT->A d)/\(b.km c).dT.length<=4:=by
 unfold aT.km;split
 ·exact⟨jq.refl _ _ _ _,h.dT,hw⟩
 ·obtain⟨m1,m2,m3⟩:=aed b.dm (b.oW c) (b.dT,[]);have ak:=(TO c h).1;have cE:∀d,d∈(b.zr c).1->A d:=λd aG=>(m1 d aG).elim (h.dT d) (ak d);have ch:∀d,d∈(b.zr c).2->A d:=λd aG=>(m2 d aG).elim (λk=>(by cases k)) (ak d);have cm:=apW (Q:=Q) c tl (b.zr c).2 b (λd aG=>(iQ d (ch d aG)).1);obtain⟨cq,kM⟩:=apX (Q:=Q) c tl (BN (b.sR c)) (b.zr c).1 b _ [] [] (λd aG=>iQ d (cE d aG)) cm (List.Sublist.refl _);rw[mN]at kM;refine⟨⟨cq.dd,cq.fX,cq.gq,cq.tx,cq.fz,cq.p3,cq.bD,cq.tH⟩,λd aG=>cE d (kM.subset aG),?_⟩;have:=kM.length_le;have apZ:(b.zr c).1.length<=max b.dT.length 4:=m3;dsimp only;exact ek this J
def aeg(c:bK)(tl:List ax)(b:aT){i:ax}(az:Q (zg i)):jq c Q tl b (b.pd c i):=by
 unfold aT.pd;split
 ·exact I2 c tl b az
 ·exact jq.refl _ _ _ _
def ap0(c:bK)(tl:List ax)(b:aT){i:ax}(aK:i∈tl)(az:Q (zg i)):jq c Q tl b (wh c b i):=by
 unfold wh;split
 ·exact jq.refl _ _ _ _
 ·rename_i aq;refine jq.trans (b':={b with bD:=b.bD++[i],tx:=vf b.tx i}) ⟨rfl,rfl,rfl,I1 _ _,⟨[],by rw[nc],rfl,λr h=>(by cases h)⟩,id,λj aD=>?_,λaG=>?_⟩ (aeg c tl _ az)
  ·rcases p9.1 aD with k|k
   ·exact .inl k
   ·exact .inr (by rw[k];exact aK)
  ·refine GN aG (λk=>aq ?_);unfold aT.EY;rw[O3.2 k,Bool.true_or]
def aeh{c:bK}{tl:List ax}{f:aT->β->aT}(l:List β)(bk:∀b x,x∈l->jq c Q tl b (f b x)):∀b,jq c Q tl b (l.foldl f b):=by
 induction l with
 |nil=>intro b;exact jq.refl _ _ _ _
 |cons x l cY=>intro b;exact(bk b x o1).trans (cY (λb y hy=>bk b y (ni _ hy)) _)
def ap1(c:bK)(tl:List ax)(l:List bb):∀(b b0:aT) (gn:List ax),(∀d,d∈l->Q (kR d))->jq c Q tl b b0->
  jq c Q tl b (l.foldl (zu c) (b0,gn)).1/\((l.foldl (zu c) (b0,gn)).2).length<=gn.length+l.length/\∀i,i∈(l.foldl (zu c) (b0,gn)).2->i∈gn\/i∈gr l:=by
 induction l with
 |nil=>intro b b0 gn _ h;exact⟨h,bJ _,λi h=>.inl h⟩
 |cons d l cY=>
  intro b b0 gn bs h;rw[ry];have az:=λx X=>bs x (ni d X);rw[show zu c (b0,gn) d=if (b0.note c (kR d)).2=true then ((b0.note c (kR d)).1,gn) else ((b0.note c (kR d)).1,gn++[d.id])from rfl];split
  ·obtain⟨i1,mv,CL⟩:=cY b _ gn az (h.trans (I2 c tl b0 (bs d o1)));exact⟨i1,by rw[me];omega,λi aK=>(CL i aK).imp id (ni _)⟩
  ·obtain⟨i1,mv,CL⟩:=cY b _ (gn++[d.id]) az (h.trans (I2 c tl b0 (bs d o1)));refine⟨i1,by rw[c9,GO]at mv;rw[me];omega,λi aK=>?_⟩;rcases CL i aK with k|k
   ·exact O6 (p9.1 k)
   ·exact .inr (ni _ k)
def aei(dm:ax->Bool)(h6:Nat)(aU:List bb):∀st:List bb×List ax,(∀d,d∈(aU.foldl (pD dm h6) st).1->d∈st.1\/d∈aU)/\(∀i,i∈(aU.foldl (pD dm h6) st).2->i∈st.2\/i∈gr aU)/\
  (aU.foldl (pD dm h6) st).1.length+(aU.foldl (pD dm h6) st).2.length<=st.1.length+st.2.length+aU.length:=by
 induction aU with
 |nil=>intro st;exact⟨λd h=>.inl h,λd h=>.inl h,bJ _⟩
 |cons x aU cY=>
  intro st;rw[ry];have key:(∀d,d∈(pD dm h6 st x).1->d∈st.1\/d=x)/\(∀i,i∈(pD dm h6 st x).2->i∈st.2\/i=x.id)/\(pD dm h6 st x).1.length+(pD dm h6 st x).2.length<=st.1.length+st.2.length+1:=by
   unfold pD;split
   ·exact⟨λd h=>.inl h,λd h=>.inl h,J⟩
   ·split
    ·exact⟨λd h=>p9.1 h,λd h=>.inl h,GR⟩
    ·exact⟨λd h=>.inl h,λd h=>p9.1 h,GR⟩
  obtain⟨i1,mv,_⟩:=cY (pD dm h6 st x);refine⟨λd h=>?_,λd h=>?_,by rw[me];omega⟩
  ·exact Y8
  exact aee
def ap2(c:bK)(tl:List ax)(b:aT)(l:List bb)(a1:l.length<=16)(bs:∀d,d∈l->Q (kR d)):
  jq c Q tl b (b.ux c l)/\(b.ux c l).gP.length<=48/\∀i,i∈(b.ux c l).gP->i∈gr l:=by
 obtain⟨m1,m2,m3⟩:=aei (λi=>iP b.st.au i||iP b.st.ps i||kl b.st.aB i) b.st.ps.length (l.filter (λd=> !kl b.bD d.id)) ([],[]);have hs:∀d,d∈(b.x3 l).1->d∈l:=λd aG=>(m1 d aG).elim (λk=>(by cases k)) (λk=>(pA.1 k).1);obtain⟨cm,cq,fo⟩:=ap1 (Q:=Q) c tl (b.x3 l).1 b b ((l.filter (λd=>kl b.bD d.id)).map (·.id)++(b.x3 l).2) (λd aG=>bs d (hs d aG)) (jq.refl _ _ _ _);have f1:=vP (λd=>kl b.bD d.id) l;have f2:=vP (λd=> !kl b.bD d.id) l;simp only[pH]at m3;have apZ:(b.x3 l).1.length+(b.x3 l).2.length<=0+0+(l.filter (λd=> !kl b.bD d.id)).length:=m3;refine⟨⟨cm.dd,cm.fX,cm.gq,cm.tx,cm.fz,cm.p3,cm.bD,cm.tH⟩,?_,λi aK=>?_⟩
 ·rw[c9,cx]at cq;have:(b.ux c l).gP.length<=_:=cq;omega
 ·rcases fo i aK with k|k
  ·rcases ie.1 k with k|k;exact aej
   ·rcases m2 i k with k|k
    ·cases k
    exact aej
  ·obtain⟨d,aG,rfl⟩:=lU.1 k;exact nH (hs d aG)
def ap3(c:bK)(tl:List ax)(l:List bb):∀(n:Nat) (b:aT),(∀d,d∈l->∀n,Q (iA n d))->jq c Q tl b (aT.take c n l b):=by
 induction l with
 |nil=>intro n b _;exact jq.refl _ _ _ _
 |cons d l cY=>
  intro n b bs;have az:=λx X=>bs x (ni d X);have aq:=I2 c tl b (bs d o1 n);unfold aT.take;split
  ·exact cY _ _ az
  ·split
   ·exact aq.trans (cY _ _ az)
   ·exact aq
def ap4(c:bK)(b:aT)(n:Nat)(d:bb):(b.note c (iA n d)).1.st.au=b.st.au\/n=b.st.au.length/\(b.note c (iA n d)).1.st.au=b.st.au++[d]:=by
 unfold aT.note;cases aM:fl b.st (iA n d)with
 |none=>exact .inl rfl
 |some s=>
  dsimp only;split
  ·have h:=O5 aM;cases h with
   |cX h _=>cases h
   |entry h aq _ _=>exact .inr ⟨aq,rfl⟩
   |ux h _ _ _=>cases h
   |rJ h _ _=>cases h
   |pd h _=>exact absurd rfl h.2.1
  ·exact .inl rfl
def zx(h:Nat)(l:List bb)(P:List ax):Prop:=∀k (hk:k<l.length),P[h+k]?=some l[k].id
def zx.tail{l:List bb}{P:List ax}(s:zx h (d::l) P):zx (h+1) l P:=λk hk=>by
 have:=s (k+1) (by rw[me];omega);rw[List.getElem_cons_succ]at this;rw[<-this];congr 1;omega
def ap5{l P:List ax}{i:ax}(h:l <+:P)(aK:P[l.length]?=some i):l++[i] <+:P:=by
 obtain⟨t,rfl⟩:=h;cases t with
 |nil=>rw[nc,zy (bJ _)]at aK;cases aK
 |cons x t=>
  rw[Kr (bJ _),Nat.sub_self]at aK;injection aK with aK;subst aK;exact⟨t,by rw[ig];rfl⟩
def ap6(c:bK)(P:List ax)(l:List bb):∀(n:Nat) (b:aT),gr b.st.au <+:P->zx n l P->gr (aT.take c n l b).st.au <+:P:=by
 induction l with
 |nil=>intro n b h _;exact h
 |cons d l cY=>
  intro n b h s;have aG:=s 0 (by simp);have key:gr (b.note c (iA n d)).1.st.au <+:P:=by
   rcases ap4 c b n d with e|⟨aq,e⟩
   ·rw[e];exact h
   ·rw[e,IW];refine ap5 h ?_;unfold gr;rw[cx,<-aq];simpa using aG
  unfold aT.take;split
  ·exact cY _ _ h s.tail
  ·split
   ·exact cY _ _ key s.tail
   ·exact key
structure x5 (A E:bb->Prop) (m:dv):Prop where
 h:gw m.h
 oP:(m.k=1/\m.aX= []/\m.ps= []/\m.aB= []/\m.aU= [])\/(m.k=2/\m.vs= []/\m.dq= [])
 vs:m.vs.length<=16/\∀v,v∈m.vs->dY v.id
 dq:m.dq.length<=16/\∀d,d∈m.dq->A d
 aX:m.aX.length<=16/\∀d,d∈m.aX->E d
 ps:m.ps.length<=16/\∀d,d∈m.ps->E d
 aB:m.aB.length<=16/\∀i,i∈m.aB->dY i
 aU:m.aU.length<=16/\∀i,i∈m.aU->dY i
def ap7(c:bK){b:aT}{m:dv}{E:bb->Prop}(h:x5 A E m)(af:∀d,E d->(∀n,Q (iA n d))/\Q (kR d))(an:∀i,dY i->Q (zg i)):
  jq c Q m.aB b (aT.take c m.h m.aX b)/\jq c (λr=>Q r/\(r.k=3\/r.k=5)) m.aB (aT.take c m.h m.aX b) (b.Dl c m)/\(b.Dl c m).gP.length<=48/\∀i,i∈(b.Dl c m).gP->i∈gr m.ps:=by
 have cm:=ap3 (Q:=Q) c m.aB m.aX m.h b (λd aG=>(af d (h.aX.2 d aG)).1);have cq:=aeh (Q:=λr=>Q r/\(r.k=3\/r.k=5)) (c:=c) (tl:=m.aB) (f:=wh c) m.aB (λb x X=>ap0 c m.aB b X ⟨an x (h.aB.2 x X),.inr rfl⟩) (aT.take c m.h m.aX b);have fo:=aeh (Q:=λr=>Q r/\(r.k=3\/r.k=5)) (c:=c) (tl:=m.aB) (f:=aT.pd c) m.aU (λb x X=>aeg c m.aB b ⟨an x (h.aU.2 x X),.inr rfl⟩) (m.aB.foldl (wh c) (aT.take c m.h m.aX b));obtain⟨iM,eI,hn⟩:=ap2 (Q:=λr=>Q r/\(r.k=3\/r.k=5)) c m.aB (m.aU.foldl (aT.pd c) (m.aB.foldl (wh c) (aT.take c m.h m.aX b))) m.ps h.ps.1 (λd aG=>⟨(af d (h.ps.2 d aG)).2,.inl rfl⟩);exact⟨cm,(cq.trans fo).trans iM,eI,hn⟩
def zz(c:bK)(b:aT)(r:e9):(b.note c r).1.dT=b.dT/\(b.note c r).1.gP=b.gP:=by
 unfold aT.note;cases fl b.st r with
 |none=>exact⟨rfl,rfl⟩
 |some s=>dsimp only;split<;>exact⟨rfl,rfl⟩
def ap8(c:bK)(l:List bb):∀(n:Nat) (b:aT),(aT.take c n l b).dT=b.dT:=by
 induction l with
 |nil=>intro n b;rfl
 |cons d l cY=>
  intro n b;unfold aT.take;split
  ·exact cY _ _
  ·split
   ·rw[cY];exact(zz c b _).1
   ·exact(zz c b _).1
def aek(c:bK)(b:aT)(i:ax):(b.pd c i).dT=b.dT:=by
 unfold aT.pd;split
 ·exact(zz c b _).1
 ·rfl
def ael{f:aT->β->aT}(bk:∀b x,(f b x).dT=b.dT)(l:List β):∀b,(l.foldl f b).dT=b.dT:=by
 induction l with
 |nil=>intro b;rfl
 |cons x l cY=>intro b;rw[ry,cY,bk]
def ap9(c:bK)(l:List bb):∀(b0:aT) (gn:List ax),(l.foldl (zu c) (b0,gn)).1.dT=b0.dT:=by
 induction l with
 |nil=>intro b r;rfl
 |cons d l cY=>
  intro b r;rw[ry,show zu c (b,r) d=if (b.note c (kR d)).2=true then ((b.note c (kR d)).1,r) else ((b.note c (kR d)).1,r++[d.id])from rfl];split
  ·rw[cY];exact(zz c b _).1
  ·rw[cY];exact(zz c b _).1
def aem(c:bK)(b:aT)(m:dv):(b.Dl c m).dT=b.dT:=by
 unfold aT.Dl aT.ux aT.TI;dsimp only;rw[ap9,ael (aek c),ael (λb i=>?_),ap8];unfold wh;split
 ·rfl
 ·rw[aek]
end
def rK(r:e9):Prop:=(∃n,r=nR n/\gw n)\/(∃n d,r=iA n d/\j9 d)\/(∃d,r=kR d/\j9 d)\/(∃i,r=mU i/\dY i)\/(∃i,r=zg i/\dY i)
def I3(n:Nat)(h:j9 d):rK (iA n d):=.inr (.inl ⟨n,d,rfl,h⟩)
def TP(h:j9 d):rK (kR d):=.inr (.inr (.inl ⟨d,rfl,h⟩))
def Lx{i:ax}(h:dY i):rK (mU i):=.inr (.inr (.inr (.inl ⟨i,rfl,h⟩)))
def Za{i:ax}(h:dY i):rK (zg i):=.inr (.inr (.inr (.inr ⟨i,rfl,h⟩)))
def rK.aqa(h:rK r):Y5 r:=by
 rcases h with ⟨n,rfl,_⟩|⟨n,d,rfl,aG⟩|⟨d,rfl,aG⟩|⟨i,rfl,_⟩|⟨i,rfl,_⟩;exact Zb;exact Zb
 ·exact⟨λk=>rfl,λk=>(by cases k)⟩
 ·exact⟨λk=>(by cases k),λk=>rfl⟩
 exact Zb
def rK.e(h:rK r)(k:r.k=2\/r.k=3):j9 r.e:=by
 rcases h with ⟨n,rfl,_⟩|⟨n,d,rfl,aG⟩|⟨d,rfl,aG⟩|⟨i,rfl,_⟩|⟨i,rfl,_⟩
 ·rcases k with k|k<;>cases k
 ·exact aG
 ·exact aG
 ·rcases k with k|k<;>cases k
 ·rcases k with k|k<;>cases k
def rK.i(h:rK r)(k:r.k=4):dY r.id:=by
 rcases h with ⟨n,rfl,_⟩|⟨n,d,rfl,aG⟩|⟨d,rfl,aG⟩|⟨i,rfl,aK⟩|⟨i,rfl,aK⟩
 ·cases k
 ·cases k
 ·cases k
 ·exact aK
 ·exact aK
structure TQ (s:ew):Prop where
 au:∀d,d∈s.au->j9 d
 ps:∀d,d∈s.ps->j9 d
 aB:∀i,i∈s.aB->dY i
def x4.BR{s s':ew}(az:rK r)(w:TQ s)(h:x4 s r s'):TQ s':=by
 have aG:∀i d,d∈rH s.ps i->j9 d:=λi d aG=>w.ps d (ad6.1 aG).1;cases h with
 |cX h aq=>exact⟨w.au,w.ps,w.aB⟩
 |entry h aq af an=>exact⟨λd aG=>(p9.1 aG).elim (w.au d) (λe=>e▸az.e (.inl h)),aG _,w.aB⟩
 |ux h af an aO=>exact⟨w.au,λd aG=>(p9.1 aG).elim (w.ps d) (λe=>e▸az.e (.inr h)),w.aB⟩
 |rJ h af an=>exact⟨w.au,aG _,λi aK=>(p9.1 aK).elim (w.aB i) (λe=>e▸az.i h)⟩
 |pd h af=>exact⟨w.au,aG _,w.aB⟩
structure qC (c:bK) (l:List e9) (s:ew):Prop where
 GU:∀r,r∈l->rK r
 zA:nT kU l=some s
 p3:jo l<=c.room
 cX:0<s.l
section
variable {c:bK}{l:List e9}{s:ew}{tl:List ax}{b b':aT}
def qC.wf(h:qC c l s):Dn s:=apK h.zA apJ
def qC.BR(h:qC c l s):TQ s:=IY (Q:=rK) (P:=TQ) (λ_ _ _ az aY aM=>aM.BR az aY) h.zA h.GU ⟨λd h=>(by cases h),λd h=>(by cases h),λd h=>(by cases h)⟩
def O8(l:List e9):l.length*6<=jo l:=by
 induction l with
 |nil=>exact gz _
 |cons r l cY=>
  have e:jo (r::l)=tE r+jo l:=by unfold jo;rw[sf,Lu]
  have:6<=tE r:=by unfold tE;omega
  rw[me];omega
def Zc{l:List e9}:∀{s s':ew},nT s l=some s'->s'.au.length<=s.au.length+l.length/\∀r,r∈l->r.k=2->r.n<=s.au.length+l.length:=by
 induction l with
 |nil=>intro s s' h;injection h with h;subst h;exact⟨bJ _,λr h=>(by cases h)⟩
 |cons r l cY=>
  intro s _ h;rw[AI]at h;cases aM:fl s r with
  |none=>rw[aM]at h;cases h
  |some gM=>
   rw[aM]at h;have af:=cY h;have an:=O5 aM;have aO:gM.au.length<=s.au.length+1/\(r.k=2->r.n=s.au.length):=by
    cases an with
    |cX hk _=>exact Zd
    |entry hk aq _ _=>exact⟨by simp,λ_=>aq⟩
    |ux hk _ _ _=>exact Zd
    |rJ hk _ _=>exact Zd
    |pd hk _=>exact⟨l9 _,λk=>absurd k hk.2.1⟩
   rw[me];refine⟨J,λx X k=>?_⟩;rcases oy.1 X with rfl|X
   ·have:=aO.2 k;omega
   ·have:=af.2 x X k;omega
def qC.r8(h:qC c l s)(az:c.room<=1048576):∀r,r∈l->xX r:=λr Ly=>by
 have af:=(Zc h.zA).2 r Ly;have an:=O8 l;have aO:=h.p3;rcases h.GU r Ly with ⟨n,e,aq⟩|⟨n,d,e,aG⟩|⟨d,e,aG⟩|⟨i,e,aK⟩|⟨i,e,aK⟩
 ·exact .inl ⟨n,e,aq⟩
 ·refine .inr (.inl ⟨n,d,e,?_,aG.ok⟩);have:=af (by rw[e];rfl);rw[e]at this;simp only[iA,kU,pH]at this;unfold gw;omega
 ·exact .inr (.inr (.inl ⟨d,e,aG.ok⟩))
 ·exact .inr (.inr (.inr (.inl ⟨i,e,aK⟩)))
 ·exact .inr (.inr (.inr (.inr ⟨i,e,aK⟩)))
def qC.eq(h:qC c l s):vh l=s:=by unfold vh;rw[h.zA];rfl
structure x6 (s s':ew):Prop where
 l:s'.l=s.l
 au:s.au <+:s'.au
 aB:s.aB <+:s'.aB
def x4.Lz{s s':ew}(k:r.k≠1)(h:x4 s r s'):x6 s s':=by
 cases h with
 |cX h aq=>exact absurd h k
 |entry h aq af an=>exact⟨rfl,List.prefix_append _ _,BS _⟩
 |ux h af an aO=>exact⟨rfl,BS _,BS _⟩
 |rJ h af an=>exact⟨rfl,BS _,List.prefix_append _ _⟩
 |pd h af=>exact⟨rfl,BS _,BS _⟩
def x6.refl(s:ew):x6 s s:=⟨rfl,BS _,BS _⟩
def x6.trans{s s' aen:ew}(h:x6 s s')(k:x6 s' aen):x6 s aen:=⟨k.l.trans h.l,h.au.trans k.au,h.aB.trans k.aB⟩
def jq.Lz{Q:e9->Prop}(h:jq c Q tl b b')(bs:∀r,Q r->r.k≠1):x6 b.st b'.st:=by
 obtain⟨_,_,an,aO⟩:=h.fz;exact IY (Q:=Q) (P:=x6 b.st) (λ_ _ r az aY aM=>aY.trans (aM.Lz (bs _ az))) an aO (x6.refl _)
def jq.aqb{Q:e9->Prop}(h:jq c Q tl b b')(bs:∀r,Q r->rK r/\r.k≠1)(k:qC c b.fz b.st):qC c b'.fz b'.st:=by
 have a1:=h.Lz (λr az=>(bs r az).2);obtain⟨_,af,an,aO⟩:=h.fz;exact⟨λr az=>by rw[af]at az;exact(ie.1 az).elim (k.GU r) (λz=>(bs r (aO r z)).1),by rw[af,IX,k.zA];exact an,h.p3 k.p3,by rw[a1.l];exact k.cX⟩
def jq.aqc{Q:e9->Prop}(h:jq c Q tl b b')(bs:∀r,Q r->r.k≠2):b'.st.au=b.st.au:=by
 obtain⟨_,_,an,aO⟩:=h.fz;refine IY (Q:=Q) (P:=λs=>s.au=b.st.au) (λ_ _ r az aY aM=>?_) an aO rfl;have:=bs _ az;cases aM with
 |entry h _ _ _=>exact absurd h this
 |_=>exact aY
def jq.aqd{Q:e9->Prop}(h:jq c Q tl b b')(bs:∀r,Q r->r.k≠4):b'.st.aB=b.st.aB:=by
 obtain⟨_,_,an,aO⟩:=h.fz;refine IY (Q:=Q) (P:=λs=>s.aB=b.st.aB) (λ_ _ r az aY aM=>?_) an aO rfl;have:=bs _ az;cases aM with
 |rJ h _ _=>exact absurd h this
 |_=>exact aY
def jq.aqe{Q:e9->Prop}{A:bb->Prop}(h:jq c Q tl b b')(bs:∀r,Q r->r.k=2->A r.e)(aZ:∀d,d∈b.st.au->A d):∀d,d∈b'.st.au->A d:=by
 obtain⟨_,_,an,aO⟩:=h.fz;refine IY (Q:=Q) (P:=λs=>∀d,d∈s.au->A d) (λ_ _ r az aY aM=>?_) an aO aZ;have:=bs _ az;cases aM with
 |entry h _ _ _=>exact λd aG=>(p9.1 aG).elim (aY d) (λe=>e▸this h)
 |_=>exact aY
end
def aqf(ab:List ax)(l:List ax):∀out:List ax,(∀i,i∈l.foldl (Ap ab) out->i∈out\/i∈ab)/\(l.foldl (Ap ab) out).length<=max out.length 16:=by
 induction l with
 |nil=>intro out;exact Dp
 |cons x l cY=>
  intro out;rw[ry];have key:(∀i,i∈Ap ab out x->i∈out\/i∈ab)/\(Ap ab out x).length<=max out.length 16:=by
   unfold Ap;split
   ·rename_i h;refine⟨λi aK=>?_,GR⟩;rcases p9.1 aK with k|k
    ·exact .inl k
    ·exact .inr (by rw[k];exact O3.1 h.2.1)
   ·exact Dp
  obtain⟨i1,_⟩:=cY (Ap ab out x);exact⟨λi h=>(i1 i h).elim (key.1 i) .inr,J⟩
def aqg(dm:ax->Bool)(l:List V):∀out:List ax,(∀i,i∈l.foldl (vT dm) out->i∈out\/∃v,v∈l/\v.id=i)/\(l.foldl (vT dm) out).length<=max out.length 16:=by
 induction l with
 |nil=>intro out;exact Dp
 |cons x l cY=>
  intro out;rw[ry];have key:(∀i,i∈vT dm out x->i∈out\/x.id=i)/\(vT dm out x).length<=max out.length 16:=by
   unfold vT;split
   ·exact Dp
   ·split
    ·exact Dp
    ·exact⟨λi aK=>(p9.1 aK).imp id Eq.symm,GR⟩
  obtain⟨i1,_⟩:=cY (vT dm out x);refine⟨λi h=>?_,J⟩;rcases i1 i h with h|⟨v,bw,e⟩
  ·exact(key.1 i h).imp id (λe=>⟨x,o1,e⟩)
  ·exact .inr ⟨v,ni _ bw,e⟩
def aqh(c5:List dv)(l:List bb):∀out:List V,(∀v,v∈l.foldl (λout d=>Dk c5 out d.id) out->v∈out\/v.id∈gr l)/\(l.foldl (λout d=>Dk c5 out d.id) out).length<=max out.length 16:=by
 induction l with
 |nil=>intro out;exact Dp
 |cons x l cY=>
  intro out;rw[ry];have key:(∀v,v∈Dk c5 out x.id->v∈out\/v.id=x.id)/\(Dk c5 out x.id).length<=max out.length 16:=by
   unfold Dk;split
   ·exact⟨λi aK=>(p9.1 aK).imp id (λe=>by rw[e]),GR⟩
   ·exact Dp
  obtain⟨i1,_⟩:=cY (Dk c5 out x.id);refine⟨λv h=>?_,J⟩;rcases i1 v h with h|h
  ·exact O6 (l:=gr l) (key.1 v h)
  ·exact .inr (ni _ h)
def aqi(l:List ax):∀out:List V,(∀v,v∈l.foldl aBu out->v∈out\/v.id∈l)/\(l.foldl aBu out).length<=max out.length 16:=by
 induction l with
 |nil=>intro out;exact Dp
 |cons x l cY=>
  intro out;rw[ry];have key:(∀v,v∈aBu out x->v∈out\/v.id=x)/\(aBu out x).length<=max out.length 16:=by
   unfold aBu;split
   ·exact Dp
   ·split
    ·exact Dp
    ·exact⟨λi aK=>(p9.1 aK).imp id (λe=>by rw[e]),GR⟩
  obtain⟨i1,_⟩:=cY (aBu out x);refine⟨λv h=>?_,J⟩;rcases i1 v h with h|h
  ·exact O6 (key.1 v h)
  ·exact .inr (ni _ h)
def aeo{l:List bb}{i:ax}(h:i∈gr l):∃d,d∈l/\d.id=i:=lU.1 h
def aqj(c5:List dv){ps:List bb}{rs:List ax}(aY:∀d,d∈ps->j9 d)(az:∀i,i∈rs->dY i):(Lp c5 ps rs).length<=16/\∀v,v∈Lp c5 ps rs->dY v.id:=by
 obtain⟨cE,ch⟩:=aqh c5 ps [];obtain⟨bf,dA⟩:=aqi rs (ps.foldl (λout d=>Dk c5 out d.id) []);simp only[pH]at ch;refine⟨by unfold Lp;omega,λv bw=>?_⟩;rcases bf v bw with h|h
 ·rcases cE v h with h|h
  ·cases h
  ·obtain⟨d,aG,e⟩:=aeo h;rw[<-e];exact(aY d aG).ok.id
 ·exact az _ h
def aqk(au:List bb)(cl:List Int)(l:List bb):∀h:Nat,(∀d,d∈l->j9 d)->(zt au cl h l).length=l.length/\(∀d,d∈zt au cl h l->j9 d)/\gr (zt au cl h l)=gr l:=by
 induction l with
 |nil=>intro h _;exact⟨rfl,λd aG=>(by cases aG),rfl⟩
 |cons x l cY=>
  intro h X;obtain⟨i1,mv,CL⟩:=cY (h+1) (λd aG=>X d (ni _ aG));rw[zt];refine⟨by rw[me,me,i1],λd aG=>?_,?_⟩
  ·rcases oy.1 aG with rfl|aG
   ·exact ad8 _ _ (X x o1)
   ·exact mv d aG
  ·have e:(nG (pK (au.take h)) cl x).id=x.id:=by unfold nG;split<;>rfl
   unfold gr at CL ⊢;rw[sf,sf,e,CL]
def aql{l:List bb}{P:List ax}(k:gr l=(P.drop h).take m):zx h l P:=λj aD=>by
 have:(gr l)[j]? =((P.drop h).take m)[j]? :=by rw[k]
 unfold gr at this;rw[nd,eK aD,List.getElem?_take]at this;split at this
 ·rw[R9]at this;exact this.symm
 ·cases this
def zx.cN{l:List bb}{P aep:List ax}(s:zx h l P)(k:P <+:aep):zx h l aep:=λj aD=>by
 obtain⟨t,rfl⟩:=k;have:=s j aD
 rw[HW (by
  rcases Bh (h+j) P.length with q|q
  ·exact q
  ·rw[zy q]at this;cases this)]
 exact this
structure hE where
 id:ax
 cl:Int
 aX:List (List cI)
 vi:Bool
 AJ:Bool
def LA(l:List hE)(d:bb):Prop:=d.k=1->∃x:hE,x∈l/\x.vi=true/\x.AJ=false/\x.id=d.id/\x.cl=d.c/\x.aX=d.aX
def rL(l:List hE)(d:bb):Prop:=j9 d/\LA l d
structure Dq (l:List hE) (b:aT) (t:gy):Prop where
 eC:j9 t.e
 AK:t.e.id.b=(b.dd:Int)
 LB:t.e.id.l=(b.st.l:Int)
 I4:t.e.id.s<=(b.fX:Int)
 lp:t.a=true->LA l t.e
 I5:t.a=false->t.e.k=1/\∃x:hE,x∈l/\x.vi=false/\x.AJ=false/\x.id=t.e.id/\x.cl=t.e.c/\x.aX=t.e.aX
structure gu (c:bK) (l:List hE) (R:List ax) (n:Nat) (b:aT):Prop where
 dd:b.dd=n
 fz:qC c b.fz b.st
 tx:∀t,t∈b.tx->Dq l b t
 rM:(b.tx.map (·.e.id)).Nodup
 sV:b.tx.length<=8
 gq:∀k m,b.gq k=some m->x5 (rL l) j9 m
 x7:∀d,d∈b.dT->rL l d
 dT:b.dT.length<=4
 gP:b.gP.length<=48/\∀i,i∈b.gP->dY i
 bD:b.bD.Nodup/\∀i,i∈b.bD->i∈R
def et(w:ba)(n:Nat):ew:=(w.bN n).st
structure cM (c:bK) (l:List hE) (T:Nat) (w:ba):Prop where
 up:∀n b,n<c.ps.length->w.bN n=.up b->gu c l (et w 0).aB n b/\b.fX<=T
 down:∀n cp,n<c.ps.length->w.bN n=.down cp->qC c cp (vh cp)
 cX:∀n,n<c.ps.length->(et w n).l<=T+1
 cN:∀n,n<c.ps.length->0<n->gr (et w n).au <+:gr (et w (uw c n)).au
 aB:∀n,n<c.ps.length->0<n->(et w n).aB= []
 lf:∀d,d∈(et w 0).au->rL l d
 x8:∀a b m,m∈w.fg a b->x5 (rL l) j9 m/\(m.k=2->(∀i,i∈m.aB->i∈(et w 0).aB)/\(0<b->uw c b=a->zx m.h m.aX (gr (et w a).au)))
 len:∀a b,(w.fg a b).length<=8
 wk:(l.map (·.id)).Nodup
 zB:∀x,x∈l->∃n,n<c.ps.length/\x.id.b=(n:Int)/\x.id.l<=((et w n).l:Int)/\∀b,w.bN n=.up b->x.id.l=(b.st.l:Int)->x.id.s<=(b.fX:Int)
structure lZ (c:bK):Prop where
 x9:j8 c.ps=true
 room:c.room<=1048576
def lZ.n0{c:bK}(h:lZ c):0<c.ps.length:=by
 have:=h.x9;unfold j8 at this;rw[jS,jT]at this;omega
def lZ.I6{c:bK}(h:lZ c){n:Nat}(aq:n<c.ps.length)(aZ:0<n):uw c n<n/\c.ps.getD n 0=(uw c n:Int):=by
 have:=h.x9;unfold j8 at this;simp only[jS,Ad]at this;have:=this.2.2 n (xd.2 aq);unfold BL at this;simp only[vK,jT]at this;unfold uw;omega
section
variable {c:bK}{l l':List hE}{T E0 n:Nat}{w:ba}{b b':aT}{R R':List ax}{tl:List ax}
def gu.TR(h:gu c l R n b):Y9 (rL l) b:=⟨λt bm ak=>⟨(h.tx t bm).eC,(h.tx t bm).lp ak⟩,λk m hm d aG=>(h.gq k m hm).dq.2 d aG,h.x7⟩
def gu.mono(h:gu c l R n b)(bB:∀i,i∈R->i∈R'):gu c l R' n b:=⟨h.dd,h.fz,h.tx,h.rM,h.sV,h.gq,h.x7,h.dT,h.gP,h.bD.1,λi aK=>bB i (h.bD.2 i aK)⟩
def Dq.ln{t:gy}(h:Dq l b t)(af:b'.dd=b.dd)(an:b'.st.l=b.st.l)(aO:b.fX<=b'.fX):Dq l b' t:=⟨h.eC,by rw[af];exact h.AK,by rw[an];exact h.LB,by have:=h.I4;omega,h.lp,h.I5⟩
def gu.tI{Q:e9->Prop}(h:gu c l R n b)(e:jq c Q tl b b')(bs:∀r,Q r->rK r/\r.k≠1)(hw:∀d,d∈b'.dT->rL l d)(aqm:b'.dT.length<=4)(az:b'.gP.length<=48/\∀i,i∈b'.gP->dY i)(bB:∀i,i∈R->i∈R')(bm:∀i,i∈tl->i∈R'):gu c l R' n b':=by
 have a1:=e.Lz (λr az=>(bs r az).2);exact⟨e.dd.trans h.dd,e.aqb bs h.fz,λt bm=>(h.tx t (e.tx.subset bm)).ln e.dd a1.l (by rw[e.fX];exact bJ _),h.rM.sublist (e.tx.map _),ek e.tx.length_le h.sV,λk m hm=>h.gq k m (by rw[<-e.gq];exact hm),hw,aqm,az,e.tH h.bD.1,λi aK=>(e.bD i aK).elim (λk=>bB i (h.bD.2 i k)) (bm i)⟩
def wm(h:w.bN n=.up b):et w n=b.st:=by unfold et;rw[h];rfl
def uz(w:ba)(n:Nat)(x:oa):(w.hz n x).bN n=x:=by unfold ba.hz;simp
def zC(w:ba)(x:oa)(h:k≠n):(w.hz n x).bN k=w.bN k:=by unfold ba.hz;simp[h]
def I7(w:ba)(n:Nat)(x:oa):et (w.hz n x) n=x.st:=by unfold et;rw[uz]
def ya(w:ba)(x:oa)(h:k≠n):et (w.hz n x) k=et w k:=by unfold et;rw[zC w x h]
def aqn{l l':List bb}(h:l <+:l'):gr l <+:gr l':=h.map _
def cM.hz(al:lZ c)(h:cM c l T w)(aq:n<c.ps.length)(aj:w.bN n=.up b)(hY:T<=E0)(ad:gu c l (et (w.hz n (.up b')) 0).aB n b')(oM:x6 b.st b'.st)(hv:b.fX<=b'.fX)(LC:b'.fX<=E0)(az:n=0->∀d,d∈b'.st.au->rL l d)(iV:0<n->b'.st.aB= []/\gr b'.st.au <+:gr (et w (uw c n)).au):cM c l E0 (w.hz n (.up b')):=by
 have dh:=wm aj;have gM:et (w.hz n (.up b')) n=b'.st:=I7 _ _ _;have aeq:∀k,gr (et w k).au <+:gr (et (w.hz n (.up b')) k).au:=λk=>by
  by_cases hk:k=n
  ·subst hk;rw[gM,dh];exact aqn oM.au
  ·rw[ya w _ hk];exact BS _
 have bB:∀i,i∈(et w 0).aB->i∈(et (w.hz n (.up b')) 0).aB:=λi aK=>by
  by_cases hk:0=n
  ·subst hk;rw[gM];rw[dh]at aK;exact oM.aB.subset aK
  ·rw[ya w _ hk];exact aK
 refine⟨λk yb hk vj=>?_,λk cp hk j4=>?_,λk hk=>?_,λk hk aZ=>?_,λk hk aZ=>?_,λd aG=>?_,λx y m hm=>?_,h.len,h.wk,λx X=>?_⟩
 ·by_cases e:k=n
  ·subst e;rw[uz]at vj;injection vj with vj;subst vj;exact⟨ad,LC⟩
  ·rw[zC w _ e]at vj;exact⟨(h.up k yb hk vj).1.mono bB,ek (h.up k yb hk vj).2 hY⟩
 ·by_cases e:k=n
  ·subst e;rw[uz]at j4;cases j4
  ·rw[zC w _ e]at j4;exact h.down k cp hk j4
 ·by_cases e:k=n
  ·subst e;rw[gM,oM.l];have:=h.cX k hk;rw[dh]at this;omega
  ·rw[ya w _ e];have:=h.cX k hk;omega
 ·by_cases e:k=n
  ·subst e;rw[gM,ya w _ (by have:=(al.I6 hk aZ).1;omega)];exact(iV aZ).2
  ·rw[ya w _ e];exact(h.cN k hk aZ).trans (aeq _)
 ·by_cases e:k=n
  ·subst e;rw[gM];exact(iV aZ).1
  ·rw[ya w _ e];exact h.aB k hk aZ
 ·by_cases e:0=n
  ·subst e;rw[gM]at aG;exact az rfl d aG
  ·rw[ya w _ e]at aG;exact h.lf d aG
 ·obtain⟨m1,m2⟩:=h.x8 x y m hm;exact⟨m1,λb1=>⟨λi aK=>bB i ((m2 b1).1 i aK),λq1 dk=>((m2 b1).2 q1 dk).cN (aeq _)⟩⟩
 ·obtain⟨k,bH,b1,dJ,eG⟩:=h.zB x X;refine⟨k,bH,b1,?_,λyb oc he=>?_⟩
  ·by_cases e:k=n
   ·subst e;rw[gM,oM.l];rw[dh]at dJ;exact dJ
   ·rw[ya w _ e];exact dJ
  ·by_cases e:k=n
   ·subst e;rw[uz]at oc;injection oc with oc;subst oc;rw[oM.l]at he;have:=eG b aj he;omega
   ·rw[zC w _ e]at oc;exact eG yb oc he
def cM.wj(h:cM c l T w){x y:Nat}{ms:List dv}(hm:∀m,m∈ms->x5 (rL l) j9 m/\(m.k=2->(∀i,i∈m.aB->i∈(et w 0).aB)/\(0<y->uw c y=x->zx m.h m.aX (gr (et w x).au))))(a1:ms.length<=8):cM c l T (w.wj x y ms):=by
 refine⟨h.up,h.down,h.cX,h.cN,h.aB,h.lf,λa b m yZ=>?_,λa b=>?_,h.wk,h.zB⟩
 ·unfold ba.wj at yZ;dsimp only at yZ;split at yZ
  ·rename_i e;obtain⟨rfl,rfl⟩:=e;exact hm m yZ
  ·exact h.x8 a b m yZ
 ·unfold ba.wj;dsimp only;split
  ·exact a1
  ·exact h.len a b
def cM.TS(h:cM c l T w){x y:Nat}{ms:List dv}(hm:∀m,m∈ms->m∈w.fg x y)(a1:ms.length<=8):cM c l T (w.wj x y ms):=h.wj (λm k=>h.x8 x y m (hm m k)) a1
def aqo(h:cM c l T w)(x y:Nat):cM c l T (w.drop x y):=h.TS (λm hm=>List.mem_of_mem_tail hm) (by have:=h.len x y;rw[List.length_tail];omega)
def aqp(h:cM c l T w)(x y:Nat):cM c l T (w.Ls x y):=h.TS (λm hm=>(ie.1 hm).elim List.mem_of_mem_tail Bt) (by have:=h.len x y;rw[c9,List.length_tail,nF];omega)
def aqq(h:cM c l T w)(x y:Nat):cM c l T (w.Dm x y):=by
 unfold ba.Dm;split
 ·exact h
 ·exact h.TS (λm hm=>(ie.1 hm).elim id Bt) (by have:=h.len x y;rw[c9,nF];omega)
def aer(w:ba)(x y:Nat)(ms:List dv):(w.wj x y ms).bN=w.bN:=rfl
def TT(c:bK)(l:List hE)(w:ba)(x y:Nat)(m:dv):Prop:=x5 (rL l) j9 m/\(m.k=2->(∀i,i∈m.aB->i∈(et w 0).aB)/\(0<y->uw c y=x->zx m.h m.aX (gr (et w x).au)))
def aqr(c:bK)(w:ba)(x y:Nat)(m:dv):(w.send c x y m).bN=w.bN:=by unfold ba.send;split<;>rfl
def aqs(h:cM c l T w){x y:Nat}{m:dv}(hm:TT c l w x y m):cM c l T (w.send c x y m):=by
 unfold ba.send;split
 ·rename_i e;exact h.wj (λk hk=>(p9.1 hk).elim (h.x8 x y k) (λq=>q▸hm)) TU
 ·exact h
def aqt(x:Nat)(ms:List (Nat×dv)):∀{w:ba},cM c l T w->(∀o,o∈ms->TT c l w x o.1 o.2)->cM c l T (w.BP c x ms)/\(w.BP c x ms).bN=w.bN:=by
 induction ms with
 |nil=>intro w h _;exact⟨h,rfl⟩
 |cons o ms cY=>
  intro w h hm;have cy:=aqr c w x o.1 o.2;have dh:∀n,et (w.send c x o.1 o.2) n=et w n:=λn=>by unfold et;rw[cy]
  have af:=aqs h (hm o o1)
  obtain⟨i1,mv⟩:=cY af (λp aY=>by
   have:=hm p (ni _ aY);unfold TT at this ⊢
   rw[dh,dh];exact this)
  exact⟨i1,mv.trans cy⟩
end
section
variable {c:bK}{l l':List hE}{T E0 n:Nat}{w:ba}{b b':aT}{R R':List ax}{tl:List ax}
def qC.Ot(h:qC c b.fz b.st)(az:c.room<=1048576):b.st.au.length<=200000:=by
 have af:=(Zc h.zA).1;have an:=O8 b.fz;have aO:=h.p3;simp only[kU,pH]at af;omega
def aes(al:lZ c)(h:gu c l R n b):x5 (rL l) j9 (b.GJ c):=by
 have hs:=h.fz.BR;have aq:=h.fz.Ot al.room;exact⟨by show gw b.st.au.length;unfold gw;omega,.inl ⟨rfl,rfl,rfl,rfl,rfl⟩,aqj _ hs.ps h.gP.2,⟨(TO c h.TR).2,(TO c h.TR).1⟩,⟨gz _,λd aG=>(by cases aG)⟩,⟨gz _,λd aG=>(by cases aG)⟩,⟨gz _,λd aG=>(by cases aG)⟩,⟨gz _,λd aG=>(by cases aG)⟩⟩
def aqu(h:gu c l R n b)(k:Nat):(b.oO k).vs.length<=16/\(∀v,v∈(b.oO k).vs->dY v.id):=by
 unfold aT.oO;cases az:b.gq k with
 |none=>exact⟨gz _,λv bw=>(by cases bw)⟩
 |some m=>exact(h.gq k m az).vs
def aet(al:lZ c)(h:gu c l R n b)(bB:∀i,i∈R->dY i)(ad:∀i,i∈b.st.aB->i∈R)(k:Nat):
  x5 (rL l) j9 (b.BO c k)/\(∀i,i∈(b.BO c k).aB->i∈R)/\zx (b.BO c k).h (b.BO c k).aX (gr b.st.au):=by
 have hs:=h.fz.BR;have aq:=h.fz.Ot al.room;have bk:∀d,d∈x2 b.st.au (min (b.oO k).h b.st.au.length)->j9 d:=λd aG=>hs.au d (KX (Bt aG));obtain⟨c1,c2,cV⟩:=aqk b.st.au (sT c k) (x2 b.st.au (min (b.oO k).h b.st.au.length)) (min (b.oO k).h b.st.au.length) bk;obtain⟨t1,t2⟩:=aqf (b.st.aB++b.bD) ((b.oO k).dq.map (·.id)) [];obtain⟨cm,cq⟩:=aqg (λi=>iP b.st.au i||iP b.st.ps i||iP b.dT i) (b.oO k).vs [];simp only[pH]at t2 cq;have iV:∀i,i∈(b.BO c k).aB->i∈R:=λi aK=>(t1 i aK).elim (λq=>(by cases q)) (λq=>(ie.1 q).elim (ad i) (h.bD.2 i));refine⟨⟨?_,.inr ⟨rfl,rfl,rfl⟩,⟨gz _,λd aG=>(by cases aG)⟩,⟨gz _,λd aG=>(by cases aG)⟩,⟨?_,c2⟩,⟨?_,λd aG=>?_⟩,⟨?_,λi aK=>bB i (iV i aK)⟩,⟨?_,λi aK=>?_⟩⟩,iV,?_⟩
 ·show gw (min (b.oO k).h b.st.au.length);unfold gw;omega
 ·show(zt _ _ _ _).length<=16;rw[c1];unfold x2;rw[nF];omega
 ·show(List.map _ _).length<=16;rw[cx,nF];omega
 ·obtain⟨x,X,rfl⟩:=lU.1 aG;have X:=Bt X;refine ad8 _ _ ?_;split at X
  ·exact(h.x7 x X).1
  ·exact hs.ps x X
 ·show(y2 _ _).length<=16;unfold y2;omega
 ·show(rv _ _).length<=16;unfold rv;omega
 ·rcases cm i aK with q|⟨v,bw,rfl⟩
  ·cases q
  ·exact(aqu h k).2 v bw
 ·refine aql (m:=4) ?_;show gr (zt _ _ _ _)=_;rw[cV];unfold gr x2;rw[List.map_take,List.map_drop];rfl
def aeu(h:gu c l R n b)(bB:∀i,i∈R->i∈R'):gu c l R' n (b.km c)/\x6 b.st (b.km c).st/\(b.km c).fX=b.fX/\(0<n->b.km c=b)/\((∀d,d∈b.st.au->rL l d)->∀d,d∈(b.km c).st.au->rL l d):=by
 obtain⟨e,af,an⟩:=apY (Q:=λr=>(rK r/\r.k≠1)/\(r.k=2->rL l r.e)) c [] h.TR
  (λd aG=>⟨λm=>⟨⟨I3 m aG.1,λk=>(by cases k)⟩,λ_=>aG⟩,⟨⟨Lx aG.1.ok.id,λk=>(by cases k)⟩,λk=>(by cases k)⟩⟩) h.dT
 have sP:0<n->b.km c=b:=λaZ=>by
  unfold aT.km;rw[bc];unfold aT.lf;rw[h.dd];simp;omega
 have aqv:(b.km c).gP=b.gP:=by
  by_cases aZ:0<n
  ·rw[sP aZ]
  ·unfold aT.km;split
   ·rfl
   ·have a1:∀(l:List bb) (b:aT),(vg c b l).gP=b.gP:=by
     intro l;induction l with
     |nil=>intro b;rfl
     |cons d l cY=>intro b;show(vg c (b.zo c d).1 l).gP=_;rw[cY];exact(zz c b _).2
    have ak:∀(b:aT) (i:ax),(b.x1 c i).1.gP=b.gP:=λb i=>by
     unfold aT.x1;split
     ·exact(zz c b _).2
     ·exact(zz c b _).2
    have aG:∀(f:ax->Int) (l:List bb) (st:aT×List bb),(l.foldl (zq c f) st).1.gP=st.1.gP:=by
     intro f l;induction l with
     |nil=>intro st;rfl
     |cons d l cY=>
      intro _;rw[ry,cY];unfold zq;split
      ·split
       ·exact(zz c _ _).2
       ·exact(zz c _ _).2
      ·split
       ·split
        ·exact ak _ _
        ·exact ak _ _
       ·rfl
    show(aT.O1 c _ _ _).1.gP=_;unfold aT.O1;rw[aG];exact a1 _ _
 refine⟨h.tI e (λr az=>az.1) af an (by rw[aqv];exact h.gP) bB (λi aK=>(by cases aK)),e.Lz (λr az=>az.1.2),e.fX,sP,λaZ=>e.aqe (λr az=>az.2) aZ⟩
def TV(al:lZ c)(h:cM c l T w):∀i,i∈(et w 0).aB->dY i:=by
 have aZ:=al.n0;cases e:w.bN 0 with
 |up b=>rw[wm e];exact(h.up 0 b aZ e).1.fz.BR.aB
 |down cp=>
  have:et w 0=vh cp:=by unfold et;rw[e];rfl
  rw[this];exact(h.down 0 cp aZ e).BR.aB
def Ze(al:lZ c)(h:cM c l T w)(aq:n<c.ps.length){b0:aT}(aj:w.bN n=.up b0)(ad:gu c l (et w 0).aB n b)(cm:b.st=b0.st)(cq:b.fX=b0.fX):cM c l T (w.hz n (.up (b.km c))):=by
 obtain⟨w1,aN,a6,cB,bA⟩:=aeu ad (R':=(et (w.hz n (.up (b.km c))) 0).aB) (λi aK=>by
  by_cases e:0=n
  ·subst e;rw[I7];rw[wm aj,<-cm]at aK;exact(aeu ad (λi aK=>aK)).2.1.aB.subset aK
  ·rw[ya w _ e];exact aK)
 have hY:=(h.up n b0 aq aj).2;refine h.hz al aq aj (bJ _) w1 (cm▸aN) (by rw[a6,cq];exact bJ _) (by rw[a6,cq];exact hY) (λaZ=>bA ?_) (λaZ=>?_)
 ·subst aZ;rw[cm,<-wm aj];exact h.lf
 ·rw[cB aZ,cm,<-wm aj];exact⟨h.aB n aq aZ,h.cN n aq aZ⟩
def Zf(al:lZ c)(h:cM c l T w)(aq:n<c.ps.length):cM c l T (w.tick c n):=by
 unfold ba.tick;cases aj:w.bN n with
 |down cp=>exact h
 |up b=>
  dsimp only;have ad:=(h.up n b aq aj).1;have af:=Ze al h aq aj ad rfl rfl;have ur:(w.hz n (.up (b.km c))).bN n=.up (b.km c):=uz _ _ _;have gp:=(af.up n _ aq ur).1;have Zg:=wm ur;have mM:∀i,i∈(b.km c).st.aB->i∈(et (w.hz n (.up (b.km c))) 0).aB:=λi aK=>by
   by_cases e:0=n
   ·subst e;rw[Zg];exact aK
   ·have:=af.aB n aq J;rw[Zg]at this;rw[this]at aK;cases aK
  refine(aqt n _ af (λo aM=>?_)).1;unfold aT.qB at aM;rcases ie.1 aM with aM|aM
  ·split at aM
   ·cases aM
   ·obtain rfl:=jg.1 aM;exact⟨aes al gp,λk=>(by cases k)⟩
  ·obtain⟨k,_,rfl⟩:=lU.1 aM;obtain⟨c1,c2,cV⟩:=aet al gp (TV al af) mM k;exact⟨c1,λ_=>⟨c2,λ_ _=>by rw[Zg];exact cV⟩⟩
def aqw(al:lZ c)(h:cM c l T w){x:Nat}{m:dv}(aq:n<c.ps.length)(hm:TT c l w x n m):cM c l T (w.EZ c x n m):=by
 unfold ba.EZ;cases aj:w.bN n with
 |down cp=>exact h
 |up b=>
  dsimp only;have ad:=(h.up n b aq aj).1;have hY:=(h.up n b aq aj).2;have dh:=wm aj;unfold aT.Lq;split
  ·refine Ze al h aq aj (b:={b with gq:=λk=>if k=x then some m else b.gq k}) ⟨ad.dd,ad.fz,λt bm=>(ad.tx t bm).ln rfl rfl (bJ _),ad.rM,ad.sV,λk tv hk=>?_,ad.x7,ad.dT,ad.gP,ad.bD⟩ rfl rfl;dsimp only at hk;split at hk
   ·injection hk with hk;exact hk▸hm.1
   ·exact ad.gq k tv hk
  ·split
   ·rename_i aY;have aZ:0<n:=by
     have:=aY.1;unfold aT.GK aT.lf at this;rw[ad.dd]at this;simp at this;omega
    have GV:uw c n=x:=by
     have:=aY.1;unfold aT.GK at this;rw[ad.dd,jS,jT]at this;have k:=(al.I6 aq aZ).2;have:=this.2;omega
    obtain⟨dM,ms⟩:=hm.2 aY.2;have aqx:=ms aZ GV
    obtain⟨cm,cq,eI,hn⟩:=ap7 (Q:=λr=>(rK r/\r.k≠1)/\r.k≠4) c (b:=b) hm.1 (λd aG=>⟨λk=>⟨⟨I3 k aG,λq=>(by cases q)⟩,λq=>(by cases q)⟩,⟨⟨TP aG,λq=>(by cases q)⟩,λq=>(by cases q)⟩⟩)
     (λi aK=>⟨⟨Za aK,λq=>(by cases q)⟩,λq=>(by cases q)⟩)
    have e:=cm.trans (cq.mono (λr az=>az.1) (λi aK=>aK));have oM:=e.Lz (λr az=>az.1.2);have sI:(et (w.hz n (.up (b.Dl c m))) 0)=et w 0:=ya w _ J;refine h.hz al aq aj (bJ _) ?_ oM (by rw[e.fX];exact bJ _) (by rw[e.fX];exact hY) (λq=>by omega) (λ_=>⟨?_,?_⟩)
    ·rw[sI];refine ad.tI e (λr az=>az.1) ?_ ?_ ⟨eI,λi aK=>?_⟩ (λi aK=>aK) dM
     ·rw[aem];exact ad.x7
     ·rw[aem];exact ad.dT
     ·obtain⟨d,aG,rfl⟩:=aeo (hn i aK);exact(hm.1.ps.2 d aG).ok.id
    ·rw[e.aqd (λr az=>az.2),<-dh];exact h.aB n aq aZ
    ·have a1:=cq.aqc (λr az=>by rcases az.2 with q|q<;>rw[q]<;>decide);rw[a1,GV];refine ap6 c _ _ _ _ ?_ aqx;have:=h.cN n aq aZ;rw[dh,GV]at this;exact this
   ·have:cM c l T (w.hz n (.up b)):=h.hz al aq aj (bJ _) (by
     have e:et (w.hz n (.up b)) 0=et w 0:=by
      by_cases q:0=n
      ·subst q;rw[I7,dh];rfl
      ·exact ya w _ q
     rw[e];exact ad) (x6.refl _) (bJ _) hY (λq=>by subst q;rw[<-dh];exact h.lf) (λq=>by rw[<-dh];exact⟨h.aB n aq q,h.cN n aq q⟩)
    exact this
def Zh(al:lZ c)(h:cM c l T w)(x:Nat)(aq:n<c.ps.length):cM c l T (w.xm c x n):=by
 unfold ba.xm;cases a1:w.fg x n with
 |nil=>exact h
 |cons m ms=>
  dsimp only;have fG:=h.len x n;rw[a1,me]at fG;refine aqw al (h.TS (λk hk=>by rw[a1];exact ni _ hk) J) aq ?_;exact h.x8 x n m (by rw[a1];exact o1)
def aev(al:lZ c)(x:Nat)(aq:n<c.ps.length)(f:Nat):∀{w:ba},cM c l T w->cM c l T (ba.drain c f w x n):=by
 induction f with
 |zero=>intro w h;exact h
 |succ f cY=>
  intro w h;rw[ba.drain];split
  ·exact h
  ·exact cY (Zh al h x aq)
def aew{f:ba->β->ba}(ms:List β)(bk:∀w x,x∈ms->cM c l T w->cM c l T (f w x)):∀{w:ba},cM c l T w->cM c l T (ms.foldl f w):=by
 induction ms with
 |nil=>intro w h;exact h
 |cons x ms cY=>intro w h;exact cY (λw y hy=>bk w y (ni _ hy)) (bk w x o1 h)
def aex(al:lZ c)(h:cM c l T w)(aq:n<c.ps.length):cM c l T (w.mW c n):=by
 unfold ba.mW;cases aj:w.bN n with
 |down cp=>exact h
 |up b=>
  refine aew _ (λw d aG hw=>?_) (Zf al h aq);split
  ·exact hw
  ·exact aev al n (xd.1 aG) 9 hw
def TW(al:lZ c)(h:cM c l T w):cM c l T (w.round c):=by
 unfold ba.round TK;refine aew _ (λw d aG hw=>aex al hw ?_) h;rcases ie.1 aG with aG|aG
 ·exact xd.1 (List.mem_reverse.1 aG)
 ·exact xd.1 aG
end
def pM(c:bK)(cl:Int):Option Nat:=if 0<=cl/\cl<(c.hs.length:Int) then some (c.hs.getD cl.toNat 0).toNat else none
def ba.call(c:bK)(w:ba)(cl:Int)(f:aT->Int×aT):Int×ax×ba:=
 match pM c cl with
 |none=>(1,xW,w)
 |some n=>
  match w.bN n with
  |.down _=>(210,xW,w)
  |.up b=>if (f b).1=0 then (0,b.gQ,w.hz n (.up (f b).2)) else ((f b).1,xW,w.hz n (.up b))
def ba.ka(c:bK)(w:ba)(cl:Int)(i:ax)(f:aT->Int×aT):Int×ba:=
 match pM c cl with
 |none=>(1,w)
 |some n=>
  match w.bN n with
  |.down _=>(210,w)
  |.up b=>if i.b≠(n:Int) then (1,w) else ((f b).1,w.hz n (.up (f b).2))
def aT.wo(b:aT)(i:ax)(e:List cI):Int×aT:=b.ag (GG b.tx i e)
def aT.yc(b:aT)(i:ax):Int×aT:=b.ag (GH b.tx i)
def aT.rJ(b:aT)(i:ax):Int×aT:=b.ag (GI b.tx i)
structure im (c:bK):Prop extends lZ c where
 aq:1<=c.hs.length/\c.hs.length<=32
 xl:∀h,h∈c.hs->0<=h/\h<(c.ps.length:Int)
 aey:10<=c.room
def im.at_{c:bK}(h:im c){cl:Int}{n:Nat}(k:pM c cl=some n):n<c.ps.length/\0<=cl/\cl<32/\c.hs.getD cl.toNat 0=(n:Int):=by
 unfold pM at k;split at k
 ·rename_i c6;injection k with k;have hm:c.hs.getD cl.toNat 0∈c.hs:=by
   rw[xk,eK J];exact cT _
  have:=h.xl _ hm;have:=h.aq;omega
 ·cases k
section
variable {c:bK}{l l':List hE}{T E0 n:Nat}{w:ba}{b b':aT}{R R':List ax}{tl:List ax}
def LA.ln(h:LA l d)(a1:∀x,x∈l->x.vi=true->x∈l'):LA l' d:=λk=>let ⟨x,af,an,aO⟩:=h k;⟨x,a1 x af an,an,aO⟩
def rL.ln(h:rL l d)(a1:∀x,x∈l->x.vi=true->x∈l'):rL l' d:=⟨h.1,h.2.ln a1⟩
def x5.ln{m:dv}(h:x5 (rL l) j9 m)(a1:∀x,x∈l->x.vi=true->x∈l'):x5 (rL l') j9 m:=⟨h.h,h.oP,h.vs,⟨h.dq.1,λd aG=>(h.dq.2 d aG).ln a1⟩,h.aX,h.ps,h.aB,h.aU⟩
def cM.aez(h:cM c l T w)(a1:∀x,x∈l->x.vi=true->x∈l')(Zi:∀n b,n<c.ps.length->w.bN n=.up b->∀t,t∈b.tx->Dq l' b t)(wk:(l'.map (·.id)).Nodup)(zB:∀x,x∈l'->∃n,n<c.ps.length/\x.id.b=(n:Int)/\x.id.l<=((et w n).l:Int)/\∀b,w.bN n=.up b->x.id.l=(b.st.l:Int)->x.id.s<=(b.fX:Int)):cM c l' T w:=
 ⟨λn b aq aj=>let ⟨k,hY⟩:=h.up n b aq aj;⟨⟨k.dd,k.fz,Zi n b aq aj,k.rM,k.sV,λj m hm=>(k.gq j m hm).ln a1,λd aG=>(k.x7 d aG).ln a1,k.dT,k.gP,k.bD⟩,hY⟩,
  h.down,h.cX,h.cN,h.aB,λd aG=>(h.lf d aG).ln a1,λa b m hm=>⟨(h.x8 a b m hm).1.ln a1,(h.x8 a b m hm).2⟩,h.len,wk,zB⟩
def cM.I8(al:lZ c)(h:cM c l T w)(aq:n<c.ps.length)(aj:w.bN n=.up b)(hY:T<=E0){tx:List gy}(hk:b.fX<=k)(cb:k<=E0)(bm:∀t,t∈tx->Dq l {b with tx:=tx,fX:=k} t)(yd:(tx.map (·.e.id)).Nodup)(fG:tx.length<=8):
  cM c l E0 (w.hz n (.up {b with tx:=tx,fX:=k})):=by
 have dh:=wm aj;have ad:=(h.up n b aq aj).1;refine h.hz al aq aj hY ⟨ad.dd,ad.fz,bm,yd,fG,ad.gq,ad.x7,ad.dT,ad.gP,ad.bD.1,λi aK=>?_⟩ (x6.refl _) hk cb (λq=>by subst q;rw[<-dh];exact h.lf) (λq=>by rw[<-dh];exact⟨h.aB n aq q,h.cN n aq q⟩);have:=ad.bD.2 i aK;by_cases q:0=n
 ·subst q;rw[I7];rw[dh]at this;exact this
 ·rw[ya w _ q];exact this
def aeA(w:ba)(n:Nat)(x y:oa):(w.hz n x).hz n y=w.hz n y:=by
 unfold ba.hz;congr 1;funext k;dsimp only;split<;>rfl
def aqy(h:gu c l R n b):b.gQ∉b.tx.map (·.e.id):=λk=>by
 obtain⟨t,bm,e⟩:=lU.1 k;have:=(h.tx t bm).I4;rw[e]at this;unfold aT.gQ at this;dsimp only at this;omega
def aqz(h:cM c l T w)(aq:n<c.ps.length)(aj:w.bN n=.up b):b.gQ∉l.map (·.id):=λk=>by
 obtain⟨x,X,e⟩:=lU.1 k;obtain⟨m,_,an,_,bt⟩:=h.zB x X;have hm:=(h.up n b aq aj).1.dd;rw[e]at an bt;unfold aT.gQ at an bt;dsimp only at an bt;have:m=n:=J;subst this;have:=bt b aj rfl;omega
def O9(al:lZ c)(h:cM c l T w)(aq:n<c.ps.length)(aj:w.bN n=.up b)(hY:T<=1000):dY b.gQ:=by
 have af:=(h.up n b aq aj).2;have an:=h.cX n aq;rw[wm aj]at an;have aO:=(h.up n b aq aj).1.dd;have bt:=al.x9;unfold j8 at bt;rw[jS,jT]at bt;unfold aT.gQ;exact⟨⟨by dsimp only;omega,by dsimp only;omega⟩,⟨by dsimp only;omega,by dsimp only;omega⟩,⟨by dsimp only;omega,by dsimp only;omega⟩⟩
def aeB{l:List gy}{t:gy}(h:(oN l t).1=0):(oN l t).2=l++[t]/\l.length<8/\(iL t.e).length<=3000:=by
 unfold oN at h ⊢;split at h
 ·cases h
 ·split at h
  ·cases h
  ·split at h
   ·cases h
   ·rename_i af an aO;unfold BM at aO;rw[jT]at aO;rw[aV af,aV an,aV (by unfold BM;rw[jT];exact aO)];exact⟨rfl,J,J⟩
def aeC(ad:gu c l R n b){t:gy}(I:t.e.id=b.gQ)(fG:b.tx.length<8)(a1:∀x,x∈l->x∈l')(hs:j9 t.e)(hy:t.a=true->LA l' t.e)(eO:t.a=false->t.e.k=1/\∃x:hE,x∈l'/\x.vi=false/\x.AJ=false/\x.id=t.e.id/\x.cl=t.e.c/\x.aX=t.e.aX):
  (∀u,u∈b.tx++[t]->Dq l' {b with tx:=b.tx++[t],fX:=b.fX+1} u)/\((b.tx++[t]).map (·.e.id)).Nodup/\(b.tx++[t]).length<=8:=by
 refine⟨λu aj=>?_,?_,TU⟩
 ·rcases p9.1 aj with aj|rfl
  ·have k:=ad.tx u aj;exact⟨k.eC,k.AK,k.LB,by have:=k.I4;dsimp only;omega,λq=>(k.lp q).ln (λx X _=>a1 x X),λq=>let ⟨bH,x,b1,dJ⟩:=k.I5 q;⟨bH,x,a1 x b1,dJ⟩⟩
  ·refine⟨hs,?_,?_,?_,hy,eO⟩
   ·rw[I];rfl
   ·rw[I];rfl
   ·rw[I];exact Int.le_refl _
 ·rw[fT];exact GN ad.rM (by show t.e.id∉_;rw[I];exact aqy ad)
def aeD(al:im c)(h:cM c l T w)(hY:T<=1000)(cl:Int){i:ax}{w':ba}(he:w.call c cl (λb=>b.uy cl)=(z,i,w')):cM c (if z=0 then l++[⟨i,cl,[],false,false⟩] else l) (T+1) w':=by
 refine aeE ?_;intro GX;unfold ba.call at he;cases c6:pM c cl with
 |none=>rw[c6]at he;cases he;exact GX h
 |some n=>
  obtain⟨aq,bH,b1,dJ⟩:=al.at_ c6;rw[c6]at he;dsimp only at he;cases aj:w.bN n with
  |down cp=>rw[aj]at he;cases he;exact GX h
  |up b=>
   rw[aj]at he;dsimp only at he;obtain⟨ad,_⟩:=h.up n b aq aj;by_cases aZ:(b.uy cl).1=0
   ·rw[bc aZ]at he;cases he;rw[bc rfl];have Eh:(oN b.tx ⟨⟨1,b.gQ,cl,0,[],[]⟩,false⟩).1=0:=by
     unfold aT.uy aT.pL at aZ;split at aZ
     ·assumption
     ·exact aZ
    obtain⟨cE,ch,a3⟩:=aeB Eh;have e:(b.uy cl).2={b with tx:=b.tx++[⟨⟨1,b.gQ,cl,0,[],[]⟩,false⟩],fX:=b.fX+1}:=by
     unfold aT.uy aT.pL;rw[bc Eh,cE]
    rw[e];have i1:=O9 al.tolZ h aq aj hY;have w1:=h.I8 al.tolZ aq aj (l9 T) (l9 b.fX) J (λt bm=>(ad.tx t bm).ln rfl rfl (l9 _)) ad.rM ad.sV;have u1:(w.hz n (.up {b with tx:=b.tx,fX:=b.fX+1})).bN n=.up {b with tx:=b.tx,fX:=b.fX+1}:=uz _ _ _;have fr:=aqz h aq aj
    have aN:=w1.aez (l':=l++[⟨b.gQ,cl,[],false,false⟩]) (λx X _=>Pa _ X)
     (λm dr hm I9 t bm=>by
      have k:=((w1.up m dr hm I9).1.tx t bm)
      exact⟨k.eC,k.AK,k.LB,k.I4,λq=>(k.lp q).ln (λx X _=>Pa _ X),λq=>let ⟨bH,x,b1,dJ⟩:=k.I5 q;⟨bH,x,Pa _ b1,dJ⟩⟩)
     (by rw[fT];exact GN h.wk fr)
     (λx X=>by
      rcases p9.1 X with X|rfl
      ·exact w1.zB x X
      ·refine⟨n,aq,?_,?_,λdr kF _=>?_⟩
       ·unfold aT.gQ;rw[ad.dd]
       ·rw[I7];exact Int.le_refl _
       ·rw[u1]at kF;injection kF with kF;rw[<-kF];exact Int.le_refl _)
    obtain⟨t1,t2,t3⟩:=aeC ad (l':=l++[⟨b.gQ,cl,[],false,false⟩]) (t:=⟨⟨1,b.gQ,cl,0,[],[]⟩,false⟩) rfl ch (λx X=>Pa _ X)
     ⟨⟨i1,⟨bH,b1⟩,⟨Int.le_refl _,(by decide:(0:Int)<18446744073709551616)⟩,.inl ⟨rfl,rfl,rfl,gz _,λe he=>(by cases he)⟩⟩,a3⟩ (λq=>(by cases q)) (λ_=>⟨rfl,_,List.mem_append_right _ (jg.2 rfl),rfl,rfl,rfl,rfl,rfl⟩)
    have a6:=aN.I8 al.tolZ aq u1 (bJ _) (bJ _) (show b.fX+1<=T+1 by omega) t1 t2 t3;rw[aeA]at a6;exact a6
   ·rw[aV aZ]at he;cases he;exact aeF
def Zj(al:im c)(h:cM c l T w)(hY:T<=1000)(cl:Int){f:aT->Int×aT}(bk:∀b,(∃t:gy,t.a=true/\t.e.k≠1/\t.e.id=b.gQ/\(dY b.gQ->0<=cl/\cl<32->gZ t.e)/\f b=b.pL (oN b.tx t))\/(f b).1≠0):
  cM c l (T+1) (w.call c cl f).2.2:=by
 refine aeE ?_;intro GX;unfold ba.call;cases c6:pM c cl with
 |none=>exact GX h
 |some n=>
  obtain⟨aq,bH,b1,_⟩:=al.at_ c6;dsimp only;cases aj:w.bN n with
  |down cp=>exact GX h
  |up b=>
   dsimp only;obtain⟨ad,_⟩:=h.up n b aq aj;by_cases aZ:(f b).1=0
   ·rw[bc aZ];dsimp only;rcases bk b with ⟨t,bm,hk,I,e3,e⟩|dj
    ·rw[e]at aZ ⊢;have Eh:(oN b.tx t).1=0:=by
      unfold aT.pL at aZ;split at aZ
      ·assumption
      ·exact aZ
     obtain⟨cE,ch,a3⟩:=aeB Eh;have e:(b.pL (oN b.tx t)).2={b with tx:=b.tx++[t],fX:=b.fX+1}:=by
      unfold aT.pL;rw[bc Eh,cE]
     rw[e];have i1:=O9 al.tolZ h aq aj hY;obtain⟨t1,t2,t3⟩:=aeC ad (l':=l) (t:=t) I ch (λx X=>X) ⟨e3 i1 ⟨bH,b1⟩,a3⟩ (λ_ q=>absurd q hk) (λq=>by rw[bm]at q;cases q);exact h.I8 al.tolZ aq aj (l9 T) (l9 b.fX) J t1 t2 t3
    ·exact absurd aZ dj
   ·exact aeF
end
def sW(l:List hE)(i:ax):Nat:=l.findIdx (λx=>decide (x.id=i))
def tJ(l:List hE)(i:ax)(f:hE->hE):List hE:=match l[sW l i]? with|some x=>l.set (sW l i) (f x)|none=>l
def aqA{l:List α}:∀{k:Nat}{a:α},l.Nodup->l[k]?=some a->a∉l.eraseIdx k:=by
 induction l with
 |nil=>intro k a _ h;cases h
 |cons x l cY=>
  intro k a aq h;obtain⟨af,an⟩:=IV.1 aq;cases k with
  |zero=>injection h with h;subst h;exact af
  |succ k=>
   rw[HX]at h;rw[TX];intro hm;rcases oy.1 hm with rfl|hm
   ·exact af (AL h)
   ·exact cY an h hm
def aeG{l:List α}:∀{k:Nat}{a u:α},u∈l.set k a->u=a\/u∈l.eraseIdx k:=by
 induction l with
 |nil=>intro k a u h;cases h
 |cons x l cY=>
  intro k a u h;cases k with
  |zero=>
   rcases oy.1 h with h|h
   ·exact .inl h
   ·exact .inr h
  |succ k=>
   rw[TX];rcases oy.1 h with h|h
   ·exact .inr (by rw[h];exact o1)
   ·exact(cY h).imp id (ni _)
def aeH{l:List α}{a x u:α}(h:l[k]?=some x)(aj:u∈l)(dj:u≠x):u∈l.set k a:=by
 obtain⟨j,aD⟩:=Pb.1 aj;refine Pb.2 ⟨j,?_⟩;rw[GY];split
 ·rename_i e;subst e;rw[aD]at h;injection h with h;exact absurd h dj
 ·exact aD
def aeI{p:α->Bool}{l:List α}{x:α}(h:l[l.findIdx p]?=some x):p x=true:=by
 obtain⟨hk,e⟩:=ud.1 h;have:=List.findIdx_getElem (p:=p) (xs:=l) (w:=hk);rw[e]at this;exact this
def aqB{l:List α}:∀{i j:Nat}{a:α},l.Nodup->l[i]?=some a->l[j]?=some a->i=j:=by
 induction l with
 |nil=>intro i j a _ h;cases h
 |cons x l cY=>
  intro i j a aq h k;obtain⟨af,an⟩:=IV.1 aq;cases i with
  |zero=>
   cases j with
   |zero=>rfl
   |succ j=>
    injection h with h;subst h;rw[HX]at k;exact absurd (AL k) af
  |succ i=>
   rw[HX]at h;cases j with
   |zero=>injection k with k;subst k;exact absurd (AL h) af
   |succ j=>rw[HX]at k;rw[cY an h k]
def aqC(f:α->β)(l:List α):∀k:Nat,(l.map f).eraseIdx k=(l.eraseIdx k).map f:=aeJ
def aeK{l:List hE}(aq:(l.map (·.id)).Nodup){x:hE}(X:x∈l):l[sW l x.id]?=some x:=by
 have fH:sW l x.id<l.length:=List.findIdx_lt_length_of_exists ⟨x,X,by simp⟩;have bC:=eK fH;have aY:=aeI (p:=λy:hE=>decide (y.id=x.id)) bC;rw[jT]at aY;have af:(l.map (·.id))[sW l x.id]?=some x.id:=by rw[nd,bC];simp[aY]
 obtain⟨j,aD⟩:=Pb.1 X;have an:(l.map (·.id))[j]?=some x.id:=by rw[nd,aD];rfl
 rw[aqB aq af an];exact aD
section
variable {c:bK}{l l':List hE}{T E0 n:Nat}{w:ba}{b b':aT}{R R':List ax}{tl:List ax}
def Zk{tx:List gy}{i:ax}{t:gy}(h:tF tx i=some t):tx[jJ tx i]?=some t/\t.a=false/\t.e.id=i:=by
 unfold tF at h;cases bC:tx[jJ tx i]? with
 |none=>rw[bC]at h;cases h
 |some u=>
  rw[bC]at h;dsimp only at h;split at h
  ·cases h
  ·rename_i ak;injection h with h;subst h;have:=aeI (p:=λt:gy=>cc t.e.id i) bC;rw[CR,jT]at this;exact⟨rfl,by simpa using ak,this⟩
def Zl(al:lZ c)(h:cM c l T w)(aq:n<c.ps.length)(aj:w.bN n=.up b){i:ax}{t:gy}(aM:tF b.tx i=some t)(f:hE->hE)(bk:∀x,(f x).id=x.id){tx:List gy}(hs:∀u,u∈tx->u∈b.tx.eraseIdx (jJ b.tx i)\/(∀x:hE,x∈l->x.vi=false->x.AJ=false->x.id=i->x.cl=t.e.c->x.aX=t.e.aX->f x∈tJ l i f->Dq (tJ l i f) b u))(yd:(tx.map (·.e.id)).Nodup)(fG:tx.length<=8):cM c (tJ l i f) T (w.hz n (.up {b with tx:=tx})):=by
 obtain⟨ad,LC⟩:=h.up n b aq aj;obtain⟨ug,o2,Ja⟩:=Zk aM;have sg:=ad.tx t (AL ug);obtain⟨_,x,iw,hd,ju,k2,nA,pw⟩:=sg.I5 o2;rw[Ja]at k2;have X:l[sW l i]?=some x:=by have:=aeK h.wk iw;rw[k2]at this;exact this
 have KM:tJ l i f=l.set (sW l i) (f x):=by unfold tJ;rw[X]
 have TY:∀y,y∈l->y.id≠i->y∈tJ l i f:=λy hy dj=>by rw[KM];exact aeH X hy (λe=>dj (e▸k2))
 have aeL:∀y,y∈l->y.vi=true->y∈tJ l i f:=λy hy ak=>by rw[KM];exact aeH X hy (λe=>by rw[e,hd]at ak;cases ak)
 have aqD:f x∈tJ l i f:=by
  rw[KM];obtain⟨fH,_⟩:=ud.1 X;exact Pb.2 ⟨_,List.getElem?_set_self fH⟩
 have aeM:(tJ l i f).map (·.id)=l.map (·.id):=by
  rw[KM,Ga];refine LD λj=>?_;rw[GY];split
  ·rename_i e;subst e;split
   ·rw[nd,X];simp[bk]
   ·rename_i q;rw[zy J]
  ·rfl
 have aeN:∀{dr:aT}{u:gy},Dq l dr u->u.e.id≠i->Dq (tJ l i f) dr u:=λk dj=>
  ⟨k.eC,k.AK,k.LB,k.I4,λq=>(k.lp q).ln aeL,λq=>let ⟨bH,y,b1,dJ,eG,h4,pN⟩:=k.I5 q;⟨bH,y,TY y b1 (λe=>dj (h4▸e)),dJ,eG,h4,pN⟩⟩
 have TZ:∀u,u∈b.tx.eraseIdx (jJ b.tx i)->u∈b.tx/\u.e.id≠i:=λu aj=>by
  refine⟨(TN _ _).subset aj,λe=>?_⟩;have bC:(b.tx.map (·.e.id))[jJ b.tx i]?=some i:=by rw[nd,ug];simp[Ja]
  refine aqA ad.rM bC ?_;have:(b.tx.map (·.e.id)).eraseIdx (jJ b.tx i)=(b.tx.eraseIdx (jJ b.tx i)).map (·.e.id):=aqC _ _ _;rw[this];exact lU.2 ⟨u,aj,e⟩
 have mM:(b.tx.eraseIdx (jJ b.tx i)).Sublist b.tx:=TN _ _;have w1:=h.I8 al aq aj (bJ T) (bJ b.fX) LC (tx:=b.tx.eraseIdx (jJ b.tx i)) (λu aj=>(ad.tx u (TZ u aj).1).ln rfl rfl (bJ _)) (ad.rM.sublist (mM.map _)) (ek mM.length_le ad.sV);have u1:=uz w n (.up {b with tx:=b.tx.eraseIdx (jJ b.tx i),fX:=b.fX})
 have aN:=w1.aez (l':=tJ l i f) aeL (λm dr hm I9 u T0=>by
   have k:=(w1.up m dr hm I9).1;refine aeN (k.tx u T0) ?_;by_cases e:m=n
   ·subst e;rw[u1]at I9;injection I9 with I9;rw[<-I9]at T0;exact(TZ u T0).2
   ·intro q;have bH:=(k.tx u T0).AK;rw[q,k.dd]at bH;have b1:=sg.AK;rw[Ja,ad.dd]at b1
    omega)
  (by rw[aeM];exact h.wk)
  (λy hy=>by
   have:y.id∈l.map (·.id):=by rw[<-aeM];exact nH hy
   obtain⟨z,bp,e⟩:=lU.1 this;obtain⟨m,m1,m2,m3,m4⟩:=w1.zB z bp;rw[e]at m2 m3 m4
   exact⟨m,m1,m2,m3,m4⟩)
 have a6:=aN.I8 al aq u1 (bJ _) (bJ _) LC (tx:=tx) (λu aj=>by
   rcases hs u aj with k|k
   ·exact(aeN (ad.tx u (TZ u k).1) (TZ u k).2).ln rfl rfl (bJ _)
   ·exact(k x iw hd ju k2 nA pw aqD).ln rfl rfl (bJ _)) yd fG
 rw[aeA]at a6;exact a6
def aeO{tx:List gy}{i:ax}{t aeP:gy}(h:tx[jJ tx i]?=some t)(e:aeP.e.id=t.e.id):(tx.set (jJ tx i) aeP).map (·.e.id)=tx.map (·.e.id):=by
 rw[Ga];refine LD λj=>?_;rw[GY];split
 ·rename_i q;subst q;split
  ·rw[nd,h];simp[e]
  ·rename_i q;rw[zy J]
 ·rfl
def vk(l:List hE)(z:Int)(i:ax)(f:hE->hE):List hE:=if z=0 then tJ l i f else l
def Zm(al:im c)(h:cM c l T w)(cl:Int)(i:ax)(g:aT->Int×aT)(f:hE->hE){w':ba}(he:w.ka c cl i g=(z,w'))(bC:∀n b,n<c.ps.length->w.bN n=.up b->(g b).1≠0/\(g b).2=b\/(g b).1=0/\cM c (tJ l i f) T (w.hz n (.up (g b).2))):cM c (vk l z i f) T w':=by
 unfold ba.ka at he;cases c6:pM c cl with
 |none=>rw[c6]at he;cases he;exact h
 |some n=>
  obtain⟨aq,_,_,_⟩:=al.at_ c6;rw[c6]at he;dsimp only at he;cases aj:w.bN n with
  |down cp=>rw[aj]at he;cases he;exact h
  |up b=>
   rw[aj]at he;dsimp only at he;by_cases aZ:i.b=(n:Int)
   ·rw[aV (by simpa using aZ)]at he;rcases bC n b aq aj with ⟨q1,dk⟩|⟨q1,dk⟩
    ·obtain⟨ad,LC⟩:=h.up n b aq aj;cases he;unfold vk;rw[aV q1,dk];exact h.I8 al.tolZ aq aj (bJ _) (bJ _) LC (λt bm=>(ad.tx t bm).ln rfl rfl (bJ _)) ad.rM ad.sV
    ·cases he;unfold vk;rw[bc q1];exact dk
   ·rw[bc aZ]at he;cases he;exact h
def aeQ(al:im c)(h:cM c l T w)(cl:Int)(i:ax)(e:List cI)(aK:∀a,a∈e->lx a.n){w':ba}(he:w.ka c cl i (λb=>b.wo i e)=(z,w')):cM c (vk l z i (λx=> {x with aX:=x.aX++[e]})) T w':=by
 refine Zm al h cl i _ _ he (λn b aq aj=>?_);obtain⟨ad,_⟩:=h.up n b aq aj;unfold aT.wo aT.ag GG;cases aM:tF b.tx i with
 |none=>exact .inl ⟨by simp,by simp⟩
 |some t=>
  dsimp only;split
  ·exact .inl ⟨by simp,by simp⟩
  ·rename_i sJ;split
   ·exact .inl ⟨by simp,by simp⟩
   ·rename_i fG;split
    ·exact .inl ⟨by simp,by simp⟩
    ·rename_i aeR;rw[bc rfl];refine .inr ⟨rfl,?_⟩;obtain⟨ug,o2,Ja⟩:=Zk aM;have sg:=ad.tx t (AL ug);refine Zl al.tolZ h aq aj aM (λx=> {x with aX:=x.aX++[e]}) (λx=>rfl) (λu aj=>(aeG aj).symm.imp id (λtc x iw hd ju k2 nA pw X=>?_)) (by refine(eH List.Nodup (aeO ug ?_)).mpr ad.rM;rfl) (by rw[CT];exact ad.sV);subst tc;obtain⟨bH,-⟩:=sg.I5 o2;refine⟨⟨⟨sg.eC.ok.id,sg.eC.ok.c,sg.eC.ok.u,?_⟩,?_⟩,sg.AK,sg.LB,sg.I4,λq=>?_,λ_=>⟨bH,_,X,hd,ju,by rw[k2,<-Ja],nA,by rw[pw]⟩⟩
     ·rcases sg.eC.ok.k with ⟨cE,ch,a3,a4,a5⟩|⟨cE,_⟩|⟨cE,_⟩
      ·refine .inl ⟨cE,ch,a3,TU,λd aG=>?_⟩;rcases p9.1 aG with aG|rfl
       ·exact a5 d aG
       ·exact apU (by simpa using sJ) aK
      ·rw[bH]at cE;cases cE
      ·rw[bH]at cE;cases cE
     ·unfold BM at aeR;simpa using aeR
     ·rw[o2]at q;cases q
def aeS(al:im c)(h:cM c l T w)(cl:Int)(i:ax){w':ba}(he:w.ka c cl i (λb=>b.yc i)=(z,w')):cM c (vk l z i (λx=> {x with vi:=true})) T w':=by
 refine Zm al h cl i _ _ he (λn b aq aj=>?_);obtain⟨ad,_⟩:=h.up n b aq aj;unfold aT.yc aT.ag GH;cases aM:tF b.tx i with
 |none=>exact .inl ⟨by simp,by simp⟩
 |some t=>
  dsimp only;rw[bc rfl];refine .inr ⟨rfl,?_⟩;obtain⟨ug,_,Ja⟩:=Zk aM;have sg:=ad.tx t (AL ug);refine Zl al.tolZ h aq aj aM (λx=> {x with vi:=true}) (λx=>rfl) (λu aj=>(aeG aj).symm.imp id (λtc x iw hd ju k2 nA pw X=>?_)) (by refine(eH List.Nodup (aeO ug ?_)).mpr ad.rM;rfl) (by rw[CT];exact ad.sV);subst tc;exact⟨sg.eC,sg.AK,sg.LB,sg.I4,λ_ _=>⟨_,X,rfl,ju,by rw[k2,<-Ja],nA,pw⟩,λq=>(by cases q)⟩
def aqE(al:im c)(h:cM c l T w)(cl:Int)(i:ax){w':ba}(he:w.ka c cl i (λb=>b.rJ i)=(z,w')):cM c (vk l z i (λx=> {x with AJ:=true})) T w':=by
 refine Zm al h cl i _ _ he (λn b aq aj=>?_);obtain⟨ad,_⟩:=h.up n b aq aj;unfold aT.rJ aT.ag GI;cases aM:tF b.tx i with
 |none=>exact .inl ⟨by simp,by simp⟩
 |some t=>
  dsimp only;rw[bc rfl];refine .inr ⟨rfl,?_⟩;have mM:(vf b.tx i).Sublist b.tx:=I1 _ _;exact Zl al.tolZ h aq aj aM (λx=> {x with AJ:=true}) (λx=>rfl) (λu aj=>.inl aj) (ad.rM.sublist (mM.map _)) (ek mM.length_le ad.sV)
def aeT(h:cM c l T w)(aq:n<c.ps.length)(k:Nat):et (w.pe n) k=et w k:=by
 unfold ba.pe;cases aj:w.bN n with
 |down cp=>rfl
 |up b=>
  dsimp only;by_cases e:k=n
  ·subst e;rw[I7,wm aj];exact(h.up k b aq aj).1.fz.eq
  ·exact ya w _ e
def Zn(h:cM c l T w)(aq:n<c.ps.length):cM c l T (w.pe n):=by
 have hs:=aeT h aq;have vl:(w.pe n).fg=w.fg:=by unfold ba.pe;cases w.bN n<;>rfl
 have np:∀k yb,(w.pe n).bN k=.up yb->w.bN k=.up yb:=λk yb hk=>by
  unfold ba.pe at hk;cases aj:w.bN n with
  |down cp=>rw[aj]at hk;exact hk
  |up b=>
   rw[aj]at hk;dsimp only at hk;by_cases e:k=n
   ·subst e;rw[uz]at hk;cases hk
   ·rw[zC w _ e]at hk;exact hk
 refine⟨λk yb hk vj=>?_,λk cp hk j4=>?_,λk hk=>by rw[hs];exact h.cX k hk,λk hk aZ=>by rw[hs,hs];exact h.cN k hk aZ,λk hk aZ=>by rw[hs];exact h.aB k hk aZ,λd aG=>by rw[hs]at aG;exact h.lf d aG,
  λa b m hm=>by rw[vl]at hm;rw[hs,hs];exact h.x8 a b m hm,λa b=>by rw[vl];exact h.len a b,h.wk,λx X=>?_⟩
 ·rw[hs];exact h.up k yb hk (np k yb vj)
 ·unfold ba.pe at j4;cases aj:w.bN n with
  |down aeU=>rw[aj]at j4;exact h.down k cp hk j4
  |up b=>
   rw[aj]at j4;dsimp only at j4;by_cases e:k=n
   ·subst e;rw[uz]at j4;injection j4 with j4;subst j4;have:=(h.up k b hk aj).1.fz;rw[this.eq];exact this
   ·rw[zC w _ e]at j4;exact h.down k cp hk j4
 ·obtain⟨m,m1,m2,m3,m4⟩:=h.zB x X;exact⟨m,m1,m2,by rw[hs];exact m3,λb ad=>m4 b (np m b ad)⟩
def aeV(aq:n<c.ps.length)(aG:w.bN n=.down cp)(k:Nat):et (w.sU n) k=if k=n then {et w n with l:=(et w n).l+1} else et w k:=by
 unfold ba.sU;rw[aG];dsimp only;split
 ·rename_i e;subst e;rw[I7];have:et w k=vh cp:=by unfold et;rw[aG];rfl
  rw[this];rfl
 ·rename_i e;exact ya w _ e
def aeW{s:ew}(h:qC c cp s)(a1:s.l<255):qC c (q5 {s with l:=s.l+1}) {s with l:=s.l+1}:=by
 have hw:Dn {s with l:=s.l+1}:=⟨h.wf.se,h.wf.h6,h.wf.bW,h.wf.eE,h.wf.lb,h.wf.fb⟩;have hs:=h.BR;have af:=apQ h.zA (λr az=>(h.GU r az).aqa);have an:=apR h.cX a1;have aO:=h.p3;have aZ:jo (q5 kU)=0:=rfl;refine⟨λr az=>?_,Y4 hw (Nat.succ_pos _),?_,Nat.succ_pos _⟩
 ·unfold q5 at az;rw[aV (by simp only;omega)]at az;rcases ie.1 az with az|az
  ·obtain rfl:=jg.1 az;exact .inl ⟨_,rfl,by unfold gw;dsimp only;omega⟩
  ·rcases ie.1 az with az|az
   ·obtain⟨k,_,rfl⟩:=List.mem_mapIdx.1 az;exact I3 k (hs.au _ (cT _))
   ·rcases ie.1 az with az|az
    ·obtain⟨d,aG,rfl⟩:=lU.1 az;exact TP (hs.ps d aG)
    ·obtain⟨d,aG,rfl⟩:=lU.1 az;exact Lx (hs.aB d aG)
 ·rw[BQ]at af ⊢;dsimp only;omega
def aeX(al:lZ c)(h:cM c l T w)(aq:n<c.ps.length)(hY:T<200):cM c l (T+1) (w.sU n):=by
 cases aG:w.bN n with
 |up b=>
  have:w.sU n=w:=by unfold ba.sU;rw[aG]
  rw[this];exact⟨λn b aq aj=>⟨(h.up n b aq aj).1,by have:=(h.up n b aq aj).2;omega⟩,h.down,λn aq=>by have:=h.cX n aq;omega,h.cN,h.aB,h.lf,h.x8,h.len,h.wk,h.zB⟩
 |down cp=>
  have hs:=aeV (w:=w) aq aG;have dh:et w n=vh cp:=by unfold et;rw[aG];rfl
  have oM:=h.down n cp aq aG;have aqF:=h.cX n aq;rw[dh]at aqF;have az:w.sU n=w.hz n (.up (p8 n (vh cp))):=by unfold ba.sU;rw[aG]
  have T1:∀k,(et (w.sU n) k).au=(et w k).au:=λk=>by rw[hs];split<;>simp_all
  have iV:∀k,(et (w.sU n) k).aB=(et w k).aB:=λk=>by rw[hs];split<;>simp_all
  have vl:(w.sU n).fg=w.fg:=by rw[az];rfl
  refine⟨λk yb hk vj=>?_,λk aeU hk j4=>?_,λk hk=>?_,λk hk aZ=>by rw[T1,T1];exact h.cN k hk aZ,λk hk aZ=>by rw[iV];exact h.aB k hk aZ,λd aG=>by rw[T1]at aG;exact h.lf d aG,
   λa b m hm=>by rw[vl]at hm;rw[T1,iV];exact h.x8 a b m hm,λa b=>by rw[vl];exact h.len a b,h.wk,λx X=>?_⟩
  ·rw[iV];by_cases e:k=n
   ·subst e;rw[az,uz]at vj;injection vj with vj;subst vj;exact⟨⟨rfl,aeW oM J,λt bm=>(by cases bm),tG,gz _,λj m hm=>(by cases hm),λd aG=>(by cases aG),gz _,⟨gz _,λi aK=>(by cases aK)⟩,⟨tG,λi aK=>(by cases aK)⟩⟩,gz _⟩
   ·rw[az,zC w _ e]at vj;exact⟨(h.up k yb hk vj).1,by have:=(h.up k yb hk vj).2;omega⟩
  ·by_cases e:k=n
   ·subst e;rw[az,uz]at j4;cases j4
   ·rw[az,zC w _ e]at j4;exact h.down k aeU hk j4
  ·rw[hs];split
   ·dsimp only;rw[dh];omega
   ·have:=h.cX k hk;omega
  ·obtain⟨m,m1,m2,m3,m4⟩:=h.zB x X;refine⟨m,m1,m2,?_,λb ad he=>?_⟩
   ·rw[hs];split
    ·rename_i e;subst e;dsimp only;omega
    ·exact m3
   ·by_cases e:m=n
    ·subst e;rw[az,uz]at ad;injection ad with ad;subst ad;rw[dh]at m3;unfold p8 at he;dsimp only at he;omega
    ·rw[az,zC w _ e]at ad;exact m4 b ad he
def aqG(al:lZ c)(h:cM c l T w):∀n,n<c.ps.length->gr (et w n).au <+:gr (et w 0).au:=by
 intro n;induction n using Nat.strongRecOn with
 |_ n cY=>
  intro aq;by_cases aZ:0<n
  ·exact(h.cN n aq aZ).trans (cY _ (al.I6 aq aZ).1 (Nat.lt_trans (al.I6 aq aZ).1 aq))
  ·have:n=0:=J;subst this;exact BS _
def aeY(h:cM c l T w)(aq:n<c.ps.length):Dn (et w n):=by
 cases e:w.bN n with
 |up b=>rw[wm e];exact(h.up n b aq e).1.fz.wf
 |down cp=>
  have:et w n=vh cp:=by unfold et;rw[e];rfl
  rw[this];exact(h.down n cp aq e).wf
def aqH(al:lZ c)(h:cM c l T w){n:Nat}(aq:n<c.ps.length)(hk:k<c.ps.length){i:ax}(aK:i∈(et w k).aB):i∉gr (et w n).au:=by
 by_cases aZ:0<k
 ·rw[h.aB k hk aZ]at aK;cases aK
 ·have:k=0:=J;subst this;exact λq=>(aeY h hk).lb i ((aqG al h n aq).subset q) aK
def aeZ(al:im c)(az:jo [nR 1]<=c.room):cM c [] 0 (ba.new):=by
 refine⟨λn b aq aj=>?_,λn cp aq aG=>(by cases aG),λn aq=>bJ _,λn aq aZ=>BS _,λn aq aZ=>rfl,λd aG=>(by cases aG),λa b m hm=>(by cases hm),λa b=>gz _,tG,λx X=>(by cases X)⟩;injection aj with aj;subst aj;have a1:(p8 n kU).fz= [nR 1]:=rfl;refine⟨⟨rfl,⟨λr az=>?_,Y4 (s:=⟨1,[],[],[]⟩) ⟨tG,tG,tG,λi h=>(by cases h),λi h=>(by cases h),λi h=>(by cases h)⟩ Nat.one_pos,az,Nat.one_pos⟩,λt bm=>(by cases bm),tG,gz _,λj m hm=>(by cases hm),λd aG=>(by cases aG),gz _,⟨gz _,λi aK=>(by cases aK)⟩,⟨tG,λi aK=>(by cases aK)⟩⟩,gz _⟩;exact ae0
end
end
section
def Zo{P:Program}{ops:Array Oper}{Q:Exit->Act->aC->Prop}{md:Region.Mode}{S:ye}(i:Nat)(d:Option Tmp){v:Value}{fuel:Nat}{listed:Array Bool}{a:Act}{w:aC}(hs:Region.noSelect ops=true)(bk:Region.free md ops listed i=true)(az:(Region.ready md ops listed).contains i=true)(iQ:∀c a w,Q (.panic c) (a.put d v) w->Q (.panic c) a w)(hy:∃gl,ops[i]?=some gl/\gl.dst=d/\YieldsIf P ops S gl v a)(bj:S w)(h:wpAnyH P md ops Q S fuel (listed.setIfInBounds i true) (a.put d v) w):wpAnyH P md ops Q S (fuel+1) listed a w:=by
 obtain⟨gl,aK,rfl,hy⟩:=hy;exact wpAnyH_take aK hs bk az iQ hy bj h
section
variable {P:Program}{ops:Array Oper}{Q:Exit->Act->World->Prop}{md:Region.Mode}{S:World->Prop}{v:Value}{n:Nat}{l:Array Bool}{a:Act}{w:World}{gl:Oper}{q:Prop}{L:Nat}{A:World->Prop}
def de(i:Nat){d:Nat}(k:q)(bj:S w:=by exact bd)(aM:ops[i]?=some gl:=by rfl)(aG:gl.dst=some d:=by rfl)(hs:Region.noSelect ops=true:=by kernel_rfl)(bk:Region.free md ops l i=true:=by kernel_rfl)(az:(Region.ready md ops l).contains i=true:=by kernel_rfl)(iQ:∀c a w,Q (.panic c) (a.put (some d) v) w->Q (.panic c) a w:=by exact λ_ _ _ h=>h)(hw:Region.wanted gl (yielded ops a.tmps)=true:=by rfl)(hy:∀w,S w->(execOp a.eval gl).run P w=.ok (.value v) w:=by intro w fh;(try dsimp only at fh);go_simp;(first|done|with_reducible rfl))(h:q->wpAnyH P md ops Q S n (l.setIfInBounds i true) (a.put (some d) v) w:=by intro k;(try simp only[Act.put,pf,oC,oD]);exact k):wpAnyH P md ops Q S (n+1) l a w:=
 Zo i (some d) hs bk az iQ ⟨_,aM,aG,.inl ⟨hw,hy⟩⟩ bj (h k)
def zD(i:Nat){d:Nat}(f:∀{w},S w->A w)(k:q)(bj:S w:=by exact bd)(aM:ops[i]?=some gl:=by rfl)(aG:gl.dst=some d:=by rfl)(hs:Region.noSelect ops=true:=by kernel_rfl)(bk:Region.free md ops l i=true:=by kernel_rfl)(az:(Region.ready md ops l).contains i=true:=by kernel_rfl)(iQ:∀c a w,Q (.panic c) (a.put (some d) v) w->Q (.panic c) a w:=by exact λ_ _ _ h=>h)(hw:Region.wanted gl (yielded ops a.tmps)=true:=by rfl)(hy:(∀{w},S w->A w)->∀w,S w->(execOp a.eval gl).run P w=.ok (.value v) w:=by intro f w fh;have dU:=f fh;(try dsimp only at dU);go_simp;(first|done|with_reducible rfl))(h:q->wpAnyH P md ops Q S n (l.setIfInBounds i true) (a.put (some d) v) w:=by intro k;(try simp only[Act.put,pf,oC,oD]);exact k):wpAnyH P md ops Q S (n+1) l a w:=
 Zo i (some d) hs bk az iQ ⟨_,aM,aG,.inl ⟨hw,hy f⟩⟩ bj (h k)
def l0(i:Nat){d:Nat}(f:∀{w},S w->A w)(k:q)(bj:S w:=by exact bd)(aM:ops[i]?=some gl:=by rfl)(aG:gl.dst=some d:=by rfl)(hs:Region.noSelect ops=true:=by kernel_rfl)(bk:Region.free md ops l i=true:=by kernel_rfl)(az:(Region.ready md ops l).contains i=true:=by kernel_rfl)(iQ:∀c a w,Q (.panic c) (a.put (some d) v) w->Q (.panic c) a w:=by exact λ_ _ _ h=>h)(hw:Region.wanted gl (yielded ops a.tmps)=true:=by rfl)(hy:(∀{w},S w->A w)->∀w,S w->(execOp a.eval gl).run P w=.ok (.value v) w:=by intro f w fh;have bs:=f fh;clear f;(try dsimp only at bs);(try have dU:=aL (o:=0) bs rfl);(try have cm:=aL (o:=1) bs rfl);(try have cq:=aL (o:=2) bs rfl);(try have fo:=aL (o:=3) bs rfl);(try have iM:=aL (o:=4) bs rfl);(try have kB:=aL (o:=5) bs rfl);(try have mi:=aL (o:=6) bs rfl);(try have lA:=aL (o:=7) bs rfl);(try have wq:=aL (o:=8) bs rfl);(try have Dr:=aL (o:=9) bs rfl);(try have Pc:=aL (o:=10) bs rfl);(try have ae1:=aL (o:=11) bs rfl);(try have ae2:=aL (o:=12) bs rfl);(try have ae3:=aL (o:=13) bs rfl);clear bs;go_simp;(first|done|with_reducible rfl))(h:q->wpAnyH P md ops Q S n (l.setIfInBounds i true) (a.put (some d) v) w:=by intro k;(try simp only[Act.put,pf,oC,oD]);exact k):wpAnyH P md ops Q S (n+1) l a w:=
 Zo i (some d) hs bk az iQ ⟨_,aM,aG,.inl ⟨hw,hy f⟩⟩ bj (h k)
end
section
variable {P:Program}{md:Region.Mode}{ops:Array Oper}{Q:Exit->Act->World->Prop}{a:Act}{w:World}
def AM{p:Prop}(h:p:=by(try dsimp only);exact U):p:=h
def h9{S:ye}(i:Nat){o:Oper}{n:Nat}{l:Array Bool}(h:∀lC:Act->aC->Prop,Shut (∀a w,S w->(S w->wpAnyH P md ops Q S n (l.setIfInBounds i true) a w)->lC a w)->if Region.wanted o (yielded ops a.tmps)=true then Oper.wp P o a w lC Q else lC (a.put o.dst undef) w)(aM:ops[i]?=some o:=by rfl)(az:Region.ready md ops l= [i]:=by kernel_rfl):wpAnyH P md ops Q S (n+1) l a w:=
 zE az (by simp) (AllReadyH.cons aM h AllReadyH.nil)
def sX(S:ye){id:Nat}(h:S w.drew->wpAnyH P .any ops Q S ops.size (Array.replicate ops.size false) a w.drew)(bj:S w.drew:=by(try dsimp only);exact U)(hm:P.follows .mixedOrders=true:=by kernel_rfl):(Code.region id ops true).wp P Q a w:=wp_region_held_drew hm bj h
end
end
section
section
variable {P:Program}{ops:Array Oper}{Q:Exit->Act->World->Prop}{md:Region.Mode}{S:World->Prop}{L:Nat}
def sY(P:Program)(md:Region.Mode)(ops:Array Oper)(Q:Exit->Act->World->Prop)(S:World->Prop)(L:Nat):Nat->Array Bool->Act->World->Prop
 |0,l,a,w=>Region.ready md ops l= []/\Q .normal a w
 |n+1,l,a,w=>(Region.ready md ops l= []->Q .normal a w)/\∀i∈Region.ready md ops l,wpOp P ops Q i (λga w'=>(i≠L->S w')/\sY P md ops Q S L n (l.setIfInBounds i true) ga w') a w
def ae4:∀(n:Nat) (l:Array Bool) (a:Act) (w:aC),sY P md ops Q S L n l a w->wpAny P md ops Q n l a w
 |0,_,_,_,h=>h
 |n+1,_,_,_,h=>⟨h.1,λi aK=>wpOp_mono (λga w' k=>ae4 n _ ga w' k.2) (h.2 i aK)⟩
def LF(md:Region.Mode)(ops:Array Oper)(L i:Nat):Bool:=
 match ops[L]? with
 |some o=>o.after.any (λe=>Region.binds md e&&e.on==i)
 |none=>false
def Zp{i:Nat}{l:Array Bool}(az:i∈Region.ready md ops l){e:Nat}(he:e=i):¬l.getD e false=true:=by
 subst he;intro h;have aZ:=(mem_ready.1 az).1;rcases Bh e l.size with k|k
 ·simp[k]at h aZ;rw[aZ]at h;cases h
 ·simp[Nn k]at h
def aqI{i:Nat}{gl:Oper}{v:Value}(aK:ops[i]?=some gl)(Pd:∀(j:Nat) (o:Oper) cs b,ops[j]?=some o->o.op≠.select cs b)(iQ:∀c a w,Q (.panic c) (a.put gl.dst v) w->Q (.panic c) a w)(eV:LF md ops L i=true):
  ∀(n:Nat) (l:Array Bool) (a:Act) (w:aC),
   (∀j uA,ops[j]?=some uA->j≠i->l.getD j true=false->(∀e∈uA.after,Region.binds md e=true->e.on≠i)->gl.apart ops uA=true)->
   i∈Region.ready md ops l->YieldsIf P ops S gl v a->S w->
   sY P md ops Q S L n (l.setIfInBounds i true) (a.put gl.dst v) w->sY P md ops Q S L (n+1) l a w:=by
 have aqJ:∀(l:Array Bool) (j:Nat),i∈Region.ready md ops l->j∈Region.ready md ops l->j≠i->j≠L:=λl j az aD _ e=>by
  subst e;obtain⟨_,uA,vm,wu⟩:=mem_ready.1 aD;exact aqK
 intro n;induction n with
 |zero=>
  intro l a w _ az hy bj H;refine⟨(λh=>by rw[h]at az;cases az),λj aD=>?_⟩;by_cases e:j=i
  ·subst e;exact hy.wpOp aK bj ⟨λ_=>bj,H⟩
  exact aqL
 |succ n cY=>
  intro l a w Pe az hy bj H;refine⟨(λh=>by rw[h]at az;cases az),λj aD=>?_⟩;by_cases e:j=i
  ·subst e;exact hy.wpOp aK bj ⟨λ_=>bj,H⟩
  ·refine aqM ?_;intro Jb uA vm wu eO Pf;have LG:=aqJ l j az aD e;refine wpOp_mono (λga w' k=>⟨λ_=>k.2.1 LG,cY (l.setIfInBounds j true) ga w' (λm J Zq Pg Zr Ge=>?_) (ready_mono az (Ne.symm e)) k.1 (k.2.1 LG) ?_⟩) Pf;exact aqN;exact aqO
def Zs(i:Nat)(d:Option Tmp){v:Value}{n:Nat}{l:Array Bool}{a:Act}{w:aC}(hs:Region.noSelect ops=true)(bk:Region.free md ops l i=true)(az:(Region.ready md ops l).contains i=true)(eV:LF md ops L i=true)(iQ:∀c a w,Q (.panic c) (a.put d v) w->Q (.panic c) a w)(hy:∃gl,ops[i]?=some gl/\gl.dst=d/\YieldsIf P ops S gl v a)(bj:S w)(h:sY P md ops Q S L n (l.setIfInBounds i true) (a.put d v) w):sY P md ops Q S L (n+1) l a w:=by
 obtain⟨gl,aK,rfl,hy⟩:=hy;exact aqI aK (Region.noSelect_spec hs) iQ eV n l a w (Region.free_spec aK bk) (by simpa using az) hy bj h
def T2(P:Program)(md:Region.Mode)(ops:Array Oper)(Q:Exit->Act->World->Prop)(S:World->Prop)(L n:Nat)(l:Array Bool)(a:Act)(w:World)(rs:List Nat):Prop:=
 ∀i∈rs,wpOp P ops Q i (λga w'=>(i≠L->S w')/\sY P md ops Q S L n (l.setIfInBounds i true) ga w') a w
def LH{n:Nat}{l:Array Bool}{a:Act}{w:aC}:T2 P md ops Q S L n l a w []:=λ_ h=>by cases h
def Jc{n:Nat}{l:Array Bool}{a:Act}{w:aC}{i:Nat}{o:Oper}(aM:ops[i]?=some o)(h:∀lC:Act->aC->Prop,Shut (∀a w,(i≠L->S w)->((i≠L->S w)->sY P md ops Q S L n (l.setIfInBounds i true) a w)->lC a w)->if Region.wanted o (yielded ops a.tmps)=true then Oper.wp P o a w lC Q else lC (a.put o.dst undef) w)(hs:T2 P md ops Q S L n l a w rs):T2 P md ops Q S L n l a w (i::rs):=λj aD=>ae5
def yf{n:Nat}{l:Array Bool}{a:Act}{w:aC}(az:Region.ready md ops l=rs)(dj:rs≠ [])(h:T2 P md ops Q S L n l a w rs):sY P md ops Q S L (n+1) l a w:=⟨λaZ=>absurd (az▸aZ) dj,az▸h⟩
def Ds{l:Array Bool}{a:Act}{w:aC}(az:Region.ready md ops l= [])(h:Q .normal a w):∀n,sY P md ops Q S L n l a w
 |0=>⟨az,h⟩
 |_+1=>⟨λ_=>h,by rw[az];simp⟩
def Ph(L:Nat){id:Nat}{a:Act}{w:aC}(hm:P.follows .mixedOrders=true)(bj:S w.drew)(h:S w.drew->sY P .any ops Q S L ops.size (Array.replicate ops.size false) a w.drew):(Code.region id ops true).wp P Q a w:=
 wp_region_any hm (ae4 _ _ _ _ (h bj))
end
section
variable {P:Program}{ops:Array Oper}{Q:Exit->Act->World->Prop}{md:Region.Mode}{S:World->Prop}{v:Value}{n:Nat}{l:Array Bool}{a:Act}{w:World}{gl:Oper}{q:Prop}{L:Nat}{A:World->Prop}
def gR(i:Nat){d:Nat}(k:q)(bj:S w:=by exact bd)(aM:ops[i]?=some gl:=by rfl)(aG:gl.dst=some d:=by rfl)(hs:Region.noSelect ops=true:=by kernel_rfl)(bk:Region.free md ops l i=true:=by kernel_rfl)(az:(Region.ready md ops l).contains i=true:=by kernel_rfl)(eV:LF md ops L i=true:=by kernel_rfl)(iQ:∀c a w,Q (.panic c) (a.put (some d) v) w->Q (.panic c) a w:=by exact λ_ _ _ h=>h)(hw:Region.wanted gl (yielded ops a.tmps)=true:=by rfl)(hy:∀w,S w->(execOp a.eval gl).run P w=.ok (.value v) w:=by intro w fh;(try dsimp only at fh);go_simp;(first|done|with_reducible rfl))(h:q->sY P md ops Q S L n (l.setIfInBounds i true) (a.put (some d) v) w:=by intro k;(try simp only[Act.put,pf,oC,oD]);exact k):sY P md ops Q S L (n+1) l a w:=
 Zs i (some d) hs bk az eV iQ ⟨_,aM,aG,.inl ⟨hw,hy⟩⟩ bj (h k)
def aqP(i:Nat){d:Nat}(f:∀{w},S w->A w)(k:q)(bj:S w:=by exact bd)(aM:ops[i]?=some gl:=by rfl)(aG:gl.dst=some d:=by rfl)(hs:Region.noSelect ops=true:=by kernel_rfl)(bk:Region.free md ops l i=true:=by kernel_rfl)(az:(Region.ready md ops l).contains i=true:=by kernel_rfl)(eV:LF md ops L i=true:=by kernel_rfl)(iQ:∀c a w,Q (.panic c) (a.put (some d) v) w->Q (.panic c) a w:=by exact λ_ _ _ h=>h)(hw:Region.wanted gl (yielded ops a.tmps)=true:=by rfl)(hy:(∀{w},S w->A w)->∀w,S w->(execOp a.eval gl).run P w=.ok (.value v) w:=by intro f w fh;have dU:=f fh;(try dsimp only at dU);go_simp;(first|done|with_reducible rfl))(h:q->sY P md ops Q S L n (l.setIfInBounds i true) (a.put (some d) v) w:=by intro k;(try simp only[Act.put,pf,oC,oD]);exact k):sY P md ops Q S L (n+1) l a w:=
 Zs i (some d) hs bk az eV iQ ⟨_,aM,aG,.inl ⟨hw,hy f⟩⟩ bj (h k)
def l1(i:Nat){d:Nat}(f:∀{w},S w->A w)(k:q)(bj:S w:=by exact bd)(aM:ops[i]?=some gl:=by rfl)(aG:gl.dst=some d:=by rfl)(hs:Region.noSelect ops=true:=by kernel_rfl)(bk:Region.free md ops l i=true:=by kernel_rfl)(az:(Region.ready md ops l).contains i=true:=by kernel_rfl)(eV:LF md ops L i=true:=by kernel_rfl)(iQ:∀c a w,Q (.panic c) (a.put (some d) v) w->Q (.panic c) a w:=by exact λ_ _ _ h=>h)(hw:Region.wanted gl (yielded ops a.tmps)=true:=by rfl)(hy:(∀{w},S w->A w)->∀w,S w->(execOp a.eval gl).run P w=.ok (.value v) w:=by intro f w fh;have bs:=f fh;clear f;(try dsimp only at bs);(try have dU:=aL (o:=0) bs rfl);(try have cm:=aL (o:=1) bs rfl);(try have cq:=aL (o:=2) bs rfl);(try have fo:=aL (o:=3) bs rfl);(try have iM:=aL (o:=4) bs rfl);(try have kB:=aL (o:=5) bs rfl);(try have mi:=aL (o:=6) bs rfl);(try have lA:=aL (o:=7) bs rfl);(try have wq:=aL (o:=8) bs rfl);(try have Dr:=aL (o:=9) bs rfl);(try have Pc:=aL (o:=10) bs rfl);(try have ae1:=aL (o:=11) bs rfl);(try have ae2:=aL (o:=12) bs rfl);(try have ae3:=aL (o:=13) bs rfl);clear bs;go_simp;(first|done|with_reducible rfl))(h:q->sY P md ops Q S L n (l.setIfInBounds i true) (a.put (some d) v) w:=by intro k;(try simp only[Act.put,pf,oC,oD]);exact k):sY P md ops Q S L (n+1) l a w:=
 Zs i (some d) hs bk az eV iQ ⟨_,aM,aG,.inl ⟨hw,hy f⟩⟩ bj (h k)
end
section
variable {P:Program}{md:Region.Mode}{ops:Array Oper}{Q:Exit->Act->World->Prop}{a:Act}{w:World}
def kW{S:ye}{L:Nat}(i:Nat){o:Oper}{n:Nat}{l:Array Bool}(h:∀lC:Act->aC->Prop,Shut (∀a w,(i≠L->S w)->((i≠L->S w)->sY P md ops Q S L n (l.setIfInBounds i true) a w)->lC a w)->if Region.wanted o (yielded ops a.tmps)=true then Oper.wp P o a w lC Q else lC (a.put o.dst undef) w)(aM:ops[i]?=some o:=by rfl)(az:Region.ready md ops l= [i]:=by kernel_rfl):sY P md ops Q S L (n+1) l a w:=
 yf az (by simp) (Jc aM h LH)
def BU(L:Nat)(S:ye){id:Nat}(h:S w.drew->sY P .any ops Q S L ops.size (Array.replicate ops.size false) a w.drew)(bj:S w.drew:=by(try dsimp only);exact U)(hm:P.follows .mixedOrders=true:=by kernel_rfl):(Code.region id ops true).wp P Q a w:=Ph L hm bj h
end
end
section
section
variable {P:Program}{ops:Array Oper}{Q:Exit->Act->World->Prop}{md:Region.Mode}{S:World->Prop}{L:Nat}
def qa(P:Program)(md:Region.Mode)(ops:Array Oper)(Q:Exit->Act->World->Prop)(S:World->Prop)(L:Nat):Nat->Array Bool->Act->World->Prop
 |0,l,a,w=>Region.ready md ops l= []/\Q .normal a w
 |n+1,l,a,w=>(Region.ready md ops l= []->Q .normal a w)/\∀i∈Region.ready md ops l,wpOp P ops Q i (λga w'=>(l.getD L true=false->i≠L->S w')/\qa P md ops Q S L n (l.setIfInBounds i true) ga w') a w
def ae6:∀(n:Nat) (l:Array Bool) (a:Act) (w:aC),qa P md ops Q S L n l a w->wpAny P md ops Q n l a w
 |0,_,_,_,h=>h
 |n+1,_,_,_,h=>⟨h.1,λi aK=>wpOp_mono (λga w' k=>ae6 n _ ga w' k.2) (h.2 i aK)⟩
def T3(P:Program)(md:Region.Mode)(ops:Array Oper)(Q:Exit->Act->World->Prop)(S:World->Prop)(L n:Nat)(l:Array Bool)(a:Act)(w:World)(rs:List Nat):Prop:=
 ∀i∈rs,wpOp P ops Q i (λga w'=>(l.getD L true=false->i≠L->S w')/\qa P md ops Q S L n (l.setIfInBounds i true) ga w') a w
def aqQ{l:Array Bool}{a:Act}{w:aC}:T3 P md ops Q S L n l a w []:=λ_ h=>by cases h
def aqR{l:Array Bool}{a:Act}{w:aC}{i:Nat}{o:Oper}(aM:ops[i]?=some o)(h:∀lC:Act->aC->Prop,Shut (∀a w,(l.getD L true=false->i≠L->S w)->((l.getD L true=false->i≠L->S w)->qa P md ops Q S L n (l.setIfInBounds i true) a w)->lC a w)->if Region.wanted o (yielded ops a.tmps)=true then Oper.wp P o a w lC Q else lC (a.put o.dst undef) w)(hs:T3 P md ops Q S L n l a w rs):T3 P md ops Q S L n l a w (i::rs):=λj aD=>ae5
def aqS{l:Array Bool}{a:Act}{w:aC}(az:Region.ready md ops l=rs)(dj:rs≠ [])(h:T3 P md ops Q S L n l a w rs):qa P md ops Q S L (n+1) l a w:=⟨λaZ=>absurd (az▸aZ) dj,az▸h⟩
def LI{l:Array Bool}{a:Act}{w:aC}(az:Region.ready md ops l= [])(h:Q .normal a w):∀n,qa P md ops Q S L n l a w
 |0=>⟨az,h⟩
 |_+1=>⟨λ_=>h,by rw[az];simp⟩
def aqT(L:Nat){id:Nat}{a:Act}{w:aC}(hm:P.follows .mixedOrders=true)(bj:S w.drew)(h:S w.drew->qa P .any ops Q S L ops.size (Array.replicate ops.size false) a w.drew):(Code.region id ops true).wp P Q a w:=
 wp_region_any hm (ae6 _ _ _ _ (h bj))
end
section
variable {P:Program}{md:Region.Mode}{ops:Array Oper}{Q:Exit->Act->World->Prop}{a:Act}{w:World}
def jz{S:ye}{L:Nat}(i:Nat){o:Oper}{l:Array Bool}(h:∀lC:Act->aC->Prop,Shut (∀a w,(l.getD L true=false->i≠L->S w)->((l.getD L true=false->i≠L->S w)->qa P md ops Q S L n (l.setIfInBounds i true) a w)->lC a w)->if Region.wanted o (yielded ops a.tmps)=true then Oper.wp P o a w lC Q else lC (a.put o.dst undef) w)(aM:ops[i]?=some o:=by rfl)(az:Region.ready md ops l= [i]:=by kernel_rfl):qa P md ops Q S L (n+1) l a w:=
 aqS az (by simp) (aqR aM h aqQ)
def rN(L:Nat)(S:ye){id:Nat}(h:S w.drew->qa P .any ops Q S L ops.size (Array.replicate ops.size false) a w.drew)(bj:S w.drew:=by(try dsimp only);exact U)(hm:P.follows .mixedOrders=true:=by kernel_rfl):(Code.region id ops true).wp P Q a w:=aqT L hm bj h
end
end
end Go.Proofs.YtfiiblnenhdlhaaGreat
