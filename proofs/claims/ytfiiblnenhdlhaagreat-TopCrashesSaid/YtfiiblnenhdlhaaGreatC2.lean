/- Part. -/
import Derived.Test.YtfiiblnenhdlhaaGreatC1
set_option linter.unusedVariables false
set_option linter.unusedSimpArgs false
set_option linter.defProp false
set_option maxRecDepth 100000
set_option maxHeartbeats 4000000
namespace Go.Proofs.YtfiiblnenhdlhaaGreat
open Go.RowKit Tryz
variable {ops:Array Oper}{Q:Exit->Act->World->Prop}{rest:List Oper}{ps:List bU}{aU:List bb}{st:List bb×List bb}{B aBw b base cap g h6 n o p sz:Nat}{fr:Nat×Nat}{a aA:Option Addr}{α:Type}{e t:TypeId}{CI CJ CK h2 hd iw ju k2 nA pw rp xF:Value}{w w':World}{i:ax}{dm:ax->Bool}{x:bR}{d:bb}
def amN(d:bb)(w:World)(e:Ending)(w':World):Prop:=∃x:bR,e=.returned (.agg #[x.k,x.id.b,ae x.id.l,ae x.id.s,x.c,ae x.u,x.f,x.e])/\(x.k=d.k/\x.id=d.id/\x.c=d.c/\x.u=d.u/\aH w' w.heap.size 154 5 T.cs x.f.a x.f.n x.f.c d.ts/\∃ys:List eu,ys.map (·.dt)=d.aX/\aH w' w.heap.size 34 1 eu.cs x.e.a x.e.n x.e.c ys/\∀y,y∈ys->aH w' w.heap.size 77 4 cI.cs y.v.a y.v.n y.v.c y.dt)/\Z w w'
def amO(y:eu)(fb:Nat)(a:bl)(n cap:Nat)(h3:List lN)(w:aC)(hf:a7 w 4 cI.cs y.v.a y.v.n y.v.c y.dt)(ar:Em w a n cap h3)(al:w.cell? (fb,0)=some ↑(ao a n cap)):
  aS 281 #[y.v,fb] w (cU (.bool (h3.any λf=>uf f.ts y.dt)) w):=by
 change aa _ at ar hf;go_enter func281,ntmps281;go_wp2_with fail;refine qQ (alN _ _ _ h3 _ _ _ y.dt _ (ar.ext U) (hf.ext U)) λw1 hy=>?_;go_wp2;go_ret;refine⟨rfl,?_⟩;exact U
def amP(h3:List lN)(cD:List eu):(cD.filter (λe=>h3.any λf=>uf f.ts e.dt)).map (·.dt)=CS (h3.map (·.ts)) (cD.map (·.dt)):=by
 unfold CS;rw[KI];congr 1;refine Sq λe _=>?_;show(h3.any λf=>uf f.ts e.dt)=((h3.map (·.ts)).any λf=>uf f e.dt);rw[yR];rfl
def abS(a:bl)(n cap:Nat)(xs:List cu)(oZ:bl)(NO NP:Nat)(cl:List Int)(x:bR)(d:bb)(w:aC)(ar:th w a n cap xs)(cg:a7 w 1 dP oZ NO NP cl)(a8:hK w x d)(bg:∀s,s∈xs->s.ts.length<=10000)(aq:n<=10000)(eh:d.ts.length<=10000)(he:d.aX.length<=10000)(ak:∀e,e∈d.aX->e.length<=10000):
  aS 226 #[ao a n cap,ao oZ NO NP,x] w (amN (nG (xs.map cu.d) cl d) w):=by
 obtain⟨cD,ky,bV⟩:=a8.e;obtain⟨Ik,dG⟩:=abP ky he ak;have c3:=bV.aF.neq;have b6:=a8.k;change aa _ at ar cg a8 bg bV ky dG c3 eh b6;clear he ak;go_enter func226,ntmps226;go_upto_if 10 with (fail);go_cut [7] (λ_ eD=>∃(w2:aC) (cq:iF) (ys:List eu),w2=eD/\aa (tj eD (w:Nat) {x with e:=cq})/\aa (tj eD (w.heap.size+1) Xw)/\aa (vO eD cq.a cq.n cq.c ys/\ys.map (·.dt)=(nG (xs.map cu.d) cl d).aX/\ys.length<=10000/\∀y,y∈ys->y.dt.length<=10000)/\aa (Z w eD));case first=>
  have bn:=I (tj.new (w:=w) (x:=x) (t:=66));have ec:=tj.new (w:=w.alloc x) (x:=Xw) (t:=66);rw[show(w.alloc x).heap.size=(w:Nat)+1 from by simp]at ec;change aa _ at ec;by_cases af:d.k=1
  ·have q1:(x.k==1)=true:=by rw[b6.out,af];rfl
   have cJ:=I (show(nG (xs.map cu.d) cl d).aX=CS (Sc (xs.map cu.d) cl) d.aX from by unfold nG;rw[bc af]);clear af;go_wp2_with fail;refine(amB _ _ _ xs _ _ _ cl _ ⟨ar.out.aF.ext U,λs hs=>(ar.out.ts s hs).ext U⟩ (cg.out.ext U) bg.out aq).mono ?_;rintro e w1⟨cE,da,c1,h3,rfl,abT,abU,ad⟩;have Ai:=I (((bn.out.ext ((Z.refl _).alloc _)).ext ad));have amQ:=I (ec.out.ext ad);have hy:aa (Z w w1):=Z.trans (((Z.refl w).alloc _).alloc _) ad;change aa _ at abT abU;clear ad;have d7:=((Z.refl w1).alloc (.cells #[ao cE da c1] 350)).ag Ai.out.cells.2.2.2.2.2.2.2;go_wp2_with fail;refine(abz _ _ _ cD (λe:eu=>h3.any λf=>uf f.ts e.dt) 281 ⟨w1.heap.size,0,none⟩ _ (bV.out.aF.ext U) (by rw[c3.out];omega) _ rfl (λ_ _=>by kernel_rfl) ?aY).mono ?_;case aY=>
    intro y uZ w' hw;exact amO y (w1:Nat) _ _ _ h3 w' (((bV.out.dt y uZ).ext U).ext hw) ((abT.out.ext U).ext hw) (hw.ag (by simp))
   rintro e aN⟨ch,cF,c2,rfl,cd,iX⟩;have kL:Z w1 aN:=Z.trans ((Z.refl w1).alloc _) iX;have CX:=I (Ai.out.ext kL);have amR:=I (amQ.out.ext kL);have lO:=I (hy.out.trans kL);have fH:=Ai.out.lt;change aa _ at cd;clear iX kL d7;have d7:=CX.out.cells.2.2.2.2.2.2.2;have abV:=CX.out.free 7;go_wp2;go_meet;have b7:Z w (aN.setCell (w,7) (ao ch cF c2)):=Z.setCell (p:=(w,7)) lO.out (bJ _) _;refine⟨_,⟨ch,cF,c2⟩,cD.filter (λe:eu=>h3.any λf=>uf f.ts e.dt),rfl,CX.out.abR ⟨ch,cF,c2⟩,amR.out.jD (p:=⟨w.heap.size,7,none⟩) (Nat.succ_ne_self _) _,⟨⟨cd.out.aF.set (p:=⟨w.heap.size,7,none⟩) (λai ak _=>?_) _,λy uZ=>(bV.out.dt y (pA.1 uZ).1).ext b7⟩,?_,ek (vP _ _) Ik,λy uZ=>dG.out y (pA.1 uZ).1⟩,b7⟩
   ·have af:=(cd.out.lt ai ak).1;simp at af;show ai.block≠(w:Nat);omega
   ·rw[amP,abU.out,ky.out,cJ.out]
  ·have q1:(x.k==1)=false:=by rw[b6.out];simpa using af
   have cJ:=I (show(nG (xs.map cu.d) cl d).aX=d.aX from by unfold nG;rw[aV af]);clear af;go_wp2;go_meet;exact⟨_,x.e,cD,rfl,bn.out.ext ((Z.refl _).alloc _),ec.out,⟨bV.out.ext U,by rw[ky.out,cJ.out],Ik,dG.out⟩,U⟩
 case rest=>
  obtain⟨w2,cq,ys,rfl,bn,ec,lV,qq⟩:=hcut;have d7:=bn.out.cells.2.2.2.2.2.2.2;dsimp only at d7;go_wp2_with fail;refine(abL _ _ _ ys _ lV.out.1 (by rw[lV.out.1.aF.neq];exact lV.out.2.2.1) lV.out.2.2.2).mono ?_;rintro e a6⟨a3,fI,cV,cz,rfl,fj,pB,abW,kL⟩;have fc:=I (bn.out.ext kL);have Bq:=I ((bn.out.ext kL).abR ⟨a3,fI,cV⟩);have Ss:=I ((ec.out.ext kL).jD (p:=(w,7)) (Nat.succ_ne_self _) (ao a3 fI cV));have Xx:=I (Z.setCell (p:=(w,7)) (qq.out.trans kL) (bJ _) (ao a3 fI cV));have fH:=ec.out.lt;have cK:=I (fj.jD (p:=(w,7)) (NQ fH) (ao a3 fI cV));have ed:=I (λy hy=>(pB y hy).jD (p:=(w,7)) (NQ fH) (ao a3 fI cV));change aa _ at abW;clear fj pB kL d7;have d7:=fc.out.cells.2.2.2.2.2.2.2;have abV:=fc.out.free 7;have d6:=Bq.out.cells.2.2.2.2.2.2.1;dsimp only at d7 d6;go_wp2_with fail;refine(abD _ _ _ d.ts _ (a8.out.f.ext Xx.out) (by rw[a8.out.f.neq];exact ek eh.out ah)).mono ?_;rintro e _⟨a5,hM,dH,rfl,hq,iy⟩;have NR:=I (Xx.out.trans iy);have fs:(w:Nat)+1<(a6.setCell (w,7) (ao a3 fI cV)).heap.size:=Ss.out.lt;have amS:=I (cK.out.ext iy);have amT:=I (λy hy=>(ed.out y hy).ext iy);obtain⟨cO,c1,c2,abX,dF,Xy,eJ,eM⟩:=(Bq.out.ext iy).cells;have Xz:=(Bq.out.ext iy).free;obtain⟨gn,eI,hn,hL,ib,k6,pC,uj⟩:=(Ss.out.ext iy).cells;have fr:=(Ss.out.ext iy).free;dsimp only[Xw]at cO c1 c2 abX dF Xy eJ eM gn eI hn hL ib k6 pC uj;change aa _ at hq;clear iy bn ec fc Bq Ss d7 abV d6 Xx cK ed;go_wp2_with fail;refine ke (v:=.agg #[x.k,x.id.b,ae x.id.l,ae x.id.s,x.c,ae x.u,ao a5 hM dH,ao a3 fI cV]) (by simp[results,results226,go_sem,cO,c1,c2,abX,dF,Xy,eJ,eM,gn,eI,hn,hL,ib,k6,pC,uj]) rfl ⟨⟨x.k,x.id,x.c,x.u,⟨a5,hM,dH⟩,⟨a3,fI,cV⟩⟩,rfl,⟨a8.out.k.trans ?_,a8.out.id.trans ?_,a8.out.c.trans ?_,a8.out.u.trans ?_,?_,cz,?_,?_,?_⟩,?_⟩
  ·unfold nG;split<;>rfl
  ·unfold nG;split<;>rfl
  ·unfold nG;split<;>rfl
  ·unfold nG;split<;>rfl
  ·rw[show(nG (xs.map cu.d) cl d).ts=d.ts from by unfold nG;split<;>rfl];refine aH.mono (base:=(a6.setCell (w,7) (ao a3 fI cV)).heap.size) ?_ J;repeat (first|with_reducible exact hq.out|refine aH.jD ?_ (by first|exact fs|exact NQ fs) _)
  ·exact abW.out.trans lV.out.2.1
  ·refine aH.mono (base:=(w2:Nat)) ?_ J;repeat (first|with_reducible exact amS.out|refine aH.jD ?_ (by first|exact fH|exact NQ fH) _)
  ·intro y hy;refine aH.mono (base:=(w2:Nat)) ?_ J;repeat (first|with_reducible exact amT.out y hy|refine aH.jD ?_ (by first|exact fH|exact NQ fH) _)
  ·repeat (first|with_reducible exact NR.out|refine Z.setCell ?_ (by first|exact bJ _|exact l9 _) _)
def nh(h:r0 w b o x.cs):
  w.cell? (b,o)=some ↑x.k/\w.cell? (b,o+1)=some ↑x.id.b/\w.cell? (b,o+2)=some ↑(ae x.id.l)/\w.cell? (b,o+3)=some ↑(ae x.id.s)/\
  w.cell? (b,o+4)=some ↑x.c/\w.cell? (b,o+5)=some ↑(ae x.u)/\w.cell? (b,o+6)=some ↑x.f/\w.cell? (b,o+7)=some ↑x.e:=
 ⟨h 0 _ rfl,h 1 _ rfl,h 2 _ rfl,h 3 _ rfl,h 4 _ rfl,h 5 _ rfl,h 6 _ rfl,h 7 _ rfl⟩
def Aj{x:ax}(h:r0 w b o x.cs):
  w.cell? (b,o)=some ↑x.b/\w.cell? (b,o+1)=some ↑(ae x.l)/\w.cell? (b,o+2)=some ↑(ae x.s):=
 ⟨h 0 _ rfl,h 1 _ rfl,h 2 _ rfl⟩
def amU(a:bl)(n cap:Nat)(xs:List bR)(i:ax)(w:aC)(ar:a7 w 8 bR.cs a n cap xs):
  aS 48 #[ao a n cap,i] w (cU (.bool (xs.any (λx:bR=>cc x.id i))) w):=by
 obtain rfl:=ar.neq;refine td ?_;intro hm a1;change aa _ at ar;go_enter func48,ntmps48;go_wp2_with fail;go_loopg [5,8] (xs.length) (λg _ st wr=>∃k:Nat,g+k=xs.length/\st=.int .i64 k/\aa ((xs.take k).any (λx:bR=>cc x.id i)=false)/\aa (Z (w.alloc i) wr));case atStart=>exact⟨0,J,rfl,rfl,Z.refl _⟩
 case round=>
  obtain⟨k,_,rfl,eO,X⟩:=hrel;refine XA ?_;intro ct i1 mv;by_cases hk:k<xs.length
  ·obtain⟨b,o,rfl,al⟩:=ar.get k hk;have b7:Z w wr:=Z.trans U X;obtain⟨_,_,_,_,_,_,_,_⟩:=nh (w:=wr) (b:=b) (o:=o+k*8) (x:=xs[k]) (λj v aD=>b7.ag (al j v aD));clear al b7;refine jU ?_;intro b0 bf;have heq:=Bm xs[k].id.b xs[k].id.l xs[k].id.s i.b i.l i.s;cases he:cc xs[k].id i with
   |true=>
    have iW:=I he;have Ag:cc ⟨xs[k].id.b,xs[k].id.l,xs[k].id.s⟩ ⟨i.b,i.l,i.s⟩=true:=he;clear he;go_wp2_with fail;go_quiet (fail);go_wp2;go_ret;refine⟨jl (WY (p:=(λx:bR=>cc x.id i)) hk iW),?_⟩;exact U
   |false=>
    have iW:=I he;have Ag:cc ⟨xs[k].id.b,xs[k].id.l,xs[k].id.s⟩ ⟨i.b,i.l,i.s⟩=false:=he;clear he;go_wp2_with fail;go_quiet (fail);go_wp2;go_roundg (gk - 1);case measure=>omega
    case rel=>exact⟨k+1,J,by go_num,Ef (p:=(λx:bR=>cc x.id i)) hk eO iW,U⟩
  ·go_wp2;go_ret;refine⟨jl (Ko (p:=(λx:bR=>cc x.id i)) eO hk),?_⟩;exact U
def amV(a:bl)(n cap:Nat)(xs:List ax)(i:ax)(w:aC)(ar:a7 w 3 ax.cs a n cap xs):
  aS 260 #[ao a n cap,i] w (cU (.int .i64 (qP (λx:ax=>cc x i) xs)) w):=by
 obtain rfl:=ar.neq;refine td ?_;intro hm a1;change aa _ at ar;go_enter func260,ntmps260;go_wp2_with fail;go_loopg [5,8] (xs.length) (λg _ st wr=>∃k:Nat,g+k=xs.length/\st=.int .i64 k/\aa ((xs.take k).any (λx:ax=>cc x i)=false)/\aa (Z (w.alloc i) wr));case atStart=>exact⟨0,J,rfl,rfl,Z.refl _⟩
 case round=>
  obtain⟨k,_,rfl,eO,X⟩:=hrel;refine XA ?_;intro ct i1 mv;by_cases hk:k<xs.length
  ·obtain⟨b,o,rfl,al⟩:=ar.get k hk;have b7:Z w wr:=Z.trans U X;obtain⟨_,_,_⟩:=Aj (w:=wr) (b:=b) (o:=o+k*3) (x:=xs[k]) (λj v aD=>b7.ag (al j v aD));clear al b7;refine jU ?_;intro b0 bf;have heq:=al5 i.b i.l i.s xs[k].b xs[k].l xs[k].s;cases he:cc xs[k] i with
   |true=>
    have iW:=I he;have Ag:cc ⟨xs[k].b,xs[k].l,xs[k].s⟩ ⟨i.b,i.l,i.s⟩=true:=he;clear he;go_wp2_with fail;go_quiet (fail);go_wp2;go_ret;refine⟨jk (No (p:=(λx:ax=>cc x i)) hk eO iW),?_⟩;exact U
   |false=>
    have iW:=I he;have Ag:cc ⟨xs[k].b,xs[k].l,xs[k].s⟩ ⟨i.b,i.l,i.s⟩=false:=he;clear he;go_wp2_with fail;go_quiet (fail);go_wp2;go_roundg (gk - 1);case measure=>omega
    case rel=>exact⟨k+1,J,by go_num,Ef (p:=(λx:ax=>cc x i)) hk eO iW,U⟩
  ·go_wp2;go_ret;refine⟨jk (Kq (Ko (p:=(λx:ax=>cc x i)) eO hk)),?_⟩;exact U
structure iJ where
 cX:Int
 l:iF
 p:iF
 b:iF
instance:Coe iJ Value:=⟨λx=>.agg #[.int .u64 x.cX,.slice x.l.a x.l.n x.l.c,.slice x.p.a x.p.n x.p.c,.slice x.b.a x.b.n x.b.c]⟩
instance:Coe iJ Obj:=⟨λx=>.cells #[.int .u64 x.cX,.slice x.l.a x.l.n x.l.c,.slice x.p.a x.p.n x.p.c,.slice x.b.a x.b.n x.b.c] 44⟩
def uk(a:bl)(n cap:Nat)(xs:List ax)(i:ax)(w:aC)(ar:a7 w 3 ax.cs a n cap xs):
  aS 201 #[ao a n cap,i] w (cU (.bool (xs.any (λx:ax=>cc x i))) w):=by
 change aa _ at ar;go_enter func201,ntmps201;go_wp2_with (go_at_call 260;refine(amV _ _ _ xs i _ (ar.ext ((Z.refl _).alloc _))).mono ?_;rintro e w'⟨rfl,X⟩;change aa _ at X);exact St
def oF(s:iJ)(xs:List bR)(i:ax)(w:aC)(ar:a7 w 8 bR.cs s.l.a s.l.n s.l.c xs):
  aS 17 #[s,i] w (cU (.bool (xs.any (λx:bR=>cc x.id i))) w):=by
 change aa _ at ar;go_enter func17,ntmps17;exact abY
def vR(s:iJ)(xs:List bR)(i:ax)(w:aC)(ar:a7 w 8 bR.cs s.p.a s.p.n s.p.c xs):
  aS 141 #[s,i] w (cU (.bool (xs.any (λx:bR=>cc x.id i))) w):=by
 change aa _ at ar;go_enter func141,ntmps141;exact abY
def yX(s:iJ)(xs:List ax)(i:ax)(w:aC)(ar:a7 w 3 ax.cs s.b.a s.b.n s.b.c xs):
  aS 137 #[s,i] w (cU (.bool (xs.any (λx:ax=>cc x i))) w):=by
 change aa _ at ar;go_enter func137,ntmps137;go_wp2_with (go_at_call 201;refine(uk _ _ _ xs i _ (ar.ext (((Z.refl _).alloc _).alloc _))).mono ?_;rintro e w'⟨rfl,X⟩;change aa _ at X);go_ret;refine⟨rfl,?_⟩;exact U
def abZ(a:bl)(n cap:Nat)(xs:List bR)(p:bR->Bool)(fn:Nat)(aR:Addr)(w:aC)(ar:a7 w 8 bR.cs a n cap xs)(bk:∀args w,(callFunc fn args).run prog w=.ok (.enter fn args) w)(b8:∀x,x∈xs->∀w',Z w w'->aS fn #[.agg #[x.k,x.id.b,ae x.id.l,ae x.id.s,x.c,ae x.u,x.f,x.e],.pointer (some aR)] w' λe ey=>e=.returned (.bool (p x))/\Z w' ey):
  aS 261 #[ao a n cap,.func (.func fn) #[] #[.pointer (some aR)]] w (cU (.int .i64 (qP p xs)) w):=by
 obtain rfl:=ar.neq;refine td ?_;intro hm a1;change aa _ at ar b8;go_enter func261,ntmps261;go_wp2_with fail;go_loopg [5,8] (xs.length) (λg _ st wr=>∃k:Nat,g+k=xs.length/\st=.int .i64 k/\aa ((xs.take k).any p=false)/\aa (Z (w) wr));case atStart=>exact⟨0,J,rfl,rfl,Z.refl _⟩
 case round=>
  obtain⟨k,_,rfl,eO,X⟩:=hrel;by_cases hk:k<xs.length
  ·obtain⟨b,o,rfl,al⟩:=ar.get k hk;have b7:Z w wr:=Z.trans U X;obtain⟨_,_,_,_,_,_,_,_⟩:=nh (w:=wr) (b:=b) (o:=o+k*8) (x:=xs[k]) (λj v aD=>b7.ag (al j v aD));clear al b7;exact ND
  exact NF
def Su(a:bl)(n cap:Nat)(xs:List bR)(p:bR->Bool)(fn:Nat)(aR:Addr)(w:aC)(ar:a7 w 8 bR.cs a n cap xs)(eh:∀args w,(callFunc fn args).run prog w=.ok (.enter fn args) w)(b8:∀x,x∈xs->∀w',Z w w'->aS fn #[.agg #[x.k,x.id.b,ae x.id.l,ae x.id.s,x.c,ae x.u,x.f,x.e],.pointer (some aR)] w' λe ey=>e=.returned (.bool (p x))/\Z w' ey):
  aS 208 #[ao a n cap,.func (.func fn) #[] #[.pointer (some aR)]] w (cU (.bool (xs.any p)) w):=by
 change aa _ at ar b8 eh;go_enter func208,ntmps208;go_wp2_with (go_at_call 261;refine(abZ _ _ _ xs p fn aR _ ar eh b8).mono ?_;rintro e w'⟨rfl,X⟩;change aa _ at X);exact St
def amW(x:bR)(i:ax)(aR:Nat)(w:aC)(aZ:w.cell? (aR,0)=some ↑i.b)(af:w.cell? (aR,1)=some ↑(ae i.l))(an:w.cell? (aR,2)=some ↑(ae i.s)):
  aS 309 #[x,aR] w (cU (.bool (cc x.id i)) w):=by
 have heq:=Bm x.id.b x.id.l x.id.s i.b i.l i.s;refine Sv ?_;intro eB bH b1;go_enter func309,ntmps309;go_wp2;go_ret;refine⟨rfl,?_⟩;exact U
def CY(a:bl)(n cap:Nat)(xs:List bR)(i:ax)(w:aC)(ar:a7 w 8 bR.cs a n cap xs):
  aS 286 #[ao a n cap,i] w (cU (.bool (xs.any (λx:bR=>cc x.id i))) w):=by
 change aa _ at ar;go_enter func286,ntmps286;go_wp2_with (go_at_call 208;refine(Su _ _ _ xs (λx:bR=>cc x.id i) _ _ _ (ar.ext ((Z.refl _).alloc _)) (λ_ _=>by kernel_rfl) (λx _ w' hw=>amW x i _ w' (hw.ag (by simp)) (hw.ag (by simp)) (hw.ag (by simp)))).mono ?_;rintro e w'⟨rfl,X⟩;change aa _ at X);go_ret;refine⟨rfl,?_⟩;exact U
def amX(x:bR)(i:ax)(aR:Nat)(w:aC)(aZ:w.cell? (aR,0)=some ↑i.b)(af:w.cell? (aR,1)=some ↑(ae i.l))(an:w.cell? (aR,2)=some ↑(ae i.s)):
  aS 299 #[x,aR] w (cU (.bool (cc x.id i)) w):=by
 have heq:=Bm x.id.b x.id.l x.id.s i.b i.l i.s;refine Sv ?_;intro eB bH b1;go_enter func299,ntmps299;go_wp2;go_ret;refine⟨rfl,?_⟩;exact U
def XB(a:bl)(n cap:Nat)(xs:List bR)(i:ax)(w:aC)(ar:a7 w 8 bR.cs a n cap xs):
  aS 263 #[ao a n cap,i] w (cU (.bool (xs.any (λx:bR=>cc x.id i))) w):=by
 change aa _ at ar;go_enter func263,ntmps263;go_wp2_with (go_at_call 208;refine(Su _ _ _ xs (λx:bR=>cc x.id i) _ _ _ (ar.ext ((Z.refl _).alloc _)) (λ_ _=>by kernel_rfl) (λx _ w' hw=>amX x i _ w' (hw.ag (by simp)) (hw.ag (by simp)) (hw.ag (by simp)))).mono ?_;rintro e w'⟨rfl,X⟩;change aa _ at X);go_ret;refine⟨rfl,?_⟩;exact U
structure V where
 id:ax
 lp:Bool
def V.cs(v:V):List Value:= [.int .i64 v.id.b,.int .u64 v.id.l,.int .u64 v.id.s,.bool v.lp]
def NS{x:V}(h:r0 w b o x.cs):
  w.cell? (b,o)=some ↑x.id.b/\w.cell? (b,o+1)=some ↑(ae x.id.l)/\w.cell? (b,o+2)=some ↑(ae x.id.s)/\w.cell? (b,o+3)=some ↑x.lp:=
 ⟨h 0 _ rfl,h 1 _ rfl,h 2 _ rfl,h 3 _ rfl⟩
structure kz where
 k:Int
 h:Int
 v:iF
 q:iF
 e:iF
 p:iF
 b:iF
 d:iF
instance:Coe kz Value:=⟨λx=>.agg #[.int .i64 x.k,.int .u64 x.h,.slice x.v.a x.v.n x.v.c,.slice x.q.a x.q.n x.q.c,.slice x.e.a x.e.n x.e.c,.slice x.p.a x.p.n x.p.c,.slice x.b.a x.b.n x.b.c,.slice x.d.a x.d.n x.d.c]⟩
instance:Coe kz Obj:=⟨λx=>.cells #[.int .i64 x.k,.int .u64 x.h,.slice x.v.a x.v.n x.v.c,.slice x.q.a x.q.n x.q.c,.slice x.e.a x.e.n x.e.c,.slice x.p.a x.p.n x.p.c,.slice x.b.a x.b.n x.b.c,.slice x.d.a x.d.n x.d.c] 232⟩
def kz.cs(x:kz):List Value:= [.int .i64 x.k,.int .u64 x.h,.slice x.v.a x.v.n x.v.c,.slice x.q.a x.q.n x.q.c,.slice x.e.a x.e.n x.e.c,.slice x.p.a x.p.n x.p.c,.slice x.b.a x.b.n x.b.c,.slice x.d.a x.d.n x.d.c]
def amY{x:kz}(h:r0 w b o x.cs):
  w.cell? (b,o)=some ↑x.k/\w.cell? (b,o+1)=some ↑(ae x.h)/\w.cell? (b,o+2)=some ↑x.v/\w.cell? (b,o+3)=some ↑x.q/\
  w.cell? (b,o+4)=some ↑x.e/\w.cell? (b,o+5)=some ↑x.p/\w.cell? (b,o+6)=some ↑x.b/\w.cell? (b,o+7)=some ↑x.d:=
 ⟨h 0 _ rfl,h 1 _ rfl,h 2 _ rfl,h 3 _ rfl,h 4 _ rfl,h 5 _ rfl,h 6 _ rfl,h 7 _ rfl⟩
def w4(v u:V):Bool:=cc v.id u.id&&(v.lp==u.lp)
def amZ(v u:V):w4 v u=w4 u v:=by
 unfold w4;rw[abx];cases v.lp<;>cases u.lp<;>rfl
def am0(b l s:Int)(y:Bool)(b' l' s':Int)(r3:Bool)(w:aC):
  (binOp .eql 294 (.agg #[b,ae l,ae s,y]) (.agg #[b',ae l',ae s',r3])).run prog w=.ok (.bool (w4 ⟨⟨b',l',s'⟩,r3⟩ ⟨⟨b,l,s⟩,y⟩)) w:=by
 rw[amZ];unfold w4 cc;by_cases af:b=b'<;>by_cases an:l=l'<;>by_cases aO:s=s'<;>cases y<;>cases r3<;>simp[af,an,aO,go_sem]
def am1(a:bl)(n cap:Nat)(xs:List V)(v:V)(w:aC)(ar:a7 w 4 V.cs a n cap xs):
  aS 300 #[ao a n cap,.agg #[v.id.b,ae v.id.l,ae v.id.s,v.lp]] w (cU (.int .i64 (qP (λx:V=>w4 x v) xs)) w):=by
 obtain rfl:=ar.neq;refine td ?_;intro hm a1;change aa _ at ar;go_enter func300,ntmps300;go_wp2_with fail;go_loopg [5,8] (xs.length) (λg _ st wr=>∃k:Nat,g+k=xs.length/\st=.int .i64 k/\aa ((xs.take k).any (λx:V=>w4 x v)=false)/\aa (Z (w.alloc (.cells #[v.id.b,ae v.id.l,ae v.id.s,v.lp] 294)) wr));case atStart=>exact⟨0,J,rfl,rfl,Z.refl _⟩
 case round=>
  obtain⟨k,_,rfl,eO,X⟩:=hrel;have ct:wr.cell? (w,0)=some ↑v.id.b:=X.ag (by simp);have i1:wr.cell? (w,1)=some ↑(ae v.id.l):=X.ag (by simp);have mv:wr.cell? (w,2)=some ↑(ae v.id.s):=X.ag (by simp);have CL:wr.cell? (w,3)=some ↑v.lp:=X.ag (by simp);by_cases hk:k<xs.length
  ·obtain⟨b,o,rfl,al⟩:=ar.get k hk;have b7:Z w wr:=Z.trans U X;obtain⟨_,_,_,_⟩:=NS (w:=wr) (b:=b) (o:=o+k*4) (x:=xs[k]) (λj v aD=>b7.ag (al j v aD));clear al b7;refine jU ?_;intro b0 bf;have heq:=am0 v.id.b v.id.l v.id.s v.lp xs[k].id.b xs[k].id.l xs[k].id.s xs[k].lp;cases he:w4 xs[k] v with
   |true=>
    have iW:=I he;have Ag:w4 ⟨⟨xs[k].id.b,xs[k].id.l,xs[k].id.s⟩,xs[k].lp⟩ ⟨⟨v.id.b,v.id.l,v.id.s⟩,v.lp⟩=true:=he;clear he;go_wp2_with fail;go_quiet (fail);go_wp2;go_ret;refine⟨jk (No (p:=(λx:V=>w4 x v)) hk eO iW),?_⟩;exact U
   |false=>
    have iW:=I he;have Ag:w4 ⟨⟨xs[k].id.b,xs[k].id.l,xs[k].id.s⟩,xs[k].lp⟩ ⟨⟨v.id.b,v.id.l,v.id.s⟩,v.lp⟩=false:=he;clear he;go_wp2_with fail;go_quiet (fail);go_wp2;go_roundg (gk - 1);case measure=>omega
    case rel=>exact⟨k+1,J,by go_num,Ef (p:=(λx:V=>w4 x v)) hk eO iW,U⟩
  ·go_wp2;go_ret;refine⟨jk (Kq (Ko (p:=(λx:V=>w4 x v)) eO hk)),?_⟩;exact U
def am2(a:bl)(n cap:Nat)(xs:List V)(v:V)(w:aC)(ar:a7 w 4 V.cs a n cap xs):
  aS 275 #[ao a n cap,.agg #[v.id.b,ae v.id.l,ae v.id.s,v.lp]] w (cU (.bool (xs.any (λx:V=>w4 x v))) w):=by
 change aa _ at ar;go_enter func275,ntmps275;go_wp2_with (go_at_call 300;refine(am1 _ _ _ xs v _ (ar.ext ((Z.refl _).alloc _))).mono ?_;rintro e w'⟨rfl,X⟩;change aa _ at X);exact St
def am3(a:bl)(n cap:Nat)(xs:List V)(p:V->Bool)(fn:Nat)(aR:Addr)(w:aC)(ar:a7 w 4 V.cs a n cap xs)(bk:∀args w,(callFunc fn args).run prog w=.ok (.enter fn args) w)(b8:∀x,x∈xs->∀w',Z w w'->aS fn #[.agg #[x.id.b,ae x.id.l,ae x.id.s,x.lp],.pointer (some aR)] w' λe ey=>e=.returned (.bool (p x))/\Z w' ey):
  aS 276 #[ao a n cap,.func (.func fn) #[] #[.pointer (some aR)]] w (cU (.int .i64 (qP p xs)) w):=by
 obtain rfl:=ar.neq;refine td ?_;intro hm a1;change aa _ at ar b8;go_enter func276,ntmps276;go_wp2_with fail;go_loopg [5,8] (xs.length) (λg _ st wr=>∃k:Nat,g+k=xs.length/\st=.int .i64 k/\aa ((xs.take k).any p=false)/\aa (Z (w) wr));case atStart=>exact⟨0,J,rfl,rfl,Z.refl _⟩
 case round=>
  obtain⟨k,_,rfl,eO,X⟩:=hrel;by_cases hk:k<xs.length
  ·obtain⟨b,o,rfl,al⟩:=ar.get k hk;have b7:Z w wr:=Z.trans U X;obtain⟨_,_,_,_⟩:=NS (w:=wr) (b:=b) (o:=o+k*4) (x:=xs[k]) (λj v aD=>b7.ag (al j v aD));exact ND
  exact NF
def ab0(a:bl)(n cap:Nat)(xs:List V)(p:V->Bool)(fn:Nat)(aR:Addr)(w:aC)(ar:a7 w 4 V.cs a n cap xs)(eh:∀args w,(callFunc fn args).run prog w=.ok (.enter fn args) w)(b8:∀x,x∈xs->∀w',Z w w'->aS fn #[.agg #[x.id.b,ae x.id.l,ae x.id.s,x.lp],.pointer (some aR)] w' λe ey=>e=.returned (.bool (p x))/\Z w' ey):
  aS 218 #[ao a n cap,.func (.func fn) #[] #[.pointer (some aR)]] w (cU (.bool (xs.any p)) w):=by
 change aa _ at ar b8 eh;go_enter func218,ntmps218;go_wp2_with (go_at_call 276;refine(am3 _ _ _ xs p fn aR _ ar eh b8).mono ?_;rintro e w'⟨rfl,X⟩;change aa _ at X);exact St
def ab1(x:V)(i:ax)(aR:Nat)(w:aC)(aZ:w.cell? (aR,0)=some ↑i.b)(af:w.cell? (aR,1)=some ↑(ae i.l))(an:w.cell? (aR,2)=some ↑(ae i.s)):
  aS 219 #[.agg #[x.id.b,ae x.id.l,ae x.id.s,x.lp],aR] w (cU (.bool (cc x.id i)) w):=by
 have heq:=Bm x.id.b x.id.l x.id.s i.b i.l i.s;have eB:=((Z.refl w).alloc (.cells #[x.id.b,ae x.id.l,ae x.id.s,x.lp] 294)).ag aZ;have bH:=((Z.refl w).alloc (.cells #[x.id.b,ae x.id.l,ae x.id.s,x.lp] 294)).ag af;have b1:=((Z.refl w).alloc (.cells #[x.id.b,ae x.id.l,ae x.id.s,x.lp] 294)).ag an;go_enter func219,ntmps219;go_wp2;go_ret;refine⟨rfl,?_⟩;exact U
def vS(vs:List V)(i:ax)(y:Bool):Bool:=vs.any λx=>w4 x ⟨i,y⟩
def XC(x:kz)(vs:List V)(y:Bool)(i:ax)(aR:Nat)(w:aC)(ar:a7 w 4 V.cs x.v.a x.v.n x.v.c vs)(aZ:w.cell? (aR,0)=some ↑i.b)(af:w.cell? (aR,1)=some ↑(ae i.l))(an:w.cell? (aR,2)=some ↑(ae i.s)):
  aS 274 #[x,y,aR] w (cU (.bool (vS vs i y)) w):=by
 refine Sv ?_;intro eB bH b1;change aa _ at ar;go_enter func274,ntmps274;go_wp2_with (go_at_call 275;refine(am2 _ _ _ vs ⟨i,y⟩ _ (ar.ext ((Z.refl _).alloc _))).mono ?_;rintro e w'⟨rfl,X⟩;change aa _ at X);go_ret;refine⟨rfl,?_⟩;exact U
structure nI where
 m:kz
 vs:List V
def nI.cs(x:nI):List Value:=x.m.cs
def qs(c5:List nI)(i:ax):Int:=if (c5.any λm=>vS m.vs i false)=true then 2 else if (c5.all λm=>vS m.vs i true)=true then 1 else 0
def am4{c5:List nI}{k:Nat}(hk:k<c5.length)(h:vS c5[k].vs i false=true):2=qs c5 i:=by
 unfold qs;rw[bc (WY (p:=λm:nI=>vS m.vs i false) hk h).symm]
def KK(l:List nI)(i:ax):Int:=if (l.all λm=>vS m.vs i true)=true then 1 else 0
def am5{c5:List nI}{k:Nat}(hk:k<c5.length):KK (c5.take (k+1)) i=if vS c5[k].vs i true=true then KK (c5.take k) i else 0:=by
 unfold KK;rw[iv hk,Nw];cases h:vS c5[k].vs i true<;>simp[h]
def am6{c5:List nI}{k:Nat}(h:(c5.take k).any (λm=>vS m.vs i false)=false)(hk:¬k<c5.length):KK (c5.take k) i=qs c5 i:=by
 rw[iU J]at h ⊢;unfold qs KK;rw[h];rfl
structure Kids (w:World) (a:Option Addr) (n cap:Nat) (c5:List nI):Prop where
 aF:a7 w 8 nI.cs a n cap c5
 ab2:∀m,m∈c5->a7 w 4 V.cs m.m.v.a m.m.v.n m.m.v.c m.vs
def Kids.ext{c5:List nI}(h:Kids w a n cap c5)(X:Z w w'):Kids w' a n cap c5:=
 ⟨h.aF.ext X,λm hm=>(h.ab2 m hm).ext X⟩
def Il(a:bl)(n cap:Nat)(xs:List nI)(i:ax)(w:aC)(ar:Kids w a n cap xs):
  aS 217 #[ao a n cap,i] w (cU (.int .i64 (qs xs i)) w):=by
 obtain rfl:=ar.aF.neq;have hm:=ar.aF.max;have a1:=ar.aF.len;unfold maxLen at hm;change aa _ at ar;go_enter func217,ntmps217;refine KC ?_;intro _ _;go_loopg [6,12] (xs.length) (λg am7 st wr=>∃k:Nat,g+k=xs.length/\st=.int .i64 k/\am7=.int .i64 (KK (xs.take k) i)/\aa ((xs.take k).any (λm:nI=>vS m.vs i false)=false)/\aa (Z (w.alloc i) wr));case atStart=>exact⟨0,J,rfl,rfl,rfl,Z.refl _⟩
 case round=>
  obtain⟨k,_,rfl,rfl,eO,X⟩:=hrel;by_cases hk:k<xs.length
  ·obtain⟨b,o,rfl,al⟩:=ar.aF.get k hk;have b7:Z w wr:=Z.trans U X;obtain⟨_,_,_,_,_,_,_,_⟩:=amY (w:=wr) (b:=b) (o:=o+k*8) (x:=xs[k].m) (λj v aD=>b7.ag (al j v aD));refine XA ?_;intro ct i1 mv;have bp:(w:Nat)<(wr:Nat):=by have:=X.size;simp at this;omega
   have bV:=I ((ar.ab2 xs[k] (cT hk)).ext b7);have lq:=I (am5 (i:=i) hk);clear al b7;refine jU ?_;intro b0 bf;cases aq:vS xs[k].vs i false with
   |true=>
    have ab3:=I aq;clear aq;go_wp2_with (go_at_call 274;go_must (refine(XC xs[k].m xs[k].vs false i (w:Nat) _ (bV.ext U) (Z.ag (W:=wr) U ct) (Z.ag (W:=wr) U i1) (Z.ag (W:=wr) U mv)).mono ?_);rintro e w'⟨rfl,hy⟩;change aa _ at hy;rw[ab3.out]);rw[pX];go_wp2;go_ret;refine⟨jk (am4 hk ab3),?_⟩;exact U
   |false=>
    change aa _ at aq;cases hy:vS xs[k].vs i true with
    |true=>
     have NT:=I hy;clear hy;refine ab4 ?_;intro _ _ w' bs hy _ _ _ _;rintro e w'⟨rfl,hy⟩;change aa _ at hy;rw[NT.out];go_wp2;go_roundg (gk - 1);case measure=>omega
     case rel=>exact⟨k+1,J,by go_num,by rw[lq.out,bc NT.out],Ef (p:=λm:nI=>vS m.vs i false) hk eO aq,U⟩
    |false=>
     have NT:=I hy;clear hy;refine ab4 ?_;intro _ _ w' bs hy _ _ _ _;rintro e w'⟨rfl,hy⟩;change aa _ at hy;rw[NT.out];go_wp2;go_roundg (gk - 1);case measure=>omega
     case rel=>exact⟨k+1,J,by go_num,by rw[lq.out,aV (by rw[NT.out];simp)],Ef (p:=λm:nI=>vS m.vs i false) hk eO aq,U⟩
  ·go_wp2;rw[pX];go_wp2;go_ret;refine⟨jk (am6 eO hk),?_⟩;exact U
section
attribute [local go_sem ↓] Go.wp_at_zero Go.wp_at_succ
end
def yY:(prog.info? 54).map (λi=>(i.zero,i.size,i.bytes))=some (some (.agg #[av,aw,aw]),3,24):=bQ
def ax.bI(i:ax):i.cs.length=3:=rfl
def ax.cQ(i:ax):∀u∈i.cs,u.oneCell'=true:=by
 intro u aj;simp only[ax.cs,oy,tb,ue]at aj;rcases aj with rfl|rfl|rfl<;>rfl
def vT(dm:ax->Bool)(out:List ax)(v:V):List ax:=
 if 16<=out.length then out else if (out.any (λx=>cc x v.id)||dm v.id)=true then out else out++[v.id]
def rv(dm:ax->Bool)(vs:List V):List ax:=vs.foldl (vT dm) []
def am8{vs:List V}{k:Nat}(hk:k<vs.length):rv dm (vs.take (k+1))=vT dm (rv dm (vs.take k)) vs[k]:=by
 unfold rv;exact CZ
def ab5(dm:ax->Bool):∀(l:List V) (out:List ax),16<=out.length->l.foldl (vT dm) out=out
 | [],_,_=>rfl
 |v::l,out,h=>by rw[ry,show vT dm out v=out from by unfold vT;rw[bc h]];exact ab5 dm l out h
def am9{vs:List V}{k:Nat}(h:16<=(rv dm (vs.take k)).length):rv dm (vs.take k)=rv dm vs:=by
 have:rv dm vs=(vs.drop k).foldl (vT dm) (rv dm (vs.take k)):=by
  unfold rv;rw[<-Ak,NU]
 rw[this,ab5 dm _ _ h]
def Sw{out:List ax}{v:V}(h:(out.any (λx=>cc x v.id)||dm v.id)=true):vT dm out v=out:=by
 unfold vT;by_cases a1:16<=out.length
 ·rw[bc a1]
 ·rw[aV a1,bc h]
def ana{out:List ax}{v:V}(a1:¬16<=out.length)(h:(out.any (λx=>cc x v.id)||dm v.id)=false):vT dm out v=out++[v.id]:=by
 unfold vT;rw[aV a1,aV (by rw[h];simp)]
def xI(au ps os:List bR)(i:ax):Bool:=au.any (λx=>cc x.id i)||ps.any (λx=>cc x.id i)||os.any (λx=>cc x.id i)
def NV(au ps os:List bR)(i:ax):xI au ps os i=(au.any (λx=>cc x.id i)||ps.any (λx=>cc x.id i)||os.any (λx=>cc x.id i)):=rfl
def anb(s:iJ)(au ps os:List bR)(fJ:bl)(on gg:Nat)(x:kz)(vs:List V)(w:aC)(bg:a7 w 8 bR.cs s.l.a s.l.n s.l.c au)(b8:a7 w 8 bR.cs s.p.a s.p.n s.p.c ps)(bu:a7 w 8 bR.cs fJ on gg os)(bV:a7 w 4 V.cs x.v.a x.v.n x.v.c vs):
  aS 229 #[s,ao fJ on gg,x] w (Ei 3 ax.cs (rv (xI au ps os) vs) w):=by
 obtain⟨ct,bO,bL,bM,bP⟩:=fB yY;obtain⟨hl,r4,⟨a,n,cap⟩,mc,lW,sB,sC,sD⟩:=x;obtain rfl:=bV.neq;have hm:=bV.max;have a1:=bV.len;dsimp only at hm a1 bV ⊢;unfold maxLen at hm;change aa _ at bg b8 bu bV bO bL bM bP;go_enter func229,ntmps229;refine KC ?_;intro _ _;go_loopg [7,13] (vs.length) (λg e4 st wr=>∃(k:Nat) (aA:bl) (m aR:Nat),g+k=vs.length/\st=.int .i64 k/\e4=.slice aA m aR/\aa (aH wr ((w.alloc s).alloc (.cells #[hl,ae r4,ao a vs.length cap,mc,lW,sB,sC,sD] 232)).heap.size 54 3 ax.cs aA m aR (rv (xI au ps os) (vs.take k)))/\aa (Z ((w.alloc s).alloc (.cells #[hl,ae r4,ao a vs.length cap,mc,lW,sB,sC,sD] 232)) wr));case atStart=>exact⟨0,none,0,0,J,rfl,rfl,aH.nil _ _ _ ax.bI,Z.refl _⟩
 case round=>
  obtain⟨k,aA,m,aR,_,rfl,rfl,aJ,X⟩:=hrel;by_cases hk:k<vs.length
  ·obtain⟨b,o,rfl,al⟩:=bV.get k hk;have b7:Z w wr:=Z.trans U X;obtain⟨_,_,_,_⟩:=NS (w:=wr) (b:=b) (o:=o+k*4) (x:=vs[k]) (λj v aD=>b7.ag (al j v aD));have lr:wr.cell? (w,0)=some ↑(ae s.cX):=X.ag (by simp);have gM:wr.cell? (w,1)=some ↑s.l:=X.ag (by simp);have kM:wr.cell? (w,2)=some ↑s.p:=X.ag (by simp);have oG:wr.cell? (w,3)=some ↑s.b:=X.ag (by simp);have fa:(w:Nat)<(wr:Nat):=by have:=X.size;simp at this;omega
   have fj:(w:Nat)<(wr:Nat)+1:=J;have lq:=I (am8 (dm:=xI au ps os) hk);have ab6:=I (am9 (dm:=xI au ps os) (vs:=vs) (k:=k));have vU:=I aJ.neq;clear al b7;have b0:(0:Int)<=(k:Int):=J;have bf:(k:Int)<(vs.length:Int):=J;by_cases KL:16<=m;exact ab7
   ·skip;cases af:(rv (xI au ps os) (vs.take k)).any (λx=>cc x vs[k].id)with
    |true=>
     change aa _ at af;go_wp2_with (first|(go_at_call 201;refine(uk _ _ _ (rv (xI au ps os) (vs.take k)) vs[k].id _ (aJ.aF.ext U)).mono ?_;rintro e w'⟨rfl,cG⟩;have al:=cG.cell;have fa:(w:Nat)<(w':Nat):=hB;have fj:(wr:Nat)<(w':Nat):=hB;change aa _ at cG;rw[af.out])|(go_at_call 17;refine(oF s au vs[k].id _ (bg.ext (Z.trans (((Z.refl w).alloc _).alloc _) (Z.trans X U)))).mono ?_;rintro e w'⟨rfl,cG⟩;have al:=cG.cell;have fa:(w:Nat)<(w':Nat):=hB;have fj:(wr:Nat)<(w':Nat):=hB;change aa _ at cG;rw[dg.out])|(go_at_call 141;refine(vR s ps vs[k].id _ (b8.ext (Z.trans (((Z.refl w).alloc _).alloc _) (Z.trans X U)))).mono ?_;rintro e w'⟨rfl,cG⟩;have al:=cG.cell;have fa:(w:Nat)<(w':Nat):=hB;have fj:(wr:Nat)<(w':Nat):=hB;change aa _ at cG;rw[fO.out])|(go_at_call 286;refine(CY _ _ _ os vs[k].id _ (bu.ext (Z.trans (((Z.refl w).alloc _).alloc _) (Z.trans X U)))).mono ?_;rintro e w'⟨rfl,cG⟩;have al:=cG.cell;have fa:(w:Nat)<(w':Nat):=hB;have fj:(wr:Nat)<(w':Nat):=hB;change aa _ at cG;rw[gC.out]));go_roundg (gk - 1);case measure=>omega
     case rel=>exact⟨k+1,aA,m,aR,J,by go_num,rfl,(by rw[lq.out,Sw (by rw[NV,af.out];simp)];exact aJ.ext U),U⟩
    |false=>
     change aa _ at af;cases an:au.any (λx=>cc x.id vs[k].id)with
     |true=>
      change aa _ at an;go_wp2_with (first|(go_at_call 201;refine(uk _ _ _ (rv (xI au ps os) (vs.take k)) vs[k].id _ (aJ.aF.ext U)).mono ?_;rintro e w'⟨rfl,cG⟩;have al:=cG.cell;have fa:(w:Nat)<(w':Nat):=hB;have fj:(wr:Nat)<(w':Nat):=hB;change aa _ at cG;rw[af.out])|(go_at_call 17;refine(oF s au vs[k].id _ (bg.ext (Z.trans (((Z.refl w).alloc _).alloc _) (Z.trans X U)))).mono ?_;rintro e w'⟨rfl,cG⟩;have al:=cG.cell;have fa:(w:Nat)<(w':Nat):=hB;have fj:(wr:Nat)<(w':Nat):=hB;change aa _ at cG;rw[an.out])|(go_at_call 141;refine(vR s ps vs[k].id _ (b8.ext (Z.trans (((Z.refl w).alloc _).alloc _) (Z.trans X U)))).mono ?_;rintro e w'⟨rfl,cG⟩;have al:=cG.cell;have fa:(w:Nat)<(w':Nat):=hB;have fj:(wr:Nat)<(w':Nat):=hB;change aa _ at cG;rw[fO.out])|(go_at_call 286;refine(CY _ _ _ os vs[k].id _ (bu.ext (Z.trans (((Z.refl w).alloc _).alloc _) (Z.trans X U)))).mono ?_;rintro e w'⟨rfl,cG⟩;have al:=cG.cell;have fa:(w:Nat)<(w':Nat):=hB;have fj:(wr:Nat)<(w':Nat):=hB;change aa _ at cG;rw[gC.out]));go_roundg (gk - 1);case measure=>omega
      case rel=>exact⟨k+1,aA,m,aR,J,by go_num,rfl,(by rw[lq.out,Sw (by rw[NV,af.out,an.out];simp)];exact aJ.ext U),U⟩
     |false=>
      change aa _ at an;cases aO:ps.any (λx=>cc x.id vs[k].id)with
      |true=>
       change aa _ at aO;go_wp2_with (first|(go_at_call 201;refine(uk _ _ _ (rv (xI au ps os) (vs.take k)) vs[k].id _ (aJ.aF.ext U)).mono ?_;rintro e w'⟨rfl,cG⟩;have al:=cG.cell;have fa:(w:Nat)<(w':Nat):=hB;have fj:(wr:Nat)<(w':Nat):=hB;change aa _ at cG;rw[af.out])|(go_at_call 17;refine(oF s au vs[k].id _ (bg.ext (Z.trans (((Z.refl w).alloc _).alloc _) (Z.trans X U)))).mono ?_;rintro e w'⟨rfl,cG⟩;have al:=cG.cell;have fa:(w:Nat)<(w':Nat):=hB;have fj:(wr:Nat)<(w':Nat):=hB;change aa _ at cG;rw[an.out])|(go_at_call 141;refine(vR s ps vs[k].id _ (b8.ext (Z.trans (((Z.refl w).alloc _).alloc _) (Z.trans X U)))).mono ?_;rintro e w'⟨rfl,cG⟩;have al:=cG.cell;have fa:(w:Nat)<(w':Nat):=hB;have fj:(wr:Nat)<(w':Nat):=hB;change aa _ at cG;rw[aO.out])|(go_at_call 286;refine(CY _ _ _ os vs[k].id _ (bu.ext (Z.trans (((Z.refl w).alloc _).alloc _) (Z.trans X U)))).mono ?_;rintro e w'⟨rfl,cG⟩;have al:=cG.cell;have fa:(w:Nat)<(w':Nat):=hB;have fj:(wr:Nat)<(w':Nat):=hB;change aa _ at cG;rw[gC.out]));go_roundg (gk - 1);case measure=>omega
       case rel=>exact⟨k+1,aA,m,aR,J,by go_num,rfl,(by rw[lq.out,Sw (by rw[NV,af.out,an.out,aO.out];simp)];exact aJ.ext U),U⟩
      |false=>
       change aa _ at aO;cases bt:os.any (λx=>cc x.id vs[k].id)with
       |true=>
        change aa _ at bt;go_wp2_with (first|(go_at_call 201;refine(uk _ _ _ (rv (xI au ps os) (vs.take k)) vs[k].id _ (aJ.aF.ext U)).mono ?_;rintro e w'⟨rfl,cG⟩;have al:=cG.cell;have fa:(w:Nat)<(w':Nat):=hB;have fj:(wr:Nat)<(w':Nat):=hB;change aa _ at cG;rw[af.out])|(go_at_call 17;refine(oF s au vs[k].id _ (bg.ext (Z.trans (((Z.refl w).alloc _).alloc _) (Z.trans X U)))).mono ?_;rintro e w'⟨rfl,cG⟩;have al:=cG.cell;have fa:(w:Nat)<(w':Nat):=hB;have fj:(wr:Nat)<(w':Nat):=hB;change aa _ at cG;rw[an.out])|(go_at_call 141;refine(vR s ps vs[k].id _ (b8.ext (Z.trans (((Z.refl w).alloc _).alloc _) (Z.trans X U)))).mono ?_;rintro e w'⟨rfl,cG⟩;have al:=cG.cell;have fa:(w:Nat)<(w':Nat):=hB;have fj:(wr:Nat)<(w':Nat):=hB;change aa _ at cG;rw[aO.out])|(go_at_call 286;refine(CY _ _ _ os vs[k].id _ (bu.ext (Z.trans (((Z.refl w).alloc _).alloc _) (Z.trans X U)))).mono ?_;rintro e w'⟨rfl,cG⟩;have al:=cG.cell;have fa:(w:Nat)<(w':Nat):=hB;have fj:(wr:Nat)<(w':Nat):=hB;change aa _ at cG;rw[bt.out]));go_roundg (gk - 1);case measure=>omega
        case rel=>exact⟨k+1,aA,m,aR,J,by go_num,rfl,(by rw[lq.out,Sw (by rw[NV,af.out,an.out,aO.out,bt.out];simp)];exact aJ.ext U),U⟩
       |false=>
        change aa _ at bt;go_wp2_with (first|(at_builtin;refine hc (ys:=rv (xI au ps os) (vs.take k)) rfl _ _ 31 rfl ct _ 24 aiL bO bL bM bP rfl ah rfl (aJ.ext U) vs[k].id _ rfl (fi (cs:=ax.cs vs[k].id) rfl) (ax.cQ _) J ah (Z.size U) ?_;intro g _ _ jc b2)|(go_at_call 201;refine(uk _ _ _ (rv (xI au ps os) (vs.take k)) vs[k].id _ (aJ.aF.ext U)).mono ?_;rintro e w'⟨rfl,cG⟩;have al:=cG.cell;have fa:(w:Nat)<(w':Nat):=hB;have fj:(wr:Nat)<(w':Nat):=hB;change aa _ at cG;rw[af.out])|(go_at_call 17;refine(oF s au vs[k].id _ (bg.ext (Z.trans (((Z.refl w).alloc _).alloc _) (Z.trans X U)))).mono ?_;rintro e w'⟨rfl,cG⟩;have al:=cG.cell;have fj:(wr:Nat)<(w':Nat):=hB;change aa _ at cG;rw[an.out])|(go_at_call 141;refine(vR s ps vs[k].id _ (b8.ext (Z.trans (((Z.refl w).alloc _).alloc _) (Z.trans X U)))).mono ?_;rintro e w'⟨rfl,cG⟩;have al:=cG.cell;have fj:(wr:Nat)<(w':Nat):=hB;change aa _ at cG;rw[aO.out])|(go_at_call 286;refine(CY _ _ _ os vs[k].id _ (bu.ext (Z.trans (((Z.refl w).alloc _).alloc _) (Z.trans X U)))).mono ?_;rintro e w'⟨rfl,cG⟩;have al:=cG.cell;change aa _ at cG;rw[bt.out]));go_roundg (gk - 1);case measure=>omega
        case rel=>exact⟨k+1,_,_,_,J,by go_num,rfl,(by rw[lq.out,ana (by have:=vU.out;omega) (by rw[NV,af.out,an.out,aO.out,bt.out];rfl)];exact jc),b2.ext (aJ.ext U) (bJ _) U⟩
  ·have ab8:vs.take k=vs:=iU J;change aa _ at ab8;go_wp2;rw[pX];go_ret;exact Ei.mk aJ U (by rw[ab8.out])
def anc:(prog.info? 294).map (λi=>(i.zero,i.size,i.bytes))=some (some (.agg #[av,aw,aw,.bool false]),4,32):=bQ
def V.bI(v:V):v.cs.length=4:=rfl
def V.cQ(v:V):∀u∈v.cs,u.oneCell'=true:=by
 intro u aj;simp only[V.cs,oy,tb,ue]at aj;rcases aj with rfl|rfl|rfl|rfl<;>rfl
def ab9(c5:List nI)(i:ax):qs c5 i=0\/qs c5 i=1\/qs c5 i=2:=by
 unfold qs;split
 ·exact .inr (.inr rfl)
 ·split
  ·exact .inr (.inl rfl)
  ·exact .inl rfl
def C0(c5:List nI)(out:List V)(i:ax):List V:=if qs c5 i≠0/\out.length<16 then out++[⟨i,decide (qs c5 i=1)⟩] else out
def aBu(out:List V)(i:ax):List V:=if 16<=out.length then out else if out.any (λx=>cc x.id i)=true then out else out++[⟨i,false⟩]
def Gd(c5:List nI)(ps:List bR):List V:=ps.foldl (λo x=>C0 c5 o x.id) []
def aBv(c5:List nI)(ps:List bR)(rs:List ax):List V:=rs.foldl aBu (Gd c5 ps)
def ane{c5:List nI}{ps:List bR}{k:Nat}(hk:k<ps.length):Gd c5 (ps.take (k+1))=C0 c5 (Gd c5 (ps.take k)) ps[k].id:=by
 unfold Gd;exact CZ
def anf{c5:List nI}{ps:List bR}{rs:List ax}{k:Nat}(hk:k<rs.length):aBv c5 ps (rs.take (k+1))=aBu (aBv c5 ps (rs.take k)) rs[k]:=by
 unfold aBv;exact CZ
def aca:∀(l:List ax) (out:List V),16<=out.length->l.foldl aBu out=out
 | [],_,_=>rfl
 |v::l,out,h=>by rw[ry,show aBu out v=out from by unfold aBu;rw[bc h]];exact aca l out h
def ang{c5:List nI}{ps:List bR}{rs:List ax}{k:Nat}(h:16<=(aBv c5 ps (rs.take k)).length):aBv c5 ps (rs.take k)=aBv c5 ps rs:=by
 have:aBv c5 ps rs=(rs.drop k).foldl aBu (aBv c5 ps (rs.take k)):=by
  unfold aBv;rw[<-Ak,NU]
 rw[this,aca _ _ h]
def anh{c5:List nI}{out:List V}(h:qs c5 i=0):C0 c5 out i=out:=by unfold C0;rw[aV (λc=>c.1 h)]
def ani{c5:List nI}{out:List V}(h:¬out.length<16):C0 c5 out i=out:=by unfold C0;rw[aV (λc=>h c.2)]
def anj{c5:List nI}{out:List V}(h:qs c5 i≠0)(a1:out.length<16):C0 c5 out i=out++[⟨i,decide (qs c5 i=1)⟩]:=by unfold C0;rw[bc ⟨h,a1⟩]
def ank{out:List V}(h:out.any (λx=>cc x.id i)=true):aBu out i=out:=by
 unfold aBu;by_cases a1:16<=out.length
 ·rw[bc a1]
 ·rw[aV a1,bc h]
def anl{out:List V}(a1:¬16<=out.length)(h:out.any (λx=>cc x.id i)=false):aBu out i=out++[⟨i,false⟩]:=by
 unfold aBu;rw[aV a1,aV (by rw[h];simp)]
def anm(cL:bl)(gJ fv:Nat)(ps:List bR)(hD:bl)(h5 j3:Nat)(rs:List ax)(eb:bl)(dm xJ:Nat)(c5:List nI)(w:aC)(b8:a7 w 8 bR.cs cL gJ fv ps)(cw:a7 w 3 ax.cs hD h5 j3 rs)(b6:Kids w eb dm xJ c5):
  aS 149 #[ao cL gJ fv,ao hD h5 j3,ao eb dm xJ] w (Ei 4 V.cs (aBv c5 ps rs) w):=by
 obtain⟨ct,bO,bL,bM,bP⟩:=fB anc;obtain rfl:=b8.neq;obtain rfl:=cw.neq;have hm:=b8.max;have a1:=b8.len;have yZ:=cw.max;have KM:=cw.len;unfold maxLen at hm yZ;change aa _ at b8 cw b6 bO bL bM bP;go_enter func149,ntmps149;go_wp2_with fail;go_step3;go_wp2_with fail;go_loopg [7,15] (ps.length) (λg e4 st wr=>∃(k:Nat) (aA:bl) (m aR:Nat),g+k=ps.length/\st=.int .i64 k/\e4=.slice aA m aR/\aa (aH wr w 294 4 V.cs aA m aR (Gd c5 (ps.take k)))/\aa (Z w wr));case atStart=>exact⟨0,none,0,0,J,rfl,rfl,aH.nil _ _ _ V.bI,Z.refl _⟩
 case round=>
  obtain⟨k,aA,m,aR,bC,rfl,rfl,aJ,X⟩:=hrel;by_cases hk:k<ps.length
  ·obtain⟨b,o,rfl,al⟩:=b8.get k hk;obtain⟨cO,c1,c2,_,_,_,_,_⟩:=nh (w:=wr) (b:=b) (o:=o+k*8) (x:=ps[k]) (λj v aD=>X.ag (al j v aD));have lq:=I (ane (c5:=c5) hk);have vU:=I aJ.neq;clear al;have b0:(0:Int)<=(k:Int):=J;have bf:(k:Int)<(ps.length:Int):=J;rcases ab9 c5 ps[k].id with hs|hs|hs
   ·have ar:=I hs;clear hs;go_wp2_with (go_at_call 217;refine(Il _ _ _ c5 ps[k].id _ (b6.ext (Z.trans X U))).mono ?_;rintro e w'⟨rfl,cG⟩;have al:=cG.cell;change aa _ at cG;rw[ar.out]);go_roundg (gk - 1);case measure=>omega
    case rel=>exact⟨k+1,aA,m,aR,J,by go_num,rfl,(by rw[lq.out,anh ar.out];exact aJ.ext U),U⟩
   ·have ar:=I hs;clear hs;by_cases KL:m<16
    ·have Sx:(m:Int)<16:=J;go_wp2_with (first|(at_builtin;refine hc (ys:=Gd c5 (ps.take k)) rfl _ _ 230 rfl ct _ 32 underlying230 bO bL bM bP rfl ah rfl (aJ.ext U) ⟨ps[k].id,true⟩ _ rfl (fi (cs:=V.cs ⟨ps[k].id,true⟩) rfl) (V.cQ _) J ah (Z.size U) ?_;intro g dE w1 jc b2)|(go_at_call 217;refine(Il _ _ _ c5 ps[k].id _ (b6.ext (Z.trans X U))).mono ?_;rintro e w'⟨rfl,cG⟩;have al:=cG.cell;change aa _ at cG;rw[ar.out]));exact acb
    exact acd
   ·have ar:=I hs;clear hs;by_cases KL:m<16
    ·have Sx:(m:Int)<16:=J;go_wp2_with (first|(at_builtin;refine hc (ys:=Gd c5 (ps.take k)) rfl _ _ 230 rfl ct _ 32 underlying230 bO bL bM bP rfl ah rfl (aJ.ext U) ⟨ps[k].id,false⟩ _ rfl (fi (cs:=V.cs ⟨ps[k].id,false⟩) rfl) (V.cQ _) J ah (Z.size U) ?_;intro g dE w1 jc b2)|(go_at_call 217;refine(Il _ _ _ c5 ps[k].id _ (b6.ext (Z.trans X U))).mono ?_;rintro e w'⟨rfl,cG⟩;have al:=cG.cell;change aa _ at cG;rw[ar.out]));exact acb
    exact acd
  ·have cb:ps.take k=ps:=iU J;rw[cb]at aJ;clear cb;go_wp2;go_step3;go_wp2_with fail;go_loopg [7,41] (rs.length) (λg e4 st wr=>∃(k:Nat) (aA:bl) (m aR:Nat),g+k=rs.length/\st=.int .i64 k/\e4=.slice aA m aR/\aa (aH wr w 294 4 V.cs aA m aR (aBv c5 ps (rs.take k)))/\aa (Z w wr));case atStart=>exact⟨0,aA,m,aR,J,rfl,rfl,aJ,X⟩
   case round=>
    clear aJ X bC hk;obtain⟨k,aA,m,aR,_,rfl,rfl,aJ,X⟩:=hrel;by_cases hk:k<rs.length
    ·obtain⟨b,o,rfl,al⟩:=cw.get k hk;obtain⟨_,_,_⟩:=Aj (w:=wr) (b:=b) (o:=o+k*3) (x:=rs[k]) (λj v aD=>X.ag (al j v aD));have lq:=I (anf (c5:=c5) (ps:=ps) hk);have ab6:=I (ang (c5:=c5) (ps:=ps) (rs:=rs) (k:=k));have vU:=I aJ.neq;clear al;have b0:(0:Int)<=(k:Int):=J;have bf:(k:Int)<(rs.length:Int):=J;by_cases KL:16<=m;exact ab7
     ·skip;cases af:(aBv c5 ps (rs.take k)).any (λx=>cc x.id rs[k])with
      |true=>
       change aa _ at af;go_wp2_with (go_at_call 218;refine(ab0 _ _ _ (aBv c5 ps (rs.take k)) (λx=>cc x.id rs[k]) _ ⟨wr.heap.size,0,none⟩ _ (aJ.aF.ext U) (λ_ _=>by kernel_rfl) (λx _ w' hw=>ab1 x rs[k] wr.heap.size w' (hw.ag (by simp)) (hw.ag (by simp)) (hw.ag (by simp)))).mono ?_;rintro e w'⟨rfl,cG⟩;have al:=cG.cell;change aa _ at cG;rw[af.out]);go_roundg (gk - 1);case measure=>omega
       case rel=>exact⟨k+1,aA,m,aR,J,by go_num,rfl,(by rw[lq.out,ank af.out];exact aJ.ext U),U⟩
      |false=>
       change aa _ at af;go_wp2_with (first|(at_builtin;refine hc (ys:=aBv c5 ps (rs.take k)) rfl _ _ 230 rfl ct _ 32 underlying230 bO bL bM bP rfl ah rfl (aJ.ext U) ⟨rs[k],false⟩ _ rfl (fi (cs:=V.cs ⟨rs[k],false⟩) rfl) (V.cQ _) J ah (Z.size U) ?_;intro g _ _ jc b2)|(go_at_call 218;refine(ab0 _ _ _ (aBv c5 ps (rs.take k)) (λx=>cc x.id rs[k]) _ ⟨wr.heap.size,0,none⟩ _ (aJ.aF.ext U) (λ_ _=>by kernel_rfl) (λx _ w' hw=>ab1 x rs[k] wr.heap.size w' (hw.ag (by simp)) (hw.ag (by simp)) (hw.ag (by simp)))).mono ?_;rintro e w'⟨rfl,cG⟩;have al:=cG.cell;change aa _ at cG;rw[af.out]));go_roundg (gk - 1);case measure=>omega
       case rel=>exact⟨k+1,_,_,_,J,by go_num,rfl,(by rw[lq.out,anl (by have:=vU.out;omega) af.out];exact jc),b2.ext (aJ.ext U) (bJ _) U⟩
    ·have cb:rs.take k=rs:=iU J;rw[cb]at aJ;clear cb;go_wp2;rw[pX];go_ret;exact Ei.mk aJ U rfl
def ace{c:α->List Value}{ys:List α}{P:Program}{o:Oper}{a:Act}(nz:o.guard=none)(s x:Operand)(t e:TypeId)(aM:o.op=.call {callee:=.builtin .append,args:=#[s,x],argTypes:=#[t,t]})(i:TypeInfo)(z:Value)(bytes:Nat)(bm:P.underlying t=some (.slice e))(aK:P.info? e=some i)(bp:i.zero=some z)(yN:i.size=sz)(wS:i.bytes=bytes)(yO:z.cells.size=sz)(fs:0<sz)(hs:a.eval s=.slice none 0 0)(base:Nat){sa:bl}(X:a.eval x=.slice sa n cap)(bj:a7 w sz c sa n cap ys)(af:∀y,∀u∈c y,u.oneCell'=true)(aq:n*bytes<=140737488355328)(jt:0<bytes)(CH:base<=(w:Nat))(h:∀aA dE w',aH w' base e sz c aA n dE ys->Z w w'->(∀ai,aA=some ai->(w:Nat)<=ai.block)->wpList P ops Q rest (a.put o.dst (ao aA n dE)) w'):wpList P ops Q (o::rest) a w:=by
 have acf:aH w w e sz c none 0 0 ([]:List α):=aH.nil _ _ _ bj.bI;cases sa with
 |none=>
  have al:=bj.none rfl;have a1:=bj.len;obtain rfl:cap=0:=al;obtain rfl:n=0:=J;have hy:ys= []:=Bk bj.neq.symm;subst hy;refine wpList_append_own_none nz s x t aM w e i sz bm aK aP 0 [] hs acf.row X ?_;exact h none 0 w (aH.nil _ _ _ bj.bI) (Z.refl _) (λai ak=>by cases ak)
 |some ai=>
  have hbound:n<=n*bytes:=Ny _ jt;have hlen:(ys.flatMap c).length=n*sz:=by
   rw[bj.neq];have hw:=bj.bI;clear h X bj aq hbound;induction ys with
   |nil=>simp
   |cons y l cY=>exact R0
  refine wpList_append_own w nz s x t aM w e i z sz bytes bm aK bp yN wS yO fs aP 0 [] hs acf.row ai n cap (ys.flatMap c) X hlen ?_ ?_ (by simp only[maxLen];omega) (by rw[ow];exact aq) (bJ _) ?_
  ·intro j u aD;refine aa8 ?_;intro yQ hk b off R1 j2;subst j2;refine aa9 ?_;intro hm KA this;rw[show((b,off):Addr).add j=(b,off+j)from by unfold Addr.add;split<;>simp_all,this];exact KA.symm
  exact R2
  ·intro _ w' aJ b2 _;rw[mN,ow]at aJ;have b7:Z w w':=⟨b2.os,b2.tape,b2.output,b2.size,λk hk=>b2.block k hk (by simp[Value.ownBlock])⟩;rcases aJ.2 with ⟨rfl,aZ⟩|⟨g,aR,cur,rfl,iV,Bj,W6⟩
   ·subst aZ;exact h none 0 w' ((aH.mk aJ bj.neq bj.bI).mono CH) b7 (λai ak=>by cases ak)
   ·refine h _ aR w' ((aH.mk aJ bj.neq bj.bI).mono CH) b7 (λnJ ak=>?_);cases ak;exact iV
structure fU (w:World) (base:Nat) (x:bR) (d:bb):Prop where
 k:x.k=d.k
 id:x.id=d.id
 c:x.c=d.c
 u:x.u=d.u
 f:aH w base 154 5 T.cs x.f.a x.f.n x.f.c d.ts
 e:∃ys:List eu,ys.map (·.dt)=d.aX/\aH w base 34 1 eu.cs x.e.a x.e.n x.e.c ys/\∀y,y∈ys->aH w base 77 4 cI.cs y.v.a y.v.n y.v.c y.dt
def fU.ck(h:fU w base x d):hK w x d:=
 let ⟨ys,e,o,a⟩:=h.e;⟨h.k,h.id,h.c,h.u,h.f.aF,ys,e,o.aF,λy hy=>(a y hy).aF⟩
def fU.ext(h:fU w base x d)(X:Z w w'):fU w' base x d:=
 let ⟨ys,e,o,a⟩:=h.e;⟨h.k,h.id,h.c,h.u,h.f.ext X,ys,e,o.ext X,λy hy=>(a y hy).ext X⟩
def fU.mono(h:fU w base x d)(ad:aBw<=base):fU w aBw x d:=
 let ⟨ys,e,o,a⟩:=h.e;⟨h.k,h.id,h.c,h.u,h.f.mono ad,ys,e,o.mono ad,λy hy=>(a y hy).mono ad⟩
def fU.grow{c:α->List Value}{cz:List α}(h:fU w base x d)(bC:lL w w' aA g)(az:aH w aBw e sz c aA n cap cz)(af:e≠154)(an:e≠34)(aO:e≠77):fU w' base x d:=
 let ⟨ys,e,o,a⟩:=h.e
 ⟨h.k,h.id,h.c,h.u,bC.bS h.f (az.gT h.f af),ys,e,bC.bS o (az.gT o an),λy hy=>bC.bS (a y hy) (az.gT (a y hy) aO)⟩
structure fD (w:World) (base:Nat) (a:Option Addr) (n c:Nat) (ps:List bU):Prop where
 cj:aH w base 66 8 bU.cs a n c ps
 ck:∀p,p∈ps->fU w base p.x p.d
def fD.sE{c:Nat}(h:fD w base a n c ps):iG w a n c ps:=⟨h.cj.aF,λp aY=>(h.ck p aY).ck⟩
def fD.ext{c:Nat}(h:fD w base a n c ps)(X:Z w w'):fD w' base a n c ps:=⟨h.cj.ext X,λp aY=>(h.ck p aY).ext X⟩
def fD.mono{c:Nat}(h:fD w base a n c ps)(ad:aBw<=base):fD w aBw a n c ps:=⟨h.cj.mono ad,λp aY=>(h.ck p aY).mono ad⟩
def NW(d:bb)(w:World)(e:Ending)(w':World):Prop:=
 ∃x:bR,e=.returned (.agg #[x.k,x.id.b,ae x.id.l,ae x.id.s,x.c,ae x.u,x.f,x.e])/\fU w' w.heap.size x d/\Z w w'
def acg(x:bR)(d:bb)(w:aC)(a8:hK w x d)(hs:my d):aS 314 #[x] w (NW d w):=by
 refine NY ?_;intro ct bO bL bM bP dK eY e5 e6 e7 eB lQ lR lS lT cD ky jv db bm he ak;obtain⟨hl,ma,iI,mb,⟨eS,fn,eT⟩,⟨dL,_,dO⟩⟩:=x;dsimp only at db jv ⊢;obtain rfl:=jv.aF.neq;refine NZ ?_;intro hm KN KO dG;replace a8:=I a8;replace db:=I db;replace jv:=I jv;replace ky:=I ky;replace bO:=I bO;replace bL:=I bL;replace bM:=I bM;replace bP:=I bP;replace eY:=I eY;replace e5:=I e5;replace e6:=I e6;replace e7:=I e7;replace lQ:=I lQ;replace lR:=I lR;replace lS:=I lS;replace lT:=I lT;clear bm he ak hs;go_enter func314,ntmps314;refine N0 ?round;intro aA dE w1 cO c1 c2 cV dF dH eJ eM gn eI hn hL ib k6 pC uj uX y0 c7 bz w5 tn _ _ gk wr u3 u5 u13 u14 u15 u16 u17 u18 u19 u20 u21 u22 hrel _ _ _ _;case round=>
  obtain⟨k,ab,m,aR,ys,_,rfl,rfl,aJ,X⟩:=hrel;refine N1 ?_;intro hk
  ·refine KP ?_;intro cb;rw[cb]at aJ;refine N2 ?_;clear cO c1 c2 cV dF dH eJ eM gn eI hn hL ib k6 pC uj uX y0;intro dV q1 dk eP gV mO vV Br lr gM kM oG aBs aBt w6 vW KQ KR Ev hf;go_wp2_with fail;refine ke (v:=.agg #[hl,ma.b,ae ma.l,ae ma.s,iI,ae mb,ao aA fn dE,ao ab m aR]) (by simp[results,results314,go_sem,lr,gM,kM,oG,aBs,aBt,w6,vW]) rfl ⟨⟨hl,ma,iI,mb,⟨aA,fn,dE⟩,⟨ab,m,aR⟩⟩,rfl,⟨a8.out.k,a8.out.id,a8.out.c,a8.out.u,aH.mono (base:=(w:Nat)+1+1) ?_ (N3 (l9 _)),ys,by rw[aJ.out.2.1,ky.out],aH.mono (base:=(w1:Nat)) ?_ (lu tn),λy hy=>aH.mono (base:=(w1:Nat)) ?_ (lu tn)⟩,?_⟩;exact N4;exact N5;exact N6;exact N7
def Sy(x:bR)(d:bb)(w:aC)(a8:hK w x d)(hs:my d):aS 264 #[x] w (NW d w):=by
 refine NY ?_;intro ct bO bL bM bP dK eY e5 e6 e7 eB lQ lR lS lT cD ky jv db bm he ak;obtain⟨hl,ma,iI,mb,⟨eS,fn,eT⟩,⟨dL,_,dO⟩⟩:=x;dsimp only at db jv ⊢;obtain rfl:=jv.aF.neq;refine NZ ?_;intro hm KN KO dG;replace a8:=I a8;replace db:=I db;replace jv:=I jv;replace ky:=I ky;replace bO:=I bO;replace bL:=I bL;replace bM:=I bM;replace bP:=I bP;replace eY:=I eY;replace e5:=I e5;replace e6:=I e6;replace e7:=I e7;replace lQ:=I lQ;replace lR:=I lR;replace lS:=I lS;replace lT:=I lT;clear bm he ak hs;go_enter func264,ntmps264;refine N0 ?round;intro aA dE w1 cO c1 c2 cV dF dH eJ eM gn eI hn hL ib k6 pC uj uX y0 c7 bz w5 tn _ _ gk wr u3 u5 u13 u14 u15 u16 u17 u18 u19 u20 u21 u22 hrel _ _ _ _;case round=>
  obtain⟨k,ab,m,aR,ys,_,rfl,rfl,aJ,X⟩:=hrel;refine N1 ?_;intro hk
  ·refine KP ?_;intro cb;rw[cb]at aJ;refine N2 ?_;clear cO c1 c2 cV dF dH eJ eM gn eI hn hL ib k6 pC uj uX y0;intro dV q1 dk eP gV mO vV Br lr gM kM oG aBs aBt w6 vW KQ KR Ev hf;go_wp2_with fail;refine ke (v:=.agg #[hl,ma.b,ae ma.l,ae ma.s,iI,ae mb,ao aA fn dE,ao ab m aR]) (by simp[results,results264,go_sem,lr,gM,kM,oG,aBs,aBt,w6,vW]) rfl ⟨⟨hl,ma,iI,mb,⟨aA,fn,dE⟩,⟨ab,m,aR⟩⟩,rfl,⟨a8.out.k,a8.out.id,a8.out.c,a8.out.u,aH.mono (base:=(w:Nat)+1+1) ?_ (N3 (l9 _)),ys,by rw[aJ.out.2.1,ky.out],aH.mono (base:=(w1:Nat)) ?_ (lu tn),λy hy=>aH.mono (base:=(w1:Nat)) ?_ (lu tn)⟩,?_⟩;exact N4;exact N5;exact N6;exact N7
def Ao:(prog.info? 66).map (λi=>(i.zero,i.size,i.bytes))=some (some (.agg #[av,av,aw,aw,av,aw,aP,aP]),8,96):=bQ
def bU.cQ(p:bU):∀u∈p.cs,u.oneCell'=true:=bR.cQ p.x
def qt(au ps:List bR)(aB:List ax)(i:ax):Bool:=au.any (λx=>cc x.id i)||ps.any (λx=>cc x.id i)||aB.any (λx=>cc x i)
def XD(au ps:List bR)(aB:List ax)(i:ax):qt au ps aB i=(au.any (λx=>cc x.id i)||ps.any (λx=>cc x.id i)||aB.any (λx=>cc x i)):=rfl
def pD(dm:ax->Bool)(h6:Nat)(st:List bb×List ax)(d:bb):List bb×List ax:=
 if (dm d.id||st.1.any (λx=>cc x.id d.id)||st.2.any (λx=>cc x d.id))=true then st else if h6+st.1.length<6 then (st.1++[d],st.2) else (st.1,st.2++[d.id])
def rz(dm:ax->Bool)(h6:Nat)(aU:List bb):List bb×List ax:=aU.foldl (pD dm h6) ([],[])
def ann{k:Nat}(hk:k<aU.length):rz dm h6 (aU.take (k+1))=pD dm h6 (rz dm h6 (aU.take k)) aU[k]:=by
 unfold rz;exact CZ
def XE{st:List bb×List ax}(h:(dm d.id||st.1.any (λx=>cc x.id d.id)||st.2.any (λx=>cc x d.id))=true):pD dm h6 st d=st:=by
 unfold pD;rw[bc h]
def ano{st:List bb×List ax}(h:(dm d.id||st.1.any (λx=>cc x.id d.id)||st.2.any (λx=>cc x d.id))=false)(aq:h6+st.1.length<6):pD dm h6 st d=(st.1++[d],st.2):=by
 unfold pD;rw[aV (by rw[h];simp),bc aq]
def anp{st:List bb×List ax}(h:(dm d.id||st.1.any (λx=>cc x.id d.id)||st.2.any (λx=>cc x d.id))=false)(aq:¬h6+st.1.length<6):pD dm h6 st d=(st.1,st.2++[d.id]):=by
 unfold pD;rw[aV (by rw[h];simp),aV aq]
def XF(dm:ax->Bool)(h6:Nat):∀(l:List bb) (st:List bb×List ax),(l.foldl (pD dm h6) st).1.length+(l.foldl (pD dm h6) st).2.length<=st.1.length+st.2.length+l.length
 | [],st=>by simp
 |d::l,st=>by
  rw[ry]
  have:=XF dm h6 l (pD dm h6 st d)
  have an:(pD dm h6 st d).1.length+(pD dm h6 st d).2.length<=st.1.length+st.2.length+1:=by
   unfold pD;split
   ·omega
   ·split<;>simp<;>omega
  rw[me];omega
def anq(aX:List bb)(ck:List ax)(w:World)(e:Ending)(w':World):Prop:=
 ∃aA n c cP m q ps,e=.returned (.tuple #[ao aA n c,ao cP m q])/\fD w' w.heap.size aA n c ps/\ps.map (·.d)=aX/\aH w' w.heap.size 54 3 ax.cs cP m q ck/\Z w w'
def N8(s:iJ)(au ps:List bR)(aB:List ax)(i:ax)(aR:Nat)(w:aC)(bg:a7 w 8 bR.cs s.l.a s.l.n s.l.c au)(b8:a7 w 8 bR.cs s.p.a s.p.n s.p.c ps)(bn:a7 w 3 ax.cs s.b.a s.b.n s.b.c aB)(aZ:w.cell? (aR,0)=some ↑(ae s.cX))(af:w.cell? (aR,1)=some ↑s.l)(an:w.cell? (aR,2)=some ↑s.p)(aO:w.cell? (aR,3)=some ↑s.b):
  aS 313 #[i,aR] w (cU (.bool (qt au ps aB i)) w):=by
 have fH:=Ee aZ;dsimp only at fH;have azS:aR<(w:Nat)+1:=J;change aa _ at bg b8 bn;cases af:au.any (λx=>cc x.id i)with
 |true=>
  change aa _ at af;go_enter func313,ntmps313;go_wp2_with (first|(go_at_call 17;refine(oF s au i _ (bg.ext U)).mono ?_;rintro e w'⟨rfl,cG⟩;have al:=cG.cell;have bp:aR<(w':Nat):=hB;have fa:(w:Nat)<(w':Nat):=hB;change aa _ at cG;rw[af.out])|(go_at_call 141;refine(vR s ps i _ (b8.ext U)).mono ?_;rintro e w'⟨rfl,cG⟩;have al:=cG.cell;have bp:aR<(w':Nat):=hB;have fa:(w:Nat)<(w':Nat):=hB;change aa _ at cG;rw[dg.out])|(go_at_call 137;refine(yX s aB i _ (bn.ext U)).mono ?_;rintro e w'⟨rfl,cG⟩;have al:=cG.cell;have bp:aR<(w':Nat):=hB;have fa:(w:Nat)<(w':Nat):=hB;change aa _ at cG;rw[fO.out]));go_ret;refine⟨jl (by rw[XD,af.out];rfl),?_⟩;exact U
 |false=>
  change aa _ at af;cases an:ps.any (λx=>cc x.id i)with
  |true=>
   change aa _ at an;go_enter func313,ntmps313;go_wp2_with (first|(go_at_call 17;refine(oF s au i _ (bg.ext U)).mono ?_;rintro e w'⟨rfl,cG⟩;have al:=cG.cell;have bp:aR<(w':Nat):=hB;have fa:(w:Nat)<(w':Nat):=hB;change aa _ at cG;rw[af.out])|(go_at_call 141;refine(vR s ps i _ (b8.ext U)).mono ?_;rintro e w'⟨rfl,cG⟩;have al:=cG.cell;have bp:aR<(w':Nat):=hB;have fa:(w:Nat)<(w':Nat):=hB;change aa _ at cG;rw[an.out])|(go_at_call 137;refine(yX s aB i _ (bn.ext U)).mono ?_;rintro e w'⟨rfl,cG⟩;have al:=cG.cell;have bp:aR<(w':Nat):=hB;have fa:(w:Nat)<(w':Nat):=hB;change aa _ at cG;rw[fO.out]));go_ret;refine⟨jl (by rw[XD,af.out,an.out];rfl),?_⟩;exact U
  |false=>
   change aa _ at an;cases aO:aB.any (λx=>cc x i)with
   |true=>
    change aa _ at aO;go_enter func313,ntmps313;go_wp2_with (first|(go_at_call 17;refine(oF s au i _ (bg.ext U)).mono ?_;rintro e w'⟨rfl,cG⟩;have al:=cG.cell;have bp:aR<(w':Nat):=hB;have fa:(w:Nat)<(w':Nat):=hB;change aa _ at cG;rw[af.out])|(go_at_call 141;refine(vR s ps i _ (b8.ext U)).mono ?_;rintro e w'⟨rfl,cG⟩;have al:=cG.cell;have bp:aR<(w':Nat):=hB;have fa:(w:Nat)<(w':Nat):=hB;change aa _ at cG;rw[an.out])|(go_at_call 137;refine(yX s aB i _ (bn.ext U)).mono ?_;rintro e w'⟨rfl,cG⟩;have al:=cG.cell;have bp:aR<(w':Nat):=hB;have fa:(w:Nat)<(w':Nat):=hB;change aa _ at cG;rw[aO.out]));exact ach
   |false=>
    change aa _ at aO;go_enter func313,ntmps313;go_wp2_with (first|(go_at_call 17;refine(oF s au i _ (bg.ext U)).mono ?_;rintro e w'⟨rfl,cG⟩;have al:=cG.cell;have bp:aR<(w':Nat):=hB;have fa:(w:Nat)<(w':Nat):=hB;change aa _ at cG;rw[af.out])|(go_at_call 141;refine(vR s ps i _ (b8.ext U)).mono ?_;rintro e w'⟨rfl,cG⟩;have al:=cG.cell;have fa:(w:Nat)<(w':Nat):=hB;change aa _ at cG;rw[an.out])|(go_at_call 137;refine(yX s aB i _ (bn.ext U)).mono ?_;rintro e w'⟨rfl,cG⟩;change aa _ at cG;rw[aO.out]));exact ach
def anr(s:iJ)(au ps:List bR)(aB:List ax)(er:bl)(fk lc:Nat)(xs:List bU)(w:aC)(eV:a7 w 8 bR.cs s.l.a s.l.n s.l.c au)(lX:a7 w 8 bR.cs s.p.a s.p.n s.p.c ps)(bx:a7 w 3 ax.cs s.b.a s.b.n s.b.c aB)(ix:iG w er fk lc xs)(Bs:∀p,p∈xs->my p.d)(hA:s.p.n<=1000000)(kA:fk<=1000000):
  aS 290 #[s,ao er fk lc] w (anq (rz (qt au ps aB) s.p.n (xs.map (·.d))).1 (rz (qt au ps aB) s.p.n (xs.map (·.d))).2 w):=by
 obtain⟨ct,aK,fa,fj,pB⟩:=fB Ao;obtain⟨dK,aD,ui,oY,lO⟩:=fB yY;obtain rfl:=ix.aF.neq;have hm:=ix.aF.max;unfold maxLen at hm;generalize xK:xs.map (·.d)=aU;have xL:aU.length=xs.length:=by rw[<-xK,cx]
 change aa _ at xK xL eV lX bx ix Bs aK;have bL:=I fa;have bM:=I fj;change aa _ at pB;have eY:=I aD;change aa _ at ui oY lO;clear fa fj aD;go_enter func290,ntmps290;refine KC ?_;intro _ _
 go_loopg [6,7,14] (xs.length) (λg e4 ans st wr=>∃(k:Nat) (aA:bl) (m aR:Nat) (cP:bl) (r aBo:Nat) (ys:List bU),g+k=xs.length/\st=.int .i64 k/\e4=.slice aA m aR/\ans=.slice cP r aBo/\
  aa (aH wr (w.alloc s).heap.size 66 8 bU.cs aA m aR ys/\ys.map (·.d)=(rz (qt au ps aB) s.p.n (aU.take k)).1/\(∀y,y∈ys->fU wr (w.alloc s).heap.size y.x y.d)/\aH wr (w.alloc s).heap.size 54 3 ax.cs cP r aBo (rz (qt au ps aB) s.p.n (aU.take k)).2)/\aa (Z (w.alloc s) wr))
 case atStart=>exact⟨0,none,0,0,none,0,0,[],J,rfl,rfl,rfl,⟨aH.nil _ _ _ bU.bI,rfl,(λy hy=>by cases hy),aH.nil _ _ _ ax.bI⟩,Z.refl _⟩
 case round=>
  obtain⟨k,aA,m,aR,cP,r,aBo,ys,_,rfl,rfl,rfl,aJ,X⟩:=hrel;by_cases hk:k<xs.length
  ·obtain⟨b,o,rfl,al⟩:=ix.out.aF.get k hk;have b7:Z w wr:=Z.trans ((Z.refl w).alloc _) X.out;obtain⟨_,_,_,_,_,_,_,_⟩:=nh (w:=wr) (b:=b) (o:=o+k*8) (x:=xs[k].x) (λj v aD=>b7.ag (al j v aD));have lr:wr.cell? (w,0)=some ↑(ae s.cX):=X.out.ag (by simp);have gM:wr.cell? (w,1)=some ↑s.l:=X.out.ag (by simp);have kM:wr.cell? (w,2)=some ↑s.p:=X.out.ag (by simp);have oG:wr.cell? (w,3)=some ↑s.b:=X.out.ag (by simp);have fa:(w:Nat)<(wr:Nat):=by have:=X.out.size;simp at this;omega
   have fj:(w:Nat)<(wr:Nat)+1:=J;have bV:=I ((ix.out.ck xs[k] (cT hk)).ext b7);have ev:=I (Bs.out xs[k] (cT hk));have j4:k<aU.length:=by rw[xL.out];exact hk
   have k7:aU[k]=xs[k].d:=by have:=xK.out;subst this;simp
   have tp:=I bV.out.id;have lq:=I (show rz (qt au ps aB) s.p.n (aU.take (k+1))=pD (qt au ps aB) s.p.n (rz (qt au ps aB) s.p.n (aU.take k)) xs[k].d from by rw[ann j4,k7]);have Ew:∀i,(rz (qt au ps aB) s.p.n (aU.take k)).1.any (λx=>cc x.id i)=(ys.map (·.x)).any (λx=>cc x.id i):=by
    intro i;rw[<-aJ.out.2.1,yR,yR];have h:=aJ.out.2.2.1;clear aJ;induction ys with
    |nil=>rfl
    |cons y l cY=>rw[List.any_cons,List.any_cons,cY (λz bp=>h z (ni _ bp))];simp only[Function.comp];rw[(h y (o1 ..)).id]
   have Sz:=I (Ew xs[k].x.id);have XG:m+r<=k:=by
    have af:=aJ.out.1.neq;have an:=eH List.length aJ.out.2.1;have aO:=aJ.out.2.2.2.neq;have bt:=XF (qt au ps aB) s.p.n (aU.take k) ([],[]);rw[cx]at an;unfold rz at an aO;simp at bt;omega
   have vU:=I (show m=(rz (qt au ps aB) s.p.n (aU.take k)).1.length by rw[<-aJ.out.2.1,cx];exact aJ.out.1.neq);clear al b7 j4 k7 Ew;refine jU ?_;intro b0 bf;cases af:qt au ps aB xs[k].x.id with
   |true=>
    change aa _ at af;go_wp2_with (first|(go_at_call 313;refine(N8 s au ps aB xs[k].x.id (w:Nat) _ (eV.out.ext (Z.trans ((Z.refl w).alloc _) (Z.trans X.out U))) (lX.out.ext (Z.trans ((Z.refl w).alloc _) (Z.trans X.out U))) (bx.out.ext (Z.trans ((Z.refl w).alloc _) (Z.trans X.out U))) (Z.ag (W:=wr) U lr) (Z.ag (W:=wr) U gM) (Z.ag (W:=wr) U kM) (Z.ag (W:=wr) U oG)).mono ?_;rintro e w'⟨rfl,ad⟩;have al:=ad.cell;have fa:(w:Nat)<(w':Nat):=oH;have fj:(wr:Nat)<(w':Nat):=oH;have cG:=I ad;clear ad;rw[af.out])|(go_at_call 286;refine(CY _ _ _ (ys.map (·.x)) xs[k].x.id _ ((a7.map (λp:bU=>p.x) aJ.out.1.aF bR.bI).ext U)).mono ?_;rintro e w'⟨rfl,ad⟩;have al:=ad.cell;have fa:(w:Nat)<(w':Nat):=oH;have fj:(wr:Nat)<(w':Nat):=oH;have cG:=I ad;clear ad;rw[dg.out])|(go_at_call 201;refine(uk _ _ _ (rz (qt au ps aB) s.p.n (aU.take k)).2 xs[k].x.id _ (aJ.out.2.2.2.aF.ext U)).mono ?_;rintro e w'⟨rfl,ad⟩;have al:=ad.cell;have fa:(w:Nat)<(w':Nat):=oH;have fj:(wr:Nat)<(w':Nat):=oH;have cG:=I ad;clear ad;rw[fO.out]));go_roundg (gk - 1);case measure=>omega
    case rel=>exact⟨k+1,aA,m,aR,cP,r,aBo,ys,J,by go_num,rfl,rfl,(by rw[lq.out,XE (by rw[<-tp.out];rw[af.out];simp)];exact XH),U⟩
   |false=>
    change aa _ at af;cases an:(ys.map (·.x)).any (λx=>cc x.id xs[k].x.id)with
    |true=>
     change aa _ at an;go_wp2_with (first|(go_at_call 313;refine(N8 s au ps aB xs[k].x.id (w:Nat) _ (eV.out.ext (Z.trans ((Z.refl w).alloc _) (Z.trans X.out U))) (lX.out.ext (Z.trans ((Z.refl w).alloc _) (Z.trans X.out U))) (bx.out.ext (Z.trans ((Z.refl w).alloc _) (Z.trans X.out U))) (Z.ag (W:=wr) U lr) (Z.ag (W:=wr) U gM) (Z.ag (W:=wr) U kM) (Z.ag (W:=wr) U oG)).mono ?_;rintro e w'⟨rfl,ad⟩;have al:=ad.cell;have fa:(w:Nat)<(w':Nat):=oH;have fj:(wr:Nat)<(w':Nat):=oH;have cG:=I ad;clear ad;rw[af.out])|(go_at_call 286;refine(CY _ _ _ (ys.map (·.x)) xs[k].x.id _ ((a7.map (λp:bU=>p.x) aJ.out.1.aF bR.bI).ext U)).mono ?_;rintro e w'⟨rfl,ad⟩;have al:=ad.cell;have fa:(w:Nat)<(w':Nat):=oH;have fj:(wr:Nat)<(w':Nat):=oH;have cG:=I ad;clear ad;rw[an.out])|(go_at_call 201;refine(uk _ _ _ (rz (qt au ps aB) s.p.n (aU.take k)).2 xs[k].x.id _ (aJ.out.2.2.2.aF.ext U)).mono ?_;rintro e w'⟨rfl,ad⟩;have al:=ad.cell;have fa:(w:Nat)<(w':Nat):=oH;have fj:(wr:Nat)<(w':Nat):=oH;have cG:=I ad;clear ad;rw[fO.out]));go_roundg (gk - 1);case measure=>omega
     case rel=>exact⟨k+1,aA,m,aR,cP,r,aBo,ys,J,by go_num,rfl,rfl,(by rw[lq.out,XE (by rw[<-tp.out];rw[af.out,Sz.out,an.out];simp)];exact XH),U⟩
    |false=>
     change aa _ at an;cases aO:(rz (qt au ps aB) s.p.n (aU.take k)).2.any (λx=>cc x xs[k].x.id)with
     |true=>
      change aa _ at aO;go_wp2_with (first|(go_at_call 313;refine(N8 s au ps aB xs[k].x.id (w:Nat) _ (eV.out.ext (Z.trans ((Z.refl w).alloc _) (Z.trans X.out U))) (lX.out.ext (Z.trans ((Z.refl w).alloc _) (Z.trans X.out U))) (bx.out.ext (Z.trans ((Z.refl w).alloc _) (Z.trans X.out U))) (Z.ag (W:=wr) U lr) (Z.ag (W:=wr) U gM) (Z.ag (W:=wr) U kM) (Z.ag (W:=wr) U oG)).mono ?_;rintro e w'⟨rfl,ad⟩;have al:=ad.cell;have fa:(w:Nat)<(w':Nat):=oH;have fj:(wr:Nat)<(w':Nat):=oH;have cG:=I ad;clear ad;rw[af.out])|(go_at_call 286;refine(CY _ _ _ (ys.map (·.x)) xs[k].x.id _ ((a7.map (λp:bU=>p.x) aJ.out.1.aF bR.bI).ext U)).mono ?_;rintro e w'⟨rfl,ad⟩;have al:=ad.cell;have fa:(w:Nat)<(w':Nat):=oH;have fj:(wr:Nat)<(w':Nat):=oH;have cG:=I ad;clear ad;rw[an.out])|(go_at_call 201;refine(uk _ _ _ (rz (qt au ps aB) s.p.n (aU.take k)).2 xs[k].x.id _ (aJ.out.2.2.2.aF.ext U)).mono ?_;rintro e w'⟨rfl,ad⟩;have al:=ad.cell;have fa:(w:Nat)<(w':Nat):=oH;have fj:(wr:Nat)<(w':Nat):=oH;have cG:=I ad;clear ad;rw[aO.out]));go_roundg (gk - 1);case measure=>omega
      case rel=>exact⟨k+1,aA,m,aR,cP,r,aBo,ys,J,by go_num,rfl,rfl,(by rw[lq.out,XE (by rw[<-tp.out];rw[af.out,Sz.out,an.out,aO.out];simp)];exact XH),U⟩
     |false=>
      change aa _ at aO;by_cases KL:s.p.n+m<6
      ·have Sx:(s.p.n:Int)+(m:Int)<6:=J;go_wp2_with (first|(at_builtin;refine hc (ys:=ys) rfl (.tmp 41) (.tmp 44) 42 rfl ct _ 96 aiM aK.out bL.out bM.out pB.out rfl ah rfl (aJ.out.1.ext U) ⟨cH,xs[k].d⟩ _ rfl (fi (cs:=bU.cs ⟨cH,xs[k].d⟩) rfl) (bU.cQ _) J ah (Z.size U) ?_;intro g dE a6 gd b2;have cK:=I gd;have b9:=I b2;clear gd b2)|(go_at_call 314;refine(acg xs[k].x xs[k].d _ (bV.out.ext U) ev.out).mono ?_;rintro e w'⟨cH,rfl,um,ad⟩;have jt:=ad.size;have kg:=I um;have cG:=I ad;clear ad um)|(go_at_call 313;refine(N8 s au ps aB xs[k].x.id (w:Nat) _ (eV.out.ext (Z.trans ((Z.refl w).alloc _) (Z.trans X.out U))) (lX.out.ext (Z.trans ((Z.refl w).alloc _) (Z.trans X.out U))) (bx.out.ext (Z.trans ((Z.refl w).alloc _) (Z.trans X.out U))) (Z.ag (W:=wr) U lr) (Z.ag (W:=wr) U gM) (Z.ag (W:=wr) U kM) (Z.ag (W:=wr) U oG)).mono ?_;rintro e w'⟨rfl,ad⟩;have al:=ad.cell;have fa:(w:Nat)<(w':Nat):=oH;have fj:(wr:Nat)<(w':Nat):=oH;have cG:=I ad;clear ad;rw[af.out])|(go_at_call 286;refine(CY _ _ _ (ys.map (·.x)) xs[k].x.id _ ((a7.map (λp:bU=>p.x) aJ.out.1.aF bR.bI).ext U)).mono ?_;rintro e w'⟨rfl,ad⟩;have al:=ad.cell;have fa:(w:Nat)<(w':Nat):=oH;have fj:(wr:Nat)<(w':Nat):=oH;have cG:=I ad;clear ad;rw[an.out])|(go_at_call 201;refine(uk _ _ _ (rz (qt au ps aB) s.p.n (aU.take k)).2 xs[k].x.id _ (aJ.out.2.2.2.aF.ext U)).mono ?_;rintro e w'⟨rfl,ad⟩;have al:=ad.cell;have fa:(w:Nat)<(w':Nat):=oH;have fj:(wr:Nat)<(w':Nat):=oH;have cG:=I ad;clear ad;rw[aO.out]));go_roundg (gk - 1);case measure=>omega
       case rel=>
        refine⟨k+1,_,_,_,cP,r,aBo,ys++[⟨cH,xs[k].d⟩],J,by go_num,rfl,rfl,?_,b9.out.ext (aJ.out.1.ext U) (bJ _) U⟩;rw[lq.out,ano (by rw[<-tp.out];rw[af.out,Sz.out,an.out,aO.out];rfl) (by rw[<-vU.out];exact KL)];refine⟨cK.out,by rw[fT,aJ.out.2.1];rfl,λy hy=>?_,b9.out.z8 (aJ.out.1.ext U) (aJ.out.2.2.2.ext U) ah⟩;rcases ie.1 hy with hy|hy
        ·exact((aJ.out.2.2.1 y hy).ext U).grow b9.out (aJ.out.1.ext U) ah ah ah
        ·obtain rfl:=jg.1 hy;exact((kg.out.mono (Z.size U)).ext U).grow b9.out (aJ.out.1.ext U) ah ah ah
      ·skip;go_wp2_with (first|(at_builtin;refine hc (ys:=(rz (qt au ps aB) s.p.n (aU.take k)).2) rfl (.tmp 46) (.tmp 49) 31 rfl dK _ 24 aiL eY.out ui.out oY.out lO.out rfl ah rfl (aJ.out.2.2.2.ext U) xs[k].x.id _ rfl (fi (cs:=ax.cs xs[k].x.id) rfl) (ax.cQ _) J ah (Z.size U) ?_;intro g _ _ gd b2;have cK:=I gd;have b9:=I b2;clear gd b2)|(go_at_call 314;refine(acg xs[k].x xs[k].d _ (bV.out.ext U) ev.out).mono ?_;rintro e w'⟨_,rfl,um,ad⟩;have jt:=ad.size;have kg:=I um;have cG:=I ad;clear ad um)|(go_at_call 313;refine(N8 s au ps aB xs[k].x.id (w:Nat) _ (eV.out.ext (Z.trans ((Z.refl w).alloc _) (Z.trans X.out U))) (lX.out.ext (Z.trans ((Z.refl w).alloc _) (Z.trans X.out U))) (bx.out.ext (Z.trans ((Z.refl w).alloc _) (Z.trans X.out U))) (Z.ag (W:=wr) U lr) (Z.ag (W:=wr) U gM) (Z.ag (W:=wr) U kM) (Z.ag (W:=wr) U oG)).mono ?_;rintro e w'⟨rfl,ad⟩;have al:=ad.cell;have fa:(w:Nat)<(w':Nat):=oH;have fj:(wr:Nat)<(w':Nat):=oH;have cG:=I ad;clear ad;rw[af.out])|(go_at_call 286;refine(CY _ _ _ (ys.map (·.x)) xs[k].x.id _ ((a7.map (λp:bU=>p.x) aJ.out.1.aF bR.bI).ext U)).mono ?_;rintro e w'⟨rfl,ad⟩;have al:=ad.cell;have fa:(w:Nat)<(w':Nat):=oH;have fj:(wr:Nat)<(w':Nat):=oH;have cG:=I ad;clear ad;rw[an.out])|(go_at_call 201;refine(uk _ _ _ (rz (qt au ps aB) s.p.n (aU.take k)).2 xs[k].x.id _ (aJ.out.2.2.2.aF.ext U)).mono ?_;rintro e w'⟨rfl,ad⟩;have al:=ad.cell;have cG:=I ad;clear ad;rw[aO.out]));go_roundg (gk - 1);case measure=>omega
       case rel=>
        refine⟨k+1,aA,m,aR,_,_,_,ys,J,by go_num,rfl,rfl,?_,b9.out.ext (aJ.out.2.2.2.ext U) (bJ _) U⟩;rw[lq.out,anp (by rw[<-tp.out];rw[af.out,Sz.out,an.out,aO.out];rfl) (by rw[<-vU.out];exact KL)];exact⟨b9.out.z8 (aJ.out.2.2.2.ext U) (aJ.out.1.ext U) ah,aJ.out.2.1,λy hy=>((aJ.out.2.2.1 y hy).ext U).grow b9.out (aJ.out.2.2.2.ext U) ah ah ah,by rw[<-tp.out];exact cK.out⟩
  ·have cb:aU.take k=aU:=iU (by rw[xL.out];omega);rw[cb]at aJ;clear cb;go_wp2;rw[pX];go_ret2;exact⟨aA,m,aR,cP,r,aBo,ys,rfl,fD.mono ⟨aJ.out.1,λp aY=>aJ.out.2.2.1 p aY⟩ (by simp),aJ.out.2.1,aJ.out.2.2.2.mono (by simp),U⟩
section
attribute [local go_sem ↓] Go.wp_at_zero Go.wp_at_succ
def pE:kz:=⟨0,0,⟨none,0,0⟩,⟨none,0,0⟩,⟨none,0,0⟩,⟨none,0,0⟩,⟨none,0,0⟩,⟨none,0,0⟩⟩
end
section
section
variable {α:Type}{w w':World}{base:Nat}{e:TypeId}{sz:Nat}{c:α->List Value}{aA:Option Addr}{n cap:Nat}{ys:List α}
def tq{P:Program}{o:Oper}{a:Act}{K:Act->aC->Prop}{E:Prop}(nz:o.guard=none)(s x:Operand)(t:TypeId)(aM:o.op=.call {callee:=.builtin .append,args:=#[s,x],argTypes:=#[t,t]})(i:TypeInfo)(z:Value)(bytes:Nat)(bm:P.underlying t=some (.slice e))(aK:P.info? e=some i)(bp:i.zero=some z)(yN:i.size=sz)(wS:i.bytes=bytes)(yO:z.cells.size=sz)(fs:0<sz)(hs:a.eval s=.slice aA n cap)(aJ:aH w base e sz c aA n cap ys)(y:α)(H:Nat)(X:a.eval x=.slice (some ⟨H,0,.none⟩) 1 1)(W0:∀j u,(c y)[j]?=some u->w.cell? ⟨H,j,.none⟩=some u)(af:∀u∈c y,u.oneCell'=true)(aq:(n+1)*bytes<=140737488355328)(jt:0<bytes)(CH:base<=(w:Nat))(h:∀g dE w',aH w' base e sz c (some ⟨g,0,.none⟩) (n+1) dE (ys++[y])->lL w w' aA g->
   K (a.put o.dst (.slice (some ⟨g,0,.none⟩) ((n+1:Nat):Nat) dE)) w'):
  if Region.wanted o (yielded ops a.tmps)=true then Oper.wp P o a w K Q else E:=by
 have Eh:∀j,(⟨H,0,.none⟩:Addr).add j=⟨H,j,.none⟩:=λj=>by unfold Addr.add;split<;>simp_all
 refine step_append_lies w nz s x t aM base e i z sz bytes bm aK bp yN wS yO fs (ao aA n cap) n (ys.flatMap c) hs aJ.row ⟨H,0,.none⟩ 1 1 (c y) X (by rw[aJ.bI];omega)
  (λj u aD=>by rw[Eh];exact W0 j u aD) af J ?_ aq CH _ rfl ?_
 exact aaV
 ·intro g dE w' pv b2 j1 _
  refine h g dE w' ⟨by rw[vN,Kt];exact pv,by rw[c9,<-aJ.neq];rfl,aJ.bI⟩
   ⟨b2.os,b2.tape,b2.output,b2.size,λb ad dj=>b2.block b ad (λe=>?_),?_⟩
  exact RN;exact RO
end
structure y1 (w w':World) (B:Nat) (aA:Option Addr):Prop where
 os:w'.os=w.os
 tape:w'.tape=w.tape
 output:w'.output=w.output
 size:w.heap.size<=w'.heap.size
 block:∀b,b<w.heap.size->b≠B->(∀ai,aA=some ai->ai.block≠b)->w'.heap[b]? =w.heap[b]?
def y1.of{w w1 aN:aC}{aA:bl}(X:Z w w1)(bC:lL w1 aN aA g)(ai:Addr)(v:Value):y1 w (aN.setCell ai v) ai.block aA:=by
 have hs:Below 0 aN (aN.setCell ai v):=Below.setCell (Below.refl 0 aN) (gz _) v;refine⟨hs.os.trans (bC.os.trans X.os),hs.tape.trans (bC.tape.trans X.tape),hs.output.trans (bC.output.trans X.output),?_,λb ad dj ak=>?_⟩
 ·have:=X.size;have:=bC.size;have:=hs.size;omega
 ·rw[Below.heap_setCell aN ai v b dj];exact(bC.block b RM ak).trans (X.block b ad)
def y1.ext{W w w':aC}{aA:bl}(h:y1 w w' B aA)(X:Z W w)(bx:(W:Nat)<=B)(ak:∀ai,aA=some ai->(W:Nat)<=ai.block):Z W w':=
 Below.trans X ⟨h.os,h.tape,h.output,h.size,λk hk=>h.block k RM J (λai he=>by have:=ak ai he;omega)⟩
def y1.bS{α:Type}{w w':aC}{base:Nat}{e:TypeId}{sz:Nat}{c:α->List Value}{cP aA:bl}{n cap:Nat}{ys:List α}(h:y1 w w' B aA)(aJ:aH w base e sz c cP n cap ys)(bx:B<base)(aG:ox aA cP):aH w' base e sz c cP n cap ys:=
 aJ.ag λai ak=>h.block _ (aJ.lt ai ak).2 (by have:=(aJ.lt ai ak).1;omega) (λx X=>aG x ai X ak)
def y1.KS{α:Type}{w w':aC}{base:Nat}{e:TypeId}{sz:Nat}{c:α->List Value}{aA:bl}{n cap:Nat}{cz:List α}(h:y1 w w' B aA)(he:fU w base x d)(az:aH w aBw e sz c aA n cap cz)(bx:B<base)(af:e≠154)(an:e≠34)(aO:e≠77):fU w' base x d:=
 let ⟨ys,q,o,a⟩:=he.e
 ⟨he.k,he.id,he.c,he.u,h.bS he.f bx (az.gT he.f af),ys,q,h.bS o bx (az.gT o an),λy hy=>h.bS (a y hy) bx (az.gT (a y hy) aO)⟩
def fU.jD{w:aC}{base:Nat}(h:fU w base x d){p:Addr}(aY:p.block<base)(u:Value):fU (w.setCell p u) base x d:=
 let ⟨ys,q,o,a⟩:=h.e
 ⟨h.k,h.id,h.c,h.u,h.f.jD aY u,ys,q,o.jD aY u,λy hy=>(a y hy).jD aY u⟩
end
section
attribute [local go_sem ↓] Go.wp_at_zero Go.wp_at_succ
def SA(aX:List bb)(w:World)(e:Ending)(w':World):Prop:=
 ∃aA n c ps,e=.returned (.slice aA n c)/\aH w' w.heap.size 66 8 bU.cs aA n c ps/\(∀p,p∈ps->fU w' w.heap.size p.x p.d)/\ps.map (·.d)=aX/\Z w w'
def XI(er:bl)(fk lc:Nat)(xs:List bU)(w:aC)(bG:iG w er fk lc xs)(Ex:∀p,p∈xs->my p.d)(kA:fk<=1000000):
  aS 262 #[ao er fk lc] w (SA (xs.map (·.d)) w):=by
 obtain⟨ct,bO,bL,bM,bP⟩:=fB Ao;obtain rfl:=bG.aF.neq;have hm:=bG.aF.max;unfold maxLen at hm;change aa _ at bG Ex bO bL bM bP;go_enter func262,ntmps262;go_wp2_with fail;refine aci ?round;intro gk wr u3 u5 u8 u9 u10 u11 u12 u13 u14 u15 u16 u17 hrel _ _ _ _;case round=>
  obtain⟨k,aA,m,aR,ys,_,rfl,rfl,aJ,X⟩:=hrel;by_cases hk:k<xs.length
  ·obtain⟨b,o,rfl,al⟩:=bG.aF.get k hk;refine XJ ?_;intro cO c1 c2 cV dF dH eJ eM bV ev;refine acj ?_;intro ho;obtain rfl:k=m:=ho.symm;refine ack ?_;intro lq;clear al;refine jU ?_;intro b0 bf;go_wp2_with (first|(go_at_call 264;refine(Sy xs[k].x xs[k].d _ (bV.ext U) ev).mono ?_;rintro e w'⟨cH,rfl,kg,cG⟩;change aa _ at kg cG)|(at_builtin;refine hc (ys:=ys) rfl _ _ 42 rfl ct _ 96 aiM bO bL bM bP rfl ah rfl (aJ.out.1.ext U) ⟨cH,xs[k].d⟩ _ rfl (fi (cs:=bU.cs ⟨cH,xs[k].d⟩) rfl) (bU.cQ _) J ah (Z.size U) ?_;intro g _ _ gd b2;have cK:=I gd;have b9:=I b2;clear gd b2));exact acm
  ·refine sy ?_;intro cb;exact acn
def Ap(ab:List ax)(out:List ax)(i:ax):List ax:=if out.length<16/\ab.any (λx=>cc x i)=true/\out.any (λx=>cc x i)=false then out++[i] else out
def y2(ab:List ax)(l:List ax):List ax:=l.foldl (Ap ab) []
def ant{ab:List ax}{l:List bR}{k:Nat}(hk:k<l.length):y2 ab ((l.take (k+1)).map (·.id))=Ap ab (y2 ab ((l.take k).map (·.id))) l[k].id:=by
 unfold y2;rw[iv hk,fT,Ak];rfl
def anu(gv:bl)(hU fP:Nat)(aB:List ax)(er:bl)(fk lc:Nat)(xs:List bR)(w:aC)(bn:a7 w 3 ax.cs gv hU fP aB)(bG:a7 w 8 bR.cs er fk lc xs):
  aS 227 #[ao gv hU fP,ao er fk lc] w (Ei 3 ax.cs (y2 aB (xs.map (·.id))) w):=by
 obtain⟨ct,bO,bL,bM,bP⟩:=fB yY;obtain rfl:=bG.neq;obtain rfl:=bn.neq;have hm:=bG.max;have a1:=bG.len;unfold maxLen at hm;change aa _ at bG bn bO bL bM bP;go_enter func227,ntmps227;go_wp2_with fail
 go_loopg [5,10] (xs.length) (λg e4 st wr=>∃(k:Nat) (aA:bl) (m aR:Nat),g+k=xs.length/\st=.int .i64 k/\e4=.slice aA m aR/\
  aa (aH wr w 54 3 ax.cs aA m aR (y2 aB ((xs.take k).map (·.id))))/\aa (Z w wr))
 case atStart=>exact⟨0,none,0,0,J,rfl,rfl,aH.nil _ _ _ ax.bI,Z.refl _⟩
 case round=>
  obtain⟨k,aA,m,aR,_,rfl,rfl,aJ,X⟩:=hrel;by_cases hk:k<xs.length
  ·obtain⟨b,o,rfl,al⟩:=bG.get k hk;obtain⟨_,_,_,_,_,_,_,_⟩:=nh (w:=wr) (b:=b) (o:=o+k*8) (x:=xs[k]) (λj v aD=>X.ag (al j v aD));have lq:=I (ant (ab:=aB) hk);have vU:=I aJ.neq;have dK:(wr.alloc ((xs[k]:Obj))).cell? (wr,1)=some ↑xs[k].id.b:=aL (mu _ _) rfl;have hT:(wr.alloc ((xs[k]:Obj))).cell? (wr,2)=some ↑(ae xs[k].id.l):=aL (mu _ _) rfl;have eU:(wr.alloc ((xs[k]:Obj))).cell? (wr,3)=some ↑(ae xs[k].id.s):=aL (mu _ _) rfl;clear al;refine jU ?_;intro b0 bf;by_cases n1:m<16
   ·have anv:(m:Int)<16:=J;cases lo:aB.any (λx=>cc x xs[k].id)with
    |false=>
     have dG:=I lo;clear lo;go_wp2_with (go_at_call_of 201 (Value.slice gv aB.length fP);refine(uk _ _ _ aB xs[k].id _ (bn.ext U)).mono ?_;rintro e cW⟨he,ad⟩;rw[dG.out]at he;subst he;have gK:=I ad;have dK:=ad.ag dK;have hT:=ad.ag hT;have eU:=ad.ag eU;clear ad);go_roundg (gk - 1);case measure=>omega
     case rel=>exact⟨k+1,aA,m,aR,J,by go_num,rfl,(by rw[lq.out];unfold Ap;rw[aV (λc=>by(rw[dG.out]at c;exact absurd c.2.1 ah))];exact aJ.ext U),U⟩
    |true=>
     have dG:=I lo;clear lo;cases hC:(y2 aB ((xs.take k).map (·.id))).any (λx=>cc x xs[k].id)with
     |true=>
      have cg:=I hC;clear hC;go_wp2_with (first|(go_at_call_of 201 (Value.slice gv aB.length fP);refine(uk _ _ _ aB xs[k].id _ (bn.ext U)).mono ?_;rintro e cW⟨he,ad⟩;rw[dG.out]at he;subst he;have gK:=I ad;have dK:=ad.ag dK;have hT:=ad.ag hT;have eU:=ad.ag eU;clear ad)|(go_at_call_of 201 (Value.slice aA m aR);refine(uk _ _ _ (y2 aB ((xs.take k).map (·.id))) xs[k].id _ (aJ.aF.ext U)).mono ?_;rintro e cW⟨he,ad⟩;rw[cg.out]at he;subst he;have mB:=I ad;have dK:=ad.ag dK;have hT:=ad.ag hT;have eU:=ad.ag eU;clear ad));go_roundg (gk - 1);case measure=>omega
      case rel=>exact⟨k+1,aA,m,aR,J,by go_num,rfl,(by rw[lq.out];unfold Ap;rw[aV (λc=>by(rw[cg.out]at c;exact absurd c.2.2 ah))];exact aJ.ext U),U⟩
     |false=>
      have cg:=I hC;clear hC;go_wp2_with (first|(go_at_call_of 201 (Value.slice gv aB.length fP);refine(uk _ _ _ aB xs[k].id _ (bn.ext U)).mono ?_;rintro e cW⟨he,ad⟩;rw[dG.out]at he;subst he;have gK:=I ad;have dK:=ad.ag dK;have hT:=ad.ag hT;have eU:=ad.ag eU;clear ad)|(go_at_call_of 201 (Value.slice aA m aR);refine(uk _ _ _ (y2 aB ((xs.take k).map (·.id))) xs[k].id _ (aJ.aF.ext U)).mono ?_;rintro e _⟨he,ad⟩;rw[cg.out]at he;subst he;have mB:=I ad;have dK:=ad.ag dK;have hT:=ad.ag hT;have eU:=ad.ag eU;clear ad)|(at_builtin;refine hc (ys:=y2 aB ((xs.take k).map (·.id))) rfl _ _ 31 rfl ct _ 24 aiL bO bL bM bP rfl ah rfl (aJ.ext U) xs[k].id _ rfl (fi (cs:=ax.cs xs[k].id) rfl) (ax.cQ _) J ah (Z.size U) ?_;intro g _ _ jc b2;have c7:=I jc;have b9:=I b2;clear jc b2));go_roundg (gk - 1);case measure=>omega
      case rel=>exact⟨k+1,_,_,_,J,by go_num,rfl,(by rw[lq.out];unfold Ap;rw[bc ⟨by rw[<-vU.out];exact n1,dG,cg⟩];exact c7),b9.ext (aJ.ext U) (bJ _) U⟩
   ·have anv:¬(m:Int)<16:=J;go_wp2;go_roundg (gk - 1);case measure=>omega
    case rel=>exact⟨k+1,aA,m,aR,J,by go_num,rfl,(by rw[lq.out];unfold Ap;rw[aV (λc=>by(have:=c.1;have:=vU.out;omega))];exact aJ.ext U),U⟩
  ·refine sy ?_;intro cb;rw[cb]at aJ;clear cb;go_wp2;go_ret;exact⟨aA,m,aR,rfl,aJ.aF,U⟩
end
section
attribute [local go_sem ↓] Go.wp_at_zero Go.wp_at_succ
def iG.part(h:iG w (some (b,o)) n cap ps)(k m:Nat)(hk:k+m<=n):iG w (some (b,o+k*8)) m (cap - k) ((ps.drop k).take m):=
 ⟨⟨by rw[nF,CM];have:=h.aF.neq;omega,by have:=h.aF.len;omega,by have:=h.aF.max;omega,(λe=>by cases e),h.aF.bI,λj x aD=>by
  rw[List.getElem?_take]at aD;split at aD
  ·rw[R9]at aD;obtain⟨_,_,ad,al⟩:=h.aF.at_ _ _ aD;cases ad;exact⟨b,o+k*8,rfl,by rw[show o+k*8+j*8=o+(k+j)*8 from by omega];exact al⟩
  ·cases aD⟩,λp aY=>h.ck p (KX (Bt aY))⟩
def iG.anw(h:iG w a n cap ps)(aZ:0<n):∃b o,a=some ⟨b,o,none⟩:=by
 obtain⟨b,o,ad,_⟩:=h.aF.get 0 (by rw[<-h.aF.neq];exact aZ);exact⟨b,o,ad⟩
def anx(er:bl)(fk lc:Nat)(xs:List bU)(v:Nat)(w:aC)(bG:iG w er fk lc xs)(ev:∀p,p∈xs->my p.d)(kA:fk<=1000000):
  aS 225 #[ao er fk lc,ae v] w (SA (((xs.drop v).take 4).map (·.d)) w):=by
 have c3:=bG.aF.neq;have hm:=bG.aF.max;have a1:=bG.aF.len;unfold maxLen at hm;by_cases bw:fk<=v
 ·have Ey:(fk:Int)<=(v:Int):=J;have e:(xs.drop v).take 4= []:=by rw[NC J];rfl
  rw[e];clear bG e c3;go_enter func225,ntmps225;go_wp2;go_ret;exact⟨none,0,0,[],rfl,aH.nil _ _ _ bU.bI,(λp aY=>by cases aY),rfl,U⟩
 ·have Ey:¬(fk:Int)<=(v:Int):=J;obtain⟨b,o,rfl⟩:=bG.anw J;change aa _ at bG c3 ev;by_cases bt:fk - v<=4
  ·have N9:((fk - v:Nat):Int)<=4:=J;have Ge:min ((fk - v:Nat):Int) 4=((fk - v:Nat):Int):=J;have e:(xs.drop v).take 4=(xs.drop v).take (fk - v):=by
    have:=c3.out;rw[iU (by rw[CM];omega),iU (by rw[CM];omega)]
   rw[e];clear e;go_enter func225,ntmps225;go_wp2_with (go_at_call 262;refine(XI _ _ _ ((xs.drop v).take (fk - v)) _ (bG.part v (fk - v) J) (λp aY=>ev p (KX (Bt aY))) J).mono ?_;rintro e w'⟨aA,n,c,ps,rfl,H1,dg,fO,gC⟩;change aa _ at H1 dg fO gC);go_ret;exact⟨aA,n,c,ps,rfl,H1,dg,fO,gC⟩
  ·have N9:¬((fk - v:Nat):Int)<=4:=J;have Ge:min ((fk - v:Nat):Int) 4=4:=J;go_enter func225,ntmps225;go_wp2_with (go_at_call 262;refine(XI _ _ _ ((xs.drop v).take 4) _ (bG.part v 4 J) (λp aY=>ev p (KX (Bt aY))) J).mono ?_;rintro e w'⟨aA,n,c,ps,rfl,H1,dg,fO,gC⟩;change aa _ at H1 dg fO gC);go_ret;exact⟨aA,n,c,ps,rfl,H1,dg,fO,gC⟩
end
section
attribute [local go_sem ↓] Go.wp_at_zero Go.wp_at_succ
def y3(au:List bR)(aB:List ax)(i:ax):Bool:=au.any (λx=>cc x.id i)||aB.any (λx=>cc x i)
def anz(au:List bR)(aB:List ax)(i:ax):y3 au aB i=(au.any (λx=>cc x.id i)||aB.any (λx=>cc x i)):=rfl
def rA(dm:ax->Bool)(st:List bb×List bb)(d:bb):List bb×List bb:=
 if (dm d.id||st.1.any (λx=>cc x.id d.id)||st.2.any (λx=>cc x.id d.id))=true then st
 else if d.k=1 then (if st.1.length<4 then (st.1++[d],st.2) else st) else (st.1,st.2++[d])
def xM(dm:ax->Bool)(o:List bb)(aU:List bb):List bb×List bb:=aU.foldl (rA dm) (o,[])
def anA{o:List bb}{k:Nat}(hk:k<aU.length):xM dm o (aU.take (k+1))=rA dm (xM dm o (aU.take k)) aU[k]:=by
 unfold xM;exact CZ
def anB(h:(dm d.id||st.1.any (λx=>cc x.id d.id)||st.2.any (λx=>cc x.id d.id))=true):rA dm st d=st:=by
 unfold rA;rw[bc h]
def anC(h:(dm d.id||st.1.any (λx=>cc x.id d.id)||st.2.any (λx=>cc x.id d.id))=false)(hk:d.k≠1):rA dm st d=(st.1,st.2++[d]):=by
 unfold rA;rw[aV (by rw[h];decide),aV hk]
def anD(h:(dm d.id||st.1.any (λx=>cc x.id d.id)||st.2.any (λx=>cc x.id d.id))=false)(hk:d.k=1)(aq:st.1.length<4):rA dm st d=(st.1++[d],st.2):=by
 unfold rA;rw[aV (by rw[h];decide),bc hk,bc aq]
def anE(h:(dm d.id||st.1.any (λx=>cc x.id d.id)||st.2.any (λx=>cc x.id d.id))=false)(hk:d.k=1)(aq:¬st.1.length<4):rA dm st d=st:=by
 unfold rA;rw[aV (by rw[h];decide),bc hk,aV aq]
def aco(dm:ax->Bool):∀(l:List bb) (st:List bb×List bb),(l.foldl (rA dm) st).1.length+(l.foldl (rA dm) st).2.length<=st.1.length+st.2.length+l.length
 | [],_=>bJ _
 |d::l,st=>by
  rw[ry]
  refine ek (aco dm l _) ?_
  unfold rA
  rw[me]
  split
  ·omega
  ·split
   ·split
    ·rw[c9];simp;omega
    ·omega
   ·rw[c9];simp;omega
def anF(aX h3:List bb)(w:World)(e:Ending)(w':World):Prop:=
 ∃aA n c ps cP m q dq,e=.returned (.tuple #[ao aA n c,ao cP m q])/\fD w' w.heap.size aA n c ps/\ps.map (·.d)=aX/\fD w' w.heap.size cP m q dq/\dq.map (·.d)=h3/\Z w w'
def SB{l:List bU}(hm:l.map (·.d)=aU)(h:∀p,p∈l->p.x.id=p.d.id):(l.map (·.x)).any (λx=>cc x.id i)=aU.any (λx=>cc x.id i):=by
 subst hm;rw[yR,yR];induction l with
 |nil=>rfl
 |cons y l cY=>rw[List.any_cons,List.any_cons,cY (λz bp=>h z (ni _ bp))];simp only[Function.comp];rw[h y (o1 ..)]
def anG(s:iJ)(au:List bR)(aB:List ax)(fJ:bl)(on gg:Nat)(os:List bU)(er:bl)(fk lc:Nat)(xs:List bU)(w:aC)(bg:a7 w 8 bR.cs s.l.a s.l.n s.l.c au)(bn:a7 w 3 ax.cs s.b.a s.b.n s.b.c aB)(bu:iG w fJ on gg os)(acp:∀p,p∈os->my p.d)(bG:iG w er fk lc xs)(Ex:∀p,p∈xs->my p.d)(hA:on<=1000000)(kA:fk<=1000000):
  aS 206 #[s,ao fJ on gg,ao er fk lc] w (anF (xM (y3 au aB) (os.map (·.d)) (xs.map (·.d))).1 (xM (y3 au aB) (os.map (·.d)) (xs.map (·.d))).2 w):=by
 obtain⟨ct,bO,bL,bM,bP⟩:=fB Ao;obtain rfl:=bG.aF.neq;have hm:=bG.aF.max;unfold maxLen at hm;generalize xK:xs.map (·.d)=aU;have Iq:aU.length=xs.length:=by rw[<-xK,cx]
 have SC:os.length=on:=bu.aF.neq.symm;change aa _ at xK Iq SC bg bn bu acp bG Ex bO bL bM bP;go_enter func206,ntmps206;go_wp2_with fail;go_step3;go_wp2_with fail;have gN:(w.alloc s).heap[(w:Nat)]?=some (s:Obj):=gA;refine(XI fJ on gg os (w.alloc s) (bu.ext ((Z.refl w).alloc _)) acp hA).mono ?_;rintro e _⟨vX,Gf,h7,cs,rfl,Gg,acq,XK,br⟩;have a0:aa ((w.alloc s).cell? (w,0)=some ↑(ae s.cX)):=aL gN rfl;have cE:aa ((w.alloc s).cell? (w,1)=some ↑s.l):=aL gN rfl;have ch:aa ((w.alloc s).cell? (w,2)=some ↑s.p):=aL gN rfl;have a3:aa ((w.alloc s).cell? (w,3)=some ↑s.b):=aL gN rfl;change aa _ at br Gg acq XK;clear gN;generalize XL:os.map (·.d)=D0 at XK ⊢;have SD:=I XL;have azT:D0.length<=1000000:=by rw[<-XL,cx];have:=SC.out;omega
 clear XL;go_wp2_with fail;go_step3;go_wp2_with fail
 go_loopg [8,9,16] (xs.length) (λg e4 y4 st wr=>∃(k:Nat) (aA:bl) (m aR:Nat) (ys:List bU) (cP:bl) (r aBo:Nat) (cz:List bU),g+k=xs.length/\st=.int .i64 k/\e4=.slice aA m aR/\y4=.slice cP r aBo/\
  aa (aH wr (w.alloc s).heap.size 66 8 bU.cs aA m aR ys/\aH wr (w.alloc s).heap.size 66 8 bU.cs cP r aBo cz/\ox aA cP/\ys.map (·.d)=(xM (y3 au aB) D0 (aU.take k)).1/\cz.map (·.d)=(xM (y3 au aB) D0 (aU.take k)).2/\(∀y,y∈ys->fU wr (w.alloc s).heap.size y.x y.d)/\(∀y,y∈cz->fU wr (w.alloc s).heap.size y.x y.d))/\aa (Z (w.alloc s) wr))
 case atStart=>exact⟨0,vX,Gf,h7,cs,none,0,0,[],J,rfl,rfl,rfl,⟨Gg,aH.nil _ _ _ bU.bI,(ox.nil _).symm,XK,rfl,acq,(λy hy=>by cases hy)⟩,br⟩
 case round=>
  obtain⟨k,aA,m,aR,ys,cP,r,aBo,cz,_,rfl,rfl,rfl,aJ,X⟩:=hrel;by_cases hk:k<xs.length
  ·obtain⟨b,o,rfl,al⟩:=bG.aF.get k hk;have b7:Z w wr:=Z.trans ((Z.refl w).alloc _) X;obtain⟨_,_,_,_,_,_,_,_⟩:=nh (w:=wr) (b:=b) (o:=o+k*8) (x:=xs[k].x) (λj v aD=>b7.ag (al j v aD));have bV:=I ((bG.ck xs[k] (cT hk)).ext b7);have ev:=I (Ex xs[k] (cT hk));have j4:k<aU.length:=by rw[Iq.out];exact hk
   have k7:aU[k]=xs[k].d:=by have:=xK.out;subst this;simp
   have tp:=I bV.id;have Aa:=I bV.k;have lq:=I (show xM (y3 au aB) D0 (aU.take (k+1))=rA (y3 au aB) (xM (y3 au aB) D0 (aU.take k)) xs[k].d from by rw[anA j4,k7]);have rB:=I (SB (i:=xs[k].x.id) aJ.out.2.2.2.1 (λp aY=>(aJ.out.2.2.2.2.2.1 p aY).id));have ec:=I (SB (i:=xs[k].x.id) aJ.out.2.2.2.2.1 (λp aY=>(aJ.out.2.2.2.2.2.2 p aY).id));have XG:m+r<=1000000+k:=by
    have af:=aJ.out.1.neq;have an:=eH List.length aJ.out.2.2.2.1;have aO:=aJ.out.2.1.neq;have fV:=eH List.length aJ.out.2.2.2.2.1;have bt:=aco (y3 au aB) (aU.take k) (D0,[]);rw[cx]at an fV;unfold xM at an fV;simp at bt;omega
   have vU:=I (show m=(xM (y3 au aB) D0 (aU.take k)).1.length by rw[<-aJ.out.2.2.2.1,cx];exact aJ.out.1.neq);have jh:=(Z.refl wr).alloc xs[k].x;have dV:=jh.ag (X.ag a0);have q1:=jh.ag (X.ag cE);have dk:=jh.ag (X.ag ch);have eP:=jh.ag (X.ag a3);refine acr ?_;intro gD dK hT eU k3 kf mf mg mh;change aa _ at jh;clear al b7 j4 k7 gD;refine jU ?_;intro b0 bf;go_upto_region 6 with (fail);go_cut [41] (λc eD=>∃K:Bool,c=.bool K/\aa (((au.any (λx:bR=>cc x.id xs[k].x.id)||aB.any (λx:ax=>cc x xs[k].x.id))||(ys.map (·.x)).any (λx:bR=>cc x.id xs[k].x.id)||(cz.map (·.x)).any (λx:bR=>cc x.id xs[k].x.id))=K)/\aa (Z wr eD)/\(wr:Nat)<(eD:Nat)/\eD.cell? (wr,0)=some ↑xs[k].x.k/\eD.cell? (wr,1)=some ↑xs[k].x.id.b/\eD.cell? (wr,2)=some ↑(ae xs[k].x.id.l)/\eD.cell? (wr,3)=some ↑(ae xs[k].x.id.s)/\eD.cell? (wr,4)=some ↑xs[k].x.c/\eD.cell? (wr,5)=some ↑(ae xs[k].x.u)/\eD.cell? (wr,6)=some ↑xs[k].x.f/\eD.cell? (wr,7)=some ↑xs[k].x.e);case first=>
    as_aux_lemma=>
     cases lo:au.any (λx:bR=>cc x.id xs[k].x.id)with
     |true=>
      have dG:=I lo;clear lo;go_wp2_with (go_at_call 17;refine(oF s au xs[k].x.id _ (bg.ext U)).mono ?_;rintro e cW⟨he,hN⟩;rw[dG.out]at he;subst he;have dV:=hN.ag dV;have q1:=hN.ag q1;have dk:=hN.ag dk;have eP:=hN.ag eP;have dK:=hN.ag dK;have hT:=hN.ag hT;have eU:=hN.ag eU;have k3:=hN.ag k3;have kf:=hN.ag kf;have mf:=hN.ag mf;have mg:=hN.ag mg;have mh:=hN.ag mh;have y5:(wr:Nat)<(cW:Nat):=SE;change aa _ at hN);go_meet;exact⟨_,rfl,I (by rw[dG.out];rfl),U,y5,dK,hT,eU,k3,kf,mf,mg,mh⟩
     |false=>
      have dG:=I lo;clear lo;cases bx:aB.any (λx:ax=>cc x xs[k].x.id)with
      |true=>
       have px:=I bx;clear bx;go_wp2_with (first|(go_at_call 17;refine(oF s au xs[k].x.id _ (bg.ext U)).mono ?_;rintro e cW⟨he,hN⟩;rw[dG.out]at he;subst he;have dV:=hN.ag dV;have q1:=hN.ag q1;have dk:=hN.ag dk;have eP:=hN.ag eP;have dK:=hN.ag dK;have hT:=hN.ag hT;have eU:=hN.ag eU;have k3:=hN.ag k3;have kf:=hN.ag kf;have mf:=hN.ag mf;have mg:=hN.ag mg;have mh:=hN.ag mh;have y5:(wr:Nat)<(cW:Nat):=SE;change aa _ at hN)|(go_at_call 137;refine(yX s aB xs[k].x.id _ (bn.ext U)).mono ?_;rintro e cW⟨he,jh⟩;rw[px.out]at he;subst he;have dV:=jh.ag dV;have q1:=jh.ag q1;have dk:=jh.ag dk;have eP:=jh.ag eP;have dK:=jh.ag dK;have hT:=jh.ag hT;have eU:=jh.ag eU;have k3:=jh.ag k3;have kf:=jh.ag kf;have mf:=jh.ag mf;have mg:=jh.ag mg;have mh:=jh.ag mh;have y5:(wr:Nat)<(cW:Nat):=XM;change aa _ at jh));go_meet;exact⟨_,rfl,I (by rw[dG.out,px.out];rfl),U,y5,dK,hT,eU,k3,kf,mf,mg,mh⟩
      |false=>
       have px:=I bx;clear bx;cases hC:(ys.map (·.x)).any (λx:bR=>cc x.id xs[k].x.id)with
       |true=>
        have cg:=I hC;clear hC;go_wp2_with (first|(go_at_call 17;refine(oF s au xs[k].x.id _ (bg.ext U)).mono ?_;rintro e cW⟨he,hN⟩;rw[dG.out]at he;subst he;have dV:=hN.ag dV;have q1:=hN.ag q1;have dk:=hN.ag dk;have eP:=hN.ag eP;have dK:=hN.ag dK;have hT:=hN.ag hT;have eU:=hN.ag eU;have k3:=hN.ag k3;have kf:=hN.ag kf;have mf:=hN.ag mf;have mg:=hN.ag mg;have mh:=hN.ag mh;have y5:wr.heap.size<cW.heap.size:=SE;change aa _ at hN)|(go_at_call 137;refine(yX s aB xs[k].x.id _ (bn.ext U)).mono ?_;rintro e cW⟨he,jh⟩;rw[px.out]at he;subst he;have dV:=jh.ag dV;have q1:=jh.ag q1;have dk:=jh.ag dk;have eP:=jh.ag eP;have dK:=jh.ag dK;have hT:=jh.ag hT;have eU:=jh.ag eU;have k3:=jh.ag k3;have kf:=jh.ag kf;have mf:=jh.ag mf;have mg:=jh.ag mg;have mh:=jh.ag mh;have y5:wr.heap.size<cW.heap.size:=XM;change aa _ at jh)|(go_at_call_of 263 (Value.slice aA m aR);refine(XB _ _ _ (ys.map (·.x)) xs[k].x.id _ ((a7.map (λp:bU=>p.x) aJ.out.1.aF bR.bI).ext U)).mono ?_;rintro e cW⟨he,n2⟩;rw[cg.out]at he;subst he;have dV:=n2.ag dV;have q1:=n2.ag q1;have dk:=n2.ag dk;have eP:=n2.ag eP;have dK:=n2.ag dK;have hT:=n2.ag hT;have eU:=n2.ag eU;have k3:=n2.ag k3;have kf:=n2.ag kf;have mf:=n2.ag mf;have mg:=n2.ag mg;have mh:=n2.ag mh;have y5:wr.heap.size<cW.heap.size:=(by have:=n2.size;(try simp at this);omega);change aa _ at n2));go_meet;exact⟨_,rfl,I (by rw[dG.out,px.out,cg.out];rfl),U,y5,dK,hT,eU,k3,kf,mf,mg,mh⟩
       |false=>
        have cg:=I hC;clear hC;cases jw:(cz.map (·.x)).any (λx:bR=>cc x.id xs[k].x.id)
        all_goals
         have cJ:=I jw
         clear jw
         go_wp2_with (first|(go_at_call 17;refine(oF s au xs[k].x.id _ (bg.ext U)).mono ?_;rintro e cW⟨he,hN⟩;rw[dG.out]at he;subst he;have dV:=hN.ag dV;have q1:=hN.ag q1;have dk:=hN.ag dk;have eP:=hN.ag eP;have dK:=hN.ag dK;have hT:=hN.ag hT;have eU:=hN.ag eU;have k3:=hN.ag k3;have kf:=hN.ag kf;have mf:=hN.ag mf;have mg:=hN.ag mg;have mh:=hN.ag mh;have y5:wr.heap.size<cW.heap.size:=SE;change aa _ at hN)|(go_at_call 137;refine(yX s aB xs[k].x.id _ (bn.ext U)).mono ?_;rintro e cW⟨he,jh⟩;rw[px.out]at he;subst he;have dV:=jh.ag dV;have q1:=jh.ag q1;have dk:=jh.ag dk;have eP:=jh.ag eP;have dK:=jh.ag dK;have hT:=jh.ag hT;have eU:=jh.ag eU;have k3:=jh.ag k3;have kf:=jh.ag kf;have mf:=jh.ag mf;have mg:=jh.ag mg;have mh:=jh.ag mh;have y5:wr.heap.size<cW.heap.size:=XM;change aa _ at jh)|(go_at_call_of 263 (Value.slice aA m aR);refine(XB _ _ _ (ys.map (·.x)) xs[k].x.id _ ((a7.map (λp:bU=>p.x) aJ.out.1.aF bR.bI).ext U)).mono ?_;rintro e cW⟨he,n2⟩;rw[cg.out]at he;subst he;have dV:=n2.ag dV;have q1:=n2.ag q1;have dk:=n2.ag dk;have eP:=n2.ag eP;have dK:=n2.ag dK;have hT:=n2.ag hT;have eU:=n2.ag eU;have k3:=n2.ag k3;have kf:=n2.ag kf;have mf:=n2.ag mf;have mg:=n2.ag mg;have mh:=n2.ag mh;have y5:wr.heap.size<cW.heap.size:=(by have:=n2.size;(try simp at this);omega);change aa _ at n2)|(go_at_call_of 263 (Value.slice cP r aBo);refine(XB _ _ _ (cz.map (·.x)) xs[k].x.id _ ((a7.map (λp:bU=>p.x) aJ.out.2.1.aF bR.bI).ext U)).mono ?_;rintro e cW⟨he,C3⟩;rw[cJ.out]at he;subst he;have dK:=C3.ag dK;have hT:=C3.ag hT;have eU:=C3.ag eU;have k3:=C3.ag k3;have kf:=C3.ag kf;have mf:=C3.ag mf;have mg:=C3.ag mg;have mh:=C3.ag mh;have y5:wr.heap.size<cW.heap.size:=(by have:=C3.size;(try simp at this);omega);change aa _ at C3))
         go_meet
         exact⟨_,rfl,I (by rw[dG.out,px.out,cg.out,cJ.out];rfl),U,y5,dK,hT,eU,k3,kf,mf,mg,mh⟩
   case rest=>
    obtain⟨K,rfl,b6,gK,_,dK,hT,eU,k3,kf,mf,mg,mh⟩:=hcut
    rename aC=>cW
    cases K with
    |true=>
     go_wp2;go_roundg (gk - 1);case measure=>omega
     case rel=>exact⟨k+1,aA,m,aR,ys,cP,r,aBo,cz,J,by go_num,rfl,rfl,(by rw[lq.out,anB SF];exact acs),U⟩
    |false=>
     by_cases af:xs[k].x.k=1
     ·have H1:=I af;have anH:(xs[k].x.k !=1)=false:=by simp[af]
      clear af;by_cases bt:m<4
      ·have N9:(m:Int)<4:=J;go_wp2_with (first|(go_at_call 264;refine(Sy xs[k].x xs[k].d _ (bV.ext U) ev).mono ?_;rintro e w'⟨cH,rfl,kg,cG⟩;change aa _ at kg cG)|(at_builtin;refine hc (ys:=ys) rfl (.tmp 55) (.tmp 58) 42 rfl ct _ 96 aiM bO bL bM bP rfl ah rfl (aJ.out.1.ext U) ⟨cH,xs[k].d⟩ _ rfl (fi (cs:=bU.cs ⟨cH,xs[k].d⟩) rfl) (bU.cQ _) J ah (Z.size U) ?_;intro g dE a6 gd b2;have cK:=I gd;have b9:=I b2;clear gd b2));go_roundg (gk - 1);case measure=>omega
       case rel=>
        refine⟨k+1,_,_,_,ys++[⟨cH,xs[k].d⟩],cP,r,aBo,cz,J,by go_num,rfl,rfl,?_,b9.ext (aJ.out.1.ext U) (bJ _) U⟩;rw[lq.out,anD SF (by rw[<-Aa.out];exact H1) (by rw[<-vU.out];exact bt)];refine⟨cK,b9.bS (aJ.out.2.1.ext U) aJ.out.2.2.1,b9.gL (aJ.out.2.1.ext U) aJ.out.2.2.1,by rw[fT,aJ.out.2.2.2.1];rfl,aJ.out.2.2.2.2.1,λy hy=>?_,λy hy=>((aJ.out.2.2.2.2.2.2 y hy).ext U).grow b9 (aJ.out.1.ext U) ah ah ah⟩;rcases ie.1 hy with hy|hy
        ·exact((aJ.out.2.2.2.2.2.1 y hy).ext U).grow b9 (aJ.out.1.ext U) ah ah ah
        exact acu
      ·have N9:¬(m:Int)<4:=J;go_wp2;go_roundg (gk - 1);case measure=>omega
       case rel=>exact⟨k+1,aA,m,aR,ys,cP,r,aBo,cz,J,by go_num,rfl,rfl,(by rw[lq.out,anE SF (by rw[<-Aa.out];exact H1) (by rw[<-vU.out];exact bt)];exact acs),U⟩
     ·have H1:=I af;have anH:(xs[k].x.k !=1)=true:=by simp[af]
      clear af;go_wp2_with (first|(go_at_call 264;refine(Sy xs[k].x xs[k].d _ (bV.ext U) ev).mono ?_;rintro e w'⟨cH,rfl,kg,cG⟩;change aa _ at kg cG)|(at_builtin;refine hc (ys:=cz) rfl (.tmp 46) (.tmp 49) 42 rfl ct _ 96 aiM bO bL bM bP rfl ah rfl (aJ.out.2.1.ext U) ⟨cH,xs[k].d⟩ _ rfl (fi (cs:=bU.cs ⟨cH,xs[k].d⟩) rfl) (bU.cQ _) J ah (Z.size U) ?_;intro g _ _ gd b2;have cK:=I gd;have b9:=I b2;clear gd b2));go_roundg (gk - 1);case measure=>omega
      case rel=>
       refine⟨k+1,aA,m,aR,ys,_,_,_,cz++[⟨cH,xs[k].d⟩],J,by go_num,rfl,rfl,?_,b9.ext (aJ.out.2.1.ext U) (bJ _) U⟩;rw[lq.out,anC SF (by rw[<-Aa.out];exact H1)];refine⟨b9.bS (aJ.out.1.ext U) aJ.out.2.2.1.symm,cK,(b9.gL (aJ.out.1.ext U) aJ.out.2.2.1.symm).symm,aJ.out.2.2.2.1,by rw[fT,aJ.out.2.2.2.2.1];rfl,λy hy=>((aJ.out.2.2.2.2.2.1 y hy).ext U).grow b9 (aJ.out.2.1.ext U) ah ah ah,λy hy=>?_⟩;rcases ie.1 hy with hy|hy
       ·exact((aJ.out.2.2.2.2.2.2 y hy).ext U).grow b9 (aJ.out.2.1.ext U) ah ah ah
       ·obtain rfl:=jg.1 hy;exact((kg.mono (Z.size U)).ext U).grow b9 (aJ.out.2.1.ext U) ah ah ah
  ·have cb:aU.take k=aU:=iU (by rw[Iq.out];omega);rw[cb]at aJ;clear cb;rw[<-SD.out]at aJ;go_wp2;go_ret2;exact⟨aA,m,aR,ys,cP,r,aBo,cz,rfl,fD.mono ⟨aJ.out.1,λp aY=>aJ.out.2.2.2.2.2.1 p aY⟩ (by simp),aJ.out.2.2.2.1,fD.mono ⟨aJ.out.2.1,λp aY=>aJ.out.2.2.2.2.2.2 p aY⟩ (by simp),aJ.out.2.2.2.2.1,Z.trans ((Z.refl w).alloc _) X⟩
end
section
attribute [local go_sem ↓] Go.wp_at_zero Go.wp_at_succ
def lL.ay(h:lL w w' aA g){o:Obj}(ad:w.heap[b]?=some o)(dj:∀ai,aA=some ai->ai.block≠b):w'.heap[b]?=some o:=(h.block _ (lt_of_block ad) dj).trans ad
def y1.ay(h:y1 w w' B aA){o:Obj}(ad:w.heap[b]?=some o)(bx:b≠B)(dj:∀ai,aA=some ai->ai.block≠b):w'.heap[b]?=some o:=(h.block _ (lt_of_block ad) bx dj).trans ad
def XN(base gb:Nat)(t e:TypeId)(sz:Nat)(c:α->List Value)(aA:Option Addr)(n:Nat)(ys:List α)(Y:World->α->Prop)(w:World)(r:Ending)(w':World):Prop:=
 r=.returned (.tuple #[])/\∃g dE y,aH w' base e sz c (some ⟨g,0,none⟩) (n+1) dE (ys++[y])/\Y w' y/\w'.heap[gb]?=some (.cells #[.slice (some ⟨g,0,none⟩) (n+1) dE] t (0,0))/\y1 w w' gb aA/\((∃ai,aA=some ai/\ai.block=g)\/w.heap.size<=g)
def anI(x:bR)(d:bb)(base gb:Nat)(aA:bl)(n cap:Nat)(ys:List bU)(w:aC)(a8:hK w x d)(ev:my d)(bu:aH w base 66 8 bU.cs aA n cap ys)(w0:gb<base)(Bu:base<=(w:Nat))(al:w.heap[gb]?=some (.cells #[ao aA n cap] 42 (0,0)))(aq:n<=1000000):
  aS 266 #[x,gb] w (XN base gb 42 66 8 bU.cs aA n ys (λw' y=>y.d=d/\fU w' base y.x y.d) w):=by
 refine acv ?_;intro ct bO bL bM bP Ir Bv eB bH;change aa _ at bO bL bM bP a8 ev bu;clear al;go_enter func266,ntmps266;exact acw
def anJ(x:bR)(d:bb)(base gb:Nat)(aA:bl)(n cap:Nat)(ys:List bU)(w:aC)(a8:hK w x d)(ev:my d)(bu:aH w base 66 8 bU.cs aA n cap ys)(w0:gb<base)(Bu:base<=(w:Nat))(al:w.heap[gb]?=some (.cells #[ao aA n cap] 42 (0,0)))(aq:n<=1000000):
  aS 265 #[x,gb] w (XN base gb 42 66 8 bU.cs aA n ys (λw' y=>y.d=d/\fU w' base y.x y.d) w):=by
 refine acv ?_;intro ct bO bL bM bP Ir Bv eB bH;change aa _ at bO bL bM bP a8 ev bu;clear al;go_enter func265,ntmps265;exact acw
def anK(x:bR)(d:bb)(base gb:Nat)(aA:bl)(n cap:Nat)(ys:List ax)(w:aC)(eL:hK w x d)(bu:aH w base 54 3 ax.cs aA n cap ys)(w0:gb<base)(Bu:base<=(w:Nat))(al:w.heap[gb]?=some (.cells #[ao aA n cap] 31 (0,0)))(aq:n<=1000000):
  aS 267 #[x,gb] w (XN base gb 31 54 3 ax.cs aA n ys (λ_ y=>y=d.id) w):=by
 obtain⟨ct,bO,bL,bM,bP⟩:=fB yY;obtain⟨hl,ma,iI,mb,tr,lW⟩:=x;obtain rfl:ma=d.id:=eL.id;have Ir:=I Bu;have Bv:aa (∀ai,aA=some ai->ai.block≠gb):=λai ak=>by have:=(bu.lt ai ak).1;omega
 have eB:(w.alloc (.cells #[bo (bR.mk hl d.id iI mb tr lW).k,bo (bR.mk hl d.id iI mb tr lW).id.b,ae (bR.mk hl d.id iI mb tr lW).id.l,ae (bR.mk hl d.id iI mb tr lW).id.s,bo (bR.mk hl d.id iI mb tr lW).c,ae (bR.mk hl d.id iI mb tr lW).u,.slice (bR.mk hl d.id iI mb tr lW).f.a (bR.mk hl d.id iI mb tr lW).f.n (bR.mk hl d.id iI mb tr lW).f.c,.slice (bR.mk hl d.id iI mb tr lW).e.a (bR.mk hl d.id iI mb tr lW).e.n (bR.mk hl d.id iI mb tr lW).e.c] 66)).heap[gb]?=some (.cells #[ao aA n cap] 31 (0,0)):=((Z.refl w).alloc _).ay al;have bH:=aiN eB;have b1:=free_of_one eB;change aa _ at bO bL bM bP bu;clear eL al;dsimp only at eB bH b1 ⊢;go_enter func267,ntmps267;go_wp2_with (at_builtin;refine hc (ys:=ys) rfl (.tmp 3) (.tmp 6) 31 rfl ct _ 24 aiL bO bL bM bP rfl ah rfl (bu.ext U) d.id _ rfl (fi (cs:=ax.cs d.id) (by simp)) (ax.cQ _) J ah (ek Ir (Z.size U)) ?_;intro g dE _ gd b2;have cK:=I gd;have o3:=b2.ay (((Z.refl _).alloc _).ay eB) Bv;have Oa:=aiN o3;have Ob:=free_of_one o3;have b9:=I b2;clear gd b2);go_end0;refine⟨rfl,g,dE,d.id,cK.jD w0 _,rfl,one_setCell o3,y1.of U b9 (gb,0) _,?_⟩;rcases b9.at_ with h|h
 ·exact .inl h
 ·exact .inr (by rw[h];exact Z.size U)
end
section
attribute [local go_sem ↓] Go.wp_at_zero Go.wp_at_succ
def C4(f:ax->Int)(aU:List bb):List bb:=aU.filter λd=>f d.id==1
def xN(f:ax->Int)(aU:List bb):List ax:=(aU.filter λd=>f d.id==2).map (·.id)
def Oc(f:ax->Int)(aU:List bb):List bb:=aU.filter λd=>f d.id==0
def XO{p:α->Bool}{xs:List α}{k:Nat}(hk:k<xs.length):(xs.take (k+1)).filter p=(xs.take k).filter p++if p xs[k]=true then [xs[k]] else []:=by
 rw[iv hk,yU,Is];rfl
def acx{f:ax->Int}{k:Nat}{v:Int}(hk:k<aU.length)(aG:aU[k]=d)(h:f d.id=v):C4 f (aU.take (k+1))=C4 f (aU.take k)++if v=1 then [d] else []:=by
 subst aG;unfold C4;rw[XO hk];simp[h]
def acy{f:ax->Int}{k:Nat}{v:Int}(hk:k<aU.length)(aG:aU[k]=d)(h:f d.id=v):Oc f (aU.take (k+1))=Oc f (aU.take k)++if v=0 then [d] else []:=by
 subst aG;unfold Oc;rw[XO hk];simp[h]
def XP{f:ax->Int}{k:Nat}{v:Int}(hk:k<aU.length)(aG:aU[k]=d)(h:f d.id=v):xN f (aU.take (k+1))=xN f (aU.take k)++if v=2 then [d.id] else []:=by
 subst aG;unfold xN;rw[XO hk];simp only[h,F1,fT];split<;>rfl
def aH.acz{c:α->List Value}{ys:List α}(h:aH w base e sz c aA n cap ys){β:Type}{f:α->β}{p:β->Bool}{l:List β}{m:Nat}(hm:ys.map f=l.filter p)(a1:l.length<=m):n<=m:=by
 have af:=h.neq;have an:=eH List.length hm;rw[cx]at an;have aO:=vP p l;omega
def acA{c:α->List Value}{cP:bl}{ys:List α}(h:(∃ai,aA=some ai/\ai.block=g)\/(w:Nat)<=g)(aG:ox aA cP)(aJ:aH w base e sz c cP n cap ys):ox (some (g,0)) cP:=λx y X hy he=>by
 cases X;rcases h with ⟨ai,ak,bC⟩|bC
 ·exact aG ai y ak hy (by rw[bC];exact he)
 ·have:=(aJ.lt y hy).2;simp only at he;omega
structure SG (w wr:World) (f:ax->Int) (aU:List bb) (sF:Option Addr) (r5 r2:Nat) (ys:List bU) (eR:Option Addr) (gO lv:Nat) (fJ:Option Addr) (on gg:Nat) (os:List bU):Prop where
 Od:wr.heap[w.heap.size]?=some (.cells #[ao sF r5 r2] 42 (0,0))
 Ez:wr.heap[(w.heap.size+1)]?=some (.cells #[ao fJ on gg] 42 (0,0))
 Oe:wr.heap[(w.heap.size+1+1)]?=some (.cells #[ao eR gO lv] 31 (0,0))
 mp:wr.heap[(w.heap.size+1+1+1)]?=some (Obj.map #[⟨.int .i64 0,.func (.func 265) #[] #[.pointer (some ⟨w.heap.size+1,0,none⟩)],0⟩,⟨.int .i64 1,.func (.func 266) #[] #[.pointer (some ⟨w.heap.size,0,none⟩)],1⟩,⟨.int .i64 2,.func (.func 267) #[] #[.pointer (some ⟨w.heap.size+1+1,0,none⟩)],2⟩] 3)
 w7:aH wr (w.heap.size+1+1+1+1) 66 8 bU.cs sF r5 r2 ys
 w8:aH wr (w.heap.size+1+1+1+1) 66 8 bU.cs fJ on gg os
 vY:aH wr (w.heap.size+1+1+1+1) 54 3 ax.cs eR gO lv (xN f aU)
 gL:ox sF fJ
 Of:∀y,y∈ys->fU wr (w.heap.size+1+1+1+1) y.x y.d
 Og:∀y,y∈os->fU wr (w.heap.size+1+1+1+1) y.x y.d
 Oh:ys.map (·.d)=C4 f aU
 Oi:os.map (·.d)=Oc f aU
def SG.ext{wr eD:aC}{f:ax->Int}{sF:bl}{r5 r2:Nat}{ys:List bU}{eR:bl}{gO lv:Nat}{fJ:bl}{on gg:Nat}{os:List bU}(h:SG w wr f aU sF r5 r2 ys eR gO lv fJ on gg os)(X:Z wr eD):SG w eD f aU sF r5 r2 ys eR gO lv fJ on gg os:=
 ⟨X.ay h.Od,X.ay h.Ez,X.ay h.Oe,X.ay h.mp,h.w7.ext X,h.w8.ext X,h.vY.ext X,h.gL,λy hy=>(h.Of y hy).ext X,λy hy=>(h.Og y hy).ext X,h.Oh,h.Oi⟩
def eW{c:α->List Value}{ys:List α}(h:aH w base e sz c aA n cap ys)(ad:b<base):∀ai,aA=some ai->ai.block≠b:=λai ak=>by have:=(h.lt ai ak).1;omega
def anL(f:ax->Int)(aU:List bb)(w:World)(e:Ending)(w':World):Prop:=
 ∃sF r5 r2 ys eR gO lv fJ on gg os,e=.returned (.tuple #[ao sF r5 r2,ao eR gO lv,ao fJ on gg])/\fD w' w.heap.size sF r5 r2 ys/\ys.map (·.d)=C4 f aU/\aH w' w.heap.size 54 3 ax.cs eR gO lv (xN f aU)/\fD w' w.heap.size fJ on gg os/\os.map (·.d)=Oc f aU/\Z w w'
def anM(er:bl)(fk lc:Nat)(xs:List bU)(eb:bl)(dm xJ:Nat)(c5:List nI)(w:aC)(bG:iG w er fk lc xs)(Ex:∀p,p∈xs->my p.d)(b6:Kids w eb dm xJ c5)(kA:fk<=1000000):
  aS 207 #[ao er fk lc,ao eb dm xJ] w (anL (qs c5) (xs.map (·.d)) w):=by
 have rq:=@run_makeMap prog;have ct:=fun(v:Value)=>wU (P:=prog) KY ft (((w.alloc Bw).alloc Bw).alloc (.cells #[aP] 31)) (w.heap.size+1+1+1) (by simp) #[] 0 0 v rfl;have i1:=fun(v v0:Value)=>wU (P:=prog) KY ft (((w.alloc Bw).alloc Bw).alloc (.cells #[aP] 31)) (w.heap.size+1+1+1) (by simp) #[⟨.int .i64 0,v0,0⟩] 1 1 v rfl;have mv:=fun(v v0 v1:Value)=>wU (P:=prog) KY ft (((w.alloc Bw).alloc Bw).alloc (.cells #[aP] 31)) (w.heap.size+1+1+1) (by simp) #[⟨.int .i64 0,v0,0⟩,⟨.int .i64 1,v1,1⟩] 2 2 v rfl;obtain rfl:=bG.aF.neq;have hm:=bG.aF.max;unfold maxLen at hm;generalize xK:xs.map (·.d)=aU;have Iq:aU.length=xs.length:=by rw[<-xK,cx]
 change aa _ at xK Iq bG Ex b6;go_enter func207,ntmps207;go_wp2_with fail;clear ct i1 mv rq;go_loopg [12,13,14,22] (xs.length) (λg _ _ _ st wr=>∃(k:Nat) (sF:bl) (r5 r2:Nat) (ys:List bU) (eR:bl) (gO lv:Nat) (fJ:bl) (on gg:Nat) (os:List bU),g+k=xs.length/\st=.int .i64 k/\aa (SG w wr (qs c5) (aU.take k) sF r5 r2 ys eR gO lv fJ on gg os)/\aa (Z w wr));case atStart=>exact⟨0,none,0,0,[],none,0,0,none,0,0,[],J,rfl,⟨by(exact HZ),by(exact HZ),by(exact HZ),by(exact HZ),aH.nil _ _ _ bU.bI,aH.nil _ _ _ bU.bI,aH.nil _ _ _ ax.bI,ox.nil _,(λy hy=>by cases hy),(λy hy=>by cases hy),rfl,rfl⟩,U⟩
 case round=>
  obtain⟨k,sF,r5,r2,ys,eR,gO,lv,fJ,on,gg,os,_,rfl,rC,X⟩:=hrel;by_cases hk:k<xs.length
  ·obtain⟨b,o,rfl,al⟩:=bG.aF.get k hk;refine XJ ?_;intro cO c1 c2 cV dF dH eJ eM bV ev;have j4:k<aU.length:=by rw[Iq.out];exact hk
   have xO:aU[k]=xs[k].d:=by have:=xK.out;subst this;simp
   have y6:=I j4;have hlen:(aU.take k).length<=1000000:=by rw[nF];omega
   have azU:r5<=1000000:=rC.w7.acz rC.Oh hlen;have C5:on<=1000000:=rC.w8.acz rC.Oi hlen;have CW:gO<=1000000:=by
    have af:=rC.vY.neq;unfold xN at af;rw[cx]at af;have aO:=vP (λd:bb=>qs c5 d.id==2) (aU.take k);omega
   refine acr ?_;intro gD dK hT eU k3 kf mf mg mh;have Gh:(w:Nat)+1+1+1<(wr:Nat):=lt_of_block rC.mp;have tp:=I bV.id;change aa _ at xO;clear al gD hlen;refine jU ?_;intro b0 bf;rcases ab9 c5 xs[k].x.id with h|h|h
   ·have Oj:=I h;have Bx:=I (show qs c5 xs[k].d.id=0 from by rw[<-tp.out];exact h);clear h;go_wp2_with (first|(go_at_call 217;refine(Il _ _ _ c5 xs[k].x.id _ (b6.ext U)).mono ?_;rintro e cW⟨he,gK⟩;rw[Oj.out]at he;subst he;have o4:=I (rC.ext (((Z.refl wr).alloc _).trans gK));have bT:=nB (P:=prog) KY ft o4.mp 0 rfl;have acB:(Instr.lookup 342 (.map (some (w.heap.size+1+1+1))) av true).run prog cW=.ok _ cW:=bT;clear bT;have dK:=gK.ag dK;have hT:=gK.ag hT;have eU:=gK.ag eU;have k3:=gK.ag k3;have kf:=gK.ag kf;have mf:=gK.ag mf;have mg:=gK.ag mg;have mh:=gK.ag mh;change aa _ at gK)|(go_at_call 265;refine(anJ xs[k].x xs[k].d (w.heap.size+1+1+1+1) (w.heap.size+1) fJ on gg os _ (bV.ext U) ev (o4.w8.ext U) J XQ (Z.ay U o4.Ez) J).mono ?_;rintro e wf⟨rfl,g,dE,y,Gi,C6,Gj,Gk,yS⟩;change aa _ at Gi C6 Gj Gk yS));go_roundg (gk - 1);case measure=>omega
    case rel=>
     have fm:=o4.out;have ad:=Gk.out;have XR:=eW fm.w8 (b:=(w:Nat)) J;have XS:=eW fm.w8 (b:=(w.heap.size+1+1)) J;have Ol:=eW fm.w8 (b:=(w.heap.size+1+1+1)) J;refine⟨k+1,sF,r5,r2,ys,eR,gO,lv,some (g,0),on+1,dE,os++[y],J,by go_num,?_,ad.ext U J (λai ak=>by have:=(fm.w8.lt ai ak).1;omega)⟩;refine⟨ad.ay fm.Od J XR,Gj,ad.ay fm.Oe J XS,ad.ay fm.mp J Ol,ad.bS fm.w7 J fm.gL.symm,Gi,?_,(acA yS fm.gL.symm fm.w7).symm,λz bp=>ad.KS (fm.Of z bp) fm.w8 J ah ah ah,λz bp=>?_,?_,?_⟩
     ·rw[XP y6.out xO.out Bx.out,aV ah,nc];exact ad.bS fm.vY J (fm.w8.gT fm.vY ah)
     ·rcases ie.1 bp with bp|bp
      ·exact ad.KS (fm.Og z bp) fm.w8 J ah ah ah
      ·obtain rfl:=jg.1 bp;exact C6.out.2
     exact acC
     ·rw[acy y6.out xO.out Bx.out,bc rfl,fT,fm.Oi];simp[C6.out.1]
   ·have Oj:=I h;have Bx:=I (show qs c5 xs[k].d.id=1 from by rw[<-tp.out];exact h);clear h;go_wp2_with (first|(go_at_call 217;refine(Il _ _ _ c5 xs[k].x.id _ (b6.ext U)).mono ?_;rintro e cW⟨he,gK⟩;rw[Oj.out]at he;subst he;have o4:=I (rC.ext (((Z.refl wr).alloc _).trans gK));have bT:=nB (P:=prog) KY ft o4.mp 1 rfl;have acB:(Instr.lookup 342 (.map (some (w.heap.size+1+1+1))) (bo 1) true).run prog cW=.ok _ cW:=bT;clear bT;have dK:=gK.ag dK;have hT:=gK.ag hT;have eU:=gK.ag eU;have k3:=gK.ag k3;have kf:=gK.ag kf;have mf:=gK.ag mf;have mg:=gK.ag mg;have mh:=gK.ag mh;change aa _ at gK)|(go_at_call 266;refine(anI xs[k].x xs[k].d (w.heap.size+1+1+1+1) w sF r5 r2 ys _ (bV.ext U) ev (o4.w7.ext U) J XQ (Z.ay U o4.Od) J).mono ?_;rintro e wf⟨rfl,g,dE,y,Gi,C6,Gj,Gk,yS⟩;change aa _ at Gi C6 Gj Gk yS));go_roundg (gk - 1);case measure=>omega
    case rel=>
     have fm:=o4.out;have ad:=Gk.out;have XT:=eW fm.w7 (b:=(w.heap.size+1)) J;have XS:=eW fm.w7 (b:=(w.heap.size+1+1)) J;have Ol:=eW fm.w7 (b:=(w.heap.size+1+1+1)) J;refine⟨k+1,some (g,0),r5+1,dE,ys++[y],eR,gO,lv,fJ,on,gg,os,J,by go_num,?_,ad.ext U J (λai ak=>by have:=(fm.w7.lt ai ak).1;omega)⟩;refine⟨Gj,ad.ay fm.Ez J XT,ad.ay fm.Oe J XS,ad.ay fm.mp J Ol,Gi,ad.bS fm.w8 J fm.gL,?_,acA yS fm.gL fm.w8,λz bp=>?_,λz bp=>ad.KS (fm.Og z bp) fm.w7 J ah ah ah,?_,?_⟩
     ·rw[XP y6.out xO.out Bx.out,aV ah,nc];exact ad.bS fm.vY J (fm.w7.gT fm.vY ah)
     ·rcases ie.1 bp with bp|bp
      ·exact ad.KS (fm.Of z bp) fm.w7 J ah ah ah
      ·obtain rfl:=jg.1 bp;exact C6.out.2
     ·rw[acx y6.out xO.out Bx.out,bc rfl,fT,fm.Oh];simp[C6.out.1]
     exact acD
   ·have Oj:=I h;have Bx:=I (show qs c5 xs[k].d.id=2 from by rw[<-tp.out];exact h);clear h;go_wp2_with (first|(go_at_call 217;refine(Il _ _ _ c5 xs[k].x.id _ (b6.ext U)).mono ?_;rintro e cW⟨he,gK⟩;rw[Oj.out]at he;subst he;have o4:=I (rC.ext (((Z.refl wr).alloc _).trans gK));have bT:=nB (P:=prog) KY ft o4.mp 2 rfl;have acB:(Instr.lookup 342 (.map (some (w.heap.size+1+1+1))) (bo 2) true).run prog cW=.ok _ cW:=bT;clear bT;have dK:=gK.ag dK;have hT:=gK.ag hT;have eU:=gK.ag eU;have k3:=gK.ag k3;have kf:=gK.ag kf;have mf:=gK.ag mf;have mg:=gK.ag mg;have mh:=gK.ag mh;change aa _ at gK)|(go_at_call 267;refine(anK xs[k].x xs[k].d (w.heap.size+1+1+1+1) (w.heap.size+1+1) eR gO lv (xN (qs c5) (aU.take k)) _ (bV.ext U) (o4.vY.ext U) J XQ (Z.ay U o4.Oe) J).mono ?_;rintro e _⟨rfl,g,dE,y,Gi,C6,Gj,Gk,yS⟩;change aa _ at Gi C6 Gj Gk yS));go_roundg (gk - 1);case measure=>omega
    case rel=>
     have fm:=o4.out;have ad:=Gk.out;have XR:=eW fm.vY (b:=(w:Nat)) J;have XT:=eW fm.vY (b:=(w.heap.size+1)) J;have Ol:=eW fm.vY (b:=(w.heap.size+1+1+1)) J;refine⟨k+1,sF,r5,r2,ys,some (g,0),gO+1,dE,fJ,on,gg,os,J,by go_num,?_,ad.ext U J (λai ak=>by have:=(fm.vY.lt ai ak).1;omega)⟩;refine⟨ad.ay fm.Od J XR,ad.ay fm.Ez J XT,Gj,ad.ay fm.mp J Ol,ad.bS fm.w7 J (fm.vY.gT fm.w7 ah),ad.bS fm.w8 J (fm.vY.gT fm.w8 ah),?_,fm.gL,λz bp=>ad.KS (fm.Of z bp) fm.vY J ah ah ah,λz bp=>ad.KS (fm.Og z bp) fm.vY J ah ah ah,?_,?_⟩
     ·rw[XP y6.out xO.out Bx.out,bc rfl,<-C6.out];exact Gi
     exact acC;exact acD
  ·have cb:aU.take k=aU:=iU (by rw[Iq.out];omega);rw[cb]at rC;clear cb;have cA:=aiN rC.Od;have anN:=aiN rC.Ez;have n0:=aiN rC.Oe;go_wp2_with fail;go_quiet (fail);go_wp2;go_ret3;replace rC:=I (rC.ext ((Z.refl wr).drewN nq));exact⟨sF,r5,r2,ys,eR,gO,lv,fJ,on,gg,os,rfl,fD.mono ⟨rC.w7,λp aY=>rC.Of p aY⟩ J,rC.Oh,rC.vY.mono J,fD.mono ⟨rC.w8,λp aY=>rC.Og p aY⟩ J,rC.Oi,U⟩
end
def tt:Nat->Nat->Nat
 |0,_=>0
 |f+1,n=>if n=0 then 0 else 1+tt f (n / 256)
def nj(n:Nat):Nat:=tt 8 n
def acE:∀(f n:Nat),tt f n<=f
 |0,_=>bJ _
 |f+1,n=>by
  unfold tt
  split
  ·omega
  ·have:=acE f (n / 256);omega
def xP(n:Nat):nj n<=8:=acE 8 n
def acF:∀(f n:Nat),n<256 ^ f->tt (f+1) n=tt f n
 |0,n,h=>by
  have:n=0:=by simpa using h
  subst this;rfl
 |f+1,n,h=>by
  rw[tt]
  rw[show tt (f+1) n=if n=0 then 0 else 1+tt f (n / 256)from rfl]
  split
  ·rfl
  ·rw[acF f (n / 256) acG]
def gw(n:Nat):Prop:=n<2 ^ 64
def gw.anO(h:gw n):gw (n / 256):=Om (Nat.div_le_self _ _) h
def SH:nj 0=0:=rfl
def On(aZ:0<n)(h:n<2 ^ 64):nj n=1+nj (n / 256):=by
 unfold nj;rw[show tt 8 n=if n=0 then 0 else 1+tt 7 (n / 256)from rfl,aV J,acF 7 (n / 256) J]
def acH:∀(f n:Nat),n<256 ^ f->n<256 ^ tt f n/\(0<n->256 ^ (tt f n - 1)<=n)
 |0,n,h=>⟨h,λaZ=>by simp at h;omega⟩
 |f+1,n,h=>by
  unfold tt
  split
  ·next e=>subst e;exact⟨ah,λaZ=>by omega⟩
  ·next e=>
   obtain⟨af,an⟩:=acH f (n / 256) acG
   refine⟨?_,λ_=>?_⟩
   ·rw[Nat.add_comm,Nat.pow_succ];omega
   ·rw[Nat.add_sub_cancel_left]
    by_cases aZ:0<n / 256
    ·have aO:=an aZ
     have aY:0<tt f (n / 256):=by
      cases f with
      |zero=>have aO:n / 256<256 ^ 0:=af;omega
      |succ f=>unfold tt;rw[aV J];omega
     rw[show tt f (n / 256)=tt f (n / 256) - 1+1 from by omega,Nat.pow_succ]
     omega
    ·have dU:n / 256=0:=J
     rw[dU]
     cases f with
     |zero=>show 256 ^ 0<=n;omega
     |succ f=>show 256 ^ (if 0=0 then 0 else 1+tt f (0 / 256))<=n;rw[bc rfl];omega
def XU(h:n<2 ^ 64):n<256 ^ nj n/\(0<n->256 ^ (nj n - 1)<=n):=acH 8 n (by simpa using h)
def vZ(n i:Nat):UInt8:=UInt8.ofNat (n / 256 ^ i)
def It(n i:Nat):(vZ n i).toNat=n / 256 ^ i % 256:=by unfold vZ;rw[UInt8.toNat_ofNat']
def jX(n:Nat):Nat->List UInt8
 |0=> []
 |k+1=>jX (n / 256) k++[vZ n 0]
def tu:∀(k n:Nat),(jX n k).length=k
 |0,_=>rfl
 |k+1,n=>by rw[jX,c9,tu k];rfl
def XV:∀(k n i:Nat),i<k->(jX n k)[i]?=some (vZ n (k - 1 - i))
 |0,_,_,h=>by omega
 |k+1,n,i,h=>by
  rw[jX]
  by_cases e:i=k
  ·subst e
   rw[Kr (by rw[tu];exact bJ _),tu,Nat.sub_self]
   simp
  ·rw[HW (by rw[tu];omega),XV k (n / 256) i J]
   unfold vZ
   rw[Nat.div_div_eq_div_mul,<-Nat.pow_succ',show(k - 1 - i).succ=k+1 - 1 - i from by omega]
def Oo{k i:Nat}(h:i<k):(jX n k).take (i+1)=(jX n k).take i++[vZ n (k - 1 - i)]:=by
 have a1:i<(jX n k).length:=by rw[tu];exact h
 rw[iv a1];have:=XV k n i h;rw[eK a1]at this;rw[w9 this]
def df(n:Nat):List UInt8:=UInt8.ofNat (nj n)::jX n (nj n)
def y7(n:Nat):(df n).length=1+nj n:=by unfold df;rw[me,tu,Nat.add_comm]
def hV(n:Nat):(df n).length<=9:=by rw[y7];have:=xP n;omega
def v7(l:List UInt8):Nat:=l.foldl (λa b=>a*256+b.toNat) 0
def XW(l:eg)(b:UInt8):v7 (l++[b])=v7 l*256+b.toNat:=by unfold v7;rw[Ak];rfl
def SI:∀(k n:Nat),v7 (jX n k)=n % 256 ^ k
 |0,n=>by rw[Nat.pow_zero,Nat.mod_one];rfl
 |k+1,n=>by
  rw[jX,XW,SI k,It,Nat.pow_zero,Nat.div_one,Nat.pow_succ',Nat.mod_mul];omega
def anP(h:n<2 ^ 64):v7 (jX n (nj n))=n:=by rw[SI];exact Gl (XU h).1
def acI:∀(l:eg),v7 l<256 ^ l.length:=by
 intro l
 suffices h:∀(l:eg) (a:Nat),l.foldl (λa b=>a*256+b.toNat) a<(a+1)*256 ^ l.length by simpa[v7]using h l 0
 intro l;induction l with
 |nil=>intro a;simp
 |cons b l cY=>
  intro a;rw[ry,me];refine fQ (cY _) ?_;rw[Nat.pow_succ',<-Nat.mul_assoc];exact SJ _ (by have:=b.toNat_lt;omega)
def anQ(h:n<2 ^ 64)(aZ:0<nj n):∃b l,jX n (nj n)=b::l/\0<b.toNat:=by
 have aq:0<n:=by
  rcases C7 n with e|e
  ·subst e;simp[SH]at aZ
  ·exact e
 obtain⟨bf,dA⟩:=XU h;have bC:=XV (nj n) n 0 aZ;cases e:jX n (nj n)with
 |nil=>rw[e]at bC;simp at bC
 |cons b l=>
  rw[e]at bC;simp only[RL,Option.some.injEq]at bC;refine⟨b,l,rfl,?_⟩;rw[bC,It,Nat.sub_zero];have an:=dA aq;have aY:0<256 ^ (nj n - 1):=Nat.pow_pos ah;have aO:0<n / 256 ^ (nj n - 1):=Nat.div_pos an aY
  have bt:n / 256 ^ (nj n - 1)<256:=SK (by
   rw[<-Nat.pow_succ,show(nj n - 1).succ=nj n from by omega];exact bf)
  omega
def anR(j:Nat):(2:Int) ^ (8*j)=((256 ^ j:Nat):Int):=by
 have h:(2:Nat) ^ (8*j)=256 ^ j:=by rw[Nat.pow_mul]
 rw[<-h];exact(Int.natCast_pow 2 (8*j)).symm
def gY(l:List UInt8):List UInt8:=df l.length++l
def y8(l:eg):(gY l).length=1+nj l.length+l.length:=by unfold gY;rw[c9,y7]
def lx(n:Int):Prop:=-9223372036854775808<=n/\n<=9223372036854775807
def xQ(n:Int):Nat:=if n<0 then (2*(-(n+1))+1).toNat else (2*n).toNat
def Oq(n:Nat):Int:=if n % 2=1 then -((n / 2:Nat):Int) - 1 else ((n / 2:Nat):Int)
def anS{n:Int}(h:lx n):gw (xQ n):=by
 unfold lx at h;unfold gw xQ;split<;>omega
def anT(n:Int):Oq (xQ n)=n:=by
 unfold Oq xQ;split<;>split<;>omega
def SL(k n:Int):Nat:=if k=1 then xQ n else n.toNat
def Aq(k n:Int)(s:List UInt8):List UInt8:=df k.toNat++df (SL k n)++gY s
structure By (k n:Int) (s:List UInt8):Prop where
 nk:wQ k n s=0
 i64:lx n
def By.k{k n:Int}{s:eg}(h:By k n s):k=1\/(k=2/\n=0)\/(k=3/\(n=0\/n=1)):=by
 have:=h.nk;unfold wQ at this;split at this
 ·next c=>
       rcases c with c|c|c
       ·exact .inl c.1
       ·exact .inr (.inl ⟨c.1,c.2.1⟩)
       ·exact .inr (.inr ⟨c.1,c.2.1⟩)
 ·omega
def By.s{k n:Int}{s:eg}(h:By k n s):s.length<=40:=by
 have:=h.nk;unfold wQ at this;split at this
 ·next c=>
       rcases c with c|c|c
       ·rw[c.2];simp
       ·exact c.2.2
       ·rw[c.2.2];simp
 ·omega
def By.Ot{k n:Int}{s:eg}(h:By k n s):gw (SL k n):=by
 unfold SL;split
 ·exact anS h.i64
 ·have:=h.k;unfold gw;omega
def cr(b:UInt8):List Value:= [.int .u8 (b.toNat:Int)]
def cr.bI(b:UInt8):(cr b).length=1:=rfl
def cr.cQ(b:UInt8):∀u∈cr b,u.oneCell'=true:=by
 intro u aj;simp only[cr,oy,tb,ue]at aj;subst aj;rfl
def Iu:(prog.info? 5).map (λi=>(i.zero,i.size,i.bytes))=some (some (.int .u8 0),1,1):=bQ
def EA:(prog.info? 5).map (·.size)=some 1:=bQ
def KZ(xs:eg):(xs.flatMap cr).length=xs.length:=by
 induction xs with
 |nil=>rfl
 |cons x xs cY=>rw[ny,c9,cY,me];show 1+xs.length=_;omega
def SM{xs:eg}(h:a7 w 1 cr (some (b,o)) n cap xs)(k:Nat)(hk:k<xs.length):w.cell? (b,o+k)=some (.int .u8 (xs[k].toNat:Int)):=acJ
def XX{P:Program}{o:Oper}{a:Act}(nz:o.guard=none)(l c:Operand)(t e:TypeId)(aM:o.op=.makeSlice t l c){i:TypeInfo}{z:Value}(bm:P.underlying t=some (.slice e))(aK:P.info? e=some i)(bp:i.zero=some z)(hs:i.size=1){m:Nat}(a1:a.eval l=.int .i64 (n:Int))(al:a.eval c=.int .i64 (m:Int))(EB:n<=m)(ad:i.bytes*m<=281474976710656)(azV:m<=9223372036854775807)(h:wpList P ops Q rest (a.put o.dst (.slice (some (w,0)) n m)) (w.alloc (.cells (madeCells z.cells m) e))):wpList P ops Q (o::rest) a w:=by
 refine tf nz λK aE=>?_;have mL:=run_make (P:=P) w t e i z bm aK bp .i64 .i64 n m J J (by rw[<-Int.natCast_mul];omega) J;rw[hs,jd,kN,kN]at mL;unfold Oper.wp;simp[execOp,aM,a1,al,mL,Result.andThen];exact aE _ _ h
def SN(v:Value)(n:Nat):(madeCells #[v] n).toList.length=n:=by rw[Array.length_toList,size_madeCells]
def SO(a:bl)(n cap:Nat)(xs:eg)(m:Nat)(w:aC)(ar:a7 w 1 cr a n cap xs)(aq:n<=10000000)(hm:m<=10000000):
  Calls prog 191 #[ao a n cap,(m:Int)] w λe w'=>∃g,e=.returned (.slice (some ⟨g,0,none⟩) n (n+m))/\aH w' w.heap.size 5 1 cr (some ⟨g,0,none⟩) n (n+m) xs/\Z w w':=by
 obtain⟨_,bO,bL,bM,bP⟩:=fB Iu;change aa _ at bO bL bM bP;have l8:=I ar.neq;change aa _ at ar;go_enter func191,ntmps191;go_wp2_with (first|(with_reducible refine XX rfl (.tmp 7) (.tmp 11) 107 5 rfl nK bO.out bL.out bM.out (n:=n) (m:=n+m) rfl rfl J (by rw[bP.out];omega) J ?_)|(with_reducible refine wpList_copy_splice rfl (.tmp 13) (.tmp 14) 107 107 rfl 5 nK EA _ _ _ _ _ _ rfl rfl w 0 (madeCells #[.int .u8 0] (n+m)).toList 5 ?c1 (xs.flatMap cr) ?c2 ?cV ?dF ?dH w w ?eJ (bJ _) ?_));case c1=>rw[Array.toArray_toList];exact mu _ _
 case c2=>rw[KZ,l8.out];exact(Nat.min_self _).symm
 case cV=>
  intro aY;have aY:0<xs.length:=by
   have h:=KZ xs;rw[List.length_flatMap]at h;omega
  obtain⟨b,o,rfl,al⟩:=ar.out.get 0 aY;exact⟨_,rfl,λj v aD=>((Z.refl w).alloc _).ag (ar.out.Nx ah j v aD)⟩
 case dF=>rw[KZ,SN,<-l8.out];omega
 case dH=>exact λv bw=>let ⟨x,_,X⟩:=SP.1 bw;cr.cQ x v X
 case eJ=>exact(Z.refl w).alloc _
 intro _ b9 X;change aa _ at X;go_wp2;go_ret;have a1:(splice (madeCells #[.int .u8 0] (n+m)).toList 0 (xs.flatMap cr)).length=n+m:=by
  rw[length_splice _ _ _ (by rw[KZ,SN,<-l8.out];omega),SN]
 refine⟨(w:Nat),rfl,⟨⟨by rw[KZ,l8.out,jd],.inr ⟨(w:Nat),n+m,_,rfl,bJ _,b9.out,J,by unfold maxLen;omega,by rw[Iv,a1,jd],?_⟩⟩,l8.out,cr.bI⟩,X.out⟩;rw[List.toList_toArray];unfold splice;rw[EC,mN,List.take_left' (by rw[KZ,l8.out,jd])]
def anU(n:Nat)(w:aC)(aq:gw n):aS 297 #[ae (n:Int)] w (cU (nj n:Int) w):=by
 go_enter func297,ntmps297;go_wp2_with fail;go_loopg [0,3] (nj n) (λg qX K0 wr=>∃(m k:Nat),aa (gw m)/\g=nj m/\k+nj m=nj n/\qX=.int .u64 (m:Int)/\K0=.int .i64 (k:Int)/\aa (Z w wr));case atStart=>exact⟨n,0,aq,rfl,J,rfl,rfl,Z.refl _⟩
 case round=>
  obtain⟨m,k,hm,bC,hk,rfl,rfl,X⟩:=hrel;have fG:=xP n;by_cases aZ:0<m
  ·have bg:=On aZ hm;have b9:=I bC;have b6:=I hk;have azW:k<=8:=J;replace bg:=I bg;go_wp2;go_roundg (nj (m / 256));case measure=>have:=bg.out;have:=b9.out;omega
   case rel=>exact⟨m / 256,k+1,hm.anO,rfl,by have:=bg.out;have:=b6.out;omega,rfl,by go_num,X⟩
  ·have bp:m=0:=J;subst bp;have b6:=I hk;go_wp2;go_ret;exact⟨jk (by have:=b6.out;rw[SH]at this;omega),X⟩
def anV{L:Nat}(h:L<256):cr (UInt8.ofNat L)= [.int .u8 (L:Int)]:=by unfold cr;rw[UInt8.toNat_ofNat',Gl h]
def anW(m j:Nat):cr (vZ m j)= [.int .u8 ((m:Int) / 2 ^ (8*j) % 256)]:=by
 unfold cr;rw[It,anR];generalize 256 ^ j=p;rfl
def acK(W:aC)(aA:bl)(n cap:Nat)(ys:eg)(m:Nat)(w:aC)(bu:aH w W 5 1 cr aA n cap ys)(bG:Z W w)(bF:gw m)(aq:n<=10000000):
  aS 257 #[ao aA n cap,ae (m:Int)] w λe w'=>∃cP fS dE,e=.returned (ao cP fS dE)/\aH w' W 5 1 cr cP fS dE (ys++df m)/\Z W w':=by
 refine XY ?_;intro ct bO bL bM bP;have fG:=xP m;obtain⟨L,bg⟩:∃L,L=nj m:=⟨_,rfl⟩;rw[<-bg]at fG;replace bu:=I bu;replace bG:=I bG;replace bF:=I bF;go_enter func257,ntmps257;go_wp2_with fail;refine(anU m _ bF).mono ?_;rintro e _⟨rfl,br⟩;replace br:=I br;rw[<-bg];replace bg:=I bg;go_wp2_with (at_builtin;refine hc (ys:=ys) rfl (.tmp 9) (.tmp 12) 107 rfl ct _ 1 nK bO bL bM bP rfl ah rfl (bu.ext U) (UInt8.ofNat L) _ rfl ?_ (cr.cQ _) J ah (Z.size (bG.trans U)) ?_)
 ·rw[anV J];exact fi rfl
 intro g _ _ cd b2;replace cd:=I cd;have bq:=I (b2.ext (bu.ext U) (bJ _) (bG.trans U));go_wp2_with fail;go_loopg [0,15] L (λxa e4 dS wr=>∃(i:Nat) (cP:bl) (tv aR:Nat),xa+i=L/\dS=.int .i64 (i:Int)/\e4=.slice cP tv aR/\tv<=10000001+i/\aa (aH wr W 5 1 cr cP tv aR (ys++UInt8.ofNat L::(jX m L).take i))/\aa (Z W wr));case atStart=>exact⟨0,_,_,_,J,rfl,rfl,J,(show aH _ _ _ _ _ _ _ _ _ from cd),bq⟩
 case round=>
  obtain⟨i,cP,tv,aR,_,rfl,rfl,_,aJ,X⟩:=hrel;by_cases aK:i<L
  ·have bf:(i:Int)<(L:Int):=J;go_wp2_with (at_builtin;refine hc (ys:=(ys++UInt8.ofNat L::(jX m L).take i)) rfl (.tmp 18) (.tmp 27) 107 rfl ct _ 1 nK bO bL bM bP rfl ah rfl (aJ.ext U) (vZ m (L - 1 - i)) _ rfl ?_ (cr.cQ _) J ah (Z.size (X.trans U)) ?_)
   ·rw[anW];exact fi rfl
   intro _ _ _ cK y9;replace cK:=I cK;have c0:=I (y9.ext (aJ.ext U) (bJ _) (X.trans U));go_wp2;go_roundg (gk - 1);case measure=>omega
   case rel=>exact⟨i+1,_,_,_,J,by go_num,rfl,J,(by rw[Oo J];exact(show aH _ _ _ _ _ _ _ _ _ from cK)),c0⟩
  ·go_wp2;go_ret;have hk:(jX m L).take i=jX m L:=iU (by rw[tu];omega);refine⟨cP,tv,aR,rfl,?_,X⟩;have af:=aJ.out;rw[hk,bg.out]at af;exact af
def kh(a:bl)(n cap:Nat)(xs:eg)(m:Nat)(w:aC)(ar:a7 w 1 cr a n cap xs)(bF:gw m)(aq:n<=1000000):
  aS 197 #[ao a n cap,ae (m:Int)] w (qp 5 1 cr (xs++df m) w):=by
 change aa _ at ar bF;go_enter func197,ntmps197;go_wp2_with fail;refine(SO _ _ _ xs 9 _ ar J J).mono ?_;rintro e _⟨g,rfl,bu,X⟩;change aa _ at bu X;go_wp2_with fail;refine(acK w _ _ _ xs m _ bu X bF J).mono ?_;rintro e _⟨cP,cF,c2,rfl,cd,cn⟩;change aa _ at cd cn;go_wp2;go_ret;exact⟨cP,cF,c2,rfl,cd,cn⟩
def Iw(a:bl)(n cap:Nat)(xs:eg)(b:bl)(m fP:Nat)(cz:eg)(w:aC)(ar:a7 w 1 cr a n cap xs)(ec:a7 w 1 cr b m fP cz)(aq:n<=1000000)(hm:m<=1000000):
  aS 199 #[ao a n cap,ao b m fP] w (qp 5 1 cr (xs++gY cz) w):=by
 obtain⟨ct,bO,bL,bM,bP⟩:=fB Iu;change aa _ at bO bL bM bP;have acL:=ec.neq;have fe:=I (show gw m from by unfold gw;omega);change aa _ at acL ar ec;have qY:=I ar.neq;go_enter func199,ntmps199;go_wp2_with fail;refine(SO _ _ _ xs (9+m) _ ar J J).mono ?_;rintro e _⟨g,rfl,bu,X⟩;change aa _ at bu X;go_wp2_with fail;refine(acK w _ _ _ xs m _ bu X fe J).mono ?_;rintro e _⟨_,cF,_,rfl,cd,cn⟩;have o5:=hV m;have kA:cF<=1000010:=by
  have h:=cd.neq;rw[c9,<-qY.out]at h;omega
 change aa _ at cd cn;clear o5;go_wp2_with (at_builtin;refine tf rfl λoz mx=>?_;refine te (c:=cr) (ys0:=xs++df m) (ys:=cz) (.tmp 14) (.tmp 15) 107 5 rfl ct _ 1 nK bO bL bM bP rfl ah rfl w cn cd rfl (ec.ext cn) cr.cQ J ah ?_;intro gh fI cV _ v8 gd dz R6;refine mx _ _ ?_;have cK:=I gd;have c0:=I dz;clear gd dz R6 v8);go_ret;refine⟨gh,fI,cV,rfl,?_,c0⟩;have h:=cK.out;rw[ig,acL.out]at h;exact h
def anX(n:Int)(w:aC)(H:lx n):aS 327 #[n] w (cU (ae (xQ n:Int)) w):=by
 change aa _ at H;by_cases aZ:n<0
 ·go_enter func327,ntmps327;go_wp2;go_ret;refine⟨jk ?_,U⟩;have:=H.out;unfold lx at this;unfold xQ;rw[bc aZ];simp only[wrap64,IntKind.wrap_u64];omega
 ·go_enter func327,ntmps327;go_wp2;go_ret;refine⟨jk ?_,U⟩;have:=H.out;unfold lx at this;unfold xQ;rw[aV J];simp only[IntKind.wrap_u64];omega
def anY(n:Nat)(w:aC)(H:gw n):aS 295 #[ae (n:Int)] w (cU (.int .i64 (Oq n)) w):=by
 change aa _ at H;by_cases aZ:n % 2=1
 ·have q:(n:Int) % 2=1:=J;go_enter func295,ntmps295;go_wp2;go_ret;refine⟨jk ?_,U⟩;have:=H.out;unfold gw at this;unfold Oq;rw[bc aZ];simp only[wrap64,IntKind.wrap_u64];omega
 ·have q:(n:Int) % 2=0:=J;go_enter func295,ntmps295;go_wp2;go_ret;refine⟨jk ?_,U⟩;have:=H.out;unfold gw at this;unfold Oq;rw[aV aZ];simp only[wrap64,IntKind.wrap_u64];omega
def XZ{P:Program}{o:Oper}{a:Act}(nz:o.guard=none)(x:Operand)(src dst e:TypeId)(aM:o.op=.convert src dst x)(hs:P.underlying src=some .string)(aG:P.underlying dst=some (.slice e))(he:P.underlying e=some (.int .u8)){s:ByteArray}(X:a.eval x=.string s)(hm:s.size<=1000000)(h:∀w' cap,a7 w' 1 cr (some (w,0)) s.size cap s.toList->Z w w'->(w:Nat)<(w':Nat)->wpList P ops Q rest (a.put o.dst (.slice (some (w,0)) s.size cap)) w'):wpList P ops Q (o::rest) a w:=by
 refine tf nz λK aE=>?_;have mL:=run_bytes_of_string (P:=P) w src dst e s hs aG he;unfold Oper.wp;simp[execOp,aM,X,mL,Result.andThen];refine aE _ _ (h _ _ ⟨(yM s).symm,grownCap_ge _ _ _ _,grownCap_le_maxLen _ _ _ _ Ix,(λk=>by cases k),cr.bI,λk y hk=>⟨_,_,rfl,λj v aD=>?_⟩⟩ (((Z.refl w).drew).alloc _) (by simp));have aZ:j=0:=by
  have:=(ud.1 aD).1;rw[cr.bI]at this;omega
 subst aZ;have cb:=(ud.1 hk);obtain⟨nL,jV⟩:=cb;rw[show(0:Nat)+k*1+0=k from by omega];have fs:w.drew.heap.size=(w:Nat):=rfl;rw[<-fs,World.cell?_alloc_mark];have Ii:k<s.data.size:=by rw[yM]at nL;exact nL
 rw[bytesRow_at s _ k Ii];simp only[cr,RL,Option.some.injEq]at aD;rw[<-aD,<-jV];have:s.toList[k]=s.data[k]:=by simp[CG]
 rw[this]
def acM(a:bl)(n cap:Nat)(xs:eg)(k m:Int)(s:ByteArray)(w:aC)(ar:a7 w 1 cr a n cap xs)(bV:By k m s.toList)(aq:n<=100000):
  aS 298 #[ao a n cap,.agg #[k,m,s]] w (qp 5 1 cr (xs++Aq k m s.toList) w):=by
 have acN:=bV.s;rw[yM]at acN;have c3:=ar.neq;have hk:=bV.k;change aa _ at c3;have bF:=I bV.Ot;change aa _ at ar bV;rcases hk with rfl|⟨rfl,rfl⟩|⟨rfl,rfl|rfl⟩
 ·go_enter func298,ntmps298;go_wp2_with fail;refine(anX m _ bV.i64).mono ?_;rintro e w1⟨rfl,X⟩;have d0:w1.cell? (w,0)=some ↑(bo 1):=X.ag (by simp);have jE:w1.cell? (w,2)=some ↑s:=X.ag (by simp);change aa _ at X;go_wp2_with fail;refine(kh _ _ _ xs 1 _ (ar.ext U) Gm J).mono ?_;rintro e aN⟨ch,cF,c2,rfl,cd,cn⟩;have o6:=cd.neq;have dk:=hV 1;rw[c9,<-c3.out]at o6;have kA:cF<=100020:=J;replace jE:=cn.ag jE;change aa _ at cd cn;clear o6 dk;go_wp2_with fail;refine(kh _ _ _ _ (xQ m) _ cd.aF bF J).mono ?_;rintro e a6⟨a3,fI,cV,rfl,cK,dz⟩;have xb:=cK.neq;have eP:=hV (xQ m);exact SQ
 ·go_enter func298,ntmps298;have jE:(w.alloc (.cells #[bo 2,av,s] 74)).cell? (w,2)=some ↑s:=by simp
  go_wp2_with fail;refine(kh _ _ _ xs 2 _ (ar.ext U) Gm J).mono ?_;rintro e aN⟨ch,cF,c2,rfl,cd,cn⟩;have o6:=cd.neq;have dk:=hV 2;rw[c9,<-c3.out]at o6;have kA:cF<=100020:=J;replace jE:=cn.ag jE;change aa _ at cd cn;clear o6 dk;go_wp2_with fail;refine(kh _ _ _ _ (0) _ cd.aF bF J).mono ?_;rintro e a6⟨a3,fI,cV,rfl,cK,dz⟩;have xb:=cK.neq;have eP:=hV (0);exact SQ
 ·go_enter func298,ntmps298;have jE:(w.alloc (.cells #[bo 3,av,s] 74)).cell? (w,2)=some ↑s:=by simp
  go_wp2_with fail;refine(kh _ _ _ xs 3 _ (ar.ext U) Gm J).mono ?_;rintro e aN⟨ch,cF,c2,rfl,cd,cn⟩;have o6:=cd.neq;have dk:=hV 3;rw[c9,<-c3.out]at o6;have kA:cF<=100020:=J;replace jE:=cn.ag jE;change aa _ at cd cn;clear o6 dk;go_wp2_with fail;refine(kh _ _ _ _ (0) _ cd.aF bF J).mono ?_;rintro e a6⟨a3,fI,cV,rfl,cK,dz⟩;have xb:=cK.neq;have eP:=hV (0);exact SQ
 ·go_enter func298,ntmps298;have jE:(w.alloc (.cells #[bo 3,bo 1,s] 74)).cell? (w,2)=some ↑s:=by simp
  go_wp2_with fail;refine(kh _ _ _ xs 3 _ (ar.ext U) Gm J).mono ?_;rintro e _⟨ch,cF,_,rfl,cd,cn⟩;have o6:=cd.neq;have dk:=hV 3;rw[c9,<-c3.out]at o6;have kA:cF<=100020:=J;replace jE:=cn.ag jE;change aa _ at cd cn;clear o6 dk;go_wp2_with fail;refine(kh _ _ _ _ (1) _ cd.aF bF J).mono ?_;rintro e _⟨a3,fI,_,rfl,cK,dz⟩;have xb:=cK.neq;have eP:=hV (1);exact SQ
section
structure aI (S:Nat->Prop) (w w':World):Prop where
 os:w'.os=w.os
 tape:w'.tape=w.tape
 output:w'.output=w.output
 size:w.heap.size<=w'.heap.size
 block:∀b,b<w.heap.size->¬S b->w'.heap[b]? =w.heap[b]?
section
variable {S S':Nat->Prop}{W w w' ey:World}
def aI.of(h:Z w w'):aI S w w':=⟨h.os,h.tape,h.output,h.size,λb ad _=>h.block b ad⟩
def aI.refl(S:eZ)(w:aC):aI S w w:=.of (Z.refl w)
def aI.trans(h:aI S w w')(k:aI S w' ey):aI S w ey:=
 ⟨k.os.trans h.os,k.tape.trans h.tape,k.output.trans h.output,ek h.size k.size,λb ad aq=>(k.block b (fQ ad h.size) aq).trans (h.block b ad aq)⟩
def aI.mono(h:aI S w w')(hs:∀b,b<(w:Nat)->S b->S' b):aI S' w w':=⟨h.os,h.tape,h.output,h.size,λb ad aq=>h.block b ad (λk=>aq (hs b ad k))⟩
def aI.ext(h:aI S w w')(fq:∀b,S b->(W:Nat)<=b)(X:Z W w):Z W w':=
 Below.trans X ⟨h.os,h.tape,h.output,h.size,λb ad=>h.block b RM (λk=>by have:=fq b k;omega)⟩
def aI.setCell(h:aI S w w')(p:Addr)(aY:S p.block\/(w:Nat)<=p.block)(u:Value):aI S w (w'.setCell p u):=by
 have hs:Below 0 w' (w'.setCell p u):=Below.setCell (Below.refl 0 w') (gz _) u
 exact⟨hs.os.trans h.os,hs.tape.trans h.tape,hs.output.trans h.output,ek h.size hs.size,λb ad aq=>
  (Below.heap_setCell w' p u b (λe=>by subst e;rcases aY with aY|aY;exact aq aY;omega)).trans (h.block b ad aq)⟩
def aI.alloc(h:aI S w w')(o:Obj):aI S w (w'.alloc o):=h.trans (.of ((Z.refl _).alloc o))
def aI.drew(h:aI S w w'):aI S w w'.drew:=h.trans (.of ((Z.refl _).drew))
def aI.drewN(h:aI S w w')(n:Nat):aI S w (w'.drewN n):=h.trans (.of ((Z.refl _).drewN n))
def aI.cell(h:aI S w w'){v:Value}(al:w.cell? (b,o)=some v)(ad:¬S b):w'.cell? (b,o)=some v:=by
 rw[Ks (a:=⟨b,o,.none⟩) (h.block b (Ee al) ad)];exact al
def aI.aF{c:α->List Value}{xs:List α}(h:aI S w w')(hs:a7 w sz c a n cap xs)(dj:∀ai,a=some ai->¬S ai.block):a7 w' sz c a n cap xs:=
 ⟨hs.neq,hs.len,hs.max,hs.none,hs.bI,λk x hk=>let ⟨b,o,ak,al⟩:=hs.at_ k x hk;⟨b,o,ak,λj v aD=>h.cell (al j v aD) (dj _ ak)⟩⟩
def aI.bS{c:α->List Value}{ys:List α}(h:aI S w w')(aM:aH w base e sz c aA n cap ys)(dj:∀ai,aA=some ai->¬S ai.block):aH w' base e sz c aA n cap ys:=
 aM.ag λai ak=>h.block _ (aM.lt ai ak).2 (dj ai ak)
end
def ED{w:aC}{c:Nat}{cs aU:Array Value}{u:TypeId}{X0:Nat×Nat}(h:w.heap[b]?=some (.cells cs t fr))(k:w.heap[c]?=some (.cells aU u X0))(aq:t≠u):¬b=c:=by
 intro e;subst e;rw[h]at k;injection k with k;injection k with _ bm;exact aq bm
def bZ{w:aC}{o:Obj}(h:w.heap[b]?=some o):b<(w:Nat):=by
 rcases Bh b (w:Nat)with k|k
 ·exact k
 ·rw[Nn k]at h;cases h
def nM{w:aC}{cs:Array Value}(h:w.heap[b]?=some (.cells cs t)):w.frozen? ⟨b,o,none⟩=false:=by
 unfold World.frozen?;simp only[h];simp
def en{w:aC}{cs:Array Value}(h:w.heap[b]?=some (.cells cs t fr))(j:Nat)(u:Value):(w.setCell (b,j) u).heap[b]?=some (.cells (cs.setIfInBounds j u) t fr):=by
 unfold World.setCell;simp only[SR,h];simp
def anZ{w:aC}{l:List Value}(h:w.heap[b]?=some (.cells (List.toArray (h2::l)) t)):w.cell? (b,0)=some h2/\∀j,w.frozen? ⟨b,j,none⟩=false:=⟨aL h rfl,λ_=>nM h⟩
def SS{w:aC}{l:List Value}(h:w.heap[b]?=some (.cells (List.toArray (h2::iw::l)) t)):w.cell? (b,0)=some h2/\w.cell? (b,1)=some iw/\∀j,w.frozen? ⟨b,j,none⟩=false:=⟨aL h rfl,aL h rfl,λ_=>nM h⟩
def qu{w:aC}{l:List Value}(h:w.heap[b]?=some (.cells (List.toArray (h2::iw::hd::l)) t)):w.cell? (b,0)=some h2/\w.cell? (b,1)=some iw/\w.cell? (b,2)=some hd/\∀j,w.frozen? ⟨b,j,none⟩=false:=⟨aL h rfl,aL h rfl,aL h rfl,λ_=>nM h⟩
def C8{w:aC}{l:List Value}(h:w.heap[b]?=some (.cells (List.toArray (h2::iw::hd::ju::l)) t)):w.cell? (b,0)=some h2/\w.cell? (b,1)=some iw/\w.cell? (b,2)=some hd/\w.cell? (b,3)=some ju/\∀j,w.frozen? ⟨b,j,none⟩=false:=⟨aL h rfl,aL h rfl,aL h rfl,aL h rfl,λ_=>nM h⟩
def an0{w:aC}{l:List Value}(h:w.heap[b]?=some (.cells (List.toArray (h2::iw::hd::ju::k2::l)) t)):w.cell? (b,0)=some h2/\w.cell? (b,1)=some iw/\w.cell? (b,2)=some hd/\w.cell? (b,3)=some ju/\w.cell? (b,4)=some k2/\∀j,w.frozen? ⟨b,j,none⟩=false:=⟨aL h rfl,aL h rfl,aL h rfl,aL h rfl,aL h rfl,λ_=>nM h⟩
def kr{w:aC}{l:List Value}(h:w.heap[b]?=some (.cells (List.toArray (h2::iw::hd::ju::k2::nA::pw::rp::l)) t)):w.cell? (b,0)=some h2/\w.cell? (b,1)=some iw/\w.cell? (b,2)=some hd/\w.cell? (b,3)=some ju/\w.cell? (b,4)=some k2/\w.cell? (b,5)=some nA/\w.cell? (b,6)=some pw/\w.cell? (b,7)=some rp/\∀j,w.frozen? ⟨b,j,none⟩=false:=⟨aL h rfl,aL h rfl,aL h rfl,aL h rfl,aL h rfl,aL h rfl,aL h rfl,aL h rfl,λ_=>nM h⟩
def xR{w:aC}{l:List Value}(h:w.heap[b]?=some (.cells (List.toArray (h2::iw::hd::ju::k2::nA::pw::rp::xF::l)) t)):w.cell? (b,0)=some h2/\w.cell? (b,1)=some iw/\w.cell? (b,2)=some hd/\w.cell? (b,3)=some ju/\w.cell? (b,4)=some k2/\w.cell? (b,5)=some nA/\w.cell? (b,6)=some pw/\w.cell? (b,7)=some rp/\w.cell? (b,8)=some xF/\∀j,w.frozen? ⟨b,j,none⟩=false:=⟨aL h rfl,aL h rfl,aL h rfl,aL h rfl,aL h rfl,aL h rfl,aL h rfl,aL h rfl,aL h rfl,λ_=>nM h⟩
def an1{w:aC}{l:List Value}(h:w.heap[b]?=some (.cells (List.toArray (h2::iw::hd::ju::k2::nA::pw::rp::xF::CI::CJ::CK::l)) t)):w.cell? (b,0)=some h2/\w.cell? (b,1)=some iw/\w.cell? (b,2)=some hd/\w.cell? (b,3)=some ju/\w.cell? (b,4)=some k2/\w.cell? (b,5)=some nA/\w.cell? (b,6)=some pw/\w.cell? (b,7)=some rp/\w.cell? (b,8)=some xF/\w.cell? (b,9)=some CI/\w.cell? (b,10)=some CJ/\w.cell? (b,11)=some CK/\∀j,w.frozen? ⟨b,j,none⟩=false:=⟨aL h rfl,aL h rfl,aL h rfl,aL h rfl,aL h rfl,aL h rfl,aL h rfl,aL h rfl,aL h rfl,aL h rfl,aL h rfl,aL h rfl,λ_=>nM h⟩
def rD{w:aC}{F5:Value}{l:List Value}(h:w.heap[b]?=some (.cells (List.toArray (h2::iw::hd::ju::k2::nA::pw::rp::xF::CI::CJ::CK::F5::l)) t)):w.cell? (b,0)=some h2/\w.cell? (b,1)=some iw/\w.cell? (b,2)=some hd/\w.cell? (b,3)=some ju/\w.cell? (b,4)=some k2/\w.cell? (b,5)=some nA/\w.cell? (b,6)=some pw/\w.cell? (b,7)=some rp/\w.cell? (b,8)=some xF/\w.cell? (b,9)=some CI/\w.cell? (b,10)=some CJ/\w.cell? (b,11)=some CK/\w.cell? (b,12)=some F5/\∀j,w.frozen? ⟨b,j,none⟩=false:=⟨aL h rfl,aL h rfl,aL h rfl,aL h rfl,aL h rfl,aL h rfl,aL h rfl,aL h rfl,aL h rfl,aL h rfl,aL h rfl,aL h rfl,aL h rfl,λ_=>nM h⟩
def an2{w:aC}{F5 Nr:Value}{l:List Value}(h:w.heap[b]?=some (.cells (List.toArray (h2::iw::hd::ju::k2::nA::pw::rp::xF::CI::CJ::CK::F5::Nr::l)) t)):w.cell? (b,0)=some h2/\w.cell? (b,1)=some iw/\w.cell? (b,2)=some hd/\w.cell? (b,3)=some ju/\w.cell? (b,4)=some k2/\w.cell? (b,5)=some nA/\w.cell? (b,6)=some pw/\w.cell? (b,7)=some rp/\w.cell? (b,8)=some xF/\w.cell? (b,9)=some CI/\w.cell? (b,10)=some CJ/\w.cell? (b,11)=some CK/\w.cell? (b,12)=some F5/\w.cell? (b,13)=some Nr/\∀j,w.frozen? ⟨b,j,none⟩=false:=⟨aL h rfl,aL h rfl,aL h rfl,aL h rfl,aL h rfl,aL h rfl,aL h rfl,aL h rfl,aL h rfl,aL h rfl,aL h rfl,aL h rfl,aL h rfl,aL h rfl,λ_=>nM h⟩
end
structure j5 (w:World) (p:Nat) (xs:List UInt8):Prop where
 ck:∃b o n,w.heap[p]?=some (.cells #[.slice (some ⟨b,o,none⟩) n n,.bool false] 274 (0,0))/\(∃cs fr,w.heap[b]?=some (.cells cs 5 fr))/\a7 w 1 cr (some ⟨b,o,none⟩) n n xs/\n<=10000000
def j5.ext{xs:eg}(h:j5 w p xs)(X:Z w w'):j5 w' p xs:=by
 obtain⟨b,o,n,af,⟨cs,fr,aO⟩,an,bt⟩:=h.ck;exact⟨b,o,n,(X.block p (bZ af)).trans af,⟨cs,fr,(X.block b (bZ aO)).trans aO⟩,an.ext X,bt⟩
def j5.lt{xs:eg}(h:j5 w p xs):p<(w:Nat):=let ⟨_,_,_,af,_⟩:=h.ck;bZ af
def j5.jD{R:Nat}{xs:eg}{cs:Array Value}(h:j5 w p xs)(aj:aI (·=R) w w')(bB:w.heap[R]?=some (.cells cs t fr))(af:t≠274)(an:t≠5):j5 w' p xs:=by
 obtain⟨b,o,n,bH,⟨aU,X0,dJ⟩,b1,eG⟩:=h.ck;have cm:¬p=R:=λe=>ED bB bH af e.symm;have cq:¬b=R:=λe=>ED bB dJ an e.symm;exact⟨b,o,n,(aj.block p (bZ bH) cm).trans bH,⟨aU,X0,(aj.block b (bZ dJ) cq).trans dJ⟩,aj.aF b1 (λai ak=>by cases ak;exact cq),eG⟩
def j5.gT{xs:eg}{c:α->List Value}{ys:List α}(h:j5 w p xs)(aM:aH w base e sz c aA n cap ys)(he:e≠274):∀ai,aA=some ai->¬ai.block=p:=by
 obtain⟨b,o,_,af,_⟩:=h.ck;intro _ ak ad;subst ak;rcases aM.row.2 with ⟨bw,_⟩|⟨g,aR,cur,bw,_,bC,_⟩
 ·cases bw
 ·simp only[Value.slice.injEq,Option.some.injEq]at bw;obtain⟨rfl,_⟩:=bw;simp only at ad;subst ad;rw[af]at bC;injection bC with bC;injection bC with _ bm;exact he bm.symm
def j5.grow{xs:eg}{c:α->List Value}{ys:List α}(h:j5 w p xs)(bC:lL w w' aA g)(aM:aH w base e sz c aA n cap ys)(he:e≠274)(ad:e≠5):j5 w' p xs:=by
 have dj:=h.gT aM he;obtain⟨b,o,fS,af,⟨cs,fr,aO⟩,an,bt⟩:=h.ck;have nN:∀ai,aA=some ai->ai.block≠b:=by
  intro ai ak bs;subst ak;rcases aM.row.2 with ⟨bw,_⟩|⟨F4,aR,cur,bw,_,Ek,_⟩
  ·cases bw
  ·simp only[Value.slice.injEq,Option.some.injEq]at bw;obtain⟨rfl,_⟩:=bw;simp only at bs;subst bs;rw[aO]at Ek;injection Ek with Ek;injection Ek with _ bm;exact ad bm.symm
 have cm:=bC.block p (bZ af) (λai ak k=>dj ai ak k);have cq:=bC.block b (bZ aO) nN;refine⟨b,o,fS,cm.trans af,⟨cs,fr,cq.trans aO⟩,⟨an.neq,an.len,an.max,an.none,an.bI,λk x hk=>?_⟩,bt⟩;obtain⟨_,_,j2,al⟩:=an.at_ k x hk;simp only[Option.some.injEq,Addr.mk.injEq,H9]at j2;obtain⟨rfl,rfl⟩:=j2;refine⟨b,o,rfl,λj v aD=>?_⟩;rw[Ks (a:=⟨b,o+k*1+j,.none⟩) cq];exact al j v aD
def X1{P:Program}{o:Oper}{a:Act}(nz:o.guard=none)(x Ou:Operand)(t e:TypeId)(aM:o.op=.slice t x (some Ou) none none)(bm:P.underlying t=some (.slice e))(fs:(P.info? e).map (·.size)=some 1){ll k:Nat}{kk:IntKind}(X:a.eval x=.slice (some (b,ll)) n n)(a1:a.eval Ou=.int kk (k:Int))(hk:k<=n)(h:∀Ov,(k<n->Ov=ll+k)->wpList P ops Q rest (a.put o.dst (.slice (some (b,Ov)) (n - k) (n - k))) w):wpList P ops Q (o::rest) a w:=by
 refine acO ?_;intro K aE he hs;have mL:=run_slice_l (P:=P) w t (some (b,ll)) n n (by rw[he];exact bm) kk k J J;have j1:=run_sliceAt_slice (P:=P) w t (.slice (some (b,ll)) n n) (some (.int kk (k:Int))) none none (by rw[he];exact bm);rw[mL,he,hs]at j1;by_cases pF:n=k
 ·subst pF;simp only[Result.andThen,sliced,kN,bc rfl,Nat.sub_self]at j1;have jV:=aE _ _ (h ll (λk=>by omega));rw[Nat.sub_self]at jV;unfold Oper.wp;simp[execOp,aM,X,a1,j1,Result.andThen];exact jV
 ·simp only[Result.andThen,sliced,kN,aV pF,Gc,jd]at j1;have Ow:((b,ll):Addr).add k=(b,ll+k):=by unfold Addr.add;split<;>simp_all
  rw[Ow]at j1;unfold Oper.wp;simp[execOp,aM,X,a1,j1,Result.andThen];exact aE _ _ (h (ll+k) (λ_=>rfl))
def acP{P:Program}{o:Oper}{a:Act}(nz:o.guard=none)(x aK:Operand)(t e:TypeId)(aM:o.op=.slice t x none (some aK) none)(bm:P.underlying t=some (.slice e))(fs:(P.info? e).map (·.size)=some sz){sa:bl}{k:Nat}{kk:IntKind}(X:a.eval x=.slice sa n cap)(a1:a.eval aK=.int kk (k:Int))(hk:k<=cap)(X2:∀ai,sa=some ai->ai.spot=none)(h:wpList P ops Q rest (a.put o.dst (ao sa k cap)) w):wpList P ops Q (o::rest) a w:=by
 refine tf nz λK aE=>?_;refine an3 ?_;intro he hs mL;have j1:=run_sliceAt_slice (P:=P) w t (ao sa n cap) none (some (.int kk (k:Int))) none (by rw[he];exact bm);rw[mL,he,hs]at j1;refine an4 ?_;intro bp;simp only[Result.andThen,sliced,kN,Nat.sub_zero,bp]at j1;unfold Oper.wp;simp[execOp,aM,X,a1,j1,Result.andThen];exact aE _ _ h
def K1{P:Program}{o:Oper}{a:Act}(nz:o.guard=none)(x:Operand)(src dst e:TypeId)(aM:o.op=.convert src dst x)(hs:P.underlying src=some (.slice e))(he:P.underlying e=some (.int .u8))(aG:P.underlying dst=some .string){off:Nat}{xs:eg}(X:a.eval x=.slice (some (b,off)) n cap)(bj:a7 w 1 cr (some (b,off)) n cap xs)(h:∀s:ByteArray,s.toList=xs->wpList P ops Q rest (a.put o.dst s) w):wpList P ops Q (o::rest) a w:=by
 refine tf nz λK aE=>?_;have aq:=bj.neq;subst aq
 have mL:=run_convert_bytes_back (P:=P) w src dst e (b,off) cap xs hs he aG (λj aD=>by
  have:=SM bj j aD;rw[show((b,off):Addr).add j=(b,off+j)from by unfold Addr.add;split<;>simp_all]
  exact this)
 unfold Oper.wp;simp[execOp,aM,X,mL,Result.andThen];exact aE _ _ (h _ (by rw[CG]))
def K2(a:bl)(n cap:Nat)(xs:eg)(w:aC)(ar:a7 w 1 cr a n cap xs)(aq:n<=10000000):
  aS 126 #[ao a n cap] w λe w'=>∃p,e=.returned (.pointer (some (p,0)))/\(w:Nat)<=p/\j5 w' p xs/\Z w w':=by
 change aa _ at ar;go_enter func126,ntmps126;go_wp2_with fail;refine(SO _ _ _ xs 0 _ ar J J).mono ?_;rintro e w1⟨g,rfl,bu,X⟩;change aa _ at bu X;go_wp2;go_ret;have bC:=(bu.lt _ rfl).2;refine⟨(w1:Nat),rfl,X.size,⟨g,0,n,mu _ _,?_,(bu.aF.ext ((Z.refl _).alloc _)),aq⟩,U⟩;rcases bu.row.2 with ⟨bw,_⟩|⟨F4,aR,cur,bw,_,Ek,_⟩
 ·cases bw
 ·simp only[Value.slice.injEq,Option.some.injEq,Addr.mk.injEq,H9]at bw;obtain⟨⟨rfl,rfl⟩,_⟩:=bw;exact⟨_,_,(((Z.refl w1).alloc _).block _ (bZ Ek)).trans Ek⟩
def an5{a z:Nat}(bp:z<256)(ak:a*256+z<18446744073709551616):bits BinOp.or IntKind.u64 (IntKind.u64.wrap ((a:Int)*256)) (IntKind.u64.wrap (z:Int))=((a*256+z:Nat):Int):=by
 have dL:(BitVec.ofInt 64 ((a*256:Nat):Int)).toNat=a*256:=by
  rw[BitVec.ofInt_natCast,BitVec.toNat_ofNat];exact Gl (Om (SU (a*256) z) ak)
 refine acQ ?_;intro Ox;have cm:IntKind.u64.wrap ((a:Int)*256)=((a*256:Nat):Int):=by simp only[wrap64,IntKind.wrap_u64];omega
 have cq:IntKind.u64.wrap (z:Int)=(z:Int):=by simp only[wrap64,IntKind.wrap_u64];omega
 rw[cm,cq];have h:=Nat.two_pow_add_eq_or_of_lt (show z<2 ^ 8 from bp) a;have af:(2:Nat) ^ 8*a=a*256:=J;rw[af]at h;unfold bits;have fo:(BitVec.ofInt IntKind.u64.bits ((a*256:Nat):Int)|||BitVec.ofInt IntKind.u64.bits (z:Int)).toNat=a*256+z:=by
  show(BitVec.ofInt 64 ((a*256:Nat):Int)|||BitVec.ofInt 64 (z:Int)).toNat=a*256+z;rw[BitVec.toNat_or,dL,Ox,h]
 simp only[fo,wrap64,IntKind.wrap_u64];omega
def j5.X3{k:Nat}{cs:Array Value}{ys xs:eg}(aY:w.heap[p]?=some (.cells #[.slice (some (b,o)) n n,.bool false] 274 (0,0)))(ad:w.heap[b]?=some (.cells cs 5 fr))(hs:a7 w 1 cr (some (b,o)) n n (ys++xs))(hk:ys.length=k)(aq:n<=10000000){o2:Nat}(p1:k<n->o2=o+k):
  j5 (w.setCell (p,0) (.slice (some (b,o2)) (n - k) (n - k))) p xs/\aI (·=p) w (w.setCell (p,0) (.slice (some (b,o2)) (n - k) (n - k))):=by
 have acR:¬b=p:=by
  intro e;subst e;rw[aY]at ad;injection ad with ad;injection ad with _ bm;exact absurd bm ah
 have aj:aI (·=p) w (w.setCell (p,0) (.slice (some (b,o2)) (n - k) (n - k))):=aI.setCell (S:=λx=>x=p) (aI.refl _ w) (p,0) (.inl rfl) _;have hlen:=hs.neq;rw[c9]at hlen;refine⟨⟨b,o2,n - k,?_,⟨cs,fr,(aj.block b (bZ ad) acR).trans ad⟩,aj.aF (w:=w) ?_ (λai ak=>by cases ak;exact acR),J⟩,aj⟩
 ·exact en aY 0 _
 ·by_cases pF:k<n
  ·obtain rfl:=p1 pF;have af:=hs.abu k J;rw[List.drop_left' hk]at af;exact af
  ·have dU:n - k=0:=J;have cm:xs= []:=Bk J;rw[dU,cm];exact a7.al0 cr.bI Ix
def oI(p m:Nat)(xs:eg)(w:aC)(bB:j5 w p (df m++xs))(bF:gw m):
  aS 128 #[p] w λe w'=>e=.returned (ae (m:Int))/\j5 w' p xs/\aI (·=p) w w':=by
 obtain⟨b,o,n,b8,⟨_,fr,px⟩,ar,aq⟩:=bB.ck;have fG:=xP m;have c3:=ar.neq;rw[c9,y7]at c3;obtain⟨L,eV⟩:∃L,L=nj m:=⟨_,rfl⟩;rw[<-eV]at fG c3;have dV:w.cell? (b,o)=some (.int .u8 (L:Int)):=by
  have:=SM ar 0 (by rw[c9,y7];omega);rw[uo]at this;rw[this];have e:(df m++xs)[0]'(by rw[c9,y7];omega)=UInt8.ofNat L:=by simp[df,eV]
  rw[e,UInt8.toNat_ofNat',Gl J]
 have cO:w.cell? (p,0)=some (.slice (some (b,o)) n n):=aL b8 rfl;have c1:w.cell? (p,1)=some (.bool false):=aL b8 rfl;have bn:∀i (aK:i<L),∃y:UInt8,(jX m L)[i]?=some y/\w.cell? (b,o+(1+i))=some (.int .u8 (y.toNat:Int)):=by
  intro i aK;have fH:i<(jX m L).length:=by rw[tu];exact aK
  refine⟨(jX m L)[i],eK fH,?_⟩;have:=SM ar (1+i) (by rw[c9,y7];omega);rw[this];have e:(df m++xs)[1+i]?=some (jX m L)[i]:=by
   unfold df;rw[<-eV,Gn,Nat.add_comm,HX,HW fH,eK fH]
  have cq:=ud.1 e;rw[cq.2]
 change aa _ at px;have bg:=I eV;have hA:0<n:=J;have kA:1+L<=n:=J;change aa _ at bn ar b8 bF c3;by_cases aZ:0<L
 ·obtain⟨y,ys,rB,_⟩:=anQ (show m<2 ^ 64 from bF) (by rw[<-bg.out];exact aZ);have q1:w.cell? (b,o+1)=some (.int .u8 (y.toNat:Int)):=by
   obtain⟨z,bp,al⟩:=bn 0 aZ;rw[bg.out,rB]at bp;cases bp;exact al
  change aa _ at rB;clear eV;go_enter func128,ntmps128;go_wp2_with fail;go_step3;go_wp2_with fail;go_loopg [3,51] L (λxa qZ dS wr=>∃i:Nat,xa+i=L/\dS=.int .i64 (i:Int)/\qZ=.int .u64 ((v7 ((jX m L).take i):Nat):Int)/\aa (Z w wr));case atStart=>exact⟨0,J,rfl,rfl,U⟩
  case round=>
   obtain⟨i,bC,rfl,rfl,X⟩:=hrel;have dU:=X.ag cO;by_cases aK:i<L
   ·obtain⟨z,bp,al⟩:=bn i aK;have acS:=X.ag al;have bf:(i:Int)<(L:Int):=J;clear al;go_wp2_with fail;have bw:v7 ((jX m L).take (i+1))=v7 ((jX m L).take i)*256+z.toNat:=by
     have a1:i<(jX m L).length:=by rw[tu];exact aK
     rw[iv a1,XW];rw[eK a1]at bp;rw[w9 bp]
    have fH:v7 ((jX m L).take (i+1))<256 ^ 8:=fQ (acI _) (Nat.pow_le_pow_right ah (by rw[nF];omega));rw[bw]at fH;have an6:=z.toNat_lt;rw[an5 an6 J,<-bw];exact acT
   ·skip;have uX:wr.frozen? ⟨p,0,none⟩=false:=(X.frozen _ _ (bZ b8)).trans (nM b8);go_wp2_with (refine X1 rfl (.tmp 71) (.tmp 73) 107 5 rfl nK EA (k:=1+L) rfl (by rw[Gp];rfl) J ?_;intro o2 p1);rw[pX];go_ret;have c6:=j5.X3 (o2:=o2) (k:=1+L) (ys:=df m) (xs:=xs) ((X.block p (bZ b8)).trans b8) ((X.block b (bZ px)).trans px) (ar.ext X) (by rw[y7,<-bg.out]) aq p1;refine⟨jk ?_,c6.1,(aI.of X).trans c6.2⟩;rw[iU (by rw[tu];omega),bg,anP bF]
 ·obtain rfl:L=0:=J;clear eV bn;go_enter func128,ntmps128;go_wp2_with fail;go_step3;go_wp2_with fail;go_loopg [3,51] 0 (λxa qZ dS wr=>xa=0/\dS=.int .i64 0/\qZ=.int .u64 0/\aa (Z w wr));case atStart=>exact⟨rfl,rfl,rfl,U⟩
  case round=>
   obtain⟨_,rfl,rfl,X⟩:=hrel;have dU:=X.ag cO;obtain⟨i,rfl⟩:∃i,i=0:=⟨_,rfl⟩;have uX:wr.frozen? ⟨p,0,none⟩=false:=(X.frozen _ _ (bZ b8)).trans (nM b8);go_wp2_with (refine X1 rfl (.tmp 71) (.tmp 73) 107 5 rfl nK EA (k:=1+0) rfl rfl J ?_;intro o2 p1);rw[pX];go_ret;have c6:=j5.X3 (o2:=o2) (k:=1+0) (ys:=df m) (xs:=xs) ((X.block p (bZ b8)).trans b8) ((X.block b (bZ px)).trans px) (ar.ext X) (by rw[y7,<-bg.out]) aq p1;refine⟨jk ?_,c6.1,(aI.of X).trans c6.2⟩;have aZ:=XU bF;rw[<-bg.out]at aZ;simp at aZ;omega
def Gq{S:eZ}{R:Nat}(h:aI S w w')(bB:S R\/(w:Nat)<=R)(u v x:Value):aI S w (((w'.setCell (R,0) u).setCell (R,1) v).setCell (R,2) x):=((h.setCell (R,0) bB u).setCell (R,1) bB v).setCell (R,2) bB x
def xS{S:eZ}{R:Nat}(h:aI S w w')(bB:S R\/(w:Nat)<=R)(i j k:Nat)(u v x:Value):aI S w (((w'.setCell (R,i) u).setCell (R,j) v).setCell (R,k) x):=((h.setCell (R,i) bB u).setCell (R,j) bB v).setCell (R,k) bB x
def EE(p:Nat)(SV:Int)(ys xs:eg)(w:aC)(cw:j5 w p (gY ys++xs))(aZ:0<=SV)(hy:(ys.length:Int)<=SV)(hm:SV<=10000000):
  Calls prog 130 #[p,SV] w λe w'=>∃g c,e=.returned (.slice (some ⟨g,0,none⟩) ys.length c)/\aH w' w.heap.size 5 1 cr (some ⟨g,0,none⟩) ys.length c ys/\j5 w' p xs/\aI (·=p) w w':=by
 have aY:=cw.lt;change aa _ at cw;go_enter func130,ntmps130;go_wp2_with fail;go_step3;go_wp2_with fail;refine(oI p ys.length (ys++xs) _ (by have:=cw.out;unfold gY at this;rw[ig]at this;exact this) awr).mono ?_;rintro e w1⟨rfl,xT,iH⟩;obtain⟨b,o,n,b8,⟨_,fr,px⟩,ar,aq⟩:=xT.ck;have cO:w1.cell? (p,0)=some (.slice (some (b,o)) n n):=aL b8 rfl;have c1:w1.cell? (p,1)=some (.bool false):=aL b8 rfl;have r6:=ar.neq;rw[c9]at r6;have C9:ys.length<=n:=J;change aa _ at r6 ar b8 px iH;go_wp2_with (refine acP rfl (.tmp 38) (.tmp 39) 107 5 rfl nK EA (k:=ys.length) rfl rfl J (λai h=>by cases h;rfl) ?_);refine(SO _ _ _ ys 0 _ (by have:=ar.take ys.length J;rw[List.take_left]at this;exact this) J J).mono ?_;rintro e aN⟨g,rfl,bu,X⟩;have d0:=X.ag cO;have uX:aN.frozen? ⟨p,0,none⟩=false:=(X.frozen _ _ (bZ b8)).trans (nM b8);change aa _ at bu X;go_wp2_with (refine X1 rfl (.tmp 46) (.tmp 47) 107 5 rfl nK EA (k:=ys.length) rfl rfl J ?_;intro o2 p1);rw[pX];go_ret;have c6:=j5.X3 (o2:=o2) (k:=ys.length) (ys:=ys) (xs:=xs) ((X.block p (bZ b8)).trans b8) ((X.block b (bZ px)).trans px) (ar.ext X) rfl aq p1;have hw:=iH.size;have wa:=(bu.lt _ rfl).1;simp only at wa;exact⟨g,ys.length+0,rfl,c6.2.bS (bu.mono hw) (λai ak=>by cases ak;simp only;omega),c6.1,iH.trans ((aI.of X).trans c6.2)⟩
def acU(p:Nat)(k m:Int)(aF xs:eg)(w:aC)(cw:j5 w p (Aq k m aF++xs))(bV:By k m aF):
  aS 255 #[p] w λe w'=>∃s:ByteArray,s.toList=aF/\e=.returned (.agg #[k,m,s])/\j5 w' p xs/\aI (·=p) w w':=by
 have aY:=cw.lt;have Oy:=bV.nk;have acN:=bV.s;have hk:=bV.k;have bF:=I bV.Ot;change aa _ at cw bV;rcases hk with rfl|⟨rfl,rfl⟩|⟨rfl,rfl|rfl⟩
 ·refine SX ?_;intro _;go_wp2_with fail;refine(oI p 1 (df (xQ m)++(gY aF++xs)) _ SY Gm).mono ?_;refine SZ ?_;intro w1 di ih bE;go_wp2_with fail;refine(oI p (xQ m) (gY aF++xs) _ di bF).mono ?_;refine S0 ?_;intro aN dI jx fW;go_wp2_with fail;refine S1 ?_;intro a6 g c b o n c1 Oz Gr gn eI hn fr cK jF iY fc;go_wp2_with ((refine K1 rfl (.tmp 16) 107 9 5 rfl nK Da za rfl cK.aF ?_;intro s hs;subst hs));refine(anY (xQ m) _ bF).mono ?_;rintro e cB⟨rfl,eQ⟩;have v0:cB.cell? (a6,0)=some ↑(bo 1):=eQ.ag (by simp);have v1:cB.cell? (a6,1)=some (.int .i64 (wrap64 (xQ m:Int))):=eQ.ag (by simp);have v2:cB.cell? (a6,2)=some ↑s:=eQ.ag (by simp);have ng:∀j,cB.frozen? ⟨(a6:Nat),j,none⟩=false:=λj=>(eQ.frozen _ _ (by simp)).trans (by simp);replace c1:=eQ.ag (((Z.refl a6).alloc _).ag c1);change aa _ at eQ;rw[anT];change aa _ at Oy;go_wp2_with fail;refine(Ej _ _ _ _).mono ?_;rintro e bA⟨he,iy⟩;rw[Oy.out]at he;subst he;have lr:=iy.ag ((tk _ _ _ _ (by simp)).trans v0);have gM:=iy.ag (Sr _ _ _ v1);have kM:=iy.ag ((tk _ _ _ _ (by simp)).trans v2);have hy:Z a6 bA:=Z.trans (Z.setCell (((Z.refl a6).alloc _).trans eQ) (bJ _) _) iy;have dV:=hy.ag gn;have q1:=hy.ag eI;have dk:=hy.ag hn;have K3:∀j,bA.frozen? ⟨(w:Nat),j,none⟩=false:=λj=>(hy.frozen _ _ Gr).trans (fr j);change aa _ at hy;clear iy gn eI hn fr v0 v1 v2 ng c1;go_wp2_with fail;refine S2 ?_;intro EF hblk;refine ke (v:=.agg #[bo 1,m,s]) S3 rfl ⟨s,rfl,rfl,j5.jD (R:=(w:Nat)) (jF.ext hy) (Gq (S:=λx=>x=(w:Nat)) (aI.refl _ bA) (.inl rfl) _ _ _) hblk ah ah,Gq (EF.trans (aI.of hy)) (.inr (bJ _)) _ _ _⟩
 ·refine SX ?_;intro _;go_wp2_with fail;refine(oI p 2 (df (0)++(gY aF++xs)) _ SY Gm).mono ?_;refine SZ ?_;intro w1 di ih bE;go_wp2_with fail;refine(oI p (0) (gY aF++xs) _ di bF).mono ?_;refine S0 ?_;intro aN dI jx fW;go_wp2_with fail;refine S1 ?_;intro a6 g c b o n c1 Oz Gr gn eI hn fr cK jF iY fc;go_wp2_with ((refine K1 rfl (.tmp 16) 107 9 5 rfl nK Da za rfl cK.aF ?_;intro s hs;subst hs));refine(Ej _ _ _ _).mono ?_;rintro e bA⟨he,iy⟩;rw[Oy]at he;subst he;have lr:bA.cell? (a6,0)=some ↑(bo 2):=iy.ag (by simp);have gM:bA.cell? (a6,1)=some ↑av:=iy.ag (by simp);refine X4 ?_;intro kM dV q1 dk K3 hy;clear iy gn eI hn fr c1;go_wp2_with fail;refine S2 ?_;intro EF hblk;refine ke (v:=.agg #[bo 2,av,s]) S3 rfl ⟨s,rfl,rfl,j5.jD (R:=(w:Nat)) (jF.ext hy) (Gq (S:=λx=>x=(w:Nat)) (aI.refl _ bA) (.inl rfl) _ _ _) hblk ah ah,Gq (EF.trans (aI.of hy)) (.inr (bJ _)) _ _ _⟩
 ·refine SX ?_;intro _;go_wp2_with fail;refine(oI p 3 (df (0)++(gY aF++xs)) _ SY Gm).mono ?_;refine SZ ?_;intro w1 di ih bE;go_wp2_with fail;refine(oI p (0) (gY aF++xs) _ di bF).mono ?_;refine S0 ?_;intro aN dI jx fW;go_wp2_with fail;refine S1 ?_;intro a6 g c b o n c1 Oz Gr gn eI hn fr cK jF iY fc;go_wp2_with ((refine K1 rfl (.tmp 16) 107 9 5 rfl nK Da za rfl cK.aF ?_;intro s hs;subst hs));refine(Ej _ _ _ _).mono ?_;rintro e bA⟨he,iy⟩;rw[Oy]at he;subst he;have lr:bA.cell? (a6,0)=some ↑(bo 3):=iy.ag (by simp);have gM:bA.cell? (a6,1)=some ↑av:=iy.ag (by simp);refine X4 ?_;intro kM dV q1 dk K3 hy;clear iy gn eI hn fr c1;go_wp2_with fail;refine S2 ?_;intro EF hblk;refine ke (v:=.agg #[bo 3,av,s]) S3 rfl ⟨s,rfl,rfl,j5.jD (R:=(w:Nat)) (jF.ext hy) (Gq (S:=λx=>x=(w:Nat)) (aI.refl _ bA) (.inl rfl) _ _ _) hblk ah ah,Gq (EF.trans (aI.of hy)) (.inr (bJ _)) _ _ _⟩
 ·refine SX ?_;intro _;go_wp2_with fail;refine(oI p 3 (df (1)++(gY aF++xs)) _ SY Gm).mono ?_;refine SZ ?_;intro w1 di ih bE;go_wp2_with fail;refine(oI p (1) (gY aF++xs) _ di bF).mono ?_;refine S0 ?_;intro aN dI jx fW;go_wp2_with fail;refine S1 ?_;intro a6 g c b o n c1 Oz Gr gn eI hn fr cK jF iY fc;go_wp2_with ((refine K1 rfl (.tmp 16) 107 9 5 rfl nK Da za rfl cK.aF ?_;intro s hs;subst hs));refine(Ej _ _ _ _).mono ?_;rintro e bA⟨he,iy⟩;rw[Oy]at he;subst he;have lr:bA.cell? (a6,0)=some ↑(bo 3):=iy.ag (by simp);have gM:bA.cell? (a6,1)=some ↑(bo 1):=iy.ag (by simp);refine X4 ?_;intro kM dV q1 dk K3 hy;clear iy gn eI hn fr c1;go_wp2_with fail;refine S2 ?_;intro EF hblk;refine ke (v:=.agg #[bo 3,bo 1,s]) S3 rfl ⟨s,rfl,rfl,j5.jD (R:=(w:Nat)) (jF.ext hy) (Gq (S:=λx=>x=(w:Nat)) (aI.refl _ bA) (.inl rfl) _ _ _) hblk ah ah,Gq (EF.trans (aI.of hy)) (.inr (bJ _)) _ _ _⟩
def Ar(p:Nat)(w:aC)(bB:j5 w p []):
  aS 132 #[p] w (cU (.bool true) w):=by
 obtain⟨b,o,n,aY,⟨_,fr,_⟩,X5,_⟩:=bB.ck;have cO:w.cell? (p,0)=some (.slice (some (b,o)) n n):=aL aY rfl;have c1:w.cell? (p,1)=some (.bool false):=aL aY rfl;obtain rfl:n=0:=X5.neq;go_enter func132,ntmps132;go_wp2;go_ret;refine⟨rfl,?_⟩;exact U
end Go.Proofs.YtfiiblnenhdlhaaGreat
