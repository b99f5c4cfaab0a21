/- Part. -/
import Derived.Test.YtfiiblnenhdlhaaGreatC5
set_option linter.unusedVariables false
set_option linter.unusedSimpArgs false
set_option linter.defProp false
set_option maxRecDepth 100000
set_option maxHeartbeats 4000000
namespace Go.Proofs.YtfiiblnenhdlhaaGreat
open Go.RowKit Tryz
variable {buf:Array Value}{y:DataW Unit×List MemPlace}{R bD:List ax}{au ps:List bU}{aU:List bb}{ts:List ca}{tx:List gy}{l:List hE}{eN:Lit}{B b bW base cap k kY n p q sz tm:Nat}{bT:Nat->Nat->List dv}{gq:Nat->Option dv}{D M O S:Nat->Prop}{fr:Nat×Nat}{a aA:Option Addr}{α:Type}{e t:TypeId}{key:Value}{w w':World}{i:ax}{c:bK}{x:bR}{d:bb}{r:e9}{s:ew}
def uE(v:V):List UInt8:=iK v.id++df (if v.lp=true then 1 else 0)
def kn(f:α->List UInt8)(l:List α):List UInt8:=df l.length++l.flatMap f
def af0(a:bl)(n cap:Nat)(xs:eg)(i:ax)(w:aC)(ar:a7 w 1 cr a n cap xs)(aK:dY i)(aq:n<=999900):
  aS 216 #[ao a n cap,i] w (qp 5 1 cr (xs++iK i) w):=by
 obtain⟨b,l,s⟩:=i;obtain⟨ad,a1,hs⟩:=aK;dsimp only at ad a1 hs ⊢;obtain⟨q,rfl⟩:∃q:Nat,b=(q:Int):=⟨b.toNat,J⟩;obtain⟨L,rfl⟩:∃q:Nat,l=(q:Int):=⟨l.toNat,by unfold nO at a1;omega⟩;obtain⟨S,rfl⟩:∃q:Nat,s=(q:Int):=⟨s.toNat,by unfold nO at hs;omega⟩;refine Tg ?_;intro eV EH;change aa _ at ar;go_enter func216,ntmps216;have afk:wrap64 (q:Int)=(q:Int):=by simp only[wrap64];omega
 go_wp2_with fail;refine(kh _ _ _ _ q _ ((ar.ext U)) qv J).mono ?_;rintro e w1⟨cE,da,_,rfl,c7,br⟩;have hA:da<=999910:=by
  have af:=c7.neq;have an:=hV q;have aO:=((ar.ext U)).neq;rw[c9]at af;omega
 have lP:w1.cell? (w,1)=some ↑(ae (L:Int)):=br.ag (by simp);have jE:w1.cell? (w,2)=some ↑(ae (S:Int)):=br.ag (by simp);change aa _ at c7 br;go_wp2_with fail;refine(kh _ _ _ _ L _ (c7.aF) qv J).mono ?_;rintro e _⟨ch,cF,_,rfl,cd,cn⟩;have kA:cF<=999920:=by
  have af:=cd.neq;have an:=hV L;have aO:=(c7.aF).neq;rw[c9]at af;omega
 exact ac7
def ar3(a:bl)(n cap:Nat)(xs:eg)(v:V)(w:aC)(ar:a7 w 1 cr a n cap xs)(a8:dY v.id)(aq:n<=999800):
  aS 212 #[ao a n cap,.agg #[v.id.b,ae v.id.l,ae v.id.s,v.lp]] w (qp 5 1 cr (xs++uE v) w):=by
 change aa _ at ar a8;have c3:=I ar.neq;obtain⟨id,lp⟩:=v;dsimp only at a8;cases lp with
 |true=>
   refine af1 ?_;intro _ _ w1 cE da c1 hA c7 br _ _;refine(kh _ _ _ _ 1 _ (c7.aF) qv J).mono ?_;exact af2
 |false=>
   refine af1 ?_;intro _ _ w1 cE da c1 hA c7 br _ _;refine(kh _ _ _ _ 0 _ (c7.aF) qv J).mono ?_;exact af2
def ar4(a:bl)(n cap:Nat)(xs:eg)(x:bR)(d:bb)(w:aC)(ar:a7 w 1 cr a n cap xs)(a8:hK w x d)(cJ:gZ d)(aq:n<=1000000):
  aS 214 #[ao a n cap,x] w (qp 5 1 cr (xs++gY (iL d)) w):=by
 change aa _ at ar a8 cJ;go_enter func214,ntmps214;go_wp2_with fail;refine(Yk x d _ (a8.ext U) cJ).mono ?_;rintro e _⟨cE,da,_,rfl,bu,bz⟩;have hA:da<=20000:=by rw[bu.neq];exact La cJ
 change aa _ at bu bz;go_wp2_with fail;refine(Iw _ _ _ _ _ _ _ _ _ (ar.ext U) bu.aF J J).mono ?_;rintro e _⟨ch,cF,c2,rfl,cd,bq⟩;change aa _ at cd bq;go_wp2;go_ret;exact⟨ch,cF,c2,rfl,cd.mono (aBw:=(w:Nat)) (Z.size U),U⟩
def af3(gv:bl)(n fP:Nat)(cz:eg)(a:bl)(m0 c:Nat)(xs:List ax)(w:aC)(bn:a7 w 1 cr gv n fP cz)(H:a7 w 3 ax.cs a m0 c xs)(e3:∀i,i∈xs->dY i)(aq:n+20100*xs.length+10<=999900):
  aS 215 #[ao gv n fP,ao a m0 c,.func (.func 216) #[] #[]] w (qp 5 1 cr (cz++kn iK xs) w):=by
 have xZ:∀x,x∈xs->(iK x).length<=20100:=λx _=>by have:=EI x;omega
 obtain rfl:=H.neq;have hm:=H.max;have a1:=H.len;unfold maxLen at hm;have af4:wrap64 (xs.length:Int)=(xs.length:Int):=by simp only[wrap64];omega
 change aa _ at H bn;go_enter func215,ntmps215;refine af5 ?_;intro w1 cE da c1 hA c7 br GZ _ _;go_loopg [0,16] (xs.length) (λg e4 st wr=>∃(k:Nat) (ab:bl) (m aR:Nat),g+k=xs.length/\e4=.slice ab m aR/\st=.int .i64 k/\m<=n+10+20100*k/\aa (aH wr w 5 1 cr ab m aR (cz++(df xs.length++(xs.take k).flatMap (iK))))/\aa (Z w wr));case atStart=>exact af6
 case round=>
  obtain⟨k,ab,m,aR,_,rfl,rfl,_,aJ,mB⟩:=hrel;by_cases hk:k<xs.length
  ·obtain⟨b,o,rfl,al⟩:=H.get k hk;obtain⟨_,c1,c2⟩:=Aj (w:=wr) (b:=b) (o:=o+k*3) (x:=xs[k]) (λj v aD=>mB.ag (al j v aD));refine jU ?_;intro b0 bf;go_wp2_with fail;refine(af0 _ _ _ _ _ _ (aJ.aF.ext U) (e3 _ (cT hk)) J).mono ?_;exact af7
  ·refine sy ?_;intro cb;rw[cb]at aJ;go_wp2;go_ret;exact⟨ab,m,aR,rfl,aJ,U⟩
def ar5(gv:bl)(n fP:Nat)(cz:eg)(a:bl)(m0 c:Nat)(xs:List V)(w:aC)(bn:a7 w 1 cr gv n fP cz)(H:a7 w 4 V.cs a m0 c xs)(e3:∀v,v∈xs->dY v.id)(aq:n+20100*xs.length+10<=999800):
  aS 211 #[ao gv n fP,ao a m0 c,.func (.func 212) #[] #[]] w (qp 5 1 cr (cz++kn uE xs) w):=by
 have xZ:∀x,x∈xs->(uE x).length<=20100:=λx _=>by have:=EI x.id;have:=hV (if x.lp=true then 1 else 0);unfold uE;rw[c9];omega
 obtain rfl:=H.neq;have hm:=H.max;have a1:=H.len;unfold maxLen at hm;have af4:wrap64 (xs.length:Int)=(xs.length:Int):=by simp only[wrap64];omega
 change aa _ at H bn;go_enter func211,ntmps211;refine af5 ?_;intro w1 cE da c1 hA c7 br GZ _ _;go_loopg [0,16] (xs.length) (λg e4 st wr=>∃(k:Nat) (ab:bl) (m aR:Nat),g+k=xs.length/\e4=.slice ab m aR/\st=.int .i64 k/\m<=n+10+20100*k/\aa (aH wr w 5 1 cr ab m aR (cz++(df xs.length++(xs.take k).flatMap (uE))))/\aa (Z w wr));case atStart=>exact af6
 case round=>
  obtain⟨k,ab,m,aR,_,rfl,rfl,_,aJ,mB⟩:=hrel;by_cases hk:k<xs.length
  ·obtain⟨b,o,rfl,al⟩:=H.get k hk;obtain⟨_,c1,c2,_⟩:=NS (w:=wr) (b:=b) (o:=o+k*4) (x:=xs[k]) (λj v aD=>mB.ag (al j v aD));refine jU ?_;intro b0 bf;go_wp2_with fail;refine(ar3 _ _ _ _ _ _ (aJ.aF.ext U) (e3 _ (cT hk)) J).mono ?_;exact af7
  ·refine sy ?_;intro cb;rw[cb]at aJ;go_wp2;go_ret;exact⟨ab,m,aR,rfl,aJ,U⟩
def Z8(gv:bl)(n fP:Nat)(cz:eg)(a:bl)(m0 c:Nat)(aU:List bb)(w:aC)(bj:a7 w 1 cr gv n fP cz)(h:xr w a m0 c aU)(e3:∀d,d∈aU->gZ d)(aq:n+20100*aU.length+10<=999800):
  aS 213 #[ao gv n fP,ao a m0 c,.func (.func 214) #[] #[]] w (qp 5 1 cr (cz++kn (λd=>gY (iL d)) aU) w):=by
 obtain⟨xs,h,eL,rfl⟩:=h;change aa _ at eL;have xZ:∀x,x∈xs->(gY (iL x.d)).length<=20100:=λx X=>by have:=La (e3 _ (nH X));rw[y8];have:=xP (iL x.d).length;omega
 rw[cx]at aq;have dU:kn (λd=>gY (iL d)) (xs.map (·.d))=kn (λp:bU=>gY (iL p.d)) xs:=by unfold kn;rw[cx,List.flatMap_map]
 rw[dU];obtain rfl:=h.neq;have hm:=h.max;have a1:=h.len;unfold maxLen at hm;have H:=I h;change aa _ at bj;have af4:wrap64 (xs.length:Int)=(xs.length:Int):=by simp only[wrap64];omega
 go_enter func213,ntmps213;go_wp2_with fail;refine(kh _ _ _ _ xs.length _ ((bj.out.ext U)) qv J).mono ?_;rintro e _⟨cE,da,c1,rfl,aM,ad⟩;have hA:da<=n+10:=by
  have af:=aM.neq;have an:=hV xs.length;have aO:=((bj.out.ext U)).neq;rw[c9]at af;omega
 have c7:=I aM;have br:=I ad;have GZ:=hA;go_wp2_with fail;go_loopg [0,16] (xs.length) (λg e4 st wr=>∃(k:Nat) (ab:bl) (m aR:Nat),g+k=xs.length/\e4=.slice ab m aR/\st=.int .i64 k/\m<=n+10+20100*k/\aa (aH wr w 5 1 cr ab m aR (cz++(df xs.length++(xs.take k).flatMap (λp:bU=>gY (iL p.d)))))/\aa (Z w wr));case atStart=>exact⟨0,_,_,_,J,rfl,rfl,J,(by rw[EC,Th,nc];exact c7.out.mono (aBw:=(w:Nat)) (Z.size U)),U⟩
 case round=>
  obtain⟨k,ab,m,aR,_,rfl,rfl,_,aJ,mB⟩:=hrel;by_cases hk:k<xs.length
  ·obtain⟨b,o,rfl,al⟩:=H.out.get k hk;obtain⟨_,_,c2,_,_,_,_,_⟩:=nh (w:=wr) (b:=b) (o:=o+k*8) (x:=xs[k].x) (λj v aD=>mB.out.ag (al j v aD));refine jU ?_;intro b0 bf;go_wp2_with fail;refine(ar4 _ _ _ _ _ xs[k].d _ (aJ.out.aF.ext U) ((eL.out _ (cT hk)).ext U) (e3 _ (nH (cT hk))) J).mono ?_;rintro e _⟨ch,cF,_,rfl,aM,ad⟩;have kA:cF<=n+10+20100*(k+1):=by
    have af:=aM.neq;have an:=aJ.out.neq;have aO:=xZ xs[k] (cT hk);rw[c9,<-an]at af;omega
   have cd:=I (aM.mono (aBw:=(w:Nat)) (Z.size U));change aa _ at ad;exact af8
  ·refine sy ?_;intro cb;rw[cb]at aJ;go_wp2;go_ret;exact⟨ab,m,aR,rfl,aJ.out,U⟩
def re(d:bb):List UInt8:=gY (iL d)
def qe(m:dv):List UInt8:=
 df m.k.toNat++(df m.h++(if m.k=1 then kn uE m.vs++kn re m.dq else kn re m.aX++(kn re m.ps++(kn iK m.aB++kn iK m.aU))))
def B1{f:α->eg}{l:List α}(h:∀x,x∈l->(f x).length<=B):(kn f l).length<=9+B*l.length:=by
 unfold kn;rw[c9];have af:=hV l.length;have an:(l.flatMap f).length<=B*l.length:=by
  clear af;induction l with
  |nil=>simp
  |cons x l cY=>
   rw[ny,c9,me,Nat.mul_succ];have:=h x o1;have:=cY (λy hy=>h y (ni _ hy));omega
 omega
def LW(h:gZ d):(re d).length<=20100:=by
 unfold re;rw[y8];have:=La h;have:=xP (iL d).length;omega
def af9(v:V):(uE v).length<=40:=by
 unfold uE;rw[c9];have:=EI v.id;have:=hV (if v.lp=true then 1 else 0);omega
def ar6(x:kz)(m:dv)(w:aC)(h:tP w x m)(hm:rb m):aS 147 #[x] w (xe (qe m) w):=by
 have H:=I h;have bF:=I hm;have b6:=I h.k;have oA:=I h.h;have j4:=hm.oP;have Aa:=I (show m.k=1\/m.k=2 by rcases j4 with ⟨k,_⟩|⟨k,_⟩<;>omega);clear h hm j4;go_enter func147,ntmps147;go_wp2_with fail;refine(Z7 x m _ (H.out.ext U) bF.out).mono ?_;rintro e w1⟨rfl,ad⟩;have eI:=ad.ay (show(w.alloc x).heap[(w:Nat)]?=some (x:Obj)from e2 rfl);have n9:=I eI;have bz:=I ad;clear ad;have z0:=aL (o:=0) eI rfl;have cZ:=aL (o:=1) eI rfl;have z2:=aL (o:=2) eI rfl;have z3:=aL (o:=3) eI rfl;have z4:=aL (o:=4) eI rfl;have z5:=aL (o:=5) eI rfl;have gx:=aL (o:=6) eI rfl;have fE:=aL (o:=7) eI rfl;clear eI;replace z0:w1.cell? (w,0)=some ↑m.k:=by rw[z0,<-b6.out];rfl
 replace cZ:w1.cell? (w,1)=some ↑(ae (m.h:Int)):=by rw[cZ,<-oA.out];rfl
 rcases Aa.out with ho|ho
 ·rw[ho]at z0;change aa _ at ho;go_wp2_with fail;go_region_held3 (λw'=>w'.cell? (w,0)=some ↑(bo 1)/\w'.cell? (w,1)=some ↑(ae (m.h:Int))) (first|(go_split_ands;refine⟨?_,?_⟩<;>exact(Hid.out hy).ag (by assumption))|go_keep) (first|(go_at_call 197;refine(kh _ _ _ [] 1 _ (a7.nil _ cr.bI) awr J).mono ?_;rintro e aN⟨ch,cF,c2,rfl,aM,ad⟩;have kA:cF<=10:=(by rw[aM.neq,mN];have:=hV 1;omega);have cd:=I aM;have hy:=I ad;have cn:=I ad;clear aM ad)|(go_at_call 197;refine(kh _ _ _ _ m.h _ (cd.out.aF.ext U) bF.out.h J).mono ?_;rintro e a6⟨a3,fI,cV,rfl,aM,ad⟩;have cK:=I aM;have hy:=I ad;have dz:=I ad;clear aM ad));have hL:=dz.out.ay (cn.out.ay (show w1.drew.heap[(w:Nat)]?=some (x:Obj)from n9.out));have oJ:=I hL;clear z0 cZ z2 z3 z4 z5 gx fE;have z0:=aL (o:=0) hL rfl;have z2:=aL (o:=2) hL rfl;have z3:=aL (o:=3) hL rfl;have z4:=aL (o:=4) hL rfl;have z5:=aL (o:=5) hL rfl;have gx:=aL (o:=6) hL rfl;have fE:=aL (o:=7) hL rfl;replace z0:a6.cell? (w,0)=some ↑(bo 1):=by rw[z0,<-ho.out,<-b6.out];rfl
  clear hL;have v8:fI<=30:=by
   have af:=cK.out.neq;have an:=hV m.h;have bt:=cd.out.neq;rw[c9,<-bt]at af;omega
  go_wp2_with fail;refine(ar5 _ _ _ _ _ _ _ m.vs _ (cK.out.aF.ext U) (H.out.v.ext U) bF.out.vs.2 (by have:=bF.out.vs.1;omega)).mono ?_;rintro e cB⟨a4,mz,dF,rfl,aM,ad⟩;have De:mz<=fI+9+40*16:=by
   have af:=aM.neq;have an:=B1 (f:=uE) (l:=m.vs) (λv _=>af9 v);have aO:=cK.out.neq;have bt:(m.vs).length<=16:=bF.out.vs.1;rw[c9,<-aO]at af;have cC:=Nat.mul_le_mul_left 40 bt;omega
  have ed:=I aM;have eQ:=I ad;have ib:=ad.ay oJ.out;have AS:=I ib;clear z0 z2 z3 z4 z5 gx fE;have z0:=aL (o:=0) ib rfl;have z3:=aL (o:=3) ib rfl;have z4:=aL (o:=4) ib rfl;have z5:=aL (o:=5) ib rfl;have gx:=aL (o:=6) ib rfl;have fE:=aL (o:=7) ib rfl;clear aM ad ib;go_wp2_with fail;refine(Z8 _ _ _ _ _ _ _ m.dq _ (ed.out.aF.ext U) (H.out.q.ext U) bF.out.dq.2 (by have:=bF.out.dq.1;omega)).mono ?_;rintro e bA⟨a5,hM,dH,rfl,aM,ad⟩;have Yi:hM<=mz+9+20100*16:=by
   have af:=aM.neq;have an:=B1 (f:=λd=>gY (iL d)) (l:=m.dq) (λd aG=>LW (bF.out.dq.2 d aG));have aO:=ed.out.neq;have bt:(m.dq).length<=16:=bF.out.dq.1;rw[c9,<-aO]at af;have cC:=Nat.mul_le_mul_left 20100 bt;omega
  change aa _ at aM;have ez:=I ad;have k6:=ad.ay AS.out;have B2:=I k6;clear z0 z3 z4 z5 gx fE;have z0:=aL (o:=0) k6 rfl;have z4:=aL (o:=4) k6 rfl;have z5:=aL (o:=5) k6 rfl;have gx:=aL (o:=6) k6 rfl;have fE:=aL (o:=7) k6 rfl;clear ad k6;go_wp2;go_ret2;refine⟨a5,hM,dH,rfl,?_,U⟩;have h:=aM.out.mono (aBw:=(w:Nat)) (Z.size U);unfold qe;rw[ho.out,bc rfl];rw[mN]at h;exact IA
 ·rw[ho]at z0;change aa _ at ho;go_wp2_with fail;go_region_held3 (λw'=>w'.cell? (w,0)=some ↑(bo 2)/\w'.cell? (w,1)=some ↑(ae (m.h:Int))) (first|(go_split_ands;refine⟨?_,?_⟩<;>exact(Hid.out hy).ag (by assumption))|go_keep) (first|(go_at_call 197;refine(kh _ _ _ [] 2 _ (a7.nil _ cr.bI) awr J).mono ?_;rintro e _⟨ch,cF,_,rfl,aM,ad⟩;have kA:cF<=10:=(by rw[aM.neq,mN];have:=hV 2;omega);have cd:=I aM;have hy:=I ad;have cn:=I ad;clear aM ad)|(go_at_call 197;refine(kh _ _ _ _ m.h _ (cd.out.aF.ext U) bF.out.h J).mono ?_;rintro e a6⟨a3,fI,_,rfl,aM,ad⟩;have cK:=I aM;have hy:=I ad;have dz:=I ad;clear aM ad));have hL:=dz.out.ay (cn.out.ay (show w1.drew.heap[(w:Nat)]?=some (x:Obj)from n9.out));have oJ:=I hL;clear z0 z4 z5 gx fE;have z0:=aL (o:=0) hL rfl;have z4:=aL (o:=4) hL rfl;have z5:=aL (o:=5) hL rfl;have gx:=aL (o:=6) hL rfl;have fE:=aL (o:=7) hL rfl;replace z0:a6.cell? (w,0)=some ↑(bo 2):=by rw[z0,<-ho.out,<-b6.out];rfl
  clear hL;have v8:fI<=30:=by
   have af:=cK.out.neq;have an:=hV m.h;have bt:=cd.out.neq;rw[c9,<-bt]at af;omega
  go_wp2_with fail;refine(Z8 _ _ _ _ _ _ _ m.aX _ (cK.out.aF.ext U) (H.out.e.ext U) bF.out.aX.2 (by have:=bF.out.aX.1;omega)).mono ?_;rintro e _⟨a4,mz,_,rfl,aM,ad⟩;have De:mz<=fI+9+20100*16:=by
   have af:=aM.neq;have an:=B1 (f:=λd=>gY (iL d)) (l:=m.aX) (λd aG=>LW (bF.out.aX.2 d aG));have aO:=cK.out.neq;have bt:(m.aX).length<=16:=bF.out.aX.1;rw[c9,<-aO]at af;omega
  have ed:=I aM;have eQ:=I ad;have ib:=ad.ay oJ.out;have AS:=I ib;clear z0 z4 z5 gx fE;have z5:=aL (o:=5) ib rfl;have gx:=aL (o:=6) ib rfl;have fE:=aL (o:=7) ib rfl;clear aM ad ib;go_wp2_with fail;refine(Z8 _ _ _ _ _ _ _ m.ps _ (ed.out.aF.ext U) (H.out.p.ext U) bF.out.ps.2 (by have:=bF.out.ps.1;omega)).mono ?_;rintro e _⟨a5,hM,_,rfl,aM,ad⟩;have Yi:hM<=mz+9+20100*16:=by
   have af:=aM.neq;have an:=B1 (f:=λd=>gY (iL d)) (l:=m.ps) (λd aG=>LW (bF.out.ps.2 d aG));have aO:=ed.out.neq;have bt:(m.ps).length<=16:=bF.out.ps.1;rw[c9,<-aO]at af;omega
  have hq:=I aM;have ez:=I ad;have k6:=ad.ay AS.out;have B2:=I k6;clear z5 gx fE;have gx:=aL (o:=6) k6 rfl;have fE:=aL (o:=7) k6 rfl;clear aM ad k6;go_wp2_with fail;refine(af3 _ _ _ _ _ _ _ m.aB _ (hq.out.aF.ext U) (H.out.b.ext U) bF.out.aB.2 (by have:=bF.out.aB.1;omega)).mono ?_;rintro e _⟨r7,n6,_,rfl,aM,ad⟩;have Df:n6<=hM+9+27*16:=by
   have af:=aM.neq;have an:=B1 (f:=iK) (l:=m.aB) (λi _=>EI i);have aO:=hq.out.neq;have bt:(m.aB).length<=16:=bF.out.aB.1;rw[c9,<-aO]at af;omega
  have k5:=I aM;have ic:=I ad;have pC:=ad.ay B2.out;have ar7:=I pC;clear gx fE;have fE:=aL (o:=7) pC rfl;clear aM ad pC;go_wp2_with fail;refine(af3 _ _ _ _ _ _ _ m.aU _ (k5.out.aF.ext U) (H.out.d.ext U) bF.out.aU.2 (by have:=bF.out.aU.1;omega)).mono ?_;rintro e _⟨nP,n7,eM,rfl,aM,ad⟩;change aa _ at aM;have il:=I ad;have uj:=ad.ay ar7.out;clear fE;clear ad uj;go_wp2;go_ret2;refine⟨nP,n7,eM,rfl,?_,U⟩;have h:=aM.out.mono (aBw:=(w:Nat)) (Z.size U);unfold qe;rw[ho.out,aV ah];rw[mN]at h;exact IA
section
structure mF (w:World) (q p:Nat) (L:Int) (xs:List UInt8):Prop where
 box:w.heap[q]?=some (.cells #[p,L,.bool false] 314 (0,0))
 ht:j5 w p xs
section
variable {w w':World}{q p R:Nat}{L:Int}{xs ys:List UInt8}
def mF.gT(h:mF w q p L xs):q≠p:=by
 obtain⟨b,o,n,af,_⟩:=h.ht.ck;rintro rfl;have:=h.box.symm.trans af;simp at this
def mF.ext(h:mF w q p L xs)(X:Z w w'):mF w' q p L xs:=⟨X.ay h.box,h.ht.ext X⟩
def mF.oK(h:mF w q p L xs)(az:j5 w' p ys)(aj:aI (·=p) w w'):mF w' q p L ys:=⟨(aj.block _ (bZ h.box) h.gT).trans h.box,az⟩
def mF.jD{cs:Array Value}(h:mF w q p L xs)(aj:aI (·=R) w w')(bB:w.heap[R]?=some (.cells cs t fr))(af:t≠274)(an:t≠5)(aO:t≠314):mF w' q p L xs:=by
 refine⟨(aj.block _ (bZ h.box) ?_).trans h.box,h.ht.jD aj bB af an⟩;rintro rfl;have:=h.box.symm.trans bB;simp only[Option.some.injEq,Obj.cells.injEq]at this;exact aO this.2.1.symm
end
def Jp(q p m lim:Nat)(L:Int)(xs:eg)(w:aC)(H:mF w q p L (df m++xs))(hm:m<lim)(a1:lim<=1000):
  aS 231 #[q,ae (lim:Int)] w λe w'=>e=.returned (ae (m:Int))/\mF w' q p L xs/\aI (·=p) w w':=by
 change aa _ at H;obtain⟨cO,c1,c2⟩:=jm (H.box);have Pg:¬(lim:Int)<=(m:Int):=J;go_enter func231,ntmps231;go_wp2_with fail;refine(oI p m xs _ H.ht awr).mono ?_;rintro e _⟨rfl,H1,dg⟩;change aa _ at H1 dg;clear cO c1 c2;go_wp2;go_ret;exact⟨rfl,H.oK H1 dg,dg⟩
def aga(dV p:Nat)(Z9:Int)(i:ax)(xs:eg)(w:aC)(cw:mF w dV p Z9 (iK i++xs))(aK:dY i):
  Calls prog 237 #[dV] w λe w'=>e=.returned (.agg #[i.b,ae i.l,ae i.s])/\mF w' dV p Z9 xs/\aI (·=p) w w':=by
 obtain⟨b,l,s⟩:=i;obtain⟨ad,a1,hs⟩:=aK;dsimp only at ad a1 hs ⊢;obtain⟨q,rfl⟩:∃q:Nat,b=(q:Int):=⟨b.toNat,J⟩;obtain⟨L,rfl⟩:∃q:Nat,l=(q:Int):=⟨l.toNat,by unfold nO at a1;omega⟩;obtain⟨S,rfl⟩:∃q:Nat,s=(q:Int):=⟨s.toNat,by unfold nO at hs;omega⟩;refine Tg ?_;intro eV EH;unfold iK at cw;simp only[ig,kN]at cw;have aY:=cw.ht.lt;change aa _ at cw;clear a1 hs;go_enter func237,ntmps237;go_wp2_with fail;refine(Jp dV p q 16 Z9 (df L++(df S++xs)) _ (cw.ext U) J ah).mono ?_;rintro e w1⟨rfl,di,ur⟩;have ks:w1.heap[(w:Nat)]?=some (hr:Obj):=(ur.block _ (by simp) J).trans (mu _ _);have BE:=di.ht.lt;have ih:aI (·=p) w w1:=((aI.refl _ w).alloc _).trans ur;have afk:IntKind.i64.wrap (q:Int)=(q:Int):=by simp only[IntKind.wrap_i64];omega
 obtain⟨cO,c1,c2⟩:=jm ((di.ext ((Z.refl w1).alloc (.cells #[(q:Int),aw,aw] 54))).box);change aa _ at di ih ks;clear ur;go_wp2_with fail;refine(oI p L (df S++xs) _ (di.ext U).ht eV).mono ?_;rintro e aN⟨rfl,agb,e8⟩;have mQ:=(di.ext ((Z.refl w1).alloc (.cells #[(q:Int),aw,aw] 54))).oK agb e8;refine adb ?_;intro tz tA;have pO:aI (·=p) w aN:=(ih.alloc _).trans e8;have fj:=ih.size;have jx:aI (·=p) w (aN.setCell ⟨w1.heap.size,1,none⟩ (.int .u64 (L:Int))):=pO.setCell ⟨w1.heap.size,1,none⟩ (.inr fj) _;have lV:aI (λx=>x=w1.heap.size) aN (aN.setCell ⟨w1.heap.size,1,none⟩ (.int .u64 (L:Int))):=aI.setCell (S:=λx=>x=w1.heap.size) (aI.refl _ aN) ⟨w1.heap.size,1,none⟩ (.inl rfl) _;have dI:=mQ.jD lV tA ah ah ah;clear cO c1 c2 agb;obtain⟨cO,c1,c2⟩:=jm (dI.box);obtain⟨cA,cR,cS,ff⟩:=qu (show aN.heap[(w1:Nat)]?=some (.cells #[(q:Int),aw,aw] _ _)from tA);have Dg:=bZ tA;have dj:¬(w:Nat)=(w1:Nat):=vc (bZ ks);change aa _ at dI jx lV tz tA;clear mQ e8 pO;go_wp2_with fail;refine(oI p S xs _ dI.ht EH).mono ?_;rintro e a6⟨rfl,agc,h8⟩;have jF:=dI.oK agc h8;have IH:a6.heap[(w1:Nat)]?=some (.cells #[(q:Int),ae (L:Int),aw] 54):=(h8.block _ (fQ Dg lV.size) J).trans (en tA 1 _);have EJ:a6.heap[(w:Nat)]?=some (hr:Obj):=(h8.block _ (fQ (bZ tz) lV.size) J).trans ((lV.block _ (bZ tz) dj).trans tz);have iY:=jx.trans h8;clear cA cR cS ff cO c1 c2 agc;obtain⟨_,_,_,_⟩:=qu (show a6.heap[(w1:Nat)]?=some (.cells #[(q:Int),ae (L:Int),aw] _ _)from IH);obtain⟨z0,cZ,z2,_⟩:=qu (show a6.heap[(w:Nat)]?=some (.cells #[av,aw,aw] _ _)from EJ);change aa _ at jF iY EJ IH;clear h8;go_wp2_with fail;refine adf ?_;intro zf;have oJ:=jF.jD zf IH ah ah ah;have hL:=(zf.block _ (bZ EJ) dj).trans EJ;refine ke (v:=.agg #[(q:Int),ae (L:Int),ae (S:Int)]) (by simp[results,results237,go_sem,z0,cZ,z2,dj]) rfl ⟨rfl,oJ.jD (xS (S:=λx=>x=w.heap.size) (aI.refl _ _) (R:=w.heap.size) (.inl rfl) 0 1 2 _ _ _) hL ah ah ah,xS (iY.setCell ⟨w1.heap.size,2,none⟩ (.inr fj) _) (.inr (bJ _)) 0 1 2 _ _ _⟩
end
def ar8(q p:Nat)(L:Int)(v:V)(xs:eg)(w:aC)(cw:mF w q p L (uE v++xs))(a8:dY v.id):
  Calls prog 233 #[q] w λe w'=>e=.returned (.agg #[v.id.b,ae v.id.l,ae v.id.s,v.lp])/\mF w' q p L xs/\aI (·=p) w w':=by
 obtain⟨i,y⟩:=v;dsimp only at a8 ⊢;unfold uE at cw;rw[ig]at cw;have aY:=cw.ht.lt;change aa _ at cw a8;go_enter func233,ntmps233;go_wp2_with fail;refine(aga q p L i _ _ (cw.ext U) a8).mono ?_;rintro e w1⟨rfl,di,ur⟩;have ks:w1.heap[(w:Nat)]?=some (.cells #[av,aw,aw,.bool false] 294):=(ur.block _ (by simp) J).trans (mu _ _);have ih:aI (·=p) w w1:=((aI.refl _ w).alloc _).trans ur;change aa _ at di ih ks;go_wp2_with fail;refine(Jp q p _ 2 L xs _ (di.ext U) (by split<;>decide) ah).mono ?_;rintro e aN⟨rfl,mQ,e8⟩;have tz:=(e8.block _ (by have:=bZ ks;simp;omega) J).trans ((((Z.refl w1).alloc (.cells #[i.b,ae i.l,ae i.s,.bool false] 294)).block _ (bZ ks)).trans ks);have tA:aN.heap[(w1:Nat)]?=some (.cells #[i.b,ae i.l,ae i.s,.bool false] 294):=(e8.block _ (by simp) (by have:=ih.size;omega)).trans (mu _ _);have jx:aI (·=p) w aN:=(ih.alloc _).trans e8;have fj:=ih.size;have dj:¬(w:Nat)=(w1:Nat):=vc (bZ ks);have dI:=I ((di.ext ((Z.refl w1).alloc (.cells #[i.b,ae i.l,ae i.s,.bool false] 294))).oK mQ.ht e8);obtain⟨_,_,_,_⟩:=oX tA;obtain⟨z0,cZ,z2,z3⟩:=oX tz;have ff:∀j,aN.frozen? ⟨(w1:Nat),j,none⟩=false:=λj=>nM tA;have mT:∀j,aN.frozen? ⟨(w:Nat),j,none⟩=false:=λj=>nM tz;change aa _ at jx tz tA;cases y with
 |true=>
  rw[bc rfl];go_wp2_with fail;have zf:aI (λx=>x=(w1:Nat)) aN (aN.setCell (w1,3) (.bool true)):=aI.setCell (S:=λx=>x=(w1:Nat)) (aI.refl _ aN) (w1,3) (.inl rfl) _;have oJ:=dI.jD zf tA ah ah ah;have hL:=(zf.block _ (bZ tz) dj).trans tz;refine ke (v:=.agg #[i.b,ae i.l,ae i.s,.bool true]) (by simp[results,results233,go_sem,z0,cZ,z2,z3,dj]) rfl ⟨rfl,oJ.jD (Dt (S:=λx=>x=w.heap.size) (aI.refl _ _) (R:=w.heap.size) (.inl rfl) _ _ _ _) hL ah ah ah,Dt (jx.setCell ⟨w1.heap.size,3,none⟩ (.inr fj) _) (.inr (bJ _)) _ _ _ _⟩
 |false=>
  rw[aV ah];go_wp2_with fail;have zf:aI (λx=>x=(w1:Nat)) aN (aN.setCell (w1,3) (.bool false)):=aI.setCell (S:=λx=>x=(w1:Nat)) (aI.refl _ aN) (w1,3) (.inl rfl) _;have oJ:=dI.jD zf tA ah ah ah;have hL:=(zf.block _ (bZ tz) dj).trans tz;refine ke (v:=.agg #[i.b,ae i.l,ae i.s,.bool false]) (by simp[results,results233,go_sem,z0,cZ,z2,z3,dj]) rfl ⟨rfl,oJ.jD (Dt (S:=λx=>x=w.heap.size) (aI.refl _ _) (R:=w.heap.size) (.inl rfl) _ _ _ _) hL ah ah ah,Dt (jx.setCell ⟨w1.heap.size,3,none⟩ (.inr fj) _) (.inr (bJ _)) _ _ _ _⟩
def fU.agd{cs:Array Value}(h:fU w base x d)(ad:w.heap[B]?=some (.cells cs 66 fr))(aj:aI (λx=>x=B) w w'):fU w' base x d:=
 let ⟨ys,q,o,a⟩:=h.e
 ⟨h.k,h.id,h.c,h.u,aj.bS h.f (h.f.eW ad ah),ys,q,aj.bS o (o.eW ad ah),λy hy=>aj.bS (a y hy) ((a y hy).eW ad ah)⟩
def ar9(q p:Nat)(L:Int)(d:bb)(xs:eg)(w:aC)(cw:mF w q p L (gY (iL d)++xs))(cJ:gZ d)(bg:((iL d).length:Int)<=L/\L<=10000000):
  aS 235 #[q] w λe w'=>∃x:bR,e=.returned (.agg #[x.k,x.id.b,ae x.id.l,ae x.id.s,x.c,ae x.u,x.f,x.e])/\fU w' w x d/\mF w' q p L xs/\aI (·=p) w w':=by
 have aY:=cw.ht.lt;replace cw:=I cw;replace cJ:=I cJ;replace bg:=I bg;go_enter func235,ntmps235;go_wp2_with fail;have iN:=I (cw.ext (((Z.refl w).alloc qJ).drew));have iC:aa ((w.alloc qJ).drew.heap[(w:Nat)]?=some (qJ:Obj)):=e2 rfl;have xf:aa (aI (·=p) w (w.alloc qJ).drew):=((aI.refl _ w).alloc _).drew;have Jq:(w.alloc qJ).drew.heap.size=(w:Nat)+1:=by simp[World.drew]
 refine sX (λw'=>w'.heap[q]?=some (.cells #[p,L,.bool false] 314)) (λbd=>?_) (by(try dsimp only);exact iN.box);generalize (w.alloc qJ).drew=bh at iN iC xf Jq bd ⊢;replace Jq:=I Jq;refine AU ?_;refine l0 3 id ?_;refine Jr ?_;refine l0 7 id ?_;refine zE (rs:= [8,13]) bQ (by simp) ?_;refine AllReadyH.cons rfl (λK aE=>?_) (AllReadyH.cons rfl (λK aE=>?_) AllReadyH.nil)
 ·skip;go_simp;go_at_call 130;refine(EE p L (iL d) xs _ (iN).ht (by have:=bg.out.1;omega) bg.out.1 bg.out.2).mono ?_;rintro e bA⟨g5,dH,rfl,x0,jy,ra⟩;have B2:=I ((iN).oK jy ra);have yl:=I x0.aF;replace ra:=I ra;clear x0 jy;refine aE _ _ (by(try dsimp only);exact B2.box) λbd=>ej ?_;have PG:=I ((ra.block _ (by have:=Jq.out;omega) J).trans iC);have pG:=I (xf.trans ra);have PH:(w:Nat)<(bA:Nat):=bZ PG;refine zE (rs:= [9,13]) bQ (by simp) ?_;refine AllReadyH.cons rfl (λK aE=>?_) (AllReadyH.cons rfl (λK aE=>?_) AllReadyH.nil)
  ·skip;refine age ?_;intro c4 x xt sk bd;refine h9 13 λK aE=>?_;go_simp;refine aE _ _ (by(try dsimp only);exact((B2.ext sk).ext ((Z.refl c4).alloc qJ)).box) λbd=>ej ?_;have Uw:=sk.size;have bx:(c4.alloc qJ).heap[(c4:Nat)]?=some (qJ:Obj):=e2 rfl;have ix:Z bA (c4.alloc qJ):=sk.alloc _;have dX:fU (c4.alloc qJ) w x d:=(xt.mono J).ext ((Z.refl c4).alloc _);have fH:(w:Nat)<(c4:Nat):=J;generalize (c4.alloc qJ)=dR at bx ix dX bd ⊢;generalize (c4:Nat)=B at bx fH bd ⊢;exact a'
  ·skip;go_simp;refine aE _ _ (by(try dsimp only);exact(B2.ext ((Z.refl bA).alloc qJ)).box) λbd=>ej ?_;have Fb:(bA.alloc qJ).heap[(bA:Nat)]?=some (qJ:Obj):=e2 rfl;have Js:Z bA (bA.alloc qJ):=(Z.refl bA).alloc _;have Uw:=Js.size;generalize (bA.alloc qJ)=aAt at Fb Js Uw bd ⊢;have b3:=I Js;refine h9 9 λK aE=>?_;go_simp;go_at_call 129;refine(Tk _ _ _ d _ (yl.ext b3) cJ (by have:=La cJ;omega)).mono ?_;rintro e c4⟨x,rfl,xt,sk⟩;replace xt:=I xt;replace sk:=I sk;refine aE _ _ (by(try dsimp only);exact((B2.ext b3).ext sk).box) λbd=>ej ?_;refine Ux ?_;have bx:=sk.ay Fb;have ix:Z bA c4:=b3.trans sk;have dX:fU c4 w x d:=xt.mono J;have fH:(w:Nat)<(bA:Nat):=J;generalize c4=dR at bx ix dX bd ⊢;generalize (bA:Nat)=B at bx fH bd ⊢;exact a'
 ·skip;go_simp;refine aE _ _ (by(try dsimp only);exact(iN.ext ((Z.refl bh).alloc qJ)).box) λbd=>ej ?_;have Fb:(bh.alloc qJ).heap[(bh:Nat)]?=some (qJ:Obj):=e2 rfl;have Js:Z bh (bh.alloc qJ):=(Z.refl bh).alloc _;have Uw:=Js.size;generalize (bh.alloc qJ)=aAu at Fb Js Uw bd ⊢;have b3:=I Js;refine h9 8 λK aE=>?_;go_simp;go_at_call 130;refine(EE p L (iL d) xs _ (iN.ext b3).ht (by have:=bg.out.1;omega) bg.out.1 bg.out.2).mono ?_;rintro e bA⟨_,_,rfl,x0,jy,ra⟩;have B2:=I ((iN.ext b3).oK jy ra);have yl:=I x0.aF;replace ra:=I ra;clear x0 jy;refine aE _ _ (by(try dsimp only);exact B2.box) λbd=>ej ?_;have Ai:=(ra.block _ (bZ Fb) (by have:=Jq.out;omega)).trans Fb;have PG:=I ((ra.block _ (by have:=Jq.out;omega) J).trans (b3.ay iC));have pG:=I ((xf.trans (.of b3)).trans ra);have PH:(w:Nat)<(bA:Nat):=bZ PG;refine h9 9 λK aE=>?_;refine age ?_;intro c4 x xt sk bd;have bx:=sk.ay Ai;have ix:Z bA c4:=sk.out;have dX:fU c4 w x d:=xt.mono J;have fH:(w:Nat)<(bh:Nat):=by have:=Jq.out;omega
  generalize c4=dR at bx ix dX bd ⊢;generalize (bh:Nat)=B at bx fH bd ⊢;exact a'
def asa:(prog.info? 294).map (λi=>(i.zero,i.size,i.bytes))=some (some (.agg #[av,aw,aw,.bool false]),4,32):=bQ
def mF.grow{g:Nat}{L:Int}{xs:eg}{c:α->List Value}{ys:List α}(h:mF w q p L xs)(bC:lL w w' aA g)(aM:aH w base e sz c aA n cap ys)(af:e≠274)(an:e≠5)(aO:e≠314):mF w' q p L xs:=by
 obtain⟨b,o,m,bH,⟨cs,fr,dJ⟩,b1,eG⟩:=h.ht.ck;have kT:=bC.ay dJ (λai ak=>aM.eW dJ an ai ak);exact⟨bC.ay h.box (λai ak=>aM.eW h.box aO ai ak),b,o,m,bC.ay bH (λai ak=>aM.eW bH af ai ak),⟨cs,fr,kT⟩,bC.ee.aF b1 (λai ak az=>by cases ak;obtain⟨BW,cq,fo⟩:=az;exact aM.eW dJ an BW cq fo),eG⟩
def aH.gE{c:α->List Value}{ys:List α}(h:aH w base e sz c aA n cap ys)(aj:aI S w w')(hs:∀b,S b->b<base):aH w' base e sz c aA n cap ys:=
 aj.bS h (λai ak bj=>by have af:=(h.lt ai ak).1;have an:=hs _ bj;omega)
def fU.gE(h:fU w base x d)(aj:aI S w w')(hs:∀b,S b->b<base):fU w' base x d:=
 let ⟨ys,q,o,a⟩:=h.e
 ⟨h.k,h.id,h.c,h.u,h.f.gE aj hs,ys,q,o.gE aj hs,λy hy=>(a y hy).gE aj hs⟩
def fD.gE{c:Nat}(h:fD w base a n c ps)(aj:aI S w w')(hs:∀b,S b->b<base):fD w' base a n c ps:=
 ⟨h.cj.gE aj hs,λp aY=>(h.ck p aY).gE aj hs⟩
def agf(q p:Nat)(L:Int)(xs:List ax)(rest:eg)(w:aC)(cw:mF w q p L (kn iK xs++rest))(aq:xs.length<=16)(fK:∀i,i∈xs->dY i):
  aS 236 #[q,.func (.func 237) #[] #[]] w λe w'=>∃a n c,e=.returned (ao a n c)/\aH w' w 54 3 ax.cs a n c xs/\mF w' q p L rest/\aI (·=p) w w':=by
 obtain⟨dK,eY,e5,e6,e7⟩:=fB yY;change aa _ at eY e5 e6 e7;unfold kn at cw;rw[ig]at cw;have aY:=cw.ht.lt;change aa _ at fK cw;go_enter func236,ntmps236;go_wp2_with fail;refine(Jp q p xs.length 17 L (xs.flatMap (iK)++rest) _ ((cw.ext U)) J ah).mono ?_;rintro e _⟨rfl,di,ih⟩;change aa _ at di ih;go_wp2_with fail;go_loopg [5,8] (xs.length) (λg e4 st wr=>∃(k:Nat) (ab:bl) (m aR:Nat),g+k=xs.length/\e4=.slice ab m aR/\st=.int .u64 k/\aa (mF wr q p L ((xs.drop k).flatMap (iK)++rest))/\aa (aH wr w 54 3 ax.cs ab m aR (xs.take k))/\aa (aI (·=p) w wr));case atStart=>exact⟨0,none,0,0,J,rfl,rfl,di,aH.nil _ _ _ (λ_=>rfl),ih⟩
 case round=>
  obtain⟨k,ab,m,aR,_,rfl,rfl,bB,aJ,aj⟩:=hrel;by_cases hk:k<xs.length
  ·refine c' ?_;intro bf zH;have uB:=I (show m<=16 from by have:=aJ.neq;rw[nF]at this;omega);rw[Ab hk,ny,ig]at bB;go_wp2_with fail;refine(aga q p L xs[k] _ _ bB (fK _ (cT hk))).mono ?_;rintro e _⟨rfl,dI,e8⟩;change aa _ at dI;have cd:=I (e8.bS aJ (λai ak=>by have:=(aJ.lt ai ak).1;omega));have jx:=I (aj.trans e8);clear e8;go_wp2_with (at_builtin;refine hc (ys:=xs.take k) (c:=ax.cs) rfl (.tmp 10) (.tmp 14) 31 rfl dK _ 24 aiL eY e5 e6 e7 rfl ah rfl (cd.ext U) xs[k] _ rfl (fi (cs:=ax.cs xs[k]) rfl) (ax.cQ _) Ul ah d' ?_;intro g _ _ q3 b2;have b9:=I b2;have ed:=I q3;clear q3 b2);exact agh
  exact agi
def asb(q p:Nat)(L:Int)(xs:List V)(rest:eg)(w:aC)(cw:mF w q p L (kn uE xs++rest))(aq:xs.length<=16)(fK:∀v,v∈xs->dY v.id):
  aS 232 #[q,.func (.func 233) #[] #[]] w λe w'=>∃a n c,e=.returned (ao a n c)/\aH w' w 294 4 V.cs a n c xs/\mF w' q p L rest/\aI (·=p) w w':=by
 obtain⟨dK,eY,e5,e6,e7⟩:=fB asa;change aa _ at eY e5 e6 e7;unfold kn at cw;rw[ig]at cw;have aY:=cw.ht.lt;change aa _ at fK cw;go_enter func232,ntmps232;go_wp2_with fail;refine(Jp q p xs.length 17 L (xs.flatMap (uE)++rest) _ ((cw.ext U)) J ah).mono ?_;rintro e _⟨rfl,di,ih⟩;change aa _ at di ih;go_wp2_with fail;go_loopg [5,8] (xs.length) (λg e4 st wr=>∃(k:Nat) (ab:bl) (m aR:Nat),g+k=xs.length/\e4=.slice ab m aR/\st=.int .u64 k/\aa (mF wr q p L ((xs.drop k).flatMap (uE)++rest))/\aa (aH wr w 294 4 V.cs ab m aR (xs.take k))/\aa (aI (·=p) w wr));case atStart=>exact⟨0,none,0,0,J,rfl,rfl,di,aH.nil _ _ _ (λ_=>rfl),ih⟩
 case round=>
  obtain⟨k,ab,m,aR,_,rfl,rfl,bB,aJ,aj⟩:=hrel;by_cases hk:k<xs.length
  ·refine c' ?_;intro bf zH;have uB:=I (show m<=16 from by have:=aJ.neq;rw[nF]at this;omega);rw[Ab hk,ny,ig]at bB;go_wp2_with fail;refine(ar8 q p L xs[k] _ _ bB (fK _ (cT hk))).mono ?_;rintro e _⟨rfl,dI,e8⟩;change aa _ at dI;have cd:=I (e8.bS aJ (λai ak=>by have:=(aJ.lt ai ak).1;omega));have jx:=I (aj.trans e8);clear e8;go_wp2_with (at_builtin;refine hc (ys:=xs.take k) (c:=V.cs) rfl (.tmp 10) (.tmp 14) 230 rfl dK _ 32 underlying230 eY e5 e6 e7 rfl ah rfl (cd.ext U) xs[k] _ rfl (fi (cs:=V.cs xs[k]) rfl) (V.cQ _) Ul ah d' ?_;intro g _ _ q3 b2;have b9:=I b2;have ed:=I q3;clear q3 b2);exact agh
  exact agi
def e'(q p:Nat)(L:Int)(xs:List bb)(rest:eg)(w:aC)(cw:mF w q p L (kn re xs++rest))(aq:xs.length<=16)(fK:∀d,d∈xs->gZ d)(bg:(∀d,d∈xs->((iL d).length:Int)<=L)/\L<=10000000):
  aS 234 #[q,.func (.func 235) #[] #[]] w λe w'=>∃a n c ps,e=.returned (ao a n c)/\fD w' w a n c ps/\ps.map (·.d)=xs/\mF w' q p L rest/\aI (·=p) w w':=by
 obtain⟨ct,bO,bL,bM,bP⟩:=fB Ao;change aa _ at bO bL bM bP;unfold kn at cw;rw[ig]at cw;have aY:=cw.ht.lt;change aa _ at fK bg cw;go_enter func234,ntmps234;go_wp2_with fail;refine(Jp q p xs.length 17 L (xs.flatMap re++rest) _ ((cw.ext U)) J ah).mono ?_;rintro e _⟨rfl,di,ih⟩;change aa _ at di ih;go_wp2_with fail;go_loopg [5,8] (xs.length) (λg e4 st wr=>∃(k:Nat) (ab:bl) (m aR:Nat) (ps:List bU),g+k=xs.length/\e4=.slice ab m aR/\st=.int .u64 k/\aa (mF wr q p L ((xs.drop k).flatMap re++rest))/\aa (fD wr w ab m aR ps/\ps.map (·.d)=xs.take k)/\aa (aI (·=p) w wr));case atStart=>exact⟨0,none,0,0,[],J,rfl,rfl,di,⟨fD.nil _ _,rfl⟩,ih⟩
 case round=>
  obtain⟨k,ab,m,aR,ps,_,rfl,rfl,bB,aJ,aj⟩:=hrel;by_cases hk:k<xs.length
  ·refine c' ?_;intro bf zH;have uB:=I (show m<=16 from by have af:=aJ.out.1.cj.neq;have an:=eH List.length aJ.out.2;rw[cx,nF]at an;omega);rw[Ab hk,ny,ig]at bB;go_wp2_with fail;refine(ar9 q p L xs[k] _ _ bB (fK _ (cT hk)) ⟨bg.out.1 _ (cT hk),bg.out.2⟩).mono ?_;rintro e aN⟨x,rfl,cn,dI,e8⟩;change aa _ at dI;have bq:=I (cn.mono (aBw:=(w:Nat)) aj.size);have cd:aa (fD aN w ab m aR ps):=⟨e8.bS aJ.out.1.cj (λai ak=>by have:=(aJ.out.1.cj.lt ai ak).1;omega),λy hy=>(aJ.out.1.ck y hy).gE e8 (λb ad=>by have:b=p:=ad;omega)⟩;have jx:=I (aj.trans e8);have bF:=I aJ.out.2;clear e8 cn aJ;go_wp2_with (at_builtin;refine hc (ys:=ps) (c:=bU.cs) rfl (.tmp 10) (.tmp 14) 42 rfl ct _ 96 aiM bO bL bM bP rfl ah rfl (cd.cj.ext U) ⟨x,xs[k]⟩ _ rfl (fi (cs:=bU.cs ⟨x,xs[k]⟩) rfl) (bU.cQ _) Ul ah d' ?_;intro g _ _ q3 b2;have b9:=I b2;have ed:=I q3;clear q3 b2);go_roundg (gk - 1);case measure=>omega
   case rel=>
    refine⟨k+1,_,_,_,ps++[⟨x,xs[k]⟩],J,rfl,by go_num,?_,⟨?_,?_⟩,?_⟩
    ·exact(dI.ext U).grow b9 (cd.cj.ext U) ah ah ah
    ·exact(cd.ext (w':=aN.alloc x) U).qA b9 ed (bq.ext U)
    ·rw[fT,bF.out,iv hk];rfl
    ·exact((jx.alloc _).xj b9.ee (λb ad=>by obtain⟨ai,ak,rfl⟩:=ad;exact .inr (cd.cj.lt ai ak).1))
  ·have nL:xs.take k=xs:=iU J;rw[nL]at aJ;rw[K6 J]at bB;clear nL;go_wp2;go_ret;exact⟨ab,m,aR,ps,rfl,aJ.out.1,aJ.out.2,bB,aj⟩
section
def pR(w:World)(base:Nat)(a:Option Addr)(n c:Nat)(aU:List bb):Prop:=∃ps,fD w base a n c ps/\ps.map (·.d)=aU
def pR.nil(w:aC)(base:Nat):pR w base none 0 0 []:=⟨[],fD.nil _ _,rfl⟩
def pR.gE{w w':aC}{base:Nat}{c:Nat}(h:pR w base a n c aU)(aj:aI S w w')(hs:∀b,S b->b<base):pR w' base a n c aU:=let ⟨ps,af,an⟩:=h;⟨ps,af.gE aj hs,an⟩
def pR.mono{w:aC}{base aBw:Nat}{c:Nat}(h:pR w base a n c aU)(ad:aBw<=base):pR w aBw a n c aU:=let ⟨ps,af,an⟩:=h;⟨ps,af.mono ad,an⟩
def pR.ext{w w':aC}{base:Nat}{c:Nat}(h:pR w base a n c aU)(X:Z w w'):pR w' base a n c aU:=let ⟨ps,af,an⟩:=h;⟨ps,af.ext X,an⟩
def pR.view{w:aC}{base:Nat}{c:Nat}(h:pR w base a n c aU):xr w a n c aU:=let ⟨ps,af,an⟩:=h;⟨ps,af.cj.aF,λp aY=>(af.ck p aY).ck,an⟩
structure s0 (w:World) (base:Nat) (x:kz) (m:dv):Prop where
 k:x.k=m.k
 h:x.h=(m.h:Int)
 v:aH w base 294 4 V.cs x.v.a x.v.n x.v.c m.vs
 q:pR w base x.q.a x.q.n x.q.c m.dq
 e:pR w base x.e.a x.e.n x.e.c m.aX
 p:pR w base x.p.a x.p.n x.p.c m.ps
 b:aH w base 54 3 ax.cs x.b.a x.b.n x.b.c m.aB
 d:aH w base 54 3 ax.cs x.d.a x.d.n x.d.c m.aU
section
variable {w w':World}{base aBw:Nat}{x:kz}{m:dv}
def s0.view(h:s0 w base x m):tP w x m:=⟨h.k,h.h,h.v.aF,h.q.view,h.e.view,h.p.view,h.b.aF,h.d.aF⟩
def s0.gE(h:s0 w base x m)(aj:aI S w w')(hs:∀b,S b->b<base):s0 w' base x m:=⟨h.k,h.h,h.v.gE aj hs,h.q.gE aj hs,h.e.gE aj hs,h.p.gE aj hs,h.b.gE aj hs,h.d.gE aj hs⟩
def s0.mono(h:s0 w base x m)(ad:aBw<=base):s0 w aBw x m:=⟨h.k,h.h,h.v.mono ad,h.q.mono ad,h.e.mono ad,h.p.mono ad,h.b.mono ad,h.d.mono ad⟩
def s0.ext(h:s0 w base x m)(X:Z w w'):s0 w' base x m:=⟨h.k,h.h,h.v.ext X,h.q.ext X,h.e.ext X,h.p.ext X,h.b.ext X,h.d.ext X⟩
end
def Uy(m:dv)(w:World)(e:Ending)(w':World):Prop:=∃x:kz,e=.returned (.tuple #[x,av])/\s0 w' w.heap.size x m/\Z w w'
def Uz{m:dv}(h:rb m):(qe m).length<=10000000:=by
 unfold qe;have af:=hV m.k.toNat;have an:=hV m.h;have bf:=B1 (f:=uE) (l:=m.vs) (λv _=>af9 v);have dA:=B1 (f:=re) (l:=m.dq) (λd aG=>LW (h.dq.2 d aG));have gh:=B1 (f:=re) (l:=m.aX) (λd aG=>LW (h.aX.2 d aG));have gm:=B1 (f:=re) (l:=m.ps) (λd aG=>LW (h.ps.2 d aG));have ti:=B1 (f:=iK) (l:=m.aB) (λi _=>EI i);have uY:=B1 (f:=iK) (l:=m.aU) (λi _=>EI i);have:=h.vs.1;have:=h.dq.1;have:=h.aX.1;have:=h.ps.1;have:=h.aB.1;have:=h.aU.1;split<;>simp only[c9]<;>omega
def f'{l:List bb}(h:d∈l):(iL d).length<=(kn re l).length:=by
 unfold kn;rw[c9];have:(iL d).length<=(l.flatMap re).length:=by
  obtain⟨s,t,rfl⟩:=List.append_of_mem h;rw[vN,ny,c9,c9];have:(iL d).length<=(re d).length:=by unfold re;rw[y8];omega
  omega
 omega
def asc(a:bl)(n c:Nat)(m:dv)(w:aC)(ar:a7 w 1 cr a n c (df 1++(df m.h++(kn uE m.vs++(kn re m.dq++[])))))(bF:rb m)(b6:m.k=1)(aq:(qe m).length=n):
  aS 157 #[ao a n c] w (Uy m w):=by
 have LX:=I bF.h;have Iz:=I (show n<=10000000 by have:=Uz bF;omega)
 have p2:=I (show(∀d,d∈m.dq->((iL d).length:Int)<=(n:Int))/\(n:Int)<=10000000 from⟨λd aG=>by
  have af:=f' aG;have an:=ar.neq;simp only[c9]at an
  omega,by have:=Iz.out;omega⟩)
 replace ar:=I ar;replace bF:=I bF;replace b6:=I b6;refine agj ?_;intro w1 p Jt bz n9 di _ _ _ _ bs;have fq:mF (w1.alloc (Obj.cells #[.pointer (some ⟨p,0,none⟩),.int .i64 n,.bool false] 314)) w1.heap.size p n (df 1++(df m.h++(kn uE m.vs++(kn re m.dq++[])))):=⟨bs,di.ext U⟩;refine(Jp w1.heap.size p 1 3 n _ _ fq ah ah).mono ?_;refine agk ?_;clear bs fq;intro aN jx q tw LY BE dI pJ bq;obtain⟨cO,c1,c2⟩:=jm (dI.ext ((Z.refl aN).alloc (.cells #[bo 1,aw,aP,aP,aP,aP,aP,aP] 232))).box;go_wp2_with fail;refine(oI p m.h _ _ (dI.ext U).ht LX).mono ?_;rintro e a6⟨rfl,PI,h8⟩;have jF:=(dI.ext ((Z.refl aN).alloc (.cells #[bo 1,aw,aP,aP,aP,aP,aP,aP] 232))).oK PI h8;have fc:a6.heap[(aN:Nat)]?=some (.cells #[bo 1,aw,aP,aP,aP,aP,aP,aP] 232):=(h8.block _ (by simp) (by have:=dI.ht.lt;omega)).trans (e2 rfl);refine agl ?_;intro oJ c0 Ha Fc;generalize (aN:Nat)=B at fc Ha Fc tw ⊢;replace oJ:=I oJ;replace c0:=I c0;replace jF:=I jF;clear cO c1 c2 PI h8;obtain⟨cA,cR,cS,du,dw,dx,dB,dy,ff⟩:=kr fc;replace fc:=I fc;go_wp2_with fail;have PJ:aI (λx=>x=B) a6 (a6.setCell (B,1) (ae (m.h:Int))):=aI.setCell (S:=λx=>x=B) (aI.refl _ a6) (B,1) (.inl rfl) _;have AV:(a6.setCell (B,1) (ae (m.h:Int))).heap[B]?=some (.cells #[bo 1,ae (m.h:Int),aP,aP,aP,aP,aP,aP] 232):=by rw[en fc.out];simp
 refine agm ?_;intro B3 B4 DE;generalize a6.setCell (B,1) (ae (m.h:Int))=cB at AV B3 B4 DE ⊢;refine agn ?_;intro iV wy aB PK gN N;replace Jt:=I Jt;replace B4:=I B4;replace DE:=I DE;replace B3:=I B3;clear PJ cA cR cS du dw dx dB dy ff PK iV wy Ha Fc tw LY BE;obtain⟨cA,cR,cS,du,dw,dx,dB,dy,ff⟩:=kr AV;replace AV:=I AV;have rf:=I gN.out.1;go_wp2_with fail;refine(asb q p n m.vs (kn re m.dq++[]) _ B3 bF.vs.1 bF.vs.2).mono ?_;rintro e v5⟨uC,vp,uD,rfl,aM,bB,aj⟩;refine ago ?_;intro bn az X fs;clear cA cR cS du dw dx dB dy ff;obtain⟨cA,cR,cS,du,dw,dx,dB,dy,ff⟩:=kr bn;have bV:=aI.setCell (S:=λx=>x=B) (aI.refl _ v5) (B,2) (.inl rfl) (ao uC vp uD);have oi:(v5.setCell (B,2) (ao uC vp uD)).heap[B]?=some (.cells #[bo 1,ae (m.h:Int),(.slice uC vp uD),aP,aP,aP,aP,aP] 232):=by rw[en bn];simp
 refine LZ ?_;intro lk nt;have oj:Z w (v5.setCell (B,2) (ao uC vp uD)):=X.setCell (p:=(B,2)) (lu N.out.1) _;refine L0 ?_;intro aY bx;have om:aB<=(v5.setCell (B,2) (ao uC vp uD)).heap.size:=by have:=bV.size;have:=rf.out;omega
 skip;have oo:=(aM.mono (aBw:=aB) rf).gE bV bx;replace bn:=I bn;replace bV:=I bV;replace lk:=I lk;replace nt:=I nt;replace oj:=I oj;replace oi:=I oi;replace oo:=I oo;replace om:=I om;clear az X fs aY bx aj bB aM;obtain⟨cO,c1,c2⟩:=jm (lk).box;go_wp2_with fail;clear cO c1 c2;have B5:=oi.out;have Fe:=lk.out;have Ff:=nt.out;have Hb:=oj.out;have sl:=oo.out;have p7:=om.out;clear oi lk nt oj oo rf om bn bV;generalize v5.setCell (B,2) (ao uC vp uD)=bA at B5 Fe Ff Hb sl p7 ⊢;clear cA cR cS du dw dx dB dy ff;obtain⟨cA,cR,cS,du,dw,dx,dB,dy,ff⟩:=kr B5;skip;have rf:=I p7;replace B5:=I B5;replace Fe:=I Fe;replace Ff:=I Ff;replace Hb:=I Hb;replace sl:=I sl;clear p7;refine(e' q p n m.dq [] _ Fe bF.dq.1 bF.dq.2 p2).mono ?_;rintro e v6⟨si,rP,sj,ps,rfl,aM,zM,bB,aj⟩;refine agp ?_;intro bn az X fs;clear cA cR cS du dw dx dB dy ff;obtain⟨cA,cR,cS,du,dw,dx,dB,dy,ff⟩:=kr bn;have bV:=aI.setCell (S:=λx=>x=B) (aI.refl _ v6) (B,3) (.inl rfl) (ao si rP sj);have oi:(v6.setCell (B,3) (ao si rP sj)).heap[B]?=some (.cells #[bo 1,ae (m.h:Int),(.slice uC vp uD),(.slice si rP sj),aP,aP,aP,aP] 232):=by rw[en bn];simp
 refine LZ ?_;intro lk nt;have oj:Z w (v6.setCell (B,3) (ao si rP sj)):=X.setCell (p:=(B,3)) (lu N.out.1) _;refine L0 ?_;intro aY bx;have om:aB<=(v6.setCell (B,3) (ao si rP sj)).heap.size:=by have:=bV.size;have:=rf.out;omega
 have ym:=(sl.gE aj aY).gE bV bx;clear sl;have oo:=((show pR _ _ _ _ _ m.dq from⟨ps,aM,zM⟩).mono (aBw:=aB) rf).gE bV bx;replace bn:=I bn;replace bV:=I bV;replace lk:=I lk;replace nt:=I nt;replace oj:=I oj;replace oi:=I oi;replace oo:=I oo;replace om:=I om;clear az X fs aY bx aj bB aM;obtain⟨cO,c1,c2⟩:=jm (lk).box;go_wp2_with fail;clear cO c1 c2;have AW:=oi.out;have Fg:=lk.out;have DF:=nt.out;have Fh:=oj.out;have xu:=oo.out;have p7:=om.out;clear oi lk nt oj oo rf om bn bV;generalize v6.setCell (B,3) (ao si rP sj)=c4 at AW Fg DF Fh xu p7 ym ⊢;clear cA cR cS du dw dx dB dy ff;obtain⟨cA,cR,cS,du,dw,dx,dB,dy,ff⟩:=kr AW;replace AW:=I AW;replace Fg:=I Fg;replace DF:=I DF;replace Fh:=I Fh;replace xu:=I xu;have sl:=I ym;clear p7;have j4:m.aX= []/\m.ps= []/\m.aB= []/\m.aU= []:=by
  rcases bF.oP with ⟨_,h⟩|⟨h,_⟩
  ·exact h
  ·have:=b6.out;omega
 obtain⟨cm,cq,fo,iM⟩:=j4;refine(Ar p _ Fg.ht).mono ?_;rintro e _⟨rfl,l2⟩;have kJ:=l2.ay AW;clear cA cR cS du dw dx dB dy ff;obtain⟨cA,cR,cS,du,dw,dx,dB,dy⟩:=lM kJ;have PL:aa (s0 c4 aB (⟨1,(m.h:Int),⟨uC,vp,uD⟩,⟨si,rP,sj⟩,⟨none,0,0⟩,⟨none,0,0⟩,⟨none,0,0⟩,⟨none,0,0⟩⟩:kz) m):=⟨b6.symm,rfl,sl,xu,by rw[cm];exact pR.nil _ _,by rw[cq];exact pR.nil _ _,by rw[fo];exact aH.nil _ _ _ ax.bI,by rw[iM];exact aH.nil _ _ _ ax.bI⟩;replace l2:=I l2;replace kJ:=I kJ;go_wp2_with fail;refine(Z7 (⟨1,(m.h:Int),⟨uC,vp,uD⟩,⟨si,rP,sj⟩,⟨none,0,0⟩,⟨none,0,0⟩,⟨none,0,0⟩,⟨none,0,0⟩⟩:kz) m _ (PL.view.ext U) bF).mono ?_;rintro e g'⟨rfl,tB⟩;have ad:=tB.ay kJ;have ec:=tB.ay (l2.ay DF);have pn:=I (l2.trans tB);clear cA cR cS du dw dx dB dy;obtain⟨cA,cR,cS,du,dw,dx,dB,dy⟩:=lM ad;obtain⟨z0,cZ,z2,z3,z4,z5,gx,fE,mT⟩:=kr ec;replace ec:=I ec;clear ad tB;go_wp2_with fail;have B6:=BF (S:=λx=>x=(w:Nat)) (aI.refl _ g') (R:=(w:Nat)) (.inl rfl) (bo 1) (ae (m.h:Int)) (ao uC vp uD) (ao si rP sj) aP aP aP aP;have f8:=PE ec (bo 1) (ae (m.h:Int)) (ao uC vp uD) (ao si rP sj) aP aP aP aP;have zN:=((PL.ext pn).gE B6 (λb ad=>by have:=gN.out;omega)).mono (aBw:=(w:Nat)) (by have:=gN.out;omega);have PM:=B6.ext (W:=w) (λb ad=>by subst ad;exact bJ _) (Fh.trans pn);generalize World.setCell _ (w,7) _=asd at f8 zN PM ⊢;clear cA cR cS du dw dx dB dy z0 cZ z2 z3 z4 z5 gx fE mT B6;obtain⟨z0,cZ,z2,z3,z4,z5,gx,fE⟩:=lM f8;refine ke (v:=.tuple #[.agg #[bo 1,ae (m.h:Int),ao uC vp uD,ao si rP sj,aP,aP,aP,aP],av]) (by simp[results,results157,go_sem,z0,cZ,z2,z3,z4,z5,gx,fE]) rfl ⟨(⟨1,(m.h:Int),⟨uC,vp,uD⟩,⟨si,rP,sj⟩,⟨none,0,0⟩,⟨none,0,0⟩,⟨none,0,0⟩,⟨none,0,0⟩⟩:kz),rfl,zN,PM⟩
def ase(a:bl)(n c:Nat)(m:dv)(w:aC)(ar:a7 w 1 cr a n c (df 2++(df m.h++(kn re m.aX++(kn re m.ps++(kn iK m.aB++(kn iK m.aU++[])))))))(bF:rb m)(b6:m.k=2)(aq:(qe m).length=n):
  aS 157 #[ao a n c] w (Uy m w):=by
 have LX:=I bF.h;have Iz:=I (show n<=10000000 by have:=Uz bF;omega)
 have p2:=I (show(∀d,d∈m.aX\/d∈m.ps->((iL d).length:Int)<=(n:Int))/\(n:Int)<=10000000 from⟨λd aG=>by
  have an:=ar.neq;simp only[c9]at an;rcases aG with aG|aG
  ·have af:=f' aG;omega
  ·have af:=f' aG
   omega,by have:=Iz.out;omega⟩)
 replace ar:=I ar;replace bF:=I bF;replace b6:=I b6;refine agj ?_;intro w1 p Jt bz n9 di _ _ _ _ bs;have fq:mF (w1.alloc (Obj.cells #[.pointer (some ⟨p,0,none⟩),.int .i64 n,.bool false] 314)) w1.heap.size p n (df 2++(df m.h++(kn re m.aX++(kn re m.ps++(kn iK m.aB++(kn iK m.aU++[])))))):=⟨bs,di.ext U⟩;refine(Jp w1.heap.size p 2 3 n _ _ fq ah ah).mono ?_;refine agk ?_;clear bs fq;intro aN jx q tw LY BE dI pJ bq;obtain⟨cO,c1,c2⟩:=jm (dI.ext ((Z.refl aN).alloc (.cells #[bo 2,aw,aP,aP,aP,aP,aP,aP] 232))).box;go_wp2_with fail;refine(oI p m.h _ _ (dI.ext U).ht LX).mono ?_;rintro e a6⟨rfl,PI,h8⟩;have jF:=(dI.ext ((Z.refl aN).alloc (.cells #[bo 2,aw,aP,aP,aP,aP,aP,aP] 232))).oK PI h8;have fc:a6.heap[(aN:Nat)]?=some (.cells #[bo 2,aw,aP,aP,aP,aP,aP,aP] 232):=(h8.block _ (by simp) (by have:=dI.ht.lt;omega)).trans (e2 rfl);refine agl ?_;intro oJ c0 Ha Fc;generalize (aN:Nat)=B at fc Ha Fc tw ⊢;replace oJ:=I oJ;replace c0:=I c0;replace jF:=I jF;clear cO c1 c2 PI h8;obtain⟨cA,cR,cS,du,dw,dx,dB,dy,ff⟩:=kr fc;replace fc:=I fc;go_wp2_with fail;have PJ:aI (λx=>x=B) a6 (a6.setCell (B,1) (ae (m.h:Int))):=aI.setCell (S:=λx=>x=B) (aI.refl _ a6) (B,1) (.inl rfl) _;have AV:(a6.setCell (B,1) (ae (m.h:Int))).heap[B]?=some (.cells #[bo 2,ae (m.h:Int),aP,aP,aP,aP,aP,aP] 232):=by rw[en fc.out];simp
 refine agm ?_;intro B3 B4 DE;generalize a6.setCell (B,1) (ae (m.h:Int))=cB at AV B3 B4 DE ⊢;refine agn ?_;intro iV wy aB PK gN N;replace Jt:=I Jt;replace B4:=I B4;replace DE:=I DE;replace B3:=I B3;clear PJ cA cR cS du dw dx dB dy ff PK iV wy Ha Fc tw LY BE;obtain⟨cA,cR,cS,du,dw,dx,dB,dy,ff⟩:=kr AV;replace AV:=I AV;have rf:=I gN.out.1;go_wp2_with fail;refine(e' q p n m.aX (kn re m.ps++(kn iK m.aB++(kn iK m.aU++[]))) _ B3 bF.aX.1 bF.aX.2 ⟨λd aG=>p2.out.1 d (.inl aG),p2.out.2⟩).mono ?_;rintro e v5⟨dL,eC,dO,ps,rfl,aM,zM,bB,aj⟩;refine ago ?_;intro bn az X fs;clear cA cR cS du dw dx dB dy ff;obtain⟨cA,cR,cS,du,dw,dx,dB,dy,ff⟩:=kr bn;have bV:=aI.setCell (S:=λx=>x=B) (aI.refl _ v5) (B,4) (.inl rfl) (ao dL eC dO);have oi:(v5.setCell (B,4) (ao dL eC dO)).heap[B]?=some (.cells #[bo 2,ae (m.h:Int),aP,aP,(.slice dL eC dO),aP,aP,aP] 232):=by rw[en bn];simp
 refine LZ ?_;intro lk nt;have oj:Z w (v5.setCell (B,4) (ao dL eC dO)):=X.setCell (p:=(B,4)) (lu N.out.1) _;refine L0 ?_;intro aY bx;have om:aB<=(v5.setCell (B,4) (ao dL eC dO)).heap.size:=by have:=bV.size;have:=rf.out;omega
 skip;have oo:=((show pR _ _ _ _ _ m.aX from⟨ps,aM,zM⟩).mono (aBw:=aB) rf).gE bV bx;replace bn:=I bn;replace bV:=I bV;replace lk:=I lk;replace nt:=I nt;replace oj:=I oj;replace oi:=I oi;replace oo:=I oo;replace om:=I om;clear az X fs aY bx aj bB aM;obtain⟨cO,c1,c2⟩:=jm (lk).box;go_wp2_with fail;clear cO c1 c2;have B5:=oi.out;have Fe:=lk.out;have Ff:=nt.out;have Hb:=oj.out;have sl:=oo.out;have p7:=om.out;clear oi lk nt oj oo rf om bn bV;generalize v5.setCell (B,4) (ao dL eC dO)=bA at B5 Fe Ff Hb sl p7 ⊢;clear cA cR cS du dw dx dB dy ff;obtain⟨cA,cR,cS,du,dw,dx,dB,dy,ff⟩:=kr B5;skip;have rf:=I p7;replace B5:=I B5;replace Fe:=I Fe;replace Ff:=I Ff;replace Hb:=I Hb;replace sl:=I sl;clear p7;clear zM;refine(e' q p n m.ps (kn iK m.aB++(kn iK m.aU++[])) _ Fe bF.ps.1 bF.ps.2 ⟨λd aG=>p2.out.1 d (.inr aG),p2.out.2⟩).mono ?_;rintro e v6⟨cL,gJ,fv,ps,rfl,aM,zM,bB,aj⟩;refine agp ?_;intro bn az X fs;clear cA cR cS du dw dx dB dy ff;obtain⟨cA,cR,cS,du,dw,dx,dB,dy,ff⟩:=kr bn;have bV:=aI.setCell (S:=λx=>x=B) (aI.refl _ v6) (B,5) (.inl rfl) (ao cL gJ fv);have oi:(v6.setCell (B,5) (ao cL gJ fv)).heap[B]?=some (.cells #[bo 2,ae (m.h:Int),aP,aP,(.slice dL eC dO),(.slice cL gJ fv),aP,aP] 232):=by rw[en bn];simp
 refine LZ ?_;intro lk nt;have oj:Z w (v6.setCell (B,5) (ao cL gJ fv)):=X.setCell (p:=(B,5)) (lu N.out.1) _;refine L0 ?_;intro aY bx;have om:aB<=(v6.setCell (B,5) (ao cL gJ fv)).heap.size:=by have:=bV.size;have:=rf.out;omega
 have ym:=(sl.gE aj aY).gE bV bx;clear sl;have oo:=((show pR _ _ _ _ _ m.ps from⟨ps,aM,zM⟩).mono (aBw:=aB) rf).gE bV bx;replace bn:=I bn;replace bV:=I bV;replace lk:=I lk;replace nt:=I nt;replace oj:=I oj;replace oi:=I oi;replace oo:=I oo;replace om:=I om;clear az X fs aY bx aj bB aM;obtain⟨cO,c1,c2⟩:=jm (lk).box;go_wp2_with fail;clear cO c1 c2;have AW:=oi.out;have Fg:=lk.out;have DF:=nt.out;have Fh:=oj.out;have xu:=oo.out;have p7:=om.out;clear oi lk nt oj oo rf om bn bV;generalize v6.setCell (B,5) (ao cL gJ fv)=c4 at AW Fg DF Fh xu p7 ym ⊢;clear cA cR cS du dw dx dB dy ff;obtain⟨cA,cR,cS,du,dw,dx,dB,dy,ff⟩:=kr AW;replace AW:=I AW;replace Fg:=I Fg;replace DF:=I DF;replace Fh:=I Fh;replace xu:=I xu;have sl:=I ym;have rf:=I p7;clear p7;clear zM ym;refine(agf q p n m.aB (kn iK m.aU++[]) _ Fg bF.aB.1 bF.aB.2).mono ?_;rintro e hh⟨gv,hU,fP,rfl,aM,bB,aj⟩;have bn:=(aj.block _ (bZ AW) UA).trans AW;have az:=(aj.block _ (bZ DF) UA).trans DF;have X:=(aj.mono (S':=λb=>(w:Nat)<=b) (λb _ bn=>by have:b=p:=bn;have:=N.out;omega)).ext (λb bn=>bn) Fh;have fs:=aj.size;clear cA cR cS du dw dx dB dy ff;obtain⟨cA,cR,cS,du,dw,dx,dB,dy,ff⟩:=kr bn;have bV:=aI.setCell (S:=λx=>x=B) (aI.refl _ hh) (B,6) (.inl rfl) (ao gv hU fP);have oi:(hh.setCell (B,6) (ao gv hU fP)).heap[B]?=some (.cells #[bo 2,ae (m.h:Int),aP,aP,(.slice dL eC dO),(.slice cL gJ fv),(.slice gv hU fP),aP] 232):=by rw[en bn];simp
 refine LZ ?_;intro lk nt;have oj:Z w (hh.setCell (B,6) (ao gv hU fP)):=X.setCell (p:=(B,6)) (lu N.out.1) _;refine L0 ?_;intro aY bx;have om:aB<=(hh.setCell (B,6) (ao gv hU fP)).heap.size:=by have:=bV.size;have:=rf.out;omega
 have ym:=(sl.gE aj aY).gE bV bx;clear sl;have Ju:=(xu.gE aj aY).gE bV bx;clear xu;have oo:=(aM.mono (aBw:=aB) rf).gE bV bx;replace bn:=I bn;replace bV:=I bV;replace lk:=I lk;replace nt:=I nt;replace oj:=I oj;replace oi:=I oi;replace oo:=I oo;replace om:=I om;clear az X fs aY bx aj bB aM;obtain⟨cO,c1,c2⟩:=jm (lk).box;go_wp2_with fail;clear cO c1 c2;have L1:=oi.out;have UB:=lk.out;have PN:=nt.out;have UC:=oj.out;have Jv:=oo.out;have p7:=om.out;clear oi lk nt oj oo rf om bn bV;generalize hh.setCell (B,6) (ao gv hU fP)=dR at L1 UB PN UC Jv p7 ym Ju ⊢;clear cA cR cS du dw dx dB dy ff;obtain⟨cA,cR,cS,du,dw,dx,dB,dy,ff⟩:=kr L1;replace L1:=I L1;replace UB:=I UB;replace PN:=I PN;replace UC:=I UC;replace Jv:=I Jv;have sl:=I ym;have xu:=I Ju;clear ym Ju;have rf:=I p7;clear p7;refine(agf q p n m.aU [] _ UB bF.aU.1 bF.aU.2).mono ?_;rintro e jO⟨po,mX,nQ,rfl,aM,bB,aj⟩;have bn:=(aj.block _ (bZ L1) UA).trans L1;have az:=(aj.block _ (bZ PN) UA).trans PN;have X:=(aj.mono (S':=λb=>(w:Nat)<=b) (λb _ bn=>by have:b=p:=bn;have:=N.out;omega)).ext (λb bn=>bn) UC;have fs:=aj.size;clear cA cR cS du dw dx dB dy ff;obtain⟨cA,cR,cS,du,dw,dx,dB,dy,ff⟩:=kr bn;have bV:=aI.setCell (S:=λx=>x=B) (aI.refl _ jO) (B,7) (.inl rfl) (ao po mX nQ);have oi:(jO.setCell (B,7) (ao po mX nQ)).heap[B]?=some (.cells #[bo 2,ae (m.h:Int),aP,aP,(.slice dL eC dO),(.slice cL gJ fv),(.slice gv hU fP),(.slice po mX nQ)] 232):=by rw[en bn];simp
 refine LZ ?_;intro lk nt;have oj:Z w (jO.setCell (B,7) (ao po mX nQ)):=X.setCell (p:=(B,7)) (lu N.out.1) _;refine L0 ?_;intro aY bx;have om:aB<=(jO.setCell (B,7) (ao po mX nQ)).heap.size:=by have:=bV.size;have:=rf.out;omega
 have ym:=(sl.gE aj aY).gE bV bx;clear sl;have Ju:=(xu.gE aj aY).gE bV bx;clear xu;have h':=(Jv.gE aj aY).gE bV bx;clear Jv;have oo:=(aM.mono (aBw:=aB) rf).gE bV bx;replace bn:=I bn;replace bV:=I bV;replace lk:=I lk;replace nt:=I nt;replace oj:=I oj;replace oi:=I oi;replace oo:=I oo;replace om:=I om;clear az X fs aY bx aj bB aM;obtain⟨cO,c1,c2⟩:=jm (lk).box;go_wp2_with fail;clear cO c1 c2;have PO:=oi.out;have UD:=lk.out;have UE:=nt.out;have UF:=oj.out;have UG:=oo.out;have p7:=om.out;clear oi lk nt oj oo rf om bn bV;generalize jO.setCell (B,7) (ao po mX nQ)=e1 at PO UD UE UF UG p7 ym Ju h' ⊢;clear cA cR cS du dw dx dB dy ff;obtain⟨cA,cR,cS,du,dw,dx,dB,dy,ff⟩:=kr PO;replace PO:=I PO;replace UD:=I UD;replace UE:=I UE;replace UF:=I UF;replace UG:=I UG;have sl:=I ym;have xu:=I Ju;have Jv:=I h';clear ym Ju h';clear p7;have j4:m.vs= []/\m.dq= []:=by
  rcases bF.oP with ⟨h,_⟩|⟨_,h⟩
  ·have:=b6.out;omega
  ·exact h
 obtain⟨cm,cq⟩:=j4;refine(Ar p _ UD.ht).mono ?_;rintro e _⟨rfl,l2⟩;have kJ:=l2.ay PO;clear cA cR cS du dw dx dB dy ff;obtain⟨cA,cR,cS,du,dw,dx,dB,dy⟩:=lM kJ;have PL:aa (s0 e1 aB (⟨2,(m.h:Int),⟨none,0,0⟩,⟨none,0,0⟩,⟨dL,eC,dO⟩,⟨cL,gJ,fv⟩,⟨gv,hU,fP⟩,⟨po,mX,nQ⟩⟩:kz) m):=⟨b6.symm,rfl,by rw[cm];exact aH.nil _ _ _ V.bI,by rw[cq];exact pR.nil _ _,sl,xu,Jv,UG⟩;replace l2:=I l2;replace kJ:=I kJ;go_wp2_with fail;refine(Z7 (⟨2,(m.h:Int),⟨none,0,0⟩,⟨none,0,0⟩,⟨dL,eC,dO⟩,⟨cL,gJ,fv⟩,⟨gv,hU,fP⟩,⟨po,mX,nQ⟩⟩:kz) m _ (PL.view.ext U) bF).mono ?_;rintro e g'⟨rfl,tB⟩;have ad:=tB.ay kJ;have ec:=tB.ay (l2.ay UE);have pn:=I (l2.trans tB);clear cA cR cS du dw dx dB dy;obtain⟨cA,cR,cS,du,dw,dx,dB,dy⟩:=lM ad;obtain⟨z0,cZ,z2,z3,z4,z5,gx,fE,mT⟩:=kr ec;replace ec:=I ec;clear ad tB;go_wp2_with fail;have B6:=BF (S:=λx=>x=(w:Nat)) (aI.refl _ g') (R:=(w:Nat)) (.inl rfl) (bo 2) (ae (m.h:Int)) aP aP (ao dL eC dO) (ao cL gJ fv) (ao gv hU fP) (ao po mX nQ);have f8:=PE ec (bo 2) (ae (m.h:Int)) aP aP (ao dL eC dO) (ao cL gJ fv) (ao gv hU fP) (ao po mX nQ);have zN:=((PL.ext pn).gE B6 (λb ad=>by have:=gN.out;omega)).mono (aBw:=(w:Nat)) (by have:=gN.out;omega);have PM:=B6.ext (W:=w) (λb ad=>by subst ad;exact bJ _) (UF.trans pn);generalize World.setCell _ (w,7) _=asd at f8 zN PM ⊢;clear cA cR cS du dw dx dB dy z0 cZ z2 z3 z4 z5 gx fE mT B6;obtain⟨z0,cZ,z2,z3,z4,z5,gx,fE⟩:=lM f8;refine ke (v:=.tuple #[.agg #[bo 2,ae (m.h:Int),aP,aP,ao dL eC dO,ao cL gJ fv,ao gv hU fP,ao po mX nQ],av]) (by simp[results,results157,go_sem,z0,cZ,z2,z3,z4,z5,gx,fE]) rfl ⟨(⟨2,(m.h:Int),⟨none,0,0⟩,⟨none,0,0⟩,⟨dL,eC,dO⟩,⟨cL,gJ,fv⟩,⟨gv,hU,fP⟩,⟨po,mX,nQ⟩⟩:kz),rfl,zN,PM⟩
def asf(a:bl)(n c:Nat)(m:dv)(w:aC)(bj:a7 w 1 cr a n c (qe m))(hm:rb m):aS 157 #[ao a n c] w (Uy m w):=by
 have aq:=bj.neq;unfold qe at bj;rcases hm.oP with ⟨k,_⟩|⟨k,_⟩
 ·rw[bc k,k]at bj;refine asc a n c m w ?_ hm k aq.symm;rw[nc];exact bj
 ·rw[aV J,k]at bj;refine ase a n c m w ?_ hm k aq.symm;rw[nc];exact bj
end
section
open Go.RowKit Go.Conc
theorem PQ (c s r:Nat) (buf:Array Value) (tm:Bool) (v:Value) (w:World) (al:w.heap[c]?=some (.chan 8 buf false s r tm)) (ad:buf.size<8):
  aS 154 #[.chan (some c),v] w λe w'=>e=.returned (.bool true)/\w'=w.setChan c 8 (buf.push v) false (s+1) r tm:=by
 refine calls_of_loneTo λcs=>?_
 have e:Frame.enter prog 154 #[.chan (some c),v] .normal=(base 154).at ⟨#[.chan (some c),v,undef,undef,undef,undef,undef,undef,undef,undef],[]⟩ [.code (f154.body.getD .skip)]:=by
  simp[Frame.enter,Frame.at,func154,base,f154]
 rw[e]
 refine LoneTo.goes (n:=14) ?_
 simp only[f154,Option.getD_some]
 s_c stepG_seq
 s_reg
 s_op
 s_c stepG_region_end
 s_c stepG_seq
 s_c stepG_seq
 s_reg
 s_op
 s_c stepG_region_end
 s_reg
 s_op
 s_c stepG_region_end
 s_c stepG_seq
 s_reg
 s_stop
 refine LoneTo.step (step_lone_select_send_room (c:=c) (cap:=8) (buf:=buf) (s:=s) (r:=r) (tm:=tm) (stepG_comm (cases:=#[scase c v aP]) (blocking:=false) (shape:=.select) (w':=w) rfl rfl ah (by simp[go_sem,execOp,scase,Act.eval])) al ad) ?_
 rw[Frame.finish_at]
 walk_nrm
 refine LoneTo.goes (n:=10) ?_
 s_op
 s_op
 s_c stepG_region_end
 s_c stepG_block
 s_cond true
 s_c stepG_seq
 s_reg
 s_op
 s_c stepG_region_end
 s_c stepG_ret'
 s_stop
 exact LoneTo.done ⟨.returned (.bool true),_,rfl,⟨rfl,rfl⟩,rfl,rfl,rfl,rfl,_,func154,by simp[results,f154,Frame.at]⟩
theorem asg (c s r:Nat) (buf:Array Value) (tm:Bool) (v:Value) (w:World) (al:w.heap[c]?=some (.chan 8 buf false s r tm)) (ad:8<=buf.size):
  aS 154 #[.chan (some c),v] w λe w'=>e=.returned (.bool false)/\w'=w:=by
 refine calls_of_loneTo λcs=>?_
 have e:Frame.enter prog 154 #[.chan (some c),v] .normal=(base 154).at ⟨#[.chan (some c),v,undef,undef,undef,undef,undef,undef,undef,undef],[]⟩ [.code (f154.body.getD .skip)]:=by
  simp[Frame.enter,Frame.at,func154,base,f154]
 rw[e]
 refine LoneTo.goes (n:=14) ?_
 simp only[f154,Option.getD_some]
 s_c stepG_seq
 s_reg
 s_op
 s_c stepG_region_end
 s_c stepG_seq
 s_c stepG_seq
 s_reg
 s_op
 s_c stepG_region_end
 s_reg
 s_op
 s_c stepG_region_end
 s_c stepG_seq
 s_reg
 s_stop
 refine LoneTo.step (step_lone_select_send_full (c:=c) (cap:=8) (buf:=buf) (s:=s) (r:=r) (tm:=tm) (stepG_comm (cases:=#[scase c v aP]) (blocking:=false) (shape:=.select) (w':=w) rfl rfl ah (by simp[go_sem,execOp,scase,Act.eval])) al ad) ?_
 rw[Frame.finish_at]
 walk_nrm
 refine LoneTo.goes (n:=10) ?_
 s_op
 s_op
 s_c stepG_region_end
 s_c stepG_block
 s_cond false
 s_c stepG_seq
 s_reg
 s_op
 s_c stepG_region_end
 s_c stepG_ret'
 s_stop
 exact LoneTo.done ⟨.returned (.bool false),_,rfl,⟨rfl,rfl⟩,rfl,rfl,rfl,rfl,_,func154,by simp[results,f154,Frame.at]⟩
theorem i' (c s r:Nat) (v:Value) (buf:Array Value) (tm:Bool) (w:World) (al:w.heap[c]?=some (.chan 8 buf false s r tm)) (ad:0<buf.size) (bw:buf.getD 0 undef=v):
  aS 155 #[.chan (some c)] w λe w'=>e=.returned (.tuple #[v,.bool true])/\w'=w.setChan c 8 (buf.extract 1 buf.size) false s (r+1) tm:=by
 subst bw
 refine calls_of_loneTo λcs=>?_
 have e:Frame.enter prog 155 #[.chan (some c)] .normal=(base 155).at ⟨#[.chan (some c),undef,undef,undef,undef,undef,undef,undef,undef,undef,undef],[]⟩ [.code (f155.body.getD .skip)]:=by
  simp[Frame.enter,Frame.at,func155,base,f155]
 rw[e]
 refine LoneTo.goes (n:=11) ?_
 simp only[f155,Option.getD_some]
 s_c stepG_seq
 s_reg
 s_op
 s_op
 s_c stepG_region_end
 s_c stepG_seq
 s_reg
 s_op
 s_c stepG_region_end
 s_c stepG_seq
 s_reg
 s_stop
 refine LoneTo.step (step_lone_select_recv_buf (c:=c) (z:=.slice none 0 0) (cap:=8) (buf:=buf) (s:=s) (r:=r) (tm:=tm) (stepG_comm (cases:=#[rcase c aP]) (blocking:=false) (shape:=.select) (w':=w) rfl rfl ah (by simp[go_sem,execOp,rcase,Act.eval])) al ad) ?_
 rw[Frame.finish_at]
 walk_nrm
 refine LoneTo.goes (n:=17) ?_
 s_op
 s_op
 s_c stepG_region_end
 s_c stepG_block
 s_cond true
 s_c stepG_seq
 s_reg
 s_op
 s_op
 s_c stepG_region_end
 s_c stepG_seq
 s_reg
 s_op
 s_op
 s_op
 s_c stepG_region_end
 s_c stepG_ret'
 s_stop
 exact LoneTo.done ⟨.returned (.tuple #[_,.bool true]),_,rfl,⟨rfl,rfl⟩,rfl,rfl,rfl,rfl,_,func155,by(simp[results,f155,Frame.at];rw[Array.getElem?_eq_getElem ad];rfl)⟩
theorem agq (c s r:Nat) (tm:Bool) (w:World) (al:w.heap[c]?=some (.chan 8 #[] false s r tm)):
  aS 155 #[.chan (some c)] w λe w'=>e=.returned (.tuple #[aP,.bool false])/\w'=w:=by
 refine calls_of_loneTo λcs=>?_
 have e:Frame.enter prog 155 #[.chan (some c)] .normal=(base 155).at ⟨#[.chan (some c),undef,undef,undef,undef,undef,undef,undef,undef,undef,undef],[]⟩ [.code (f155.body.getD .skip)]:=by
  simp[Frame.enter,Frame.at,func155,base,f155]
 rw[e]
 refine LoneTo.goes (n:=11) ?_
 simp only[f155,Option.getD_some]
 s_c stepG_seq
 s_reg
 s_op
 s_op
 s_c stepG_region_end
 s_c stepG_seq
 s_reg
 s_op
 s_c stepG_region_end
 s_c stepG_seq
 s_reg
 s_stop
 refine LoneTo.step (step_lone_select_default (c:=c) (z:=.slice none 0 0) (cap:=8) (s:=s) (r:=r) (tm:=tm) (stepG_comm (cases:=#[rcase c aP]) (blocking:=false) (shape:=.select) (w':=w) rfl rfl ah (by simp[go_sem,execOp,rcase,Act.eval])) al) ?_
 rw[Frame.finish_at]
 walk_nrm
 refine LoneTo.goes (n:=11) ?_
 s_op
 s_op
 s_c stepG_region_end
 s_c stepG_block
 s_cond false
 s_c stepG_seq
 s_reg
 s_op
 s_op
 s_c stepG_region_end
 s_c stepG_ret'
 s_stop
 exact LoneTo.done ⟨.returned (.tuple #[aP,.bool false]),_,rfl,⟨rfl,rfl⟩,rfl,rfl,rfl,rfl,_,func155,by simp[results,f155,Frame.at]⟩
end
section
def yn:Value->Option (DataW Unit)
 |.int q a=>some (.lit (.int q a))
 |.bool b=>some (.lit (.bool b))
 |.slice none n c=>some (.slice [.lit (.int .i64 n),.lit (.int .i64 c)] [])
 |.slice (some ⟨b,o,none⟩) n c=>some (.slice [.lit (.int .i64 b),.lit (.int .i64 o),.lit (.int .i64 n),.lit (.int .i64 c)] [])
 |.map none=>some .nil
 |.map (some b)=>some (.agg [.lit (.int .i64 b)])
 |.pointer none=>some (.agg [.nil,.nil])
 |.pointer (some ⟨b,o,none⟩)=>some (.agg [.lit (.int .i64 b),.lit (.int .i64 o)])
 |.chan none=>some (.agg [.nil,.nil,.nil])
 |.chan (some b)=>some (.agg [.lit (.int .i64 b),.nil,.nil])
 |_=>none
def L2:DataW Unit->Option Value
 |.lit (.int q a)=>some (.int q a)
 |.lit (.bool b)=>some (.bool b)
 |.slice [.lit (.int _ n),.lit (.int _ c)] _=>some (.slice none n.toNat c.toNat)
 |.slice [.lit (.int _ b),.lit (.int _ o),.lit (.int _ n),.lit (.int _ c)] _=>some (.slice (some ⟨b.toNat,o.toNat,none⟩) n.toNat c.toNat)
 |.nil=>some (.map none)
 |.agg [.lit (.int _ b)]=>some (.map (some b.toNat))
 |.agg [.nil,.nil]=>some (.pointer none)
 |.agg [.lit (.int _ b),.lit (.int _ o)]=>some (.pointer (some ⟨b.toNat,o.toNat,none⟩))
 |.agg [.nil,.nil,.nil]=>some (.chan none)
 |.agg [.lit (.int _ b),.nil,.nil]=>some (.chan (some b.toNat))
 |_=>none
def agr{v:Value}{y:DataW Unit}(h:yn v=some y):L2 y=some v:=by
 unfold yn at h;split at h<;>first|(cases h;simp[L2];done)|cases h
def qK:Value->Option (DataW Unit×List MemPlace)
 |.agg vs=>(vs.toList.mapM yn).map (λl=>(.agg (.agg []::l),[]))
 |v=>(yn v).map (λd=>(d,[]))
def UH:DataW Unit->Option Value
 |.agg (.agg []::l)=>(l.mapM L2).map (λvs=>.agg vs.toArray)
 |d=>L2 d
def ags:∀{l:List Value}{ys:List (DataW Unit)},l.mapM yn=some ys->ys.mapM L2=some l
 | [],ys,h=>by simp at h;subst h;rfl
 |v::l,ys,h=>by
  rw[List.mapM_cons]at h
  cases af:yn v with
  |none=>rw[af]at h;cases h
  |some y=>
   cases an:l.mapM yn with
   |none=>rw[af,an]at h;cases h
   |some cz=>
    rw[af,an]at h
    cases h
    rw[List.mapM_cons,agr af,ags an]
    rfl
def L3{v:Value}(h:qK v=some y):UH y.1=some v:=by
 unfold qK at h;split at h
 ·next vs=>
  cases af:vs.toList.mapM yn with
  |none=>rw[af]at h;cases h
  |some l=>
   rw[af]at h;cases h;show(l.mapM L2).map _=_;rw[ags af];simp
 ·cases af:yn v with
  |none=>rw[af]at h;cases h
  |some d=>
   rw[af]at h;cases h;show UH d=some v;have an:=agr af;unfold UH;split
   ·next l=>
    unfold yn at af;split at af<;>cases af
   ·exact an
def B7(D:DataW Unit)(eN:Lit):Option Value:=if Maps.has D eN=true then UH (D.atKey eN .nil) else none
def agt{D:DataW Unit}(h:Maps.has D eN=true)(z UI:DataW Unit):D.atKey eN z=D.atKey eN UI:=by
 match D,h with
 |.map aX,h=>
  unfold DataW.atKey;dsimp only;split
  ·rfl
  ·next e=>
   rw[Maps.has_eq,Bi]at h;obtain⟨p,hm,hs⟩:=h;rw[List.find?_eq_none]at e;exact absurd hs (e p hm)
def ash{w:aC}{P:Program}{k:TypeId}{b n:Nat}{D:DataW Unit}(h:w.ownsMap P k qK b n D)(c6:Maps.has D eN=true):∃v y,qK v=some y/\(∀z,D.atKey eN z=y.1)/\∃key,keyOf P k key=some eN:=by
 obtain⟨aX,_,_,F,_,rfl⟩:=h;rw[Maps.has_eq,Bi]at c6;cases e:(((aX.toList.map (WideElems.rg P k qK)).foldr DataW.insert [])).find? (λp=>p.1.sameKey eN)with
 |none=>
  obtain⟨p,hm,hs⟩:=c6;rw[List.find?_eq_none]at e;exact absurd hs (e p hm)
 |some p=>
  have hm:=List.mem_of_find?_eq_some e;have hs:p.1.sameKey eN=true:=by simpa using List.find?_some e
  obtain⟨x,X,rfl⟩:=lU.1 (mem_sorted.1 hm);obtain⟨_,ui⟩:=F.reads x X;obtain⟨y,hy,asi⟩:=WideElems.rd_val ui;refine⟨x.val,y,hy,λz=>?_,x.key,?_⟩
  ·unfold DataW.atKey;dsimp only;rw[e,WideElems.rg_of ui];exact asi
  ·rw[WideElems.rg_of ui]at hs;rw[<-WideAt.sameKey_eq hs];exact WideElems.rd_key ui
def UJ{w:aC}{P:Program}{k:TypeId}{b n:Nat}{D:DataW Unit}(h:w.ownsMap P k qK b n D)(eN:Lit):(B7 D eN).isSome=Maps.has D eN:=by
 unfold B7;cases c6:Maps.has D eN with
 |false=>rfl
 |true=>
  obtain⟨v,y,bw,j1,_⟩:=ash h c6;rw[bc rfl,j1,L3 bw];rfl
noncomputable def wz(f:Lit->Option Value)(eN:Lit)(v:Option Value):Lit->Option Value:=λk=>@ite _ (k=eN) (Classical.propDecidable _) v (f k)
def Fi{f:Lit->Option Value}{v:Option Value}:wz f eN v eN=v:=by unfold wz;rw[bc rfl]
def yo{f:Lit->Option Value}{k:Lit}{v:Option Value}(h:k≠eN):wz f eN v k=f k:=by unfold wz;rw[aV h]
def asj{D:DataW Unit}(jw:Maps.IsMap D)(hk:WideAt.IsKeyLit eN){v:Value}(bw:qK v=some y):B7 (D.put eN y.1)=wz (B7 D) eN (some v):=by
 funext k;unfold B7;by_cases h:k=eN
 ·subst h;rw[Fi,bc (Maps.has_put_same jw hk _),Maps.atKey_put_same jw hk,L3 bw]
 ·rw[yo h,Maps.has_put_other h,Maps.atKey_put_other h]
def asl{D:DataW Unit}:B7 (D.del eN)=wz (B7 D) eN none:=by
 funext k;unfold B7;by_cases h:k=eN
 ·subst h;rw[Fi,aV (by rw[Maps.has_del_same];decide)]
 ·rw[yo h,Maps.has_del_other h,Maps.atKey_del_other h]
def fp(w:World)(P:Program)(k:TypeId)(b n s:Nat)(f:Lit->Option Value):Prop:=∃D,w.ownsMap P k qK b n D/\Maps.size D=s/\B7 D=f
section
variable {P:Program}{k:TypeId}{w w':World}{b n s:Nat}{f:Lit->Option Value}
def fp.lt(h:fp w P k b n s f):b<(w:Nat):=let ⟨_,h,_⟩:=h;h.lt
def fp.ay(h:fp w P k b n s f)(ad:w'.heap[b]? =w.heap[b]?):fp w' P k b n s f:=by
 obtain⟨D,⟨aX,clock,af,an⟩,aO,bt⟩:=h;exact⟨D,⟨aX,clock,ad.trans af,an⟩,aO,bt⟩
def fp.ext(h:fp w P k b n s f)(X:Z w w'):fp w' P k b n s f:=h.ay (X.block b h.lt)
def fp.DG(w:aC)(P:Program)(k:TypeId):fp (w.alloc (.map #[] 0)) P k w 0 0 (λ_=>none):=
 ⟨.map [],World.ownsMap_made w P k qK,rfl,by funext eN;rfl⟩
def fp.j'(h:fp w P k b n s f):∃aX c,w.heap[b]?=some (.map aX c):=let ⟨_,⟨aX,c,h,_⟩,_⟩:=h;⟨aX,c,h⟩
def fp.k'(h:fp w P k b n s f)(K:Maps.Keyed P k)(bm:P.underlying t=some (.map k e)){z:Value}(bp:(zeroValue e).run P w=.ok z w)(hy:qK z=some y)(uF:keyOf P k key=some eN):(Instr.lookup t (.map (some b)) key false).run P w=.ok ((f eN).getD z) w:=by
 obtain⟨D,h,_,rfl⟩:=h;obtain⟨v,_,mL,bw⟩:=h.lookup K bm bp (zd:=y.1) (zp:=y.2) hy uF;rw[mL];have aG:=L3 bw;dsimp only at aG;unfold B7;by_cases c6:Maps.has D eN=true
 ·rw[bc c6,agt c6 .nil y.1,aG];rfl
 ·rw[aV c6];rw[Maps.atKey_of_not_has (by simpa using c6),L3 hy]at aG;cases aG;rfl
def fp.m'(h:fp w P k b n s f)(K:Maps.Keyed P k)(bm:P.underlying t=some (.map k e)){z:Value}(bp:(zeroValue e).run P w=.ok z w)(hy:qK z=some y)(uF:keyOf P k key=some eN):(Instr.lookup t (.map (some b)) key true).run P w=.ok (.tuple #[(f eN).getD z,.bool (f eN).isSome]) w:=by
 obtain⟨D,h,_,rfl⟩:=h;obtain⟨v,_,mL,bw⟩:=h.look_ok K bm bp (zd:=y.1) (zp:=y.2) hy uF;rw[mL];have aG:=L3 bw;dsimp only at aG;unfold B7;by_cases c6:Maps.has D eN=true
 ·rw[bc c6,agt c6 .nil y.1,aG,c6];rfl
 ·rw[aV c6];rw[Maps.atKey_of_not_has (by simpa using c6),L3 hy]at aG;cases aG;rw[show Maps.has D eN=false from by simpa using c6];rfl
def fp.store(h:fp w P k b n s f)(K:Maps.Keyed P k)(bm:P.underlying t=some (.map k e))(aq:n<maxLen){val:Value}(uF:keyOf P k key=some eN)(bw:qK val=some y):
  ∃w',(Instr.mapUpdate t (.map (some b)) key val).run P w=.ok () w'/\fp w' P k b (n+1) (if (f eN).isSome=true then s else s+1) (wz f eN (some val))/\w.mapTurned w' b:=by
 obtain⟨D,h,rfl,rfl⟩:=h;obtain⟨w',mL,af,an⟩:=h.store K bm aq (d:=y.1) (ps:=y.2) uF bw;refine⟨w',mL,⟨_,af,?_,asj h.isMap (K.key uF) bw⟩,an⟩;rw[Maps.size_put (h.tidy K),UJ h]
def fp.drop(h:fp w P k b n s f)(K:Maps.Keyed P k)(bm:P.underlying t=some (.map k e))(uF:keyOf P k key=some eN)(ty:TypeId):
  ∃w',(Builtin.delete_ #[t,k] ty #[.map (some b),key]).run P w=.ok (.tuple #[]) w'/\fp w' P k b n (if (f eN).isSome=true then s - 1 else s) (wz f eN none)/\w.mapTurned w' b:=by
 obtain⟨D,h,rfl,rfl⟩:=h;obtain⟨w',mL,af,an⟩:=h.drop K bm uF ty;refine⟨w',mL,⟨_,af,?_,asl⟩,an⟩;rw[UJ h];have:=Maps.size_del (k:=eN) (h.tidy K);split<;>simp_all<;>omega
def fp.len(h:fp w P k b n s f)(bm:P.underlying t=some (.map k e))(ty:TypeId):(Builtin.len_ #[t] ty #[.map (some b)]).run P w=.ok (.int .i64 s) w:=by
 obtain⟨D,h,rfl,rfl⟩:=h;exact h.len bm ty
end
end
section
section
variable {P:Program}{w:World}{ops:Array Oper}{rest:List Oper}{o:Oper}{a:Act}{Q:Exit->Act->World->Prop}{K:Act->World->Prop}{k e t:TypeId}{b n s:Nat}{f:Lit->Option Value}
def agu(m x:Operand)(mw:o.op=Op.lookup t m x false)(oz:Maps.Keyed P k)(bm:P.underlying t=some (.map k e))(z:Value)(bp:(zeroValue e).run P w=.ok z w)(hy:qK z=some y)(hm:a.eval m=.map (some b))(h:fp w P k b n s f)(X:a.eval x=key)(uF:keyOf P k key=some eN)(aE:K (a.put o.dst ((f eN).getD z)) w):o.wp P a w K Q:=by
 unfold Oper.wp;simp[execOp,mw,hm,X,h.k' oz bm bp hy uF,Result.andThen];exact aE
def L4(m x:Operand)(mw:o.op=Op.lookup t m x true)(oz:Maps.Keyed P k)(bm:P.underlying t=some (.map k e))(z:Value)(bp:(zeroValue e).run P w=.ok z w)(hy:qK z=some y)(hm:a.eval m=.map (some b))(h:fp w P k b n s f)(X:a.eval x=key)(uF:keyOf P k key=some eN)(aE:K (a.put o.dst (.tuple #[(f eN).getD z,.bool (f eN).isSome])) w):o.wp P a w K Q:=by
 unfold Oper.wp;simp[execOp,mw,hm,X,h.m' oz bm bp hy uF,Result.andThen];exact aE
def PR(m x v:Operand)(mw:o.op=Op.mapUpdate t m x v)(oz:Maps.Keyed P k)(bm:P.underlying t=some (.map k e))(hm:a.eval m=.map (some b))(h:fp w P k b n s f)(aq:n<maxLen){val:Value}(X:a.eval x=key)(bw:a.eval v=val)(uF:keyOf P k key=some eN)(hy:qK val=some y)(aE:∀w',fp w' P k b (n+1) (if (f eN).isSome=true then s else s+1) (wz f eN (some val))->w.mapTurned w' b->K (a.put o.dst undef) w'):o.wp P a w K Q:=by
 obtain⟨w',mL,eI,hn⟩:=h.store oz bm aq uF hy;unfold Oper.wp;simp[execOp,mw,hm,X,bw,mL,Result.andThen];exact aE w' eI hn
def asm(m x:Operand)(mw:o.op=Op.call {callee:=Callee.builtin Builtin.delete,args:=#[m,x],argTypes:=#[t,k]})(oz:Maps.Keyed P k)(bm:P.underlying t=some (.map k e))(hm:a.eval m=.map (some b))(h:fp w P k b n s f)(X:a.eval x=key)(uF:keyOf P k key=some eN)(aE:∀w',fp w' P k b n (if (f eN).isSome=true then s - 1 else s) (wz f eN none)->w.mapTurned w' b->K (a.put o.dst (.tuple #[])) w'):o.wp P a w K Q:=by
 obtain⟨w',mL,eI,hn⟩:=h.drop oz bm uF o.type;unfold Oper.wp;simp[execOp,mw,resolve,invoke,builtin,hm,X,mL,Result.andThen];exact aE w' eI hn
def Fj(bC:o.guard=none)(h:∀K:Act->aC->Prop,(∀a w,wpList P ops Q rest a w->K a w)->o.wp P a w K Q):wpList P ops Q (o::rest) a w:=tf bC h
def PS{E:Prop}(bC:o.guard=none)(h:o.wp P a w K Q):if Region.wanted o (yielded ops a.tmps)=true then o.wp P a w K Q else E:=by
 rw[bc (by simp only[Region.wanted,bC])];exact h
end
end
def agv:laidOutB prog=true:=bQ
def asn:(match prog.underlying 152 with|some (.array _ _)|some (.struct _)=>true|_=>false)=true:=by rw[underlying152]
def agw:(152:TypeId)<prog.types.size:=Nat.le_of_ble_eq_true bQ
def aso:prog.keyTypeAt 2 152=true:=bQ
def UK:Maps.Keyed prog 152:=Maps.Keyed.of_law (deep_law_laid agv (m:=2) J agw aso asn)
def agx:prog.cellsOf 152=2:=bQ
def agy:prog.cellsOf 3=1:=bQ
def asp:prog.keyType 152=true:=bQ
def Fk(a b:Int):Lit:=.string (keyBytes [.int .i64 a,.int .i64 b])
def PT{a b:Int}(dD:(Lit.int .i64 a).wf=true)(dZ:(Lit.int .i64 b).wf=true):keyOf prog 152 (.agg #[a,b])=some (Fk a b):=by
 have bk:(Value.agg #[a,b]).formed prog 152=true:=by simp[Value.formed,underlying152,agx]
 obtain⟨m,hm⟩:∃m,prog.types.size=m+1:=⟨prog.types.size - 1,(Nat.sub_add_cancel (Om (gz _) agw)).symm⟩;unfold keyOf;simp only[underlying152];rw[bc (by simp[asp,bk]),hm];unfold Program.keyLits;simp only[underlying152,Value.cells];rw[bc ⟨by rw[agx];rfl,by simp⟩];simp[Program.keyLits,ft,agy,dD,dZ,Fk]
def ja(c:bK)(a b:Int):Bool:=decide (0<=a/\0<=b)&&nr c a.toNat b.toNat
def s3(w:World)(M:Nat->Prop)(buf:Array Value)(l:List dv):Prop:=
 buf.size=l.length/\∀(k:Nat) (m:dv),l[k]?=some m->rb m/\∃a n c,buf[k]?=some (Value.slice a n c)/\cv M w (λw=>a7 w 1 cr a n c (qe m))
structure ko (w:World) (M:Nat->Prop) (c:bK) (bW:Nat) (g:Nat->Nat->Nat) (bT:Nat->Nat->List dv):Prop where
 map:cv M w (λw=>∃dM n s f,w.heap[bW]?=some (.cells #[.map (some dM)] 148)/\fp w prog 152 dM n s f/\
  ∀a b:Int,(Lit.int .i64 a).wf=true->(Lit.int .i64 b).wf=true->f (Fk a b)=if ja c a b=true then some (.chan (some (g a.toNat b.toNat))) else none)
 inj:∀a b ga b',nr c a b=true->nr c ga b'=true->g a b=g ga b'->a=ga/\b=b'
 AX:∀a b,nr c a b=true->M (g a b)
 chan:∀a b,nr c a b=true->∃buf s r,w.heap[g a b]?=some (.chan 8 buf false s r false)/\s3 w M buf (bT a b)
def asq(w:aC):(zeroValue 150).run prog w=.ok (.chan none) w:=zeroValue150 w
def agz(M:eZ)(c:bK)(bW:Nat)(g:Nat->Nat->Nat)(bT:Nat->Nat->List dv)(a b:Int)(w:aC)(h:ko w M c bW g bT)(dD:(Lit.int .i64 a).wf=true)(dZ:(Lit.int .i64 b).wf=true):
  aS 88 #[bW,a,b] w (cU (.tuple (if ja c a b=true then #[.chan (some (g a.toNat b.toNat)),av] else #[.chan none,bo 140])) w):=by
 obtain⟨_,n,s,f,ad,eh,bk⟩:=h.map.c8;have cO:=aL (o:=0) ad rfl;change aa _ at eh;have bV:=I (bk a b dD dZ);have b6:=I (PT dD dZ);clear ad bk h;have pS:aa (ja c a b=ja c a b):=rfl;cases hw:ja c a b with
 |true=>
  have lV:=I (show f (Fk a b)=some (.chan (some (g a.toNat b.toNat)))from by rw[bV.out,bc hw]);clear hw bV pS;rw[bc rfl];exact agA
 |false=>
  have lV:=I (show f (Fk a b)=none from by rw[bV.out,aV (by rw[hw];decide)]);clear hw bV pS;rw[aV ah];exact agA
section
def b4.ep(w:aC)(M:eZ):b4 w M M:=⟨λ_ h=>h,λ_ h=>.inl h⟩
def s3.step{w w':aC}{M:eZ}{l:List dv}(h:s3 w M buf l)(aj:aI M w w'):s3 w' M buf l:=
 ⟨h.1,λk m hk=>by obtain⟨af,a,n,c,an,aO⟩:=h.2 k m hk;exact⟨af,a,n,c,an,aO.step aj (b4.ep _ _)⟩⟩
section
variable {w w':World}{M:Nat->Prop}{c:bK}{bW:Nat}{g:Nat->Nat->Nat}{bT:Nat->Nat->List dv}
def ko.ext(h:ko w M c bW g bT)(X:Z w w'):ko w' M c bW g bT:=
 ⟨h.map.step (.of X) (b4.ep _ _),h.inj,h.AX,λa b j2=>by obtain⟨buf,s,r,af,an⟩:=h.chan a b j2;exact⟨buf,s,r,X.ay af,an.step (.of X)⟩⟩
def mY(bT:Nat->Nat->List dv)(a b:Nat)(l:List dv):Nat->Nat->List dv:=λx y=>if x=a/\y=b then l else bT x y
def ko.set{a s r:Nat}{l:List dv}(h:ko w M c bW g bT)(hw:nr c a b=true)(aj:aI (·=g a b) w w')(ad:w'.heap[g a b]?=some (.chan 8 buf false s r false))(a1:s3 w' M buf l):
  ko w' M c bW g (mY bT a b l):=by
 have fe:aI M w w':=aj.sub (λx X=>by have:x=g a b:=X;rw[this];exact h.AX a b hw);refine⟨h.map.step fe (b4.ep _ _),h.inj,h.AX,λx y tQ=>?_⟩;unfold mY;by_cases he:x=a/\y=b
 ·obtain⟨rfl,rfl⟩:=he;rw[bc ⟨rfl,rfl⟩];exact⟨buf,s,r,ad,a1⟩
 ·rw[aV he];obtain⟨asr,s',UL,af,an⟩:=h.chan x y tQ;exact⟨asr,s',UL,(aj.block _ (bZ af) (λbC=>he (h.inj x y a b tQ hw bC))).trans af,an.step fe⟩
end
def UM(w:aC)(b cap:Nat)(buf:Array Value)(cl:Bool)(s r:Nat)(tm:Bool):aI (·=b) w (w.setChan b cap buf cl s r tm):=
 ⟨rfl,rfl,rfl,by simp[World.setChan],λk _ aq=>by simp only[World.setChan];rw[Array.getElem?_setIfInBounds_ne (λh=>aq h.symm)]⟩
def UN{w:aC}{o:Obj}(h:w.heap[b]?=some o)(cap:Nat)(buf:Array Value)(cl:Bool)(s r:Nat)(tm:Bool):(w.setChan b cap buf cl s r tm).heap[b]?=some (.chan cap buf cl s r tm):=by
 have:=bZ h;simp[World.setChan,this]
def oq(c:bK)(g:Nat->Nat->Nat)(b:Nat):Prop:=∃x y,nr c x y=true/\b=g x y
def ko.UO{bh w w':aC}{M:eZ}{c:bK}{bW:Nat}{g:Nat->Nat->Nat}{bT:Nat->Nat->List dv}(h:ko bh M c bW g bT)(aj:aI (oq c g) w w'):aI M w w':=aj.sub (λx k=>by obtain⟨a,b,e,k⟩:=k;rw[k];exact h.AX a b e)
def L5{w w':aC}{c:bK}{g:Nat->Nat->Nat}{a:Nat}(hw:nr c a b=true)(aj:aI (·=g a b) w w'):aI (oq c g) w w':=aj.sub (λx e=>⟨a,b,hw,e⟩)
def tR{c:bK}{a b:Int}(h:ja c a b=true):nr c a.toNat b.toNat=true:=by
 unfold ja at h;rw[jS]at h;exact h.2
def AY(w:World)(M:Nat->Prop)(c:bK)(bW:Nat)(g:Nat->Nat->Nat)(bT:Nat->Nat->List dv)(a b:Int)(e:Ending)(w':World):Prop:=
 if ja c a b=true then
  match bT a.toNat b.toNat with
  | []=>e=.returned (.tuple #[aP,bo 141])/\Z w w'
  |m::l=>∃sa n h7,e=.returned (.tuple #[ao sa n h7,av])/\rb m/\cv M w' (λw=>a7 w 1 cr sa n h7 (qe m))/\ko w' M c bW g (mY bT a.toNat b.toNat l)/\aI (·=g a.toNat b.toNat) w w'
 else e=.returned (.tuple #[aP,bo 140])/\Z w w'
def PU(M:eZ)(c:bK)(bW:Nat)(g:Nat->Nat->Nat)(bT:Nat->Nat->List dv)(a b:Int)(w:aC)(H:ko w M c bW g bT)(dD:(Lit.int .i64 a).wf=true)(dZ:(Lit.int .i64 b).wf=true):
  aS 89 #[bW,a,b] w (AY w M c bW g bT a b):=by
 replace H:=I H;cases hw:ja c a b with
 |false=>
  have db:aa (∀e w',e=.returned (.tuple #[aP,bo 140])/\Z w w'->AY w M c bW g bT a b e w'):=λe w' q=>by unfold AY;rw[aV (by rw[hw];decide)];exact q
  change aa _ at hw;go_enter func89,ntmps89;go_wp2_with fail;refine DH ?_;intro w1 bn;rw[hw.out,aV ah];replace bn:=I bn;go_wp2;go_ret2;exact db _ _ ⟨rfl,U⟩
 |true=>
  obtain⟨buf,s,r,af,bg⟩:=H.chan _ _ (tR hw);have dW:=I hw;have dg:=I bg;cases a1:bT a.toNat b.toNat with
  |nil=>
   have db:aa (∀e w',e=.returned (.tuple #[aP,bo 141])/\Z w w'->AY w M c bW g bT a b e w'):=λe w' q=>by unfold AY;rw[bc hw,a1];exact q
   rw[a1]at bg;obtain rfl:buf=#[]:=Array.eq_empty_of_size_eq_zero bg.1;change aa _ at af;clear hw bg a1;go_enter func89,ntmps89;go_wp2_with fail;refine DH ?_;intro w1 bn;rw[dW.out,bc rfl];replace bn:=I bn;go_wp2_with fail;refine(agq _ s r false _ (bn.ay af)).mono ?_;rintro e aN⟨rfl,rfl⟩;go_wp2;go_ret2;exact db _ _ ⟨rfl,U⟩
  |cons m l=>
   have db:aa (∀e w',(∃sa n h7,e=.returned (.tuple #[ao sa n h7,av])/\rb m/\cv M w' (λw=>a7 w 1 cr sa n h7 (qe m))/\ko w' M c bW g (mY bT a.toNat b.toNat l)/\aI (·=g a.toNat b.toNat) w w')->AY w M c bW g bT a b e w'):=λe w' q=>by unfold AY;rw[bc hw,a1];exact q
   rw[a1]at bg;have ar:0<buf.size:=by rw[bg.1];simp
   obtain⟨bF,sa,n,h7,bw,a8⟩:=bg.2 0 m rfl;have b9:buf.getD 0 undef=Value.slice sa n h7:=by simp[PV,bw]
   change aa _ at af;replace b9:=I b9;replace ar:=I ar;replace bF:=I bF;replace a8:=I a8;replace bg:=I bg;clear hw a1 bw;go_enter func89,ntmps89;go_wp2_with fail;refine DH ?_;intro w1 bn;rw[dW.out,bc rfl];replace bn:=I bn;go_wp2_with fail;refine(i' _ s r _ buf false _ (bn.ay af) ar b9).mono ?_;rintro e aN⟨rfl,rfl⟩;have aj:=UM w1 (g a.toNat b.toNat) 8 (buf.extract 1 buf.size) false s (r+1) false;have al:=UN (bn.ay af) 8 (buf.extract 1 buf.size) false s (r+1) false;generalize w1.setChan (g a.toNat b.toNat) 8 (buf.extract 1 buf.size) false s (r+1) false=aN at aj al ⊢;have fe:aI M w1 aN:=aj.sub (λx X=>by have:x=g a.toNat b.toNat:=X;rw[this];exact H.AX _ _ (tR dW))
   have c3:=(H.ext bn).set (l:=l) (tR dW) aj al ⟨by simp[bg.out.1],λk tv hk=>by
    obtain⟨q1,ga,fS,pY,dk,eP⟩:=(bg.step (.of bn)).2 (k+1) tv hk;refine⟨q1,ga,fS,pY,?_,eP.step fe (b4.ep _ _)⟩;have fH:k+1<buf.size:=(Et.1 dk).1;rw[Array.getElem?_extract];rw[bc J,Nat.add_comm]
    exact dk⟩
   replace c3:=I c3;have iH:=I ((aI.of bn).trans aj);have oS:=I ((a8.step (.of bn) (b4.ep _ _)).step fe (b4.ep _ _));clear aj al fe;go_wp2;go_ret2;exact db _ _ ⟨sa,n,h7,rfl,bF,oS,c3,iH⟩
end
def ass(M:eZ)(c:bK)(bW:Nat)(g:Nat->Nat->Nat)(bT:Nat->Nat->List dv)(a b:Int)(w:aC)(H:ko w M c bW g bT)(dD:(Lit.int .i64 a).wf=true)(dZ:(Lit.int .i64 b).wf=true):
  aS 118 #[bW,a,b] w λe w'=>(∃n:Int,e=.returned n)/\ko w' M c bW g (if ja c a b=true then mY bT a.toNat b.toNat (bT a.toNat b.toNat).tail else bT)/\aI (oq c g) w w':=by
 replace H:=I H;obtain⟨L,bg⟩:∃L,(if ja c a b=true then mY bT a.toNat b.toNat (bT a.toNat b.toNat).tail else bT)=L:=⟨_,rfl⟩;rw[bg];replace bg:=I bg;go_enter func118,ntmps118;go_wp2_with fail;refine(PU M c bW g bT a b _ H dD dZ).mono ?_;rintro e w1 bB;have b7:∃v n,e=.returned (.tuple #[v,.int .i64 n])/\ko w1 M c bW g L/\aI (oq c g) w w1:=by
  rw[<-bg.out];unfold AY at bB;cases hw:ja c a b with
  |false=>
   rw[aV (by rw[hw];decide)]at bB;rw[aV ah];exact⟨_,_,bB.1,H.ext bB.2,.of bB.2⟩
  |true=>
   rw[bc hw]at bB;rw[bc rfl];cases a1:bT a.toNat b.toNat with
   |nil=>
    rw[a1]at bB;refine⟨_,_,bB.1,?_,.of bB.2⟩;have:mY bT a.toNat b.toNat [].tail=bT:=by
     funext x y;unfold mY;by_cases tQ:x=a.toNat/\y=b.toNat
     ·rw[bc tQ,tQ.1,tQ.2,a1];rfl
     ·rw[aV tQ]
    rw[this];exact H.ext bB.2
   |cons m l=>
    rw[a1]at bB;obtain⟨_,n,_,q1,_,_,gV,mO⟩:=bB;exact⟨_,_,q1,gV,L5 (tR hw) mO⟩
 obtain⟨v,n,rfl,c3,iH⟩:=b7;replace c3:=I c3;replace iH:=I iH;clear bB;go_wp2;go_ret;exact⟨⟨_,rfl⟩,c3,iH⟩
def ast(M:eZ)(c:bK)(bW:Nat)(g:Nat->Nat->Nat)(bT:Nat->Nat->List dv)(a b:Int)(w:aC)(H:ko w M c bW g bT)(dD:(Lit.int .i64 a).wf=true)(dZ:(Lit.int .i64 b).wf=true):
  aS 53 #[bW,a,b] w (cU (.int .i64 (if ja c a b=true then (bT a.toNat b.toNat).length else 0:Nat)) w):=by
 change aa _ at H;cases hw:ja c a b with
 |false=>
  change aa _ at hw;go_enter func53,ntmps53;go_wp2_with fail;refine DH ?_;intro w1 bn;rw[hw.out,aV ah];change aa _ at bn;go_wp2;go_ret;exact⟨rfl,U⟩
 |true=>
  obtain⟨_,s,r,H1,an⟩:=H.chan _ _ (tR hw);change aa _ at hw H1;have dg:=I an.1;clear an;go_enter func53,ntmps53;go_wp2_with fail;refine DH ?_;intro w1 bn;rw[hw.out,bc rfl];have al:=bn.ay H1;have hlen:=λty=>Go.Conc.run_len_chan (P:=prog) (w:=w1) 150 ty underlying150 al;change aa _ at bn;go_wp2;go_ret;exact⟨by rw[<-dg.out];rfl,U⟩
def s3.tl{m:dv}{l:List dv}(h:s3 w M buf (m::l)):s3 w M (buf.extract 1 buf.size) l:=
 ⟨by have:=h.1;simp at this;simp[this],λk tv hk=>by
  obtain⟨q1,ga,fS,pY,dk,eP⟩:=h.2 (k+1) tv hk;refine⟨q1,ga,fS,pY,?_,eP⟩;have fH:k+1<buf.size:=(Et.1 dk).1;rw[Array.getElem?_extract,bc J,Nat.add_comm]
  exact dk⟩
def s3.qA{m:dv}{l:List dv}{c:Nat}(h:s3 w M buf l)(hm:rb m)(eL:cv M w (λw=>a7 w 1 cr a n c (qe m))):s3 w M (buf.push (ao a n c)) (l++[m]):=
 ⟨by simp[h.1],λk tv hk=>by
  by_cases fH:k<l.length
  ·rw[HW fH]at hk;obtain⟨q1,ga,fS,pY,dk,eP⟩:=h.2 k tv hk;refine⟨q1,ga,fS,pY,?_,eP⟩;rw[RV,aV (by have:=h.1;omega)];exact dk
  ·rw[Kr J]at hk;have sN:k - l.length=0:=by
    rcases C7 (k - l.length)with aZ|aZ
    ·exact aZ
    ·rw[zy (by simp;omega)]at hk;cases hk
   rw[sN]at hk;cases hk;refine⟨hm,a,n,c,?_,eL⟩
   rw[RV,bc (by have:=h.1;omega)]⟩
def UP{a:Nat}:mY bT a b (bT a b)=bT:=by
 funext x y;unfold mY;by_cases h:x=a/\y=b
 ·rw[bc h,h.1,h.2]
 ·rw[aV h]
def asu(M:eZ)(c:bK)(bW:Nat)(g:Nat->Nat->Nat)(bT:Nat->Nat->List dv)(a b:Int)(sa:bl)(n h7:Nat)(m:dv)(w:aC)(H:ko w M c bW g bT)(dD:(Lit.int .i64 a).wf=true)(dZ:(Lit.int .i64 b).wf=true)(bF:rb m)(ar:a7 w 1 cr sa n h7 (qe m))(Jw:∀b,M b->b<(w:Nat))(G9:∀a b,(bT a b).length<=8):
  aS 87 #[bW,a,b,ao sa n h7] w λe w'=>(∃n:Int,e=.returned n)/\ko w' M c bW g (if ja c a b=true/\(bT a.toNat b.toNat).length<8 then mY bT a.toNat b.toNat (bT a.toNat b.toNat++[m]) else bT)/\aI (oq c g) w w':=by
 have aq:n<=10000000:=by have af:=ar.neq;have:=Uz bF;omega
 replace H:=I H;replace bF:=I bF;replace ar:=I ar;replace Jw:=I Jw;cases hw:ja c a b with
 |false=>
  rw[aV (by rintro ⟨h,_⟩;cases h)];change aa _ at hw;go_enter func87,ntmps87;go_wp2_with fail;refine DH ?_;intro w1 bn;exact agB
 |true=>
  obtain⟨buf,s,r,H1,dg⟩:=H.chan _ _ (tR hw);change aa _ at hw;replace H1:=I H1;replace dg:=I dg;obtain⟨L,bg⟩:∃L,(if true=true/\(bT a.toNat b.toNat).length<8 then mY bT a.toNat b.toNat (bT a.toNat b.toNat++[m]) else bT)=L:=⟨_,rfl⟩;rw[bg];replace bg:=I bg;replace G9:=I G9;go_enter func87,ntmps87;go_wp2_with fail;refine DH ?_;intro w1 bn;rw[hw.out,bc rfl];replace bn:=I bn;go_wp2_with fail;refine(OT sa n h7 (qe m) _ (ar.ext bn) aq).mono ?_;rintro e aN⟨ch,cF,c2,rfl,aM,ad⟩;have bu:=I (aM.mono (aBw:=(w:Nat)) bn.size);have bq:=I (bn.trans ad);clear aM ad;have X:=bq.ay H1;have n':∀(a6:aC),aI (·=g a.toNat b.toNat) aN a6->aI M aN a6:=λa6 aj=>aj.sub (λx X=>by have:x=g a.toNat b.toNat:=X;rw[this];exact H.AX _ _ (tR hw));have a8:cv M aN (λw=>a7 w 1 cr ch cF c2 (qe m)):=(bu.kS (λai ak hm=>by have af:=(bu.lt ai ak).1;have an:=Jw.out _ hm;omega)).mono (λw h=>h.aF);replace a8:=I a8;replace n':=I n';go_wp2_with fail;by_cases fH:buf.size<8
  ·refine(PQ _ s r buf false _ _ X fH).mono ?_;rintro e a6⟨rfl,vq⟩;have aj:=UM aN (g a.toNat b.toNat) 8 (buf.push (ao ch cF c2)) false (s+1) r false;have al:=UN X 8 (buf.push (ao ch cF c2)) false (s+1) r false;rw[<-vq]at aj al;have Hc:=n'.out _ aj;have qH:=(H.ext bq).set (tR hw) aj al (((dg.step (.of bq)).step Hc).qA bF (a8.step Hc (b4.ep _ _)));have c3:=I (show ko a6 M c bW g L from by rw[<-bg.out,bc ⟨by first|trivial|rfl,by rw[<-dg.out.1];exact fH⟩];exact qH);have iH:aa (aI (oq c g) w a6):=(aI.of bq).trans (L5 (tR hw) aj);clear aj al Hc qH X vq fH;go_wp2;go_ret;exact⟨⟨_,rfl⟩,c3,iH⟩
  ·refine(asg _ s r buf false _ _ X J).mono ?_;rintro e a6⟨rfl,rfl⟩;have c3:=I (show ko a6 M c bW g L from by rw[<-bg.out,aV (by rintro ⟨_,h⟩;rw[<-dg.out.1]at h;exact fH h)];exact H.ext bq);have iH:aa (aI (oq c g) w a6):=(aI.of bq);clear X fH;go_wp2;go_ret;exact⟨⟨_,rfl⟩,c3,iH⟩
def UQ{a:Nat}{l l':List dv}:mY (mY bT a b l) a b l'=mY bT a b l':=by
 funext x y;unfold mY;by_cases h:x=a/\y=b
 ·rw[bc h,bc h]
 ·rw[aV h,aV h,aV h]
def ko.agC{g:Nat->Nat->Nat}{a s r:Nat}{m:dv}{l:List dv}(h:ko w M c bW g bT)(hw:nr c a b=true)(ad:w.heap[g a b]?=some (.chan 8 buf false s r false))(eV:s3 w M buf (m::l))(he:w'=w.setChan (g a b) 8 (buf.extract 1 buf.size) false s (r+1) false):
  ko w' M c bW g (mY bT a b l)/\w'.heap[g a b]?=some (.chan 8 (buf.extract 1 buf.size) false s (r+1) false)/\s3 w' M (buf.extract 1 buf.size) l/\aI (oq c g) w w':=by
 have aj:=UM w (g a b) 8 (buf.extract 1 buf.size) false s (r+1) false;have al:=UN ad 8 (buf.extract 1 buf.size) false s (r+1) false;rw[<-he]at aj al;have fe:aI M w w':=aj.sub (λx X=>by have:x=g a b:=X;rw[this];exact h.AX _ _ hw);have a1:=eV.tl.step fe;exact⟨h.set hw aj al a1,al,a1,L5 hw aj⟩
def ko.o'{g:Nat->Nat->Nat}{a s r:Nat}{m:dv}{l:List dv}{sa:bl}{h7:Nat}(h:ko w M c bW g bT)(hw:nr c a b=true)(ad:w.heap[g a b]?=some (.chan 8 buf false s r false))(eV:s3 w M buf l)(hm:rb m)(eL:cv M w (λw=>a7 w 1 cr sa n h7 (qe m)))(he:w'=w.setChan (g a b) 8 (buf.push (ao sa n h7)) false (s+1) r false):
  ko w' M c bW g (mY bT a b (l++[m]))/\w'.heap[g a b]?=some (.chan 8 (buf.push (ao sa n h7)) false (s+1) r false)/\s3 w' M (buf.push (ao sa n h7)) (l++[m])/\aI (oq c g) w w':=by
 have aj:=UM w (g a b) 8 (buf.push (ao sa n h7)) false (s+1) r false;have al:=UN ad 8 (buf.push (ao sa n h7)) false (s+1) r false;rw[<-he]at aj al;have fe:aI M w w':=aj.sub (λx X=>by have:x=g a b:=X;rw[this];exact h.AX _ _ hw);have a1:=(eV.step fe).qA hm (eL.step fe (b4.ep _ _));exact⟨h.set hw aj al a1,al,a1,L5 hw aj⟩
def UR(l:List dv):List dv:=l.tail++l.take 1
def asv(M:eZ)(c:bK)(bW:Nat)(g:Nat->Nat->Nat)(bT:Nat->Nat->List dv)(a b:Int)(w:aC)(H:ko w M c bW g bT)(dD:(Lit.int .i64 a).wf=true)(dZ:(Lit.int .i64 b).wf=true)(fG:∀a b,(bT a b).length<=8):
  aS 120 #[bW,a,b] w λe w'=>(∃n:Int,e=.returned n)/\ko w' M c bW g (if ja c a b=true then mY bT a.toNat b.toNat (UR (bT a.toNat b.toNat)) else bT)/\aI (oq c g) w w':=by
 replace H:=I H;cases hw:ja c a b with
 |false=>
  rw[aV ah];change aa _ at hw;go_enter func120,ntmps120;go_wp2_with fail;refine DH ?_;intro w1 bn;exact agB
 |true=>
  rw[bc rfl];obtain⟨buf,s,r,af,dg⟩:=H.chan _ _ (tR hw);change aa _ at hw;have G9:=I (fG a.toNat b.toNat);obtain⟨L,bg⟩:∃L,mY bT a.toNat b.toNat (UR (bT a.toNat b.toNat))=L:=⟨_,rfl⟩;rw[bg];replace bg:=I bg;clear fG;cases a1:bT a.toNat b.toNat with
  |nil=>
   rw[a1]at dg;obtain rfl:buf=#[]:=Array.eq_empty_of_size_eq_zero dg.1;change aa _ at af
   have hf:=I (show L=bT from by
    have e:UR (bT a.toNat b.toNat)=bT a.toNat b.toNat:=by rw[a1];rfl
    rw[<-bg.out,e];exact UP)
   clear dg a1;go_enter func120,ntmps120;go_wp2_with fail;refine DH ?_;intro w1 bn;rw[hw.out,bc rfl];replace bn:=I bn;go_wp2_with fail;refine(agq _ s r false _ (bn.ay af)).mono ?_;rintro e aN⟨rfl,rfl⟩;go_wp2;go_ret;exact⟨⟨_,rfl⟩,by rw[hf.out];exact H.ext bn,.of bn⟩
  |cons m l=>
   have ar:0<buf.size:=by rw[dg.1,a1];simp
   rw[a1]at dg;obtain⟨bF,sa,n,h7,bw,a8⟩:=dg.2 0 m rfl;have b9:buf.getD 0 undef=Value.slice sa n h7:=by simp[PV,bw]
   have hf:mY bT a.toNat b.toNat (l++[m])=L:=by rw[<-bg.out,a1];rfl
   have ec:(buf.extract 1 buf.size).size<8:=by have bt:=G9.out;rw[a1]at bt;have aO:=dg.1;simp at aO bt ⊢;omega
   change aa _ at af;replace b9:=I b9;replace ar:=I ar;replace bF:=I bF;replace a8:=I a8;replace dg:=I dg;replace hf:=I hf;replace ec:=I ec;clear a1 bw;go_enter func120,ntmps120;go_wp2_with fail;refine DH ?_;intro w1 bn;rw[hw.out,bc rfl];replace bn:=I bn;go_wp2_with fail;refine(i' _ s r _ buf false _ (bn.ay af) ar b9).mono ?_;rintro e _⟨rfl,he⟩;obtain⟨wA,wB,Jx,u2⟩:=(H.ext bn).agC (tR hw) (bn.ay af) (dg.step (.of bn)) he;have oS:=I ((a8.step (.of bn) (b4.ep _ _)).step (H.UO u2) (b4.ep _ _));replace wA:=I wA;replace wB:=I wB;replace Jx:=I Jx;have pO:=I ((aI.of bn).trans u2);clear u2 he;go_wp2_with fail;refine(PQ _ _ _ _ false _ _ wB ec).mono ?_;rintro e _⟨rfl,he⟩;obtain⟨Fl,-,-,u3⟩:=wA.o' (tR hw) wB Jx bF oS he;rw[UQ,hf.out]at Fl;replace Fl:=I Fl;have ER:=I (pO.trans u3);clear u3 he;go_wp2;go_ret;exact⟨⟨_,rfl⟩,Fl,ER⟩
def zO(k:Nat)(l:List dv):List dv:=l.drop k++l.take k
def asw{l:List dv}(h:k<l.length):zO k l=l[k]::(l.drop (k+1)++l.take k)/\(l.drop (k+1)++l.take k)++[l[k]]=zO (k+1) l:=by
 unfold zO;refine⟨by rw[Ab h];rfl,?_⟩;rw[iv h,ig]
def Jy(l:List dv):List dv:=if l.length=0\/l.length=8 then l else l++l.take 1
def asx(M:eZ)(c:bK)(bW:Nat)(g:Nat->Nat->Nat)(bT:Nat->Nat->List dv)(a b:Int)(w:aC)(H:ko w M c bW g bT)(dD:(Lit.int .i64 a).wf=true)(dZ:(Lit.int .i64 b).wf=true)(Jw:∀b,M b->b<(w:Nat))(fG:∀a b,(bT a b).length<=8):
  aS 119 #[bW,a,b] w λe w'=>(∃n:Int,e=.returned n)/\ko w' M c bW g (if ja c a b=true then mY bT a.toNat b.toNat (Jy (bT a.toNat b.toNat)) else bT)/\aI (oq c g) w w':=by
 replace H:=I H;replace Jw:=I Jw;cases hw:ja c a b with
 |false=>
  rw[aV ah];change aa _ at hw;refine q' ?_;intro _ _ _ _ _ w1 bn;rw[hw.out,aV ah];replace bn:=I bn;go_wp2;go_ret;exact⟨⟨_,rfl⟩,H.out.ext bn.out,.of bn.out⟩
 |true=>
  rw[bc rfl];obtain⟨buf,s,r,H1,dg⟩:=H.out.chan _ _ (tR hw);change aa _ at hw;have agD:=fG a.toNat b.toNat;obtain⟨L,bg⟩:∃L,mY bT a.toNat b.toNat (Jy (bT a.toNat b.toNat))=L:=⟨_,rfl⟩;rw[bg];obtain⟨l,B8⟩:∃l,bT a.toNat b.toNat=l:=⟨_,rfl⟩;rw[B8]at dg agD;have zl:=dg.1;replace H1:=I H1;replace dg:=I dg;replace bg:=I bg;replace B8:=I B8;clear fG;by_cases US:l.length=0\/l.length=8
  ·have hf:=I (show L=bT from by
    have e:Jy (bT a.toNat b.toNat)=bT a.toNat b.toNat:=by unfold Jy;rw[B8.out,bc US]
    rw[<-bg.out,e];exact UP)
   have yp:buf.size=0\/buf.size=8:=J;clear US;refine q' ?_;intro _ _ _ _ _ w1 bn;rw[hw.out,bc rfl];have al:=bn.ay H1.out;have hlen:=λty=>Go.Conc.run_len_chan (P:=prog) (w:=w1) 150 ty underlying150 al;replace bn:=I bn;clear zl;rcases yp with bp|bp;exact agE;exact agE
  ·have AQ:¬buf.size=0:=J;have Yj:¬buf.size=8:=J;have B9:=I (show 0<l.length/\l.length<8 by omega);have hf:=I (show mY bT a.toNat b.toNat (l++l.take 1)=L from by rw[<-bg.out,B8.out];unfold Jy;rw[aV US]);clear US agD;refine q' ?_;intro _ _ _ _ _ w1 bn;rw[hw.out,bc rfl];have cg:=bn.ay H1.out;have hlen:=λty=>Go.Conc.run_len_chan (P:=prog) (w:=w1) 150 ty underlying150 cg;rw[zl]at hlen AQ Yj;have dU:((l.length:Int)==0)=false:=beq_eq_false_iff_ne.2 J;have wq:((l.length:Int)==8)=false:=beq_eq_false_iff_ne.2 J;replace bn:=I bn;replace cg:=I cg;replace zl:=I zl;go_wp2_with fail
   go_loopg [10,11,12,13,33] (l.length) (λxa ng dS bv e4 st wr=>∃(k:Nat) (eS:bl) (fn eT:Nat),xa+k=l.length/\st=.int .i64 k/\ng=.slice eS fn eT/\
    aa (∀m,0<k->l[0]?=some m->rb m/\cv M wr (λw=>a7 w 1 cr eS fn eT (qe m)))/\aa (ko wr M c bW g (mY bT a.toNat b.toNat (zO k l)))/\
    aa (∃buf s r,wr.heap[g a.toNat b.toNat]?=some (.chan 8 buf false s r false)/\s3 wr M buf (zO k l))/\aa (aI (oq c g) w wr))
   case atStart=>
    refine⟨0,none,0,0,J,rfl,rfl,λm h=>absurd h J,?_,⟨buf,s,r,cg.out,?_⟩,.of bn.out⟩
    ·have e:zO 0 l=l:=by unfold zO;simp
     rw[e,<-B8.out,UP];exact H.out.ext bn.out
    ·have e:zO 0 l=l:=by unfold zO;simp
     rw[e];exact dg.out.step (.of bn.out)
   case round=>
    obtain⟨k,eS,fn,eT,_,rfl,rfl,hF,qH,aE,fN⟩:=hrel;by_cases hk:k<l.length
    ·obtain⟨IL,dI⟩:=asw hk;obtain⟨Ca,gM,eI,bE,pc⟩:=aE.out;rw[IL]at pc;obtain⟨bF,sa,n,h7,bw,a8⟩:=pc.2 0 l[k] rfl;have b9:=I (show Ca.getD 0 undef=Value.slice sa n h7 from by simp[PV,bw]);have iV:Ca.size=l.length:=by rw[pc.1];simp;omega
     have ar:=I (show 0<Ca.size from by omega);have ec:=I (show(Ca.extract 1 Ca.size).size<8 from by have:=B9.out;simp;omega);have bf:(k:Int)<(l.length:Int):=J;replace bF:=I bF;replace a8:=I a8;replace pc:=I pc;replace bE:=I bE;replace dI:=I dI;clear IL aE bw iV;go_wp2_with fail;refine(i' _ gM eI _ Ca false _ bE.out ar.out b9.out).mono ?_;rintro e aN⟨rfl,he⟩;obtain⟨wA,wB,Jx,u2⟩:=qH.out.agC (tR hw.out) bE.out pc.out he;rw[UQ]at wA;have oS:=I (a8.out.step (H.out.UO u2) (b4.ep _ _));have nC:aa (∀m,0<k->l[0]?=some m->rb m/\cv M aN (λw=>a7 w 1 cr eS fn eT (qe m))):=λm aZ hm=>⟨(hF.out m aZ hm).1,(hF.out m aZ hm).2.step (H.out.UO u2) (b4.ep _ _)⟩;replace wA:=I wA;replace wB:=I wB;replace Jx:=I Jx;have pO:=I (fN.out.trans u2);clear u2 he hF qH fN
     have zP:∀(a6:aC) (v0:Value) (f1:bl) (f2 f3:Nat),a6=aN.setChan (g a.toNat b.toNat) 8 ((Ca.extract 1 Ca.size).push (ao sa n h7)) false (gM+1) (eI+1) false->(∀m,l[0]?=some m->rb m/\cv M aN (λw=>a7 w 1 cr f1 f2 f3 (qe m)))->
       (∀m,0<k+1->l[0]?=some m->rb m/\cv M a6 (λw=>a7 w 1 cr f1 f2 f3 (qe m)))/\ko a6 M c bW g (mY bT a.toNat b.toNat (zO (k+1) l))/\(∃buf s r,a6.heap[g a.toNat b.toNat]?=some (.chan 8 buf false s r false)/\s3 a6 M buf (zO (k+1) l))/\aI (oq c g) w a6:=by
      intro a6 _ _ _ _ he UT;obtain⟨fI,cV,Pv,u3⟩:=wA.out.o' (tR hw.out) wB.out Jx.out bF.out oS.out he;rw[UQ,dI.out]at fI;rw[dI.out]at Pv;exact⟨λm _ hm=>⟨(UT m hm).1,(UT m hm).2.step (H.out.UO u3) (b4.ep _ _)⟩,fI,⟨_,_,_,cV,Pv⟩,pO.out.trans u3⟩
     replace zP:=I zP;by_cases sN:k=0
     ·subst sN;go_wp2_with fail;refine(PQ _ _ _ _ false _ _ wB.out ec.out).mono ?_;rintro e a6⟨rfl,he⟩
      have fw:=I (zP.out a6 undef sa n h7 he (λm hm=>by
       have:l[0]?=some l[0]:=eK (by have:=B9.out;omega)
       rw[this]at hm;cases hm;exact⟨bF.out,oS.out⟩))
      clear he;go_wp2;go_roundg (gk - 1);case measure=>omega
      case rel=>exact⟨1,sa,n,h7,J,rfl,rfl,fw.out.1,fw.out.2.1,fw.out.2.2.1,fw.out.2.2.2⟩
     ·have nL:¬(k:Int)=0:=J;have jV:0<k:=J;go_wp2_with fail;refine(PQ _ _ _ _ false _ _ wB.out ec.out).mono ?_;rintro e a6⟨rfl,he⟩;have fw:=I (zP.out a6 undef eS fn eT he (λm hm=>nC.out m jV hm));clear he;go_wp2;go_roundg (gk - 1);case measure=>omega
      case rel=>exact⟨k+1,eS,fn,eT,J,(by have:=B9.out;congr 1;simp only[wrap64];omega),rfl,fw.out.1,fw.out.2.1,fw.out.2.2.1,fw.out.2.2.2⟩
    ·have e:zO k l=l:=by unfold zO;rw[K6 J,iU J];rfl
     rw[e]at qH aE;obtain⟨Ca,gM,eI,bE,pc⟩:=aE.out;obtain⟨m0,L6⟩:∃m0,l[0]?=some m0:=⟨_,eK B9.out.1⟩;obtain⟨bF,eL⟩:=hF.out m0 (by have:=B9.out;omega) L6;have ar:=I eL.c8;have asy:fn<=10000000:=by have af:=eL.c8.neq;have:=Uz bF;omega
     have PW:Ca.size<8:=by rw[pc.1];exact B9.out.2
     replace PW:=I PW;replace bF:=I bF;replace bE:=I bE;replace pc:=I pc;replace L6:=I L6;clear e aE eL hF;go_wp2_with fail;refine(OT eS fn eT (qe m0) _ ar.out asy).mono ?_;rintro e aN⟨ch,cF,c2,rfl,aM,bq⟩;have oS:cv M aN (λw=>a7 w 1 cr ch cF c2 (qe m0)):=(aM.kS (λai ak hm=>by have af:=(aM.lt ai ak).1;have an:=Jw.out _ hm;have:=fN.out.size;omega)).mono (λw h=>h.aF);replace oS:=I oS;replace bq:=I bq;clear aM;go_wp2_with fail;refine(PQ _ gM eI Ca false _ _ (bq.out.ay bE.out) PW.out).mono ?_;rintro e _⟨rfl,he⟩;obtain⟨Fl,-,-,u3⟩:=(qH.out.ext bq.out).o' (tR hw.out) (bq.out.ay bE.out) (pc.out.step (.of bq.out)) bF.out oS.out he;have bm:l.take 1= [m0]:=by
      have:=L6.out;cases l with
      |nil=>cases this
      |cons x t=>simp at this;subst this;rfl
     rw[UQ,<-bm,hf.out]at Fl;replace Fl:=I Fl;have ER:=I (fN.out.trans ((aI.of bq.out).trans u3));clear u3 he bm;go_wp2;go_ret;exact⟨⟨_,rfl⟩,Fl.out,ER.out⟩
def yq(ps:List Int)(k a b:Nat):Bool:=decide (1<=a/\a<k/\ps.getD a 0=(b:Int))||decide (1<=b/\b<k/\ps.getD b 0=(a:Int))
def agF{ps:List Int}(h:j8 ps=true):ps.getD 0 0=-1/\∀k,1<=k->k<ps.length->0<=ps.getD k 0/\ps.getD k 0<(k:Int):=asz
def asA(h:j8 c.ps=true)(a b:Nat):yq c.ps c.ps.length a b=nr c a b:=by
 obtain⟨aZ,aY⟩:=agF h;have a1:1<=c.ps.length:=by
  unfold j8 at h;simp only[jS,jT]at h;exact h.1.1
 rw[wP];unfold yq nr;simp only[vK,jS,jT];constructor
 ·rintro (⟨af,an,aO⟩|⟨af,an,aO⟩)
  ·have:=aY a af an;exact⟨⟨an,J⟩,.inl aO⟩
  ·have:=aY b af an;exact⟨⟨J,an⟩,.inr aO⟩
 ·rintro ⟨⟨af,an⟩,aO|aO⟩
  ·refine .inl ⟨?_,af,aO⟩;rcases C7 a with rfl|ak
   ·rw[aZ]at aO;omega
   ·exact ak
  ·refine .inr ⟨?_,an,aO⟩;rcases C7 b with rfl|ad
   ·rw[aZ]at aO;omega
   ·exact ad
def r'(ps:List Int)(a b:Nat):yq ps 1 a b=false:=by
 unfold yq;rw[Nk,z7,z7];omega
def asB{ps:List Int}(af:1<=k)(bs:ps.getD k 0=(q:Int))(fH:q<k)(a b:Nat):yq ps (k+1) a b=(yq ps k a b||(decide (a=k/\b=q)||decide (a=q/\b=k))):=by
 rw[wP];unfold yq;simp only[vK,jT];constructor
 ·rintro (⟨iw,hd,ju⟩|⟨iw,hd,ju⟩)
  ·by_cases he:a=k
   ·subst he;rw[bs]at ju;exact .inr (.inl ⟨rfl,J⟩)
   ·exact .inl (.inl ⟨iw,J,ju⟩)
  ·by_cases he:b=k
   ·subst he;rw[bs]at ju;exact .inr (.inr ⟨J,rfl⟩)
   ·exact .inl (.inr ⟨iw,J,ju⟩)
 ·rintro ((⟨iw,hd,ju⟩|⟨iw,hd,ju⟩)|⟨rfl,rfl⟩|⟨rfl,rfl⟩)
  ·exact .inl ⟨iw,J,ju⟩
  ·exact .inr ⟨iw,J,ju⟩
  ·exact .inl ⟨af,J,bs⟩
  ·exact .inr ⟨af,J,bs⟩
def agG(h:w.mapTurned w' b)(hk:k<(w:Nat))(dj:k≠b):w'.heap[k]? =w.heap[k]? :=h.grown.block k hk (λe=>by cases e;exact dj rfl)
structure Hd (bh w:World) (W:Nat->Nat->Bool) (bW dM n:Nat) (g:Nat->Nat->Nat) (f:Lit->Option Value) (s:Nat):Prop where
 box:w.heap[bW]?=some (.cells #[.map (some dM)] 148)
 map:fp w prog 152 dM n s f
 at_:∀a b:Int,(Lit.int .i64 a).wf=true->(Lit.int .i64 b).wf=true->f (Fk a b)=if (decide (0<=a/\0<=b)&&W a.toNat b.toNat)=true then some (.chan (some (g a.toNat b.toNat))) else none
 inj:∀a b ga b',W a b=true->W ga b'=true->g a b=g ga b'->a=ga/\b=b'
 chan:∀a b,W a b=true->bh.heap.size<=g a b/\w.heap[g a b]?=some (.chan 8 #[] false 0 0 false)
def asC{a b x y:Int}(dD:(Lit.int .i64 a).wf=true)(dZ:(Lit.int .i64 b).wf=true)(eD:(Lit.int .i64 x).wf=true)(t':(Lit.int .i64 y).wf=true)(h:Fk a b=Fk x y):a=x/\b=y:=by
 have:=UK.inj (PT dD dZ) (by rw[h];exact PT eD t');injection this with this;injection this with this;simp at this;exact this
def Hd.add{bh w1 aN:aC}{W W':Nat->Nat->Bool}{dM x y:Nat}{g:Nat->Nat->Nat}{f:Lit->Option Value}{s s':Nat}(h:Hd bh w W bW dM n g f s)(aZ:Z bh w)(zQ:(bh:Nat)<=dM)(X:Z w w1)(bx:(w:Nat)<=B)(al:w1.heap[B]?=some (.chan 8 #[] false 0 0 false))(eD:(Lit.int .i64 (x:Int)).wf=true)(t':(Lit.int .i64 (y:Int)).wf=true)(hF:fp aN prog 152 dM (n+1) s' (wz f (Fk x y) (some (.chan (some B)))))(bm:w1.mapTurned aN dM)(fq:∀a b,W' a b=(W a b||decide (a=x/\b=y)))(eO:W x y=false):
  ∃F4 GD s',Hd bh aN W' bW dM (n+1) F4 GD s'/\Z bh aN:=by
 obtain⟨af,an,aO,bt,cC⟩:=h;have zN:=an.j';have hk:∀b o,b<(w1:Nat)->(∀aX c,o≠.map aX c)->w1.heap[b]?=some o->aN.heap[b]?=some o:=λb o ad aq he=>by
  refine(agG bm ad ?_).trans he;rintro rfl;obtain⟨aX,c,_,_,hm,_⟩:=bm;rw[hm]at he;injection he with he;exact aq _ _ he.symm
 have fH:∀a b,W a b=true->g a b≠B:=λa b j2 e=>by
  have:=bZ (cC a b j2).2;omega
 refine⟨λa b=>if a=x/\b=y then B else g a b,_,s',⟨hk _ _ (bZ (X.ay af)) (λaX c e=>by cases e) (X.ay af),hF,λa b dD dZ=>?_,λa b ga b' j2 OZ e=>?_,λa b j2=>?_⟩,(aZ.trans X).grown bm.grown (λk e=>by cases e;exact zQ)⟩
 ·by_cases he:a=x/\b=y
  ·obtain⟨rfl,rfl⟩:=he;rw[Fi,fq];simp
  ·rw[yo (λe=>he (asC dD dZ eD t' e)),aO a b dD dZ,fq];by_cases aY:0<=a/\0<=b
   ·have dj:¬(a.toNat=x/\b.toNat=y):=J;rw[je dj,Bool.or_false,aV dj]
   ·rw[je aY,CP,CP];rfl
 ·rw[fq,vK,jT]at j2 OZ;try dsimp only at e
  by_cases bH:a=x/\b=y<;>by_cases b1:ga=x/\b'=y
  ·omega
  ·rw[bc bH,aV b1]at e;exact absurd e.symm (fH _ _ (OZ.resolve_right b1))
  ·rw[aV bH,bc b1]at e;exact absurd e (fH _ _ (j2.resolve_right bH))
  ·rw[aV bH,aV b1]at e;exact bt _ _ _ _ (j2.resolve_right bH) (OZ.resolve_right b1) e
 ·rw[fq,vK,jT]at j2;have z:=aZ.size;try dsimp only
  by_cases bH:a=x/\b=y
  ·rw[bc bH];exact⟨J,hk _ _ (bZ al) (λaX c e=>by cases e) al⟩
  ·rw[aV bH];obtain⟨q1,dk⟩:=cC a b (j2.resolve_right bH);exact⟨q1,hk _ _ (bZ (X.ay dk)) (λaX c e=>by cases e) (X.ay dk)⟩
def uG{a:Int}(aZ:0<=a)(af:a<1000000):(Lit.int .i64 a).wf=true:=by
 have cm:IntKind.i64.min=-9223372036854775808:=by rfl
 have cq:IntKind.i64.max=9223372036854775807:=by rfl
 simp only[Lit.wf,cm,cq,jS,jT];omega
def asD:(prog.info? 107).map (·.bytes)=some 24:=bQ
def asE(w:aC):(Instr.makeChan 150 (bo 8)).run prog w=.ok (.chan (some (w:Nat))) (w.alloc (.chan 8 #[] false 0 0 false)):=by
 obtain⟨i,aK,ad⟩:=Option.map_eq_some_iff.1 asD;simpa using Go.Conc.run_makeChan (P:=prog) (w:=w) underlying150 aK .i64 8 J (by rw[ad];omega)
def asF{ps:List Int}(u':q<k)(aY:∀j,1<=j->j<ps.length->0<=ps.getD j 0/\ps.getD j 0<(j:Int))(hk:k<ps.length):yq ps k k q=false/\(yq ps k q k||decide (q=k/\k=q))=false:=by
 have bp:∀j,1<=j->j<k->ps.getD j 0=(k:Int)->False:=λj af an aO=>by
  have:=aY j af J;omega
 unfold yq;simp only[Nk,z7];refine⟨⟨J,λh=>bp q h.1 h.2.1 h.2.2⟩,⟨λh=>bp q h.1 h.2.1 h.2.2,J⟩,J⟩
def asG(a:bl)(n cap:Nat)(c:bK)(w:aC)(H:a7 w 1 dP a n cap c.ps)(db:j8 c.ps=true):
  aS 32 #[.slice a n cap] w λe w'=>∃bW dM n g f s,e=.returned (.tuple #[.pointer (some (bW,0)),.int .i64 0])/\(w:Nat)<=bW/\(w:Nat)<=dM/\Hd w w' (nr c) bW dM n g f s/\Z w w':=by
 obtain rfl:=H.neq;have hm:=H.max;unfold maxLen at hm;replace H:=I H;replace db:=I db;go_enter func32,ntmps32;go_wp2_with fail;refine(Li a c.ps.length cap c.ps _ (H.ext U)).mono ?_;rintro e w1⟨rfl,bn⟩;rw[db.out];have DI:Dj true=0:=rfl;rw[DI];replace bn:=I bn;have rq:=@run_makeMap prog;go_wp2_with fail;have bp:(w1.alloc (Obj.map #[] 0)).heap.size=(w1:Nat)+1:=by simp
 have ve:((w1.alloc (Obj.map #[] 0)).alloc (.cells #[.map (some (w1:Nat))] 148)).heap[(w1:Nat)+1]?=some (.cells #[.map (some (w1:Nat))] 148):=e2 bp.symm;have DJ:=(fp.DG w1 prog 152).ext ((Z.refl _).alloc (.cells #[.map (some (w1:Nat))] 148));have bq:Z w ((w1.alloc (Obj.map #[] 0)).alloc (.cells #[.map (some (w1:Nat))] 148)):=U;have iZ:=bn.size;have L7:=I (agF db);have Bp:1<=c.ps.length/\c.ps.length<=16:=by
  have h:=db.out;unfold j8 at h;simp only[jS,jT]at h;exact h.1
 generalize ((w1.alloc (Obj.map #[] 0)).alloc (.cells #[.map (some (w1:Nat))] 148))=aN at ve DJ bq ⊢;generalize (w1:Nat)=dM at ve DJ iZ ⊢;have ho:=asE;replace ve:=I ve;replace DJ:=I DJ;replace bq:=I bq;go_loopg [6] (c.ps.length - 1) (λxa K0 wr=>∃(k gO:Nat) (g:Nat->Nat->Nat) (f:Lit->Option Value) (s:Nat),xa+k=c.ps.length/\1<=k/\K0=.int .i64 k/\gO<=2*k/\aa (Hd w wr (yq c.ps k) (dM+1) dM gO g f s)/\aa (Z w wr));case atStart=>
  refine⟨1,0,λ_ _=>0,_,0,J,J,rfl,J,⟨ve,DJ,λx y _ _=>?_,λx y cH r3 h=>?_,λx y h=>?_⟩,bq⟩
  ·rw[r',wV];rfl
  ·rw[r']at h;cases h
  ·rw[r']at h;cases h
 case round=>
  obtain⟨k,gO,g,f,s,_,nL,rfl,_,qH,ix⟩:=hrel;by_cases hk:k<c.ps.length
  ·have bf:(k:Int)<(c.ps.length:Int):=J;have b0:(0:Int)<=(k:Int):=J;obtain⟨fb,o,rfl,al⟩:=H.get k hk;have Jz:=Bo (x:=c.ps[k]) al;rw[jd]at Jz;replace Jz:=I Jz;have rh:=I (ix.ag Jz);have PX:=I qH.box;have wA:=I qH.map;go_wp2_with fail;refine sX (λw'=>w'.heap[dM+1]?=some (.cells #[.map (some dM)] 148)/\w'.cell? (fb,o+k)=some ↑c.ps[k]) (λbd=>?_) (by(try dsimp only);exact⟨Z.ay (W:=wr) U PX,Z.ag (W:=wr) U rh⟩);refine AU ?_;refine l0 3 (·.1) ?_;refine Jr ?_;refine de 7 ?_;refine zD 8 (·.2) ?_;refine yr ?_;intro K aE;refine aE _ _ (by(try dsimp only);exact⟨Z.ay (W:=wr) U PX,Z.ag (W:=wr) U rh⟩) λbd=>ej ?_;refine h9 11 λK aE=>?_;obtain⟨q,pg⟩:∃q:Nat,c.ps[k]=(q:Int):=⟨c.ps[k].toNat,by have:=L7.out.2 k nL hk;rw[xk,eK hk]at this;simp at this;omega⟩;have u':q<k:=by have:=L7.out.2 k nL hk;rw[xk,eK hk]at this;simp at this;omega
   have Cb:(Lit.int .i64 (k:Int)).wf=true:=uG J J;have cW:(Lit.int .i64 (q:Int)).wf=true:=uG J J;have tN:=I (asF u' L7.out.2 hk);refine PS rfl (PR _ _ _ rfl UK underlying146 rfl (wA.ext U) Ix rfl rfl (PT Cb (by rw[pg];exact cW)) rfl ?_);intro bA DK Fm;rw[pg]at DK;obtain⟨_,_,_,Fo,PY⟩:=Hd.add (W':=λx y=>yq c.ps k x y||decide (x=k/\y=q)) qH ix iZ (B:=(wr:Nat)) U (bJ _) (by show(wr.alloc (Obj.chan 8 #[] false 0 0 false)).heap[(wr:Nat)]? =_;exact e2 rfl) Cb cW DK Fm (λ_ _=>rfl) tN.out.1;replace Fo:=I Fo;replace PY:=I PY;refine aE _ _ ?_ (λhH=>?_)
   focus ((try dsimp only);exact⟨Fo.box,PY.ag Jz⟩)
   refine ej ?_;refine og bQ ?_ _;replace pg:=I pg;go_wp2_with fail;have wA:=I Fo.map;refine sX (λw'=>w'.heap[dM+1]?=some (.cells #[.map (some dM)] 148)/\w'.cell? (fb,o+k)=some ↑c.ps[k]) (λbd=>?_) agH;refine AU ?_;refine l0 3 (·.1) ?_;refine Jr ?_;refine zD 7 (·.2) ?_;refine de 8 ?_;refine yr ?_;intro K aE;refine aE _ _ agH λbd=>ej ?_;refine h9 11 λK aE=>?_;refine PS rfl (PR _ _ _ rfl UK underlying146 rfl (wA.ext U) Ix rfl rfl (PT (by rw[pg.out];exact cW) Cb) rfl ?_);intro _ PZ UU;rw[pg.out]at PZ;obtain⟨g6,f6,w6,JA,UW⟩:=Hd.add (W':=yq c.ps (k+1)) Fo PY iZ (B:=(bA:Nat)) U (bJ _) (by show(bA.alloc (Obj.chan 8 #[] false 0 0 false)).heap[(bA:Nat)]? =_;exact e2 rfl) cW Cb PZ UU (λx y=>by rw[asB nL (by rw[xk,eK hk];exact pg) u',Bool.or_assoc]) tN.out.2;replace JA:=I JA;replace UW:=I UW;refine aE _ _ ?_ (λhH=>?_)
   focus ((try dsimp only);exact⟨JA.box,UW.ag Jz⟩)
   refine ej ?_;refine og bQ ?_ _;clear wA Fo PY;go_wp2;go_roundg (gk - 1);case measure=>omega
   case rel=>exact⟨k+1,_,g6,f6,w6,J,J,by go_num,J,JA,UW⟩
  ·have pZ:k=c.ps.length:=J;subst pZ;have dW:aa (yq c.ps c.ps.length=nr c):=funext λx=>funext λy=>asA db x y;go_wp2;go_ret2;exact⟨dM+1,dM,gO,g,f,s,rfl,J,iZ,dW.out▸qH.out,ix⟩
section
structure gB where
 cL:iF
 ak:iF
 eE:Nat
 s:iJ
 tx:iF
 kY:Nat
 gP:iF
 tm:Nat
 dT:iF
def kb(i:ax):Lit:=.string (keyBytes [.int .i64 i.b,.int .u64 i.l,.int .u64 i.s])
structure v' (w:World) (c:bK) (b:aT) (v:gB):Prop where
 cL:a7 w 1 dP v.cL.a v.cL.n v.cL.c c.ps
 ak:a7 w 1 dP v.ak.a v.ak.n v.ak.c c.hs
 st:∃au ps,q6 w v.s b.st au ps
 tx:∃ts,tM w v.tx.a v.tx.n v.tx.c ts/\ts.map ca.tx=b.tx
 gP:a7 w 3 ax.cs v.gP.a v.gP.n v.gP.c b.gP
 dT:xr w v.dT.a v.dT.n v.dT.c b.dT
def AZ(w:World)(M:Nat->Prop)(kY:Nat)(gq:Nat->Option dv):Prop:=∃(n s:Nat) (f:Lit->Option Value) (e0:List Nat),fp w prog 3 kY n s f/\(e0.Nodup/\∀k,k∈e0->k<1000)/\s=e0.length/\n=s/\
 ∀k:Nat,k<1000000->match gq k with
  |none=>k∉e0/\f (.int .i64 k)=none
  |some m=>k∈e0/\∃x:kz,f (.int .i64 k)=some (.agg #[x.k,ae x.h,x.v,x.q,x.e,x.p,x.b,x.d])/\cv M w (λw=>tP w x m)
def A0(w:World)(tm:Nat)(bD:List ax):Prop:=∃n s f,fp w prog 54 tm n s f/\s=bD.length/\n=s/\
 (∀k (hk:k<bD.length),f (kb bD[k])=some (.int .i64 k))/\∀eN v,f eN=some v->∃i,i∈bD/\eN=kb i
structure ea (w:World) (M D O:Nat->Prop) (c:bK) (p q:Nat) (b:aT) (v:gB):Prop where
 box:w.heap[p]?=some (.cells #[(b.dd:Int),v.cL,v.ak,v.eE,ae v.s.cX,v.s.l,v.s.p,v.s.b,v.tx,ae (b.fX:Int),.map (some v.kY),v.gP,.map (some v.tm),v.dT] 160 (0,0))
 l3:cv M w (λw=>v' w c b v)
 cp:∃L,qy w M D L v.eE q (b.fz.map gi) (gj (b.fz.map gi)).length c.room/\(∀x,L x->O x)/\¬L p/\¬L v.kY/\¬L v.tm
 iO:AZ w M v.kY b.gq
 yt:A0 w v.tm b.bD
 bS:O p/\O v.kY/\O v.tm
 sub:∀x,O x->M x
 gL:∀x,D x->¬O x
 gT:p≠v.kY/\p≠v.tm/\v.kY≠v.tm
section
variable {w w':World}{M M' D bX O O' S:Nat->Prop}{c:bK}{p q:Nat}{b b':aT}{v gX:gB}
def AZ.ay(h:AZ w M kY gq)(ad:w'.heap[kY]? =w.heap[kY]?)(aK:∀P,cv M w P->cv M' w' P):AZ w' M' kY gq:=by
 obtain⟨n,s,f,e0,af,an,aO,bt,cC⟩:=h;refine⟨n,s,f,e0,af.ay ad,an,aO,bt,λk hk=>?_⟩;have:=cC k hk;cases az:gq k with
 |none=>rw[az]at this;exact this
 |some m=>
  rw[az]at this;obtain⟨bH,x,b1,dJ⟩:=this;exact⟨bH,x,b1,aK _ dJ⟩
def A0.ay(h:A0 w tm bD)(ad:w'.heap[tm]? =w.heap[tm]?):A0 w' tm bD:=by
 obtain⟨n,s,f,af,an,aO,bt,cC⟩:=h;exact⟨n,s,f,af.ay ad,an,aO,bt,cC⟩
def AZ.lt(h:AZ w M kY gq):kY<(w:Nat):=by obtain⟨n,s,f,_,af,_⟩:=h;exact af.lt
def A0.lt(h:A0 w tm bD):tm<(w:Nat):=by obtain⟨n,s,f,af,_⟩:=h;exact af.lt
def ea.b5(h:ea w M D O c p q b v):∀x,M x->x<(w:Nat):=by obtain⟨L,af,_⟩:=h.cp;exact af.b5
def ea.sm(h:ea w M D O c p q b v):∀x,D x->M x:=by obtain⟨L,af,_⟩:=h.cp;exact λx X=>af.sub x (.inl X)
def ea.step(h:ea w M D O c p q b v)(aj:aI S w w')(bj:∀x,S x->M x)(aG:∀x,D x\/O x->¬S x)(bk:b4 w M M')(a1:∀x,M' x->x<(w':Nat)):ea w' M' D O c p q b v:=by
 obtain⟨L,af,an,aO⟩:=h.cp;have aK:∀P,cv M w P->cv M' w' P:=λP k=>k.step (aj.sub bj) bk;exact⟨(aj.block _ (bZ h.box) (aG _ (.inr h.bS.1))).trans h.box,aK _ h.l3,⟨L,af.step aj bj (λx X=>aG x (X.imp id (an x))) bk a1,an,aO⟩,h.iO.ay (aj.block _ h.iO.lt (aG _ (.inr h.bS.2.1))) aK,h.yt.ay (aj.block _ h.yt.lt (aG _ (.inr h.bS.2.2))),h.bS,λx X=>bk.up x (h.sub x X),h.gL,h.gT⟩
def ea.ext(h:ea w M D O c p q b v)(X:Z w w'):ea w' M D O c p q b v:=
 h.step (S:=λ_=>False) (.of X) (λ_ k=>k.elim) (λ_ _ k=>k) (b4.ep _ _) (λx k=>fQ (h.b5 x k) X.size)
def ea.mW(h:ea w M D O c p q b v)(aj:aI (·=p) w w')(j7:w'.heap[p]?=some (.cells #[(b'.dd:Int),gX.cL,gX.ak,gX.eE,ae gX.s.cX,gX.s.l,gX.s.p,gX.s.b,gX.tx,ae (b'.fX:Int),.map (some gX.kY),gX.gP,.map (some gX.tm),gX.dT] 160 (0,0)))(sP:cv M w' (λw=>v' w c b' gX))(asH:gX.eE=v.eE)(UX:gX.kY=v.kY)(sg:gX.tm=v.tm)(UY:b'.fz=b.fz)(asI:b'.gq=b.gq)(asJ:b'.bD=b.bD):ea w' M D O c p q b' gX:=by
 obtain⟨L,af,an,aO⟩:=h.cp;have bj:∀x,x=p->M x:=λx e=>e▸h.sub _ h.bS.1;have aK:∀P,cv M w P->cv M w' P:=λP k=>k.step (aj.sub bj) (b4.ep _ _);have jw:∀x,D x\/L x->¬x=p:=λx X e=>by
  subst e;exact X.elim (λk=>h.gL _ k h.bS.1) aO.1
 refine⟨j7,sP,⟨L,?_,an,?_⟩,?_,?_,?_,h.sub,h.gL,?_⟩
 ·rw[asH,UY];exact af.step aj bj jw (b4.ep _ _) (λx k=>fQ (af.b5 x k) aj.size)
 ·rw[UX,sg];exact aO
 ·rw[UX,asI];exact h.iO.ay (aj.block _ h.iO.lt (λe=>h.gT.1 e.symm)) aK
 ·rw[sg,asJ];exact h.yt.ay (aj.block _ h.yt.lt (λe=>h.gT.2.1 e.symm))
 ·rw[UX,sg];exact h.bS
 ·rw[UX,sg];exact h.gT
def ea.c8(h:ea w M D O c p q b v):v' w c b v:=h.l3.c8
end
def sn(w:World)(M D O:Nat->Prop)(c:bK)(p q:Nat)(b:aT):Prop:=∃v,ea w M D O c p q b v
structure ik (w:World) (M D O:Nat->Prop) (w':World) (M' bX O':Nat->Prop):Prop where
 ee:aI (n5 D O) w w'
 d:b4 w D bX
 o:b4 w O O'
 m:b4 w M M'
 j:∀x,M' x->M x\/bX x\/O' x
section
variable {w w' ey:World}{M M' DL D bX P0 O O' Gy:Nat->Prop}
def ik.refl(w:aC)(M D O:eZ):ik w M D O w M D O:=⟨aI.refl _ _,b4.refl _ _,b4.refl _ _,b4.refl _ _,λ_ h=>.inl h⟩
def ik.of(h:Z w w'):ik w M D O w' M D O:=⟨.of h,b4.refl _ _,b4.refl _ _,b4.refl _ _,λ_ h=>.inl h⟩
def ik.trans(h:ik w M D O w' M' bX O')(k:ik w' M' bX O' ey DL P0 Gy):ik w M D O ey DL P0 Gy:=
 ⟨h.ee.xj k.ee (λx X=>X.elim (λz=>(h.d.new x z).imp .inl id) (λz=>(h.o.new x z).imp .inr id)),h.d.trans k.d h.ee.size,h.o.trans k.o h.ee.size,h.m.trans k.m h.ee.size,
  λx X=>(k.j x X).elim (λz=>(h.j x z).imp id (λy=>y.imp (k.d.up x) (k.o.up x))) .inr⟩
def ik.ext(h:ik w M D O w' M' bX O')(X:Z w' ey):ik w M D O ey M' bX O':=h.trans (.of X)
def ik.cN(X:Z w w')(h:ik w' M D O ey M' bX O'):ik w M D O ey M' bX O':=(ik.of X).trans h
def ik.kS{P:ye}(h:ik w M D O w' M' bX O')(hs:∀x,D x\/O x->M x)(k:cv M w P):cv M' w' P:=k.step (h.ee.sub hs) h.m
end
end
section
section
variable {c:bK}{l:List hE}{R:List ax}{n:Nat}{b:aT}{cp:List e9}{s:ew}
def qC.DM(h:qC c cp s)(az:c.room<=1048576):O0 s:=by
 have af:=afy h.zA;have an:=O8 cp;have aO:=h.p3;have bt:=h.BR
 have cC:gw s.l:=IY (Q:=rK) (P:=λs=>gw s.l) (λ_ _ r az aY aM=>by
  cases aM with
  |cX k bp=>
   rcases az with ⟨n,rfl,aq⟩|⟨n,d,rfl,_⟩|⟨d,rfl,_⟩|⟨i,rfl,_⟩|⟨i,rfl,_⟩
   ·exact aq
   all_goals cases k
  |_=>exact aY) h.zA h.GU (show gw 0 by unfold gw;omega)
 simp only[kU,pH,ow]at af;exact⟨cC,λd aG=>(bt.au d aG).ok,λd aG=>(bt.ps d aG).ok,bt.aB,J,J,J⟩
def UZ(h:rK r):1<=(gi r).length/\(gi r).length<=4000:=by
 have a:=hV r.k.toNat;have b:=hV r.n;have cO:1<=(df r.k.toNat).length:=by rw[y7];omega
 have aK:∀i:ax,(iK i).length<=27:=λi=>by
  unfold iK;simp only[c9];exact ac8
 have b7:(if r.k=2\/r.k=3 then gY (iL r.e) else if r.k=4\/r.k=5 then iK r.id else []).length<=3009:=by
  split
  ·rename_i k;have:=(h.e k).sz;unfold gY;rw[c9];have:=hV (iL r.e).length;omega
  ·split
   ·have:=aK r.id;omega
   ·simp
 unfold gi;simp only[c9];omega
def U0(l:List e9):(gj (l.map gi)).length=jo l:=by
 unfold gj jo;induction l with
 |nil=>rfl
 |cons r l cY=>rw[sf,ny,c9,cY,sf,Lu,Ld];rfl
section
variable {w w':World}{M D bX O L la:Nat->Prop}{p q:Nat}{v:gB}{U1:List e9}
def ea.asK(h:ea w M D O c p q b v)(Fp:∀x,L x->O x)(DN:¬L p/\¬L v.kY/\¬L v.tm)(UY:qy w' (k9 M (n5 bX la)) bX la v.eE q (U1.map gi) (gj (U1.map gi)).length c.room)(aj:aI (n5 D L) w w')(L8:b4 w D bX)(L9:b4 w L la):
  ea w' (k9 M (n5 bX la)) bX (k9 O la) c p q {b with fz:=U1} v/\ik w M D O w' (k9 M (n5 bX la)) bX (k9 O la):=by
 have bj:∀x,n5 D L x->M x:=λx X=>X.elim (h.sm x) (λk=>h.sub x (Fp x k));have bk:b4 w M (k9 M (n5 bX la)):=⟨λ_ k=>.inl k,λx X=>X.elim .inl (λk=>k.elim (λz=>(L8.new x z).imp (h.sm x) id) (λz=>(L9.new x z).imp (λy=>h.sub x (Fp x y)) id))⟩;have aK:∀P,cv M w P->cv (k9 M (n5 bX la)) w' P:=λP k=>k.step (aj.sub bj) bk;have eO:∀x,O x->x<(w:Nat)->¬L x->¬n5 D L x:=λx X _ aq ad=>ad.elim (λk=>h.gL x k X) aq;have cZ:=bZ h.box;have z2:=h.iO.lt;have z3:=h.yt.lt;have zR:∀x,x<(w:Nat)->¬L x->¬la x:=λx X aq k=>(L9.new x k).elim aq (λz=>by omega);refine⟨⟨(aj.block _ cZ (eO _ h.bS.1 cZ DN.1)).trans h.box,(aK _ h.l3).mono (λw k=>⟨k.cL,k.ak,k.st,k.tx,k.gP,k.dT⟩),⟨la,UY,λx k=>.inr k,zR _ cZ DN.1,zR _ z2 DN.2.1,zR _ z3 DN.2.2⟩,h.iO.ay (aj.block _ z2 (eO _ h.bS.2.1 z2 DN.2.1)) aK,h.yt.ay (aj.block _ z3 (eO _ h.bS.2.2 z3 DN.2.2)),⟨.inl h.bS.1,.inl h.bS.2.1,.inl h.bS.2.2⟩,λx X=>X.elim (λk=>.inl (h.sub x k)) (λk=>.inr (.inr k)),λx X hy=>?_,h.gT⟩,⟨aj.mono (λx _ k=>k.imp id (Fp x)),L8,⟨λ_ k=>.inl k,λx X=>X.elim .inl (λk=>(L9.new x k).imp (Fp x) id)⟩,bk,λx X=>X.imp id (λk=>k.imp id .inr)⟩⟩;rcases hy with hy|hy
 ·rcases L8.new x X with k|k
  ·exact h.gL x k hy
  ·have:=h.b5 x (h.sub x hy);omega
 ·exact UY.gL x X hy
end
def rI.b5{w:aC}{M:eZ}{s:iJ}{d:ew}(h:rI w base s d au ps)(fe:∀b,M b->b<base):cv M w (λw=>q6 w s d au ps):=
 λ_ aj=>⟨h.cX,(h.l.gE aj fe).sE,h.jI,(h.p.gE aj fe).sE,h.kV,(h.b.gE aj fe).aF⟩
def qI.b5{w:aC}{M:eZ}{n c:Nat}(h:qI w base a n c ts)(fe:∀b,M b->b<base):cv M w (λw=>tM w a n c ts):=
 λ_ aj=>⟨(h.cj.gE aj fe).aF,λp aY=>((h.ck p aY).gE aj fe).ck⟩
def aH.b5{w:aC}{M:eZ}{c:α->List Value}{n:Nat}{ys:List α}(h:aH w base e sz c aA n cap ys)(fe:∀b,M b->b<base):cv M w (λw=>a7 w sz c aA n cap ys):=
 λ_ aj=>(h.gE aj fe).aF
def fD.b5{w:aC}{M:eZ}{n c:Nat}(h:fD w base a n c ps)(fe:∀b,M b->b<base):cv M w (λw=>iG w a n c ps):=
 λ_ aj=>(h.gE aj fe).sE
def s0.b5{w:aC}{M:eZ}{x:kz}{m:dv}(h:s0 w base x m)(fe:∀b,M b->b<base):cv M w (λw=>tP w x m):=
 λ_ aj=>(h.gE aj fe).view
def aI.cQ{w w':aC}{p:Nat}(h:aI (·=p) w w')(aY:S p):aI S w w':=h.mono (λx _ e=>(show x=p from e)▸aY)
def xv(c:bK)(p q:Nat)(w:World)(M D O:Nat->Prop)(u:Value)(b:aT)(e:Ending)(w':World):Prop:=
 ∃M' bX O',e=.returned u/\sn w' M' bX O' c p q b/\ik w M D O w' M' bX O'
def JB(h:gu c l R n b)(az:rK r)(hk:r.k≠1):gu c l R n (b.note c r).1:=
 h.tI (I2 (Q:=λr=>rK r/\r.k≠1) c [] b ⟨az,hk⟩) (λ_ h=>h) (by rw[(zz c b r).1];exact h.x7) (by rw[(zz c b r).1];exact h.dT) (by rw[(zz c b r).2];exact h.gP) (λ_ h=>h) (λi aK=>by cases aK)
end
end
def asL{c:Nat}{l:eg}(h:w.heap[B]?=some (.cells #[ao a n c] 107))(bx:¬M B)(aM:cv M w (λw=>a7 w 1 cr a n c l)):cv M w (λw=>xg w (some (B,0)) 1 1 [⟨⟨a,n,c⟩,l⟩]):=λw' aj=>by
 have ad:=(aj.block B (bZ h) bx).trans h;refine⟨⟨rfl,bJ _,by unfold maxLen;omega,(λe=>by cases e),gN.bI,λk x hk=>⟨B,0,rfl,λj v aD=>?_⟩⟩,λx X=>?_⟩
 ·match k,hk with
  |0,hk=>
   cases hk
   match j,aD with
   |0,aD=>cases aD;exact aL ad rfl
 ·obtain rfl:=jg.1 X;exact aM w' aj
def asM{cO c1 c2 cV dF dH eJ eM jG ij agI agJ U2 agK:Value}(h:w.heap[p]?=some (.cells #[cO,c1,c2,cV,dF,dH,eJ,eM,jG,ij,agI,agJ,U2,agK] t fr))(u4 u5 u6 u7:Value):
  ((((w.setCell (p,4) u4).setCell (p,5) u5).setCell (p,6) u6).setCell (p,7) u7).heap[p]?=some (.cells #[cO,c1,c2,cV,u4,u5,u6,u7,jG,ij,agI,agJ,U2,agK] t fr):=
 en (en (en (en h 4 u4) 5 u5) 6 u6) 7 u7
def asN(u4 u5 u6 u7:Value):aI (·=p) w ((((w.setCell (p,4) u4).setCell (p,5) u5).setCell (p,6) u6).setCell (p,7) u7):=
 ((((aI.refl (λx=>x=p) w).setCell (p,4) (.inl rfl) u4).setCell (p,5) (.inl rfl) u5).setCell (p,6) (.inl rfl) u6).setCell (p,7) (.inl rfl) u7
def asO{b:aT}(h:fl b.st r=none):b.note c r=(b,false):=by unfold aT.note;rw[h]
def asP{b:aT}(h:fl b.st r=some s)(bk:¬jo b.fz+tE r<=c.room):b.note c r=(b,false):=by unfold aT.note;rw[h];exact aV bk
def asQ{b:aT}(h:fl b.st r=some s)(bk:jo b.fz+tE r<=c.room):b.note c r=({b with st:=s,fz:=b.fz++[r],tx:=if r.k=2 then vf b.tx r.e.id else b.tx},true):=by unfold aT.note;rw[h];exact bc bk
def ea.state{b:aT}{v:gB}(h:ea w M D O c p q b v){s:iJ}{st:ew}(hs:cv M w (λw=>∃au ps,q6 w s st au ps))(he:w'=((((w.setCell (p,4) (ae s.cX)).setCell (p,5) s.l).setCell (p,6) s.p).setCell (p,7) s.b)):
  ea w' M D O c p q {b with st:=st} {v with s:=s}/\aI (·=p) w w':=by
 subst he;have aj:=asN (w:=w) (p:=p) (ae s.cX) s.l s.p s.b;refine⟨h.mW aj (asM h.box _ _ _ _) ?_ rfl rfl rfl rfl rfl rfl,aj⟩;exact((h.l3.and hs).mono (λw k=>⟨k.1.cL,k.1.ak,k.2,k.1.tx,k.1.gP,k.1.dT⟩)).step (aj.cQ (h.sub _ h.bS.1)) (b4.ep _ _)
def ea.rM{b:aT}{v:gB}(h:ea w M D O c p q b v){t:iF}(hs:cv M w (λw=>∃ts,tM w t.a t.n t.c ts/\ts.map ca.tx=tx))(he:w'=w.setCell (p,8) t):
  ea w' M D O c p q {b with tx:=tx} {v with tx:=t}/\aI (·=p) w w':=by
 subst he;have aj:=(aI.refl (·=p) w).setCell (p,8) (.inl rfl) t;refine⟨h.mW aj (en h.box 8 _) ?_ rfl rfl rfl rfl rfl rfl,aj⟩;exact((h.l3.and hs).mono (λw k=>⟨k.1.cL,k.1.ak,k.1.st,k.2,k.1.gP,k.1.dT⟩)).step (aj.cQ (h.sub _ h.bS.1)) (b4.ep _ _)
def ik.mW(aj:aI (·=p) w w')(aY:O p):ik w M D O w' M D O:=⟨aj.cQ (.inr aY),b4.ep _ _,b4.ep _ _,b4.ep _ _,λ_ h=>.inl h⟩
structure pq where
 x:kz
 m:dv
def pq.hx(p:pq):nI:=⟨p.x,p.m.vs⟩
def pq.cs(p:pq):List Value:=p.x.cs
def pq.bI(p:pq):p.cs.length=8:=rfl
def kz.cQ(x:kz):∀u∈x.cs,u.oneCell'=true:=by
 intro u aj;simp only[kz.cs,oy,tb,ue]at aj;exact Xj
structure Ma (w:World) (a:Option Addr) (n c:Nat) (ms:List pq):Prop where
 aF:a7 w 8 pq.cs a n c ms
 ck:∀p,p∈ms->tP w p.x p.m
def Ma.ext{c:Nat}{ms:List pq}(h:Ma w a n c ms)(X:Z w w'):Ma w' a n c ms:=⟨h.aF.ext X,λp aY=>(h.ck p aY).ext X⟩
def Ma.c5{c:Nat}{ms:List pq}(h:Ma w a n c ms):Kids w a n c (ms.map pq.hx):=
 ⟨a7.map (c:=nI.cs) pq.hx h.aF (λ_=>rfl),λk hk=>by
  obtain⟨p,aY,rfl⟩:=lU.1 hk
  exact(h.ck p aY).v⟩
def agL(ms:List pq)(i:ax):qs (ms.map pq.hx) i=BN (ms.map (·.m)) i:=by
 unfold qs BN;rw[yR,List.all_map,yR,List.all_map];rfl
def x'{c:Nat}(h:iG w a n c ps)(hm:ps.map (·.d)=aU):(ps.map (·.x)).map (·.id)=aU.map (·.id):=by
 subst hm;rw[Ij,Ij];exact List.map_congr_left (λp aY=>(h.ck p aY).id)
def asR{c:Nat}(h:iG w a n c ps)(hm:ps.map (·.d)=aU)(ms:List pq)(rs:List ax):aBv (ms.map pq.hx) (ps.map (·.x)) rs=Lp (ms.map (·.m)) aU rs:=by
 have e:∀(l:List bR) (m:List bb),l.map (·.id)=m.map (·.id)->∀out,l.foldl (λo x=>C0 (ms.map pq.hx) o x.id) out=m.foldl (λout d=>Dk (ms.map (·.m)) out d.id) out:=by
  intro l;induction l with
  |nil=>intro m hm out;cases m with|nil=>rfl|cons _ _=>cases hm
  |cons x l cY=>
   intro m hm out;cases m with
   |nil=>cases hm
   |cons d m=>
    injection hm with af an;rw[ry,ry,cY m an];congr 1;unfold C0 Dk;rw[agL,show x.id=d.id from af]
 unfold aBv Lp Gd;rw[e _ _ (x' h hm)]
def xr.sE{c:Nat}(h:xr w a n c aU):∃ps,iG w a n c ps/\ps.map (·.d)=aU:=let ⟨ps,af,an,aO⟩:=h;⟨ps,⟨af,an⟩,aO⟩
def asS{c:Nat}(h:iG w a n c au)(hm:au.map (·.d)=aU)(aB:List ax):y3 (au.map (·.x)) aB=λi=>iP aU i||kl aB i:=by
 funext i;unfold y3;rw[AH h hm];rfl
def asT{b:bl}{c m d:Nat}{aX:List bb}(h:iG w a n c au)(hm:au.map (·.d)=aU)(k:iG w b m d ps)(y':ps.map (·.d)=aX)(aB:List ax):qt (au.map (·.x)) (ps.map (·.x)) aB=λi=>iP aU i||iP aX i||kl aB i:=by
 funext i;unfold qt;rw[AH h hm,AH k y'];rfl
def asU{b o:bl}{c m d j e:Nat}{os:List bU}{aX h3:List bb}(h:iG w a n c au)(hm:au.map (·.d)=aU)(k:iG w b m d ps)(y':ps.map (·.d)=aX)(z:iG w o j e os)(asV:os.map (·.d)=h3):xI (au.map (·.x)) (ps.map (·.x)) (os.map (·.x))=λi=>iP aU i||iP aX i||iP h3 i:=by
 funext i;unfold xI;rw[AH h hm,AH k y',AH z asV]
def Mb(hm:ps.map (·.d)=aU)(h:∀d,d∈aU->gZ d):∀p,p∈ps->my p.d:=λp aY=>(h p.d (by rw[<-hm];exact nH aY)).r8
def Mc(hm:ts.map ca.tx=tx)(h:∀t,t∈tx->j9 t.e):∀p,p∈ts->my p.e:=λp aY=>(h p.tx (by rw[<-hm];exact nH aY)).ok.r8
def P1{b:aT}{v:gB}(h:ea w M D O c p q b v):aS 148 #[p] w λe w'=>e=.returned b.lf/\Z w w':=by
 have cO:=aL (o:=0) h.box rfl;obtain⟨r,az⟩:∃r,b.lf=r:=⟨_,rfl⟩;have aG:decide ((b.dd:Int)=0)=r:=by rw[<-az];unfold aT.lf;exact H3.2 J
 rw[az];clear h az;go_enter func148,ntmps148;go_wp2;go_ret;exact⟨by rw[<-aG];rfl,U⟩
def z'{b:aT}{v:gB}(h:ea w M D O c p q b v)(db:j8 c.ps=true)(hm:b.dd<c.ps.length):aS 152 #[p] w (qp 3 1 dP ((b.c5 c).map Int.ofNat) w):=by
 have gD:=I h.box;have b8:=I h.c8.cL;have pz:b.dd<v.cL.n:=by rw[h.c8.cL.neq];exact hm
 change aa _ at db;clear h;go_enter func152,ntmps152;go_wp2_with fail;refine sX (Z w) (λbd=>?_);refine AU ?_;refine l0 3 (·.ay gD) ?_;refine Jr ?_;refine l0 7 (·.ay gD) ?_;refine h9 8 λK aE=>?_;(go_simp;(go_at_call 223;refine(apD v.cL.a v.cL.n v.cL.c b.dd c.ps _ (b8.ext U) db pz).mono ?_;rintro e _⟨aA,cF,c2,rfl,cd,fW⟩;change aa _ at cd fW);refine zS ?_;intro bd);refine de 9 ?_;refine og bQ ?_ _;go_wp2;go_ret;exact⟨aA,cF,c2,rfl,cd,U⟩
def A'{b:aT}{v:gB}(h:ea w M D O c p q b v)(cl:Int):aS 98 #[p,cl] w (cU (.bool (b.xl c cl)) w):=by
 obtain⟨_,-,b1⟩:=jm h.box;have b8:=I h.c8.ak;have aq:=h.c8.ak.neq;clear h;obtain⟨r,az⟩:∃r,b.xl c cl=r:=⟨_,rfl⟩;rw[az];unfold aT.xl at az;by_cases aZ:0<=cl
 ·by_cases af:cl<(v.ak.n:Int)
  ·obtain⟨k,rfl⟩:∃k:Nat,cl=(k:Int):=⟨cl.toNat,J⟩;have hk:k<c.hs.length:=J;obtain⟨_,o,ak,al⟩:=b8.get k hk;have k4:=Bo (x:=c.hs[k]) al;rw[jd]at k4;rw[ak]at b1;rw[jf ⟨aZ,J⟩,Bool.true_and,kN,xk,eK hk,T4]at az;clear al b8 ak;go_enter func98,ntmps98;go_wp2_with fail;go_quiet (fail);go_wp2;go_ret;exact⟨by rw[<-az];rfl,U⟩
  ·have fm:decide (cl<(v.ak.n:Int))=false:=je af;have Md:decide ((0:Int)<=cl)=true:=jf aZ;rw[je J,CP]at az;subst az;clear b8 af aZ aq;exact agM
 ·have fm:decide ((0:Int)<=cl)=false:=je aZ;rw[je J,CP]at az;subst az;clear b8 aZ aq;exact agM
def P2{b:aT}{v:gB}(H:ea w M D O c p q b v)(b6:gu c l R n b)(az:c.room<=1048576)(x:bR)(r:e9)(a8:hK w x r.e)(ec:r.k≠2/\r.k≠3->x=sL)(ar:rK r)(yu:xX r):
  aS 238 #[p,.agg #[r.k,ae (r.n:Int),x.k,x.id.b,ae x.id.l,ae x.id.s,x.c,ae x.u,x.f,x.e,r.id.b,ae r.id.l,ae r.id.s]] w (xv c p q w M D O (.bool (b.note c r).2) (b.note c r).1):=by
 obtain⟨au,ps,dN⟩:=H.c8.st;replace dN:=I dN;have fK:=I (b6.fz.DM az);replace a8:=I a8;replace ec:=I ec;replace ar:=I ar;replace yu:=I yu;replace H:=I H;replace b6:=I b6;obtain⟨rs,gF⟩:∃rs,b.note c r=rs:=⟨_,rfl⟩;rw[gF];replace gF:=I gF;go_enter func238,ntmps238;go_wp2_with fail;refine(YD x r _ (a8.ext U) ec yu).mono ?_;rintro e w1⟨cE,da,c1,rfl,s4,bE⟩;have Fq:=I (bE.ay (show(w.alloc (.cells #[r.k,ae (r.n:Int),x.k,x.id.b,ae x.id.l,ae x.id.s,x.c,ae x.u,x.f,x.e,r.id.b,ae r.id.l,ae r.id.s] 169)).heap[(w:Nat)]?=some (.cells #[r.k,ae (r.n:Int),x.k,x.id.b,ae x.id.l,ae x.id.s,x.c,ae x.u,x.f,x.e,r.id.b,ae r.id.l,ae r.id.s] 169)from gA));have c7:=I (s4.mono (aBw:=(w:Nat)) (by simp));have gD:=I ((H.ext (w':=w1) (Z.trans U bE)).box);replace bE:=I bE;clear s4;go_upto_region 4 with (fail);go_cut [6,7] (λtI bv eD=>∃(s':iJ) (oR ns:List bU) (B:Nat),tI=.int .i64 (Jh (fl b.st r))/\bv=.pointer (some (B,0))/\aa (rI eD w s' ((fl b.st r).getD b.st) oR ns)/\aa (eD.heap[B]?=some (s':Obj))/\aa (Z w1 eD)/\(w:Nat)<=B);case first=>
  go_wp2_with fail;refine sX (Z w1) (λbd=>?_);refine AU ?_;refine l0 3 (·.ay gD) ?_;refine l0 4 (·.ay Fq) ?_;refine zE (rs:= [5,9]) bQ (by simp) ?_;refine AllReadyH.cons rfl (λK aE=>?_) (AllReadyH.cons rfl (λK aE=>?_) AllReadyH.nil)
  ·skip;(go_simp;(go_at_call 287;refine(afz v.s b.st au ps x r _ (dN.ext U) fK (a8.ext U) ec yu).mono ?_;rintro e aN⟨s',oR,ns,rfl,nW,fW⟩;replace nW:=I nW;replace fW:=I fW);refine zS ?_;intro bd);refine U3 ?_;refine h9 9 λK aE=>?_;(go_simp;skip;refine zS ?_;intro bd);refine h9 10 λK aE=>?_;go_simp;refine aE _ _ ?_ (λbd=>?_)
   focus ((try dsimp only);exact U)
   clear aE K;refine agN ?_;go_wp2;go_meet;exact⟨s',oR,ns,_,rfl,rfl,(nW.ext U).mono (by have af:=bE.size;simp at af;simp;omega),I (e2 (by first|rfl|simp)),U,(by have af:=bE.size;have an:=fW.size;simp at af an;simp;omega)⟩
  ·skip;(go_simp;skip;refine zS ?_;intro bd);refine h9 5 λK aE=>?_;(go_simp;(go_at_call 287;refine(afz v.s b.st au ps x r _ (dN.ext U) fK (a8.ext U) ec yu).mono ?_;rintro e aN⟨s',oR,ns,rfl,nW,fW⟩;replace nW:=I nW;replace fW:=I fW);refine zS ?_;intro bd);refine U3 ?_;refine h9 10 λK aE=>?_;have so:aN.heap[(w1:Nat)]?=some (lD:Obj):=fW.ay (by show(w1.alloc lD).heap[(w1:Nat)]? =_;exact e2 rfl);obtain⟨_,_,_,_,_⟩:=C8 so;have iz:=Dt (S:=λx=>x=(w1:Nat)) (aI.refl _ aN) (R:=(w1:Nat)) (.inl rfl) (ae s'.cX) s'.l s'.p s'.b;have b7:=iz.ext (W:=w1) (λb ad=>by subst ad;exact bJ _) U;go_simp;refine aE _ _ ?_ (λbd=>?_)
   focus ((try dsimp only);exact b7)
   clear aE K;refine agN ?_;go_wp2;go_meet;exact⟨s',oR,ns,(w1:Nat),rfl,rfl,(nW.E4 so iz).mono (by have af:=bE.size;simp at af ⊢;omega),LJ so _ _ _ _,b7,(by have af:=bE.size;simp at af;omega)⟩
 case rest=>
  obtain⟨s',oR,ns,B,rfl,rfl,agO,asW,JC,B'⟩:=hcut;cases C5:fl b.st r with
  |none=>
   have bp:Jh none=160:=rfl;have iq:=gF.out;rw[asO C5]at iq;subst iq;rw[bp];clear C5 bp gF;go_wp2;go_ret;exact C'
  |some s=>
   have bp:Jh (some s)=0:=rfl;rw[C5]at agO;rw[bp];change aa _ at C5;clear bp;have afb:=aL (o:=3) (H.ext (w':=wc) U).box rfl;go_wp2_with fail;have nu:=H.ext (w':=wc.alloc (.cells #[ao cE da c1] 107)) U;obtain⟨L,eV,Fp,DN⟩:=nu.cp;have gW:=H.b5;have PD:(w:Nat)<=(wc:Nat):=Z.size (show Z w wc from U);have Ey:=asL (M:=M) (w:=wc.alloc (.cells #[ao cE da c1] 107)) (e2 rfl) (λk=>by have:=gW _ k;omega) ((c7.ext U).b5 gW);have hlen:∀x,x∈ [(⟨⟨cE,da,c1⟩,gi r⟩:gN)]->1<=x.aB.length/\x.aB.length<=4000:=λx X=>by obtain rfl:=jg.1 X;exact UZ ar
   have Dz:(gj ([(⟨⟨cE,da,c1⟩,gi r⟩:gN)].map (·.aB))).length=tE r:=(U0 [r]).trans (GQ r);by_cases bk:jo b.fz+tE r<=c.room
   ·have iq:=gF.out;rw[asQ C5.out bk]at iq;subst iq;refine(apg M D L v.eE q (b.fz.map gi) _ c.room _ 1 1 _ _ eV Ey J J hlen (by rw[Dz,U0];exact bk)).mono ?_;rintro e a6⟨rfl,bX,la,zR,fN,L8,L9⟩;obtain⟨E9,wC⟩:=nu.asK (U1:=b.fz++[r]) Fp DN (by rw[fT];exact zR) fN L8 L9;have hblk:∀x o,(w:Nat)<=x->wc.heap[x]?=some o->a6.heap[x]?=some o:=λx o X aM=>by
     have fH:=(Et.1 aM).1;refine(fN.block x (by simp;omega) (λk=>?_)).trans (((Z.refl wc).alloc _).ay aM);have:M x:=k.elim (nu.sm x) (λz=>nu.sub x (Fp x z));have:=gW x this;omega
    have so:=hblk B _ B' asW;have zT:=hblk (w:Nat) _ (bJ _) (JC.ay Fq);have U4:=wC.kS (λx k=>k.elim (nu.sm x) (nu.sub x)) (((agO.ext (w':=wc.alloc (.cells #[ao cE da c1] 107)) U).b5 gW).mono (λw k=>(⟨oR,ns,k⟩:∃au ps,q6 w s' s au ps)));have aY:p<(w:Nat):=bZ H.box;replace E9:=I E9;replace wC:=I wC;replace zT:=I zT;replace U4:=I U4;replace PD:=I PD;clear nu eV Fp DN Ey hlen Dz zR fN L8 L9 hblk;obtain⟨cA,cR,cS,du⟩:=oX so;obtain⟨-,-,-,-,k2,nA,pw,rp,tr⟩:=kr E9.box;clear so;clear gF;go_upto_region 10 with (fail);obtain⟨qf,vr⟩:=E9.state (w':=((((a6.setCell (p,4) (ae s'.cX)).setCell (p,5) s'.l).setCell (p,6) s'.p).setCell (p,7) s'.b)) (s:=s') (st:=s) U4 rfl;generalize ((((a6.setCell (p,4) (ae s'.cX)).setCell (p,5) s'.l).setCell (p,6) s'.p).setCell (p,7) s'.b)=cB at qf vr ⊢;have vq:(w:Nat)<(a6:Nat):=(Et.1 zT).1;have Cc:=(vr.block w vq (by show ¬(w:Nat)=p;omega)).trans zT;replace qf:=I qf;have iR:=I (wC.trans (ik.mW vr E9.bS.1));replace Cc:=I Cc;clear vr cA cR cS du k2 nA pw rp tr E9 wC zT U4 vq;have cA:=aL (o:=0) Cc rfl;by_cases jV:r.k=2
    ·have Zi:=qf.c8.tx;obtain⟨ts,db,jK⟩:=Zi;have ev:=I (Mc jK (λt bm=>(b6.tx t bm).eC));have qg:v.tx.n<=1000:=by rw[db.aF.neq,<-cx (f:=ca.tx),jK];have:=b6.sV;dsimp only;omega
     replace db:=I db;replace jK:=I jK;go_wp2_with fail;refine BU 11 (Z cB) (λbd=>?_);refine P3 ?_;refine l1 4 (·.ay qf.box) ?_;refine gR 5 ?_;refine gR 6 ?_;refine l1 7 (·.ay Cc) ?_;refine kW 8 λK aE=>?_;go_simp;go_at_call 240;refine(Un _ _ _ ts x.id _ (db.ext U) ev qg).mono ?_;rintro e bA⟨a5,hM,dH,asX,rfl,He,Me,ez⟩;have hi:=I ez;refine Fs ?_;intro hH bd;refine kW 9 λK aE=>?_;go_simp;refine Fs ?_;intro hH bd;refine gR 10 ?_;have A1:=qf.ext (w':=bA) U;have U5:∀x,k9 M (n5 bX la) x->x<(cB:Nat):=qf.b5;have fN:=He.b5 (λx k=>U5 x k);clear He;obtain⟨-,-,-,-,-,-,-,-,_,_⟩:=xR A1.box;refine kW 11 λK aE=>?_;refine Jf ?_;intro _;obtain⟨P4,wD⟩:=A1.rM (w':=bA.setCell (p,8) (ao a5 hM dH)) (t:=⟨a5,hM,dH⟩) (tx:=vf (ts.map ca.tx) x.id) (fN.mono (λw k=>⟨asX,k,Me⟩)) rfl;go_wp2;go_ret;refine⟨_,_,_,rfl,⟨{{v with s:=s'} with tx:=⟨a5,hM,dH⟩},?_⟩,((iR.ext (show Z cB bA from U)).trans (ik.mW wD A1.bS.1)).cN U⟩;rw[<-a8.id,<-show ts.map ca.tx=b.tx from jK.out];exact P4
    ·go_wp2;go_ret;refine⟨_,_,_,rfl,⟨{v with s:=s'},?_⟩,iR.cN U⟩;have W:=qf.out;exact W
   ·have iq:=gF.out;rw[asP C5.out bk]at iq;subst iq;refine(aph M D L v.eE q (b.fz.map gi) _ c.room _ 1 1 _ _ eV Ey J hlen (by rw[Dz,U0];omega)).mono ?_;rintro e _⟨rfl,c0⟩;replace c0:=I c0;clear nu eV Fp DN Ey hlen Dz;go_wp2;go_ret;exact C'
def gu.U6{b:aT}(h:gu c l R n b)(az:c.room<=1048576):b.st.au.length<=200000/\b.st.ps.length<=200000/\b.st.aB.length<=200000:=⟨(h.fz.DM az).se,(h.fz.DM az).h6,(h.fz.DM az).bW⟩
def D'(i:ax):(mU i).k≠1:=λe=>absurd e (by decide:¬(4:Int)=1)
def asY(i:ax):(zg i).k≠1:=λe=>absurd e (by decide:¬(5:Int)=1)
def agP(n:Nat)(d:bb):(iA n d).k≠1:=λe=>absurd e (by decide:¬(2:Int)=1)
def asZ(d:bb):(kR d).k≠1:=λe=>absurd e (by decide:¬(3:Int)=1)
def agQ{b:aT}(h:gu c l R n b)(i:ax):gu c l R n {b with tx:=vf b.tx i}:=
 ⟨h.dd,h.fz,λt bm=>(h.tx t ((I1 _ _).subset bm)).ln rfl rfl (bJ _),h.rM.sublist ((I1 b.tx i).map _),ek (I1 b.tx i).length_le h.sV,h.gq,h.x7,h.dT,h.gP,h.bD⟩
def as0{b:aT}(h:gu c l R n b)(aK:dY i):gu c l R n (b.x1 c i).1:=by
 unfold aT.x1;split
 ·exact agQ (JB h (Lx aK) (D' i)) i
 ·exact JB h (Lx aK) (D' i)
def agR{b:aT}(h:gu c l R n b)(aG:j9 d):gu c l R n (b.zo c d).1:=JB h (I3 _ aG) (agP _ _)
def agS{b:aT}(h:gu c l R n b)(aK:dY i):gu c l R n (b.pd c i):=by
 unfold aT.pd;split
 ·exact JB h (Za aK) (asY i)
 ·exact h
def agT{b:aT}{v:gB}(H:ea w M D O c p q b v)(b6:gu c l R n b)(az:c.room<=1048576)(x:bR)(d:bb)(a8:hK w x d)(cJ:j9 d):
  aS 204 #[p,x] w (xv c p q w M D O (.bool (b.zo c d).2) (b.zo c d).1):=by
 obtain⟨au,_,dh⟩:=H.c8.st;have c3:v.s.l.n=b.st.au.length:=by rw[dh.l.aF.neq,<-dh.jI,cx]
 have an:=(b6.U6 az).1;have zH:IntKind.u64.wrap (v.s.l.n:Int)=(v.s.l.n:Int):=G5 _ ⟨J,J⟩;change aa _ at c3;have yu:aa (xX (iA b.st.au.length d)):=.inr (.inl ⟨_,d,rfl,by unfold gw;omega,cJ.ok⟩);change aa _ at H b6 a8 cJ;clear dh;go_enter func204,ntmps204;go_wp2_with fail;have gD:=I (H.ext (w':=w.alloc x) U).box;have s5:=I (show(w.alloc x).heap[(w:Nat)]?=some (x:Obj)from gA);refine rN 10 (λw'=>Z (w.alloc x) w') (λbd=>?_);refine tS ?_;refine dC 3 ?_;refine dC 4 ?_;refine kG 5 (·.ay gD) ?_;refine dC 6 ?_;refine dC 7 ?_;refine kG 8 (·.ay s5) ?_;refine dC 9 ?_;refine jz 10 λK aE=>?_;go_simp;rw[c3.out];go_at_call 238;refine(P2 (H.ext U) b6 az x (iA b.st.au.length d) (a8.ext U) (λk=>absurd rfl k.1) (I3 _ cJ) yu).mono ?_;rintro e _⟨M',bX,O',rfl,Ai,qh⟩;refine aE _ _ (λ_ h=>absurd rfl h) λ_=>ej ?_;refine jz 11 λK aE=>?_;go_simp;refine aE _ _ (absurd · ah) λ_=>ej ?_;refine LI bQ ?_ _;go_wp2;go_ret;exact⟨M',bX,O',rfl,Ai,qh.cN U⟩
def as1{b:aT}{v:gB}(H:ea w M D O c p q b v)(b6:gu c l R n b)(az:c.room<=1048576)(i:ax)(a8:dY i):
  aS 205 #[p,i] w (xv c p q w M D O (.bool (b.x1 c i).2) (b.x1 c i).1):=by
 obtain⟨rs,gF⟩:∃rs,b.x1 c i=rs:=⟨_,rfl⟩;rw[gF];change aa _ at gF H b6 a8;go_enter func205,ntmps205;go_wp2_with fail;refine E' ?_;intro s5;refine(P2 (H.ext U) b6 az sL (mU i) (Uh _) (λ_=>rfl) (Lx a8) (.inr (.inr (.inr (.inl ⟨i,rfl,a8⟩))))).mono ?_;rintro e w1⟨M',bX,O',rfl,⟨v1,bE⟩,iD⟩;have iq:=gF.out;unfold aT.x1 at iq;have Ft:=JB b6 (Lx a8) (D' i);generalize b.note c (mU i)=as2 at iq bE Ft ⊢;obtain⟨bf,z⟩:=as2;change aa _ at iD bE Ft;have pj:aa (w1.heap[(w:Nat)]?=some (i:Obj)):=(iD.ee.block _ (by simp) (λk=>by have:=H.b5 _ (k.elim (H.sm _) (H.sub _));omega)).trans s5;clear s5 gF;obtain⟨_,_,_⟩:=jm pj;cases z with
 |false=>
  subst iq;go_wp2;go_ret;exact⟨M',bX,O',rfl,⟨v1,bE⟩,iD.cN U⟩
 |true=>
  subst iq;obtain⟨ts,db,jK⟩:=bE.c8.tx;have ev:=Mc jK (λt bm=>(Ft.tx t bm).eC);have qg:v1.tx.n<=1000:=by rw[db.aF.neq,<-cx (f:=ca.tx),jK];have:=Ft.sV;dsimp only at this ⊢;omega
  change aa _ at ev jK;have F':=I bE.box;change aa _ at db;go_wp2_with fail;refine BU 9 (Z w1) (λbd=>?_);refine P3 ?_;refine l1 4 (·.ay F') ?_;refine l1 5 (·.ay pj) ?_;refine kW 6 λK aE=>?_;go_simp;go_at_call 240;refine(Un _ _ _ ts i _ (db.ext U) ev qg).mono ?_;rintro e aN⟨ch,cF,c2,vt,rfl,o0,pz,cn⟩;have bq:=I cn;refine Fs ?_;intro hH bd;refine kW 7 λK aE=>?_;go_simp;refine Fs ?_;intro hH bd;refine gR 8 ?_;have CX:=bE.ext (w':=aN) U;have U5:∀x,M' x->x<(w1:Nat):=bE.b5;have fN:=o0.b5 (λx k=>U5 x k);clear o0;obtain⟨-,-,-,-,-,-,-,-,_,_⟩:=xR CX.box;refine kW 9 λK aE=>?_;refine Jf ?_;intro _;obtain⟨P4,wD⟩:=CX.rM (w':=aN.setCell (p,8) (ao ch cF c2)) (t:=⟨ch,cF,c2⟩) (tx:=vf (ts.map ca.tx) i) (fN.mono (λw k=>⟨vt,k,pz⟩)) rfl;go_wp2;go_ret;refine⟨_,_,_,rfl,⟨{v1 with tx:=⟨ch,cF,c2⟩},?_⟩,((iD.ext (show Z w1 aN from U)).trans (ik.mW wD CX.bS.1)).cN U⟩;rw[show bf.tx=ts.map ca.tx from jK.symm];exact P4
def DO:Maps.Keyed prog 3:=Maps.int_keyed ft
def DP{k:Int}(h:(Lit.int .i64 k).wf=true):keyOf prog 3 k=some (.int .i64 k):=Maps.keyOf_int_mk ft h
def as3:(match prog.underlying 54 with|some (.array _ _)|some (.struct _)=>true|_=>false)=true:=by rw[underlying54]
def agU:(54:TypeId)<prog.types.size:=Nat.le_of_ble_eq_true bQ
def as4:prog.keyTypeAt 2 54=true:=bQ
def Fu:Maps.Keyed prog 54:=Maps.Keyed.of_law (deep_law_laid agv (m:=2) J agU as4 as3)
def agV:prog.cellsOf 54=3:=bQ
def as5:prog.cellsOf 41=1:=bQ
def as6:prog.keyType 54=true:=bQ
def dY.wf(h:dY i):(Lit.int .i64 i.b).wf=true/\(Lit.int .u64 i.l).wf=true/\(Lit.int .u64 i.s).wf=true:=by
 have cm:IntKind.i64.min=-9223372036854775808:=by rfl
 have cq:IntKind.i64.max=9223372036854775807:=by rfl
 have fo:IntKind.u64.min=0:=by rfl
 have iM:IntKind.u64.max=18446744073709551615:=by rfl
 have af:=h.b;have an:=h.l;have aO:=h.s;unfold nO at an aO;simp only[Lit.wf,cm,cq,fo,iM,jS,jT];omega
def Hf(h:dY i):keyOf prog 54 (.agg #[i.b,ae i.l,ae i.s])=some (kb i):=by
 obtain⟨w1,aN,a6⟩:=h.wf;have bk:(Value.agg #[i.b,ae i.l,ae i.s]).formed prog 54=true:=by simp[Value.formed,underlying54,agV]
 obtain⟨m,hm⟩:∃m,prog.types.size=m+1:=⟨prog.types.size - 1,(Nat.sub_add_cancel (Om (gz _) agU)).symm⟩;unfold keyOf;simp only[underlying54];rw[bc (by simp[as6,bk]),hm];unfold Program.keyLits;simp only[underlying54,Value.cells];rw[bc ⟨by rw[agV];rfl,by simp⟩];simp[Program.keyLits,ft,underlying41,agy,as5,w1,aN,a6,kb]
def G'{j:ax}(aK:dY i)(aD:dY j)(h:kb i=kb j):i=j:=by
 have:=Fu.inj (Hf aK) (by rw[h];exact Hf aD);injection this with this;injection this with this;simp at this;cases i;cases j;simp_all
def A0.get(h:A0 w tm bD)(bm:∀j,j∈bD->dY j)(aK:dY i):
  ∃(n s:Nat) (f:Lit->Option Value) (z:Int),fp w prog 54 tm n s f/\(f (kb i)).getD av=.int .i64 z/\(f (kb i)).isSome=kl bD i:=by
 obtain⟨n,s,f,af,_,_,bt,cC⟩:=h;cases hm:kl bD i with
 |true=>
  have as7:i∈bD:=O3.1 hm;obtain⟨k,hk,rfl⟩:=List.getElem_of_mem as7;exact⟨n,s,f,k,af,by rw[bt k hk];rfl,by rw[bt k hk];rfl⟩
 |false=>
  refine⟨n,s,f,0,af,?_,?_⟩
  all_goals
   cases bk:f (kb i)with
   |none=>rfl
   |some v=>
    obtain⟨j,aD,e⟩:=cC _ _ bk
    rw[G' aK (bm j aD) e,O3.2 aD]at hm
    cases hm
def Mf(w:aC):xr w none 0 0 []:=⟨[],a7.nil _ bU.bI,(λp aY=>by cases aY),rfl⟩
def as8(w:aC):tP w pE TG:=⟨rfl,rfl,a7.nil _ V.bI,Mf w,Mf w,Mf w,a7.nil _ ax.bI,a7.nil _ ax.bI⟩
def AZ.get(h:AZ w M kY gq)(hk:k<1000000):
  ∃(n s:Nat) (f:Lit->Option Value) (x:kz),fp w prog 3 kY n s f/\(f (.int .i64 k)).getD (.agg #[pE.k,ae pE.h,pE.v,pE.q,pE.e,pE.p,pE.b,pE.d])=.agg #[x.k,ae x.h,x.v,x.q,x.e,x.p,x.b,x.d]/\cv M w (λw=>tP w x ((gq k).getD TG)):=by
 obtain⟨n,s,f,_,af,_,_,_,cC⟩:=h;have:=cC k hk;cases az:gq k with
 |none=>
  rw[az]at this;exact⟨n,s,f,pE,af,by rw[this.2];rfl,λw' _=>as8 w'⟩
 |some m=>
  rw[az]at this;obtain⟨_,x,b1,dJ⟩:=this;exact⟨n,s,f,x,af,by rw[b1];rfl,dJ⟩
def as9:(prog.info? 232).map (λi=>(i.zero,i.size,i.bytes))=some (some (.agg #[pE.k,ae pE.h,pE.v,pE.q,pE.e,pE.p,pE.b,pE.d]),8,160):=bQ
def agW(w:aC):(zeroValue 232).run prog w=.ok (.agg #[pE.k,ae pE.h,pE.v,pE.q,pE.e,pE.p,pE.b,pE.d]) w:=zeroValue232 w
def U7(w:aC):(zeroValue 3).run prog w=.ok av w:=zeroValue3 w
def H'{b:aT}{v:gB}(H:ea w M D O c p q b v)(bm:∀j,j∈b.bD->dY j)(i:ax)(aK:dY i):
  aS 92 #[p,i] w (cU (.bool (b.EY i)) w):=by
 obtain⟨n,s,f,z,eh,ec,ar⟩:=H.yt.get bm aK;obtain⟨_,_,dh⟩:=H.c8.st;obtain⟨y,hy⟩:∃y,kl b.bD i=y:=⟨_,rfl⟩;have j2:b.EY i=(y||kl b.st.aB i):=by rw[<-hy];rfl
 rw[j2];rw[hy]at ar;replace eh:=I eh;replace ec:=I ec;replace ar:=I ar;have b6:=I (Hf aK);have bn:=I dh.b;replace H:=I H;go_enter func92,ntmps92;go_wp2_with fail;have gD:=I (H.ext (w':=w.alloc i) U).box;have pj:=I (show(w.alloc i).heap[(w:Nat)]?=some (i:Obj)from gA);have rQ:=I (eh.ext (show Z w (w.alloc i)from U));refine sX (λw'=>Z (w.alloc i) w') (λbd=>?_);refine AU ?_;refine l0 3 (·.ay gD) ?_;refine l0 4 (·.ay pj) ?_;refine de 5 ?_ (hy:=λw fh=>by(try dsimp only at fh);(have dU:=(rQ.ext fh).m' Fu JD (U7 _) (y:=_) rfl b6;rw[ec.out,ar.out]at dU);exact A2);refine U3 ?_;refine de 9 ?_;refine de 10 ?_;refine og bQ ?_ _;cases y with
 |true=>
  go_wp2_with fail;refine ZG ?_;refine Je ?_;intro cW gK;go_wp2;go_ret;exact⟨rfl,U⟩
 |false=>
  go_wp2_with fail;refine sX (λw'=>Z (w.alloc i) w') (λbd=>?_);refine AU ?_;refine de 3 ?_;refine de 4 ?_;refine l0 5 (·.ay gD) ?_;refine l0 6 (·.ay pj) ?_;refine h9 7 λK aE=>?_;(go_simp;(go_at_call 137;refine(yX v.s b.st.aB i _ (bn.ext U)).mono ?_;rintro e _⟨rfl,fW⟩;replace fW:=I fW);refine zS ?_;intro bd);refine de 8 ?_;refine de 9 ?_;refine og bQ ?_ _;go_wp2;go_ret;exact⟨rfl,U⟩
def agX{W:aC}{b:aT}{v:gB}(H:ea W M D O c p q b v)(agY:Z W w)(db:j8 c.ps=true)(hm:b.dd<c.ps.length):
  aS 150 #[p] w λe w'=>∃a n cap ms,e=.returned (ao a n cap)/\a7 w' 8 pq.cs a n cap ms/\(∀p,p∈ms->tP W p.x p.m)/\(∀ai,a=some ai->(w:Nat)<=ai.block/\ai.block<(w':Nat))/\ms.map (·.m)=b.sR c/\Z w w':=by
 have h:=H.ext agY;have Jm:=id agY;have gD:=I h.box;have n1:c.ps.length<=16:=by
  unfold j8 at db;simp only[jS,jT]at db;exact db.1.2
 have y6:∀k,k∈b.c5 c->k<16:=λk hk=>by
  unfold aT.c5 TH at hk;have:=xd.1 (pA.1 hk).1;omega
 have rE:(b.c5 c).length<=16:=by
  have:(b.c5 c).length<=(List.range c.ps.length).length:=vP _ _;rw[JE]at this;omega
 obtain⟨oP,j4⟩:∃oP,b.c5 c=oP:=⟨_,rfl⟩;have vu:b.sR c=oP.map b.oO:=by unfold aT.sR;rw[j4]
 rw[vu];rw[j4]at y6 rE;have ata:aa (∀w',Z w w'->aS 152 #[p] w' (qp 3 1 dP (oP.map Int.ofNat) w')):=λw' X=>j4▸z' (h.ext X) db hm;replace y6:=I y6;replace H:=I H;replace db:=I db;go_enter func150,ntmps150;go_wp2_with fail;refine(ata _ U).mono ?_;rintro e w1⟨_,dm,_,rfl,s4,bE⟩;have iB:=s4.aF;have pF:dm=oP.length:=by rw[iB.neq,cx]
 subst pF;replace iB:=I iB;replace bE:=I bE;obtain⟨dK,eY,e5,e6,e7⟩:=fB as9;replace eY:=I eY;replace e5:=I e5;replace e6:=I e6;replace e7:=I e7;go_wp2_with fail;go_loopg [3,9] (oP.length) (λg e4 dS wr=>∃(k:Nat) (ab:bl) (m aR:Nat) (ms:List pq),g+k=oP.length/\dS=.int .i64 (k:Int)/\e4=.slice ab m aR/\m=k/\aa (aH wr w1 232 8 pq.cs ab m aR ms)/\aa (∀p,p∈ms->tP W p.x p.m)/\aa (ms.map (·.m)=(oP.take k).map b.oO)/\aa (Z w1 wr));case atStart=>exact⟨0,none,0,0,[],J,rfl,rfl,rfl,aH.nil _ _ _ pq.bI,(λp aY=>by cases aY),rfl,Z.refl _⟩
 case round=>
  obtain⟨k,ab,m,aR,ms,_,rfl,rfl,ho,aJ,Fv,kx,X⟩:=hrel;subst ho;by_cases hk:m<oP.length
  ·obtain⟨fb,o,rfl,al⟩:=iB.get m (by rw[cx];exact hk);have d0:wr.cell? (fb,o+m)=some ↑(oP[m]:Int):=by
    have:=Bo al;rw[jd,E6]at this;exact X.ag this
   have nV:Z w wr:=U;obtain⟨_,_,_,h2,U8,b9,a8⟩:=H.iO.get (k:=oP[m]) (by have:=y6.out _ (cT hk);omega);have qz:=aL (o:=10) (nV.ay gD) rfl;have eh:=I (U8.ext (Jm.trans nV));replace b9:=I b9;replace a8:=I a8;have b6:=I (DP (k:=(oP[m]:Int)) (uG J (by have:=y6.out _ (cT hk);omega)));have b0:(0:Int)<=(m:Int):=J;have bf:(m:Int)<(oP.length:Int):=J;go_wp2_with (first|(at_lookup;(refine Fj rfl (λK aE=>agu _ _ rfl DO underlying157 _ (agW _) rfl rfl eh rfl b6 ?_);rw[b9.out];refine aE _ _ ?_;clear aE K))|(at_builtin;refine hc (ys:=ms) rfl (.tmp 13) (.tmp 20) 236 rfl dK _ 160 underlying236 eY e5 e6 e7 rfl ah rfl (aJ.ext ((Z.refl _).alloc _)) ⟨h2,b.oO oP[m]⟩ _ rfl (fi (cs:=pq.cs ⟨h2,b.oO oP[m]⟩) rfl) (kz.cQ _) J ah (Z.size (X.trans ((Z.refl _).alloc _))) ?_;intro _ _ _ ha fy));change aa _ at fy ha;go_wp2;go_roundg (gk - 1);case measure=>omega
   case rel=>
    have ru:=aJ.ext ((Z.refl wr).alloc h2);refine⟨m+1,_,_,_,ms++[(⟨h2,b.oO oP[m]⟩:pq)],J,by go_num,rfl,rfl,ha,λy hy=>?_,?_,fy.ext ru (bJ _) (X.trans ((Z.refl _).alloc _))⟩
    ·rcases ie.1 hy with hy|hy
     ·exact Fv y hy
     ·obtain rfl:=jg.1 hy;exact a8.c8
    ·rw[fT,kx.out,iv hk,fT];rfl
  ·have cb:oP.take m=oP:=iU J;rw[cb]at kx;have tT:aa (Z w wr):=U;go_wp2;go_ret;exact⟨ab,m,aR,ms,rfl,aJ.aF,Fv,λai ak=>⟨ek bE.size (aJ.lt ai ak).1,(aJ.lt ai ak).2⟩,kx,tT⟩
def agZ{b:aT}{v:gB}(h:ea w M D O c p q b v)(bm:j8 c.ps=true)(hm:b.dd<c.ps.length):
  aS 150 #[p] w λe w'=>∃a n cap ms,e=.returned (ao a n cap)/\Ma w' a n cap ms/\ms.map (·.m)=b.sR c/\Z w w':=
 (agX h (Z.refl _) bm hm).mono λ_ _ ⟨a,n,cap,ms,af,an,aO,_,cC,fV⟩=>⟨a,n,cap,ms,af,⟨an,λp aY=>(aO p aY).ext fV⟩,cC,fV⟩
end Go.Proofs.YtfiiblnenhdlhaaGreat
