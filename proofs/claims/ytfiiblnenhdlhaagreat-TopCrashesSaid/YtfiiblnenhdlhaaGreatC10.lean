/- Part. -/
import Derived.Test.YtfiiblnenhdlhaaGreatC9
set_option linter.unusedVariables false
set_option linter.unusedSimpArgs false
set_option linter.defProp false
set_option maxRecDepth 100000
set_option maxHeartbeats 4000000
namespace Go.Proofs.YtfiiblnenhdlhaaGreat
open Go.RowKit Tryz
variable {z:Int}{l:List hE}{K P aR b fuel k n o:Nat}{F M gS:Nat->Prop}{a aA:Option Addr}{t:TypeId}{w w':World}{i:ax}{c:bK}{aQ:ba}
def ot:bK:=⟨[-1,0],[1],10000⟩
def Ru:cI:=⟨⟨#[112]⟩,1,5,⟨#[]⟩⟩
def a0:Int×ax×ba:=ba.new.call ot 0 (λb=>b.sub 0 1 [])
def cE:Int×ax×ba:=a0.2.2.call ot 0 (λb=>b.uy 0)
def FZ:ax:=tX cE.1 cE.2.1
def ch:Int×ba:=cE.2.2.ka ot 0 FZ (λb=>b.wo FZ [Ru])
def a3:Int×ba:=ch.2.ka ot 0 FZ (λb=>b.yc FZ)
def a4:ba:=a3.2.round ot
def a5:ba:=a4.round ot
def r7:ba:=a5.round ot
def nP:List (List cI)×Int×ba:=r7.tZ ot 0
def rG:ba:=yH ot nP.2.2 0
def uS:im ot:=⟨⟨by decide+kernel,ah⟩,ah,λh c6=>by simp[ot]at c6;subst c6;decide,ah⟩
def ayi:cM ot [] 0 ba.new/\(∃l,cM ot l 1 a0.2.2)/\(∃l,cM ot l 2 cE.2.2)/\(∃l,cM ot l 2 ch.2)/\(∃l,cM ot l 2 a3.2)/\(∃l,cM ot l 2 a4)/\(∃l,cM ot l 2 a5)/\(∃l,cM ot l 2 r7)/\(∃l,cM ot l 2 nP.2.2)/\(∃l,cM ot l 2 rG):=by
 have aZ:cM ot [] 0 ba.new:=aeZ uS (by decide+kernel);have af:cM ot [] 1 a0.2.2:=Zj uS aZ J 0 (λb=>ajo (u:=1) J (λt bm=>by cases bm) b);have an:=aeD uS af J 0 (z:=cE.1) (i:=cE.2.1) (w':=cE.2.2) rfl;have aO:=aeQ uS an 0 FZ [Ru] (λt bm=>by obtain rfl:=jg.1 bm;show lx 5;unfold lx;omega) (z:=ch.1) (w':=ch.2) rfl;have bt:=aeS uS aO 0 FZ (z:=a3.1) (w':=a3.2) rfl;have cC:=TW uS.tolZ bt;have fV:=TW uS.tolZ cC;have kv:=TW uS.tolZ fV;obtain⟨MQ,fG⟩:∃l,cM ot l 2 nP.2.2:=⟨_,ajn kv 0⟩;have o5:cM ot MQ 2 rG:=by
  unfold rG yH;rw[bc ah];exact Zn fG ah
 exact⟨aZ,⟨_,af⟩,⟨_,an⟩,⟨_,aO⟩,⟨_,bt⟩,⟨_,cC⟩,⟨_,fV⟩,⟨_,kv⟩,⟨_,fG⟩,⟨_,o5⟩⟩
def ayj:∀k,r7.cur k<=1000000:=by
 have:r7.cur=ba.new.cur:=by
  unfold r7 a5 a4;rw[Wn,Wn,Wn];show a3.2.cur=_;unfold a3;rw[Re];unfold ch;rw[Re];unfold cE;rw[Wo];unfold a0;rw[Wo]
 rw[this];exact λk=>gz _
def ayk:nP.1.length=1:=by
 have:(nP.1.length==1)=true:=by decide+kernel
 exact eq_of_beq this
def ayl:mH ot nP.2.2.bN 0=true:=by decide+kernel
def aym:(et rG 0).au.length=2:=by
 have:((et rG 0).au.length==2)=true:=by decide+kernel
 exact eq_of_beq this
def ayn:∃cp,rG.bN 0=.down cp:=by
 have h:(match rG.bN 0 with|.up _=>false|.down _=>true)=true:=by decide+kernel
 cases aq:rG.bN 0 with
 |up b=>rw[aq]at h;cases h
 |down cp=>exact⟨cp,rfl⟩
def jQ.step{M' S:eZ}{Q:Nat}{ids:List ax}(h:jQ w M gS c Q aQ ids)(aj:aI S w w')(bj:∀x,S x->M x)(hF:∀x,gS x->¬S x)(bk:b4 w M M')(a1:∀x,M' x->x<(w':Nat)):jQ w' M' gS c Q aQ ids:=by
 obtain⟨P,F,a,n,aR,af,an,aO,bt,cC,fV⟩:=h;exact⟨P,F,a,n,aR,af.step aj bj (λx k=>hF x (cC x (.inl k))) bk a1,(aj.block _ (bZ an) (hF Q (cC Q (.inr (.inl rfl))))).trans an,aj.bS aO (λai ak=>hF _ (cC _ (.inr (.inr ⟨ai,ak,rfl⟩)))),λx X=>⟨bk.up x (bt x X).1,(bt x X).2⟩,cC,λx X=>bk.up x (fV x X)⟩
structure Kh (w wr:World) (M gS:Nat->Prop) (Q dM B:Nat) (Nb Nc:Obj) (W:ba) (k0:List ax) (aA:Option Addr) (n aR:Nat) (xs:List ia):Prop where
 Wz:jQ wr M gS ot Q W k0
 ext:Z w wr
 b5:∀x,M x->w.heap.size<=x
 row:aH wr 0 83 9 ia.cs aA n aR xs
 kY:∀ai,aA=some ai->M ai.block/\¬gS ai.block
 mp:wr.heap[dM]?=some Nb/\¬M dM
 QY:wr.heap[B]?=some Nc/\¬M B
def Kh.next{wr iR aN a6 HS bA:aC}{M2 ou:eZ}{Q dM B A g wT:Nat}{Nb Nc:Obj}{W W':ba}{k0 ajY:List ax}{xs:List ia}{x:ia}(h:Kh w wr M gS Q dM B Nb Nc W k0 aA n aR xs)(br:Z wr iR)(lo:(wr:Nat)<=A)(Mr:A<(iR:Nat))(aag:jQ aN M2 ou ot Q W' ajY)(pz:hj iR (λy=>M y\/y=A) gS aN M2 ou)(h8:aI (·=A) aN a6)(eQ:Z a6 HS)(bC:lL HS bA aA g)(aM:aH bA 0 83 9 ia.cs (some (g,0)) (n+1) wT (xs++[x])):
  ∃jP,Kh w bA jP ou Q dM B Nb Nc W' ajY (some (g,0)) (n+1) wT (xs++[x]):=by
 have cZ:=br.size;have z2:=pz.ee.size;have z3:=h8.size;have z4:=eQ.size;have aah:=h.Wz.sub;have gW:=h.Wz.b5;have ayo:¬gS A:=λk=>by have:=gW A (aah A k);omega
 have ayp:¬ou A:=λk=>(pz.f.new A k).elim ayo (λz=>by omega);have Qf:∀y,y<(wr:Nat)->ou y->gS y:=λy hy k=>(pz.f.new y k).elim id (λz=>by omega);have n4:∀y,y<(wr:Nat)->M2 y->M y:=λy hy k=>(pz.m.new y k).elim (λz=>z.elim id (λe=>by omega)) (λz=>by omega);have D6:∀y,qb aA y->y<(wr:Nat)/\M y/\¬gS y:=λy ⟨ai,ak,e⟩=>e▸⟨(h.row.lt ai ak).2,h.kY ai ak⟩;have xi:qb aA g\/g=(HS:Nat):=bC.at_.elim (λk=>.inl (let ⟨ai,ak,e⟩:=k;⟨ai,ak,e⟩)) .inr;have Rv:=(aag.store (pz.m.up _ (.inr rfl)) ayp h8).ext eQ;have DQ:=(aM.lt _ rfl).2;have bk:b4 HS M2 (λy=>M2 y\/y=g):=⟨λy k=>.inl k,λy k=>k.elim .inl (λe=>xi.elim (λz=>.inl (e▸pz.m.up _ (.inl (D6 g z).2.1))) (λz=>.inr J))⟩;have ayq:=Rv.step (S:=qb aA) bC.ee (λy k=>pz.m.up y (.inl (D6 y k).2.1)) (λy k z=>(D6 y z).2.2 (Qf y (D6 y z).1 k)) bk (λy k=>k.elim (λz=>fQ (Rv.b5 y z) bC.ee.size) (λe=>e▸DQ));have TY:∀{b:Nat}{o:Obj},wr.heap[b]?=some o->¬M b->bA.heap[b]?=some o/\¬(M2 b\/b=g):=λ{b o} ad aq=>by
  have a1:=bZ ad;have bf:=br.ay ad;have dA:=(pz.ee.block _ (bZ bf) (λk=>aq (aah b k))).trans bf;have gh:=(h8.block _ (bZ dA) (λe=>by have e:b=A:=e;omega)).trans dA;have gm:=eQ.ay gh;refine⟨(bC.ee.block _ (bZ gm) (λk=>aq (D6 b k).2.1)).trans gm,λk=>k.elim (λz=>aq (n4 b a1 z)) (λe=>xi.elim (λz=>aq (e▸(D6 g z).2.1)) (λz=>by omega))⟩
 have eX:=h.ext.size;have cq:Z w aN:=pz.ee.ext (λy k=>h.b5 y (aah y k)) (h.ext.trans br);have fo:Z w a6:=h8.ext (λy e=>by have e:y=A:=e;omega) cq;have kB:Z w bA:=bC.ee.ext (λy k=>h.b5 y (D6 y k).2.1) (fo.trans eQ);refine⟨λy=>M2 y\/y=g,ayq,kB,λy k=>?_,aM,λai ak=>?_,TY h.mp.1 h.mp.2,TY h.QY.1 h.QY.2⟩
 ·rcases k with k|k
  ·rcases pz.m.new y k with (z|z)|z
   ·exact h.b5 y z
   ·omega
   ·omega
  ·rcases xi with z|z
   ·exact k▸h.b5 g (D6 g z).2.1
   ·omega
 ·cases ak;refine⟨.inr rfl,λk=>?_⟩;rcases xi with z|z
  ·exact(D6 g z).2.2 (Qf g (D6 g z).1 k)
  ·have:=aag.b5 g (aag.sub g k);have z:g=(HS:Nat):=z;omega
def Kh.ayr{wr iR aN a6 HS:aC}{M2 ou:eZ}{Q dM B A:Nat}{Nb Nc:Obj}{W:ba}{k0:List ax}{xs:List ia}(h:Kh w wr M gS Q dM B Nb Nc W k0 aA n aR xs)(br:Z wr iR)(lo:(wr:Nat)<=A)(pz:hj iR (λy=>M y\/y=A) gS aN M2 ou)(h8:aI (·=A) aN a6)(eQ:Z a6 HS):aH HS 0 83 9 ia.cs aA n aR xs:=
 (h8.bS (pz.ee.bS (h.row.ext br) (λai ak=>(h.kY ai ak).2)) (λai ak e=>by have e:ai.block=A:=e;have:=(h.row.lt ai ak).2;omega)).ext eQ
def sv.cs'(o:sv):List Value:= [.int .i64 o.k,.int .i64 o.a,.int .i64 o.b,.int .i64 o.n,.slice o.e.a o.e.n o.e.c,.slice o.f.a o.f.n o.f.c]
def sv.bI(o:sv):o.cs'.length=6:=rfl
def ays{x:sv}(h:r0 w b o x.cs'):
  w.cell? (b,o)=some ↑x.k/\w.cell? (b,o+1)=some ↑x.a/\w.cell? (b,o+2)=some ↑x.b/\w.cell? (b,o+3)=some ↑x.n/\w.cell? (b,o+4)=some ↑x.e/\w.cell? (b,o+5)=some ↑x.f:=
 ⟨h 0 _ rfl,h 1 _ rfl,h 2 _ rfl,h 3 _ rfl,h 4 _ rfl,h 5 _ rfl⟩
def ayt:(prog.info? 83).map (λi=>(i.zero,i.size,i.bytes))=some (some (.agg #[av,av,aw,aw,av,aP,av,av,.bool false]),9,88):=bQ
def aai(k a b n:Int)(e:iF):sv:=⟨k,a,b,n,e,⟨none,0,0⟩⟩
def wM(k a b n:Int):sv:=aai k a b n ⟨none,0,0⟩
def Rw(tI:iF):List sv:= [wM 13 0 1 0,wM 9 0 0 0,aai 10 0 0 1 tI,wM 11 0 0 1,wM 8 0 0 0,wM 8 0 0 0,wM 8 0 0 0,wM 16 0 0 0,wM 6 0 0 0,wM 17 0 0 0]
def aaj:Nat->ba
 |0=>ba.new|1=>a0.2.2|2=>cE.2.2|3=>ch.2|4=>a3.2|5=>a4|6=>a5|7=>r7|8=>nP.2.2|_=>rG
def ajZ:Nat->List ax
 |0=> []|1=> [tX a0.1 a0.2.1]|_=> [tX a0.1 a0.2.1,FZ]
structure wN (xs:List ia):Prop where
 nP:∀x,xs[7]?=some x->x.b.n=1
 rG:∀x,xs[8]?=some x->x.z=0
 a9:∀x,xs[9]?=some x->x.cp=2/\x.up=false
def wN.qA{xs:List ia}{x:ia}(h:wN xs)(hk:xs.length=k)(kv:k=7->x.b.n=1)(fG:k=8->x.z=0)(o5:k=9->x.cp=2/\x.up=false):wN (xs++[x]):=by
 have key:∀(j:Nat) (y:ia),(xs++[x])[j]?=some y->xs[j]?=some y\/j=k/\y=x:=λj y hy=>by
  rcases Bh j xs.length with z|z
  ·rw[HW z]at hy;exact .inl hy
  ·rw[Kr z]at hy;have aD:j - xs.length=0:=by
    have:=(ud.1 hy).1;simp at this;omega
   rw[aD]at hy;cases hy;exact .inr ⟨J,rfl⟩
 exact⟨λy hy=>(key 7 y hy).elim (h.nP y) (λz=>z.2▸kv z.1.symm),λy hy=>(key 8 y hy).elim (h.rG y) (λz=>z.2▸fG z.1.symm),λy hy=>(key 9 y hy).elim (h.a9 y) (λz=>z.2▸o5 z.1.symm)⟩
def ayu{cL ak fJ:bl}{gJ fv aq al on gg:Nat}{tI:iF}(b8:a7 w 1 dP cL gJ fv [-1,0])(oA:a7 w 1 dP ak aq al [1])(bu:a7 w 6 sv.cs' fJ on gg (Rw tI))(hf:a7 w 4 cI.cs tI.a tI.n tI.c [Ru]):
  aS 28 #[ao cL gJ fv,ao ak aq al,bo 10000,ao fJ on gg] w λe w'=>∃a n c xs,e=.returned (.tuple #[ao a n c,av])/\a7 w' 9 ia.cs a n c xs/\xs.length=10/\wN xs/\Z w w':=by
 obtain rfl:on=10:=bu.neq;obtain⟨ct,bO,bL,bM,bP⟩:=fB ayt;replace bO:=I bO;replace bL:=I bL;replace bM:=I bM;replace bP:=I bP;replace b8:=I b8;replace oA:=I oA;replace bu:=I bu;replace hf:=I hf;obtain⟨yy,⟨_,Ki⟩,⟨_,oS⟩,⟨_,Nd⟩,⟨_,xn⟩,⟨_,DR⟩,⟨_,JP⟩,⟨_,Ms⟩,⟨_,Xh⟩,⟨_,l5⟩⟩:=ayi;obtain⟨_,aak⟩:=ayn;replace yy:=I yy;replace Ki:=I Ki;replace oS:=I oS;replace Nd:=I Nd;replace xn:=I xn;replace DR:=I DR;replace JP:=I JP;replace Ms:=I Ms;replace l5:=I l5;replace aak:=I aak;clear Xh;go_enter func28,ntmps28;go_wp2_with fail;have Kj:=GT (room:=10000) b8 oA (by decide+kernel) ah ah ah ah;rw[show((10000:Nat):Int)=10000 from rfl]at Kj;refine Kj.mono ?_;clear Kj;rintro e w1⟨af,_⟩;obtain⟨P,M,F,rfl,dW,bz,yw⟩:=af (by decide+kernel);replace dW:=I dW;replace bz:=I bz;replace yw:=I yw;clear af;go_wp2_with fail;have cn:Z w1 (w1.alloc (.cells #[P,aP] 138)):=U;have iX:(w1.alloc (.cells #[P,aP] 138)).heap[(w1:Nat)]?=some (.cells #[P,aP] 138 (0,0)):=e2 rfl;have pB:(w1.alloc (.cells #[P,aP] 138)).heap.size=(w1:Nat)+1:=by simp
 obtain⟨aN,oQ⟩:∃aN,w1.alloc (.cells #[P,aP] 138)=aN:=⟨_,rfl⟩;rw[oQ]at cn iX pB;rw[oQ];clear oQ;refine ax6.mono ?_;rintro e a6⟨dM,B,rfl,dz,zQ,B',bx,⟨aX,dO,hm,_,aal⟩,⟨_,_,pz,_,aam⟩,⟨_,_,aj0,_,Rx⟩,⟨_,_,PA,_,aan⟩,⟨_,_,Me,_,aao⟩,⟨_,_,aj1,_,aap⟩,⟨_,_,Rt,_,aaq⟩,⟨_,_,Gv,_,aar⟩⟩;rw[hm]at pz aj0 PA Me aj1 Rt Gv;cases pz;cases aj0;cases PA;cases Me;cases aj1;cases Rt;cases Gv;have aj2:b4 w1 M (λx=>M x\/x=(w1:Nat)):=⟨λx k=>.inl k,λx k=>k.imp id (λe=>by omega)⟩;have WA:∀x,(M x\/x=(w1:Nat))->x<(aN:Nat):=λx k=>k.elim (λz=>by have:=dW.b5 x z;omega) (λe=>by omega)
 have Wy:jQ aN (λx=>M x\/x=(w1:Nat)) (λx=>F x\/x=(w1:Nat)) ot w1 ba.new []:=
  ⟨P,F,none,0,0,dW.step (S:=λ_=>False) (.of cn) (λ_ k=>k.elim) (λ_ _ k=>k) aj2 WA,iX,aH.nil _ _ _ ax.bI,λx k=>k.elim (λe=>⟨.inr e,λz=>by have:=dW.b5 x (dW.sub x z);omega⟩) (fun⟨ai,ak,_⟩=>by cases ak),λx k=>k.elim .inl (λz=>z.elim .inr (fun⟨ai,ak,_⟩=>by cases ak)),λx k=>k.imp (dW.sub x) id⟩
 have iN:Kh w a6 (λx=>M x\/x=(w1:Nat)) (λx=>F x\/x=(w1:Nat)) w1 dM B (.map aX dO) (.cells #[.func (.methodOf 136 "Crash") #[] #[]] 206 (0,0)) (aaj 0) (ajZ 0) none 0 0 []:=
  ⟨Wy.ext dz,bz.trans (cn.trans dz),λx k=>k.elim (yw x) (λe=>by have:=bz.size;omega),aH.nil _ _ _ ia.bI,λai ak=>(by cases ak),⟨hm,λk=>by have:=WA dM k;omega⟩,⟨bx,λk=>by have:=WA B k;omega⟩⟩
 replace iN:=I iN;replace aal:=I aal;replace aam:=I aam;replace Rx:=I Rx;replace aao:=I aao;replace aap:=I aap;replace aan:=I aan;replace aaq:=I aaq;replace aar:=I aar;clear Wy WA aj2 cn iX pB dz zQ B' bx hm dW bz yw;obtain⟨Q,iQ⟩:∃Q,(w1:Nat)=Q:=⟨_,rfl⟩;rw[iQ]at iN;rw[iQ];clear iQ;go_wp2_with fail;go_loopg [14,16,17,18,19,39] (10) (λg e4 aAZ aA0 ng bv dS wr=>∃(k:Nat) (M gS:eZ) (aA:bl) (aR:Nat) (xs:List ia),g+k=10/\dS=.int .i64 (k:Int)/\e4=.slice aA k aR/\aa (Kh w wr M gS Q dM B (.map aX dO) (.cells #[.func (.methodOf 136 "Crash") #[] #[]] 206 (0,0)) (aaj k) (ajZ k) aA k aR xs)/\aa (xs.length=k)/\aa (wN xs));case atStart=>exact⟨0,_,_,none,0,[],J,rfl,rfl,iN,rfl,(show wN []from⟨λx h=>(by cases h),λx h=>(by cases h),λx h=>(by cases h)⟩)⟩
 case round=>
  obtain⟨k,M,_,aA,aR,xs,_,rfl,rfl,cw,mE,CA⟩:=hrel;by_cases hk:k<10
  ·have ayv:k<(Rw tI).length:=by simpa[Rw]using hk
   obtain⟨b,o,rfl,al⟩:=bu.get k ayv;obtain⟨jM,jA⟩:∃jM,(Rw tI)[k]=jM:=⟨_,rfl⟩;rw[jA]at al;obtain⟨cO,c1,c2,cV,dF,dH⟩:=ays (w:=wr) (x:=jM) (λj v aD=>cw.ext.ag (al j v aD));have b0:(0:Int)<=(k:Int):=J;have bf:(k:Int)<10:=J;have bz:Z wr ((wr.alloc jM).alloc (.cells #[bo 1,av,aw,aw,av,aP,av,av,.bool false] 83)):=U;have kZ:((wr.alloc jM).alloc (.cells #[bo 1,av,aw,aw,av,aP,av,av,.bool false] 83)).heap[(wr:Nat)+1]?=some (.cells #[bo 1,av,aw,aw,av,aP,av,av,.bool false] 83):=gA;have s4:((wr.alloc jM).alloc (.cells #[bo 1,av,aw,aw,av,aP,av,av,.bool false] 83)).heap[(wr:Nat)]?=some (jM:Obj):=gA;have nU:((wr.alloc jM).alloc (.cells #[bo 1,av,aw,aw,av,aP,av,av,.bool false] 83)).heap.size=(wr:Nat)+2:=by simp
   replace jA:=I jA;clear al;go_upto_region 13 with (fail);obtain⟨iR,jj⟩:∃iR,(wr.alloc jM).alloc (.cells #[bo 1,av,aw,aw,av,aP,av,av,.bool false] 83)=iR:=⟨_,rfl⟩;rw[jj]at bz kZ s4 nU;rw[jj];clear jj;have mo:=I (cw.Wz.cell (R:=(wr:Nat)+1) bz J J);have ayw:=I (cw.Wz.DZ (R:=(wr:Nat)+1) J);have iD:=I (bz.ay cw.mp.1);have bE:=I (bz.ay cw.QY.1);obtain⟨dV,q1,dk,eP,gV,mO⟩:=RU s4;replace kZ:=I kZ;replace bz:=I bz;replace nU:=I nU;clear s4 cO c1 c2 cV dF dH;rcases (show k=0\/k=1\/k=2\/k=3\/k=4\/k=5\/k=6\/k=7\/k=8\/k=9 from by omega)with rfl|rfl|rfl|rfl|rfl|rfl|rfl|rfl|rfl|rfl
   ·
    have hI:aa (jM=wM 13 0 1 0):=jA.symm;have rm:jM.k=13:=by rw[hI.out];rfl
    have bT:(Instr.lookup 139 (.map (some dM)) jM.k true).run prog iR=.ok (.tuple #[(.func (.func 106) #[] #[]),.bool true]) iR:=by rw[rm];exact nB (P:=prog) qn ft iD 13 aan
    clear rm;go_wp2_with fail;refine(axW mo uS yy J ah jM (u:=1) (by rw[hI.out];rfl) J (ts:= []) (by rw[hI.out];exact a7.nil _ T.bI) ah (λt bm=>by cases bm) (r:=a0) (by rw[hI.out];rfl)).mono ?_;refine D7 ?_;intro aN x M2 ou v0 v1 v2 v3 v4 v5 v6 hh jO pW tT mm lV dI;clear dV q1 dk eP gV mO bT;go_upto_region 16 with (fail);refine D8 ?_;clear v0 v1 v2 v3 v4 v5 v6 hh jO pW;intro a6 cA cR cS du dw dx dB dy jH eA qd iY;go_wp2_with (at_builtin;refine hc (ys:=xs) (c:=ia.cs) rfl (.tmp 56) (.tmp 58) 79 rfl ct _ 88 D9 bO bL bM bP rfl ah rfl qd x _ rfl (fi (cs:=ia.cs x) rfl) (ia.cQ _) ah ah (gz _) ?_;intro g9 ij dc ha fy);go_roundg (gk - 1);case measure=>omega
    case rel=>
     refine Ea ?_;intro jP jy;exact⟨0+1,jP,ou,_,ij,xs++[x],J,by go_num,by go_num,(by(try rw[hI.out]at jy);exact jy),(show(xs++[x]).length=0+1 by rw[c9,mE.out];rfl),wN.qA CA mE (λe=>by omega) (λe=>by omega) (λe=>by omega)⟩
   ·
    have hI:aa (jM=wM 9 0 0 0):=jA.symm;have rm:jM.k=9:=by rw[hI.out];rfl
    have bT:(Instr.lookup 139 (.map (some dM)) jM.k true).run prog iR=.ok (.tuple #[(.func (.func 105) #[] #[]),.bool true]) iR:=by rw[rm];exact nB (P:=prog) qn ft iD 9 Rx
    clear rm;go_wp2_with fail;refine(axV mo uS Ki J ah jM (r:=cE) (by rw[hI.out];rfl)).mono ?_;refine D7 ?_;intro aN x M2 ou v0 v1 v2 v3 v4 v5 v6 hh jO pW tT mm lV dI;clear dV q1 dk eP gV mO bT;go_upto_region 16 with (fail);refine D8 ?_;clear v0 v1 v2 v3 v4 v5 v6 hh jO pW;intro a6 cA cR cS du dw dx dB dy jH eA qd iY;go_wp2_with (at_builtin;refine hc (ys:=xs) (c:=ia.cs) rfl (.tmp 56) (.tmp 58) 79 rfl ct _ 88 D9 bO bL bM bP rfl ah rfl qd x _ rfl (fi (cs:=ia.cs x) rfl) (ia.cQ _) ah ah (gz _) ?_;intro g9 ij dc ha fy);go_roundg (gk - 1);case measure=>omega
    case rel=>
     refine Ea ?_;intro jP jy;exact⟨1+1,jP,ou,_,ij,xs++[x],J,by go_num,by go_num,(by(try rw[hI.out]at jy);exact jy),(show(xs++[x]).length=1+1 by rw[c9,mE.out];rfl),wN.qA CA mE (λe=>by omega) (λe=>by omega) (λe=>by omega)⟩
   ·
    have hI:aa (jM=aai 10 0 0 1 tI):=jA.symm;have rm:jM.k=10:=by rw[hI.out];rfl
    have bT:(Instr.lookup 139 (.map (some dM)) jM.k true).run prog iR=.ok (.tuple #[(.func (.func 108) #[] #[]),.bool true]) iR:=by rw[rm];exact nB (P:=prog) qn ft iD 10 aao
    clear rm;go_wp2_with fail;refine(axY mo uS oS jM (k:=1) (i:=FZ) rfl (by rw[hI.out];rfl) (xs:= [Ru]) (by rw[hI.out];exact hf.ext (cw.ext.trans bz)) (λy hy=>by obtain rfl:=jg.1 hy;show lx 5;unfold lx;omega) (r:=ch) (by rw[hI.out];rfl)).mono ?_;refine D7 ?_;intro aN x M2 ou v0 v1 v2 v3 v4 v5 v6 hh jO pW tT mm lV dI;clear dV q1 dk eP gV mO bT;go_upto_region 16 with (fail);refine D8 ?_;clear v0 v1 v2 v3 v4 v5 v6 hh jO pW;intro a6 cA cR cS du dw dx dB dy jH eA qd iY;go_wp2_with (at_builtin;refine hc (ys:=xs) (c:=ia.cs) rfl (.tmp 56) (.tmp 58) 79 rfl ct _ 88 D9 bO bL bM bP rfl ah rfl qd x _ rfl (fi (cs:=ia.cs x) rfl) (ia.cQ _) ah ah (gz _) ?_;intro g9 ij dc ha fy);go_roundg (gk - 1);case measure=>omega
    case rel=>
     refine Ea ?_;intro jP jy;exact⟨2+1,jP,ou,_,ij,xs++[x],J,by go_num,by go_num,(by(try rw[hI.out]at jy);exact jy),(show(xs++[x]).length=2+1 by rw[c9,mE.out];rfl),wN.qA CA mE (λe=>by omega) (λe=>by omega) (λe=>by omega)⟩
   ·
    have hI:aa (jM=wM 11 0 0 1):=jA.symm;have rm:jM.k=11:=by rw[hI.out];rfl
    have bT:(Instr.lookup 139 (.map (some dM)) jM.k true).run prog iR=.ok (.tuple #[(.func (.func 109) #[] #[]),.bool true]) iR:=by rw[rm];exact nB (P:=prog) qn ft iD 11 aap
    clear rm;go_wp2_with fail;refine(axZ mo uS Nd jM (k:=1) (i:=FZ) rfl (by rw[hI.out];rfl) (r:=a3) (by rw[hI.out];rfl)).mono ?_;refine D7 ?_;intro aN x M2 ou v0 v1 v2 v3 v4 v5 v6 hh jO pW tT mm lV dI;clear dV q1 dk eP gV mO bT;go_upto_region 16 with (fail);refine D8 ?_;clear v0 v1 v2 v3 v4 v5 v6 hh jO pW;intro a6 cA cR cS du dw dx dB dy jH eA qd iY;go_wp2_with (at_builtin;refine hc (ys:=xs) (c:=ia.cs) rfl (.tmp 56) (.tmp 58) 79 rfl ct _ 88 D9 bO bL bM bP rfl ah rfl qd x _ rfl (fi (cs:=ia.cs x) rfl) (ia.cQ _) ah ah (gz _) ?_;intro g9 ij dc ha fy);go_roundg (gk - 1);case measure=>omega
    case rel=>
     refine Ea ?_;intro jP jy;exact⟨3+1,jP,ou,_,ij,xs++[x],J,by go_num,by go_num,(by(try rw[hI.out]at jy);exact jy),(show(xs++[x]).length=3+1 by rw[c9,mE.out];rfl),wN.qA CA mE (λe=>by omega) (λe=>by omega) (λe=>by omega)⟩
   ·
    refine aas ?_;intro hI bT;go_wp2_with fail;refine(LE mo uS xn ah jM).mono ?_;refine D7 ?_;intro aN x M2 ou v0 v1 v2 v3 v4 v5 v6 hh jO pW tT mm lV dI;clear dV q1 dk eP gV mO bT;go_upto_region 16 with (fail);refine D8 ?_;clear v0 v1 v2 v3 v4 v5 v6 hh jO pW;intro a6 cA cR cS du dw dx dB dy jH eA qd iY;go_wp2_with (at_builtin;refine hc (ys:=xs) (c:=ia.cs) rfl (.tmp 56) (.tmp 58) 79 rfl ct _ 88 D9 bO bL bM bP rfl ah rfl qd x _ rfl (fi (cs:=ia.cs x) rfl) (ia.cQ _) ah ah (gz _) ?_;intro g9 ij dc ha fy);go_roundg (gk - 1);case measure=>omega
    case rel=>
     refine Ea ?_;intro jP jy;exact⟨4+1,jP,ou,_,ij,xs++[x],J,by go_num,by go_num,(by(try rw[hI.out]at jy);exact jy),(show(xs++[x]).length=4+1 by rw[c9,mE.out];rfl),wN.qA CA mE (λe=>by omega) (λe=>by omega) (λe=>by omega)⟩
   ·
    refine aas ?_;intro hI bT;go_wp2_with fail;refine(LE mo uS DR ah jM).mono ?_;refine D7 ?_;intro aN x M2 ou v0 v1 v2 v3 v4 v5 v6 hh jO pW tT mm lV dI;clear dV q1 dk eP gV mO bT;go_upto_region 16 with (fail);refine D8 ?_;clear v0 v1 v2 v3 v4 v5 v6 hh jO pW;intro a6 cA cR cS du dw dx dB dy jH eA qd iY;go_wp2_with (at_builtin;refine hc (ys:=xs) (c:=ia.cs) rfl (.tmp 56) (.tmp 58) 79 rfl ct _ 88 D9 bO bL bM bP rfl ah rfl qd x _ rfl (fi (cs:=ia.cs x) rfl) (ia.cQ _) ah ah (gz _) ?_;intro g9 ij dc ha fy);go_roundg (gk - 1);case measure=>omega
    case rel=>
     refine Ea ?_;intro jP jy;exact⟨5+1,jP,ou,_,ij,xs++[x],J,by go_num,by go_num,(by(try rw[hI.out]at jy);exact jy),(show(xs++[x]).length=5+1 by rw[c9,mE.out];rfl),wN.qA CA mE (λe=>by omega) (λe=>by omega) (λe=>by omega)⟩
   ·
    refine aas ?_;intro hI bT;go_wp2_with fail;refine(LE mo uS JP ah jM).mono ?_;refine D7 ?_;intro aN x M2 ou v0 v1 v2 v3 v4 v5 v6 hh jO pW tT mm lV dI;clear dV q1 dk eP gV mO bT;go_upto_region 16 with (fail);refine D8 ?_;clear v0 v1 v2 v3 v4 v5 v6 hh jO pW;intro a6 cA cR cS du dw dx dB dy jH eA qd iY;go_wp2_with (at_builtin;refine hc (ys:=xs) (c:=ia.cs) rfl (.tmp 56) (.tmp 58) 79 rfl ct _ 88 D9 bO bL bM bP rfl ah rfl qd x _ rfl (fi (cs:=ia.cs x) rfl) (ia.cQ _) ah ah (gz _) ?_;intro g9 ij dc ha fy);go_roundg (gk - 1);case measure=>omega
    case rel=>
     refine Ea ?_;intro jP jy;exact⟨6+1,jP,ou,_,ij,xs++[x],J,by go_num,by go_num,(by(try rw[hI.out]at jy);exact jy),(show(xs++[x]).length=6+1 by rw[c9,mE.out];rfl),wN.qA CA mE (λe=>by omega) (λe=>by omega) (λe=>by omega)⟩
   ·
    have hI:aa (jM=wM 16 0 0 0):=jA.symm;have rm:jM.k=16:=by rw[hI.out];rfl
    have bT:(Instr.lookup 139 (.map (some dM)) jM.k true).run prog iR=.ok (.tuple #[(.func (.func 112) #[] #[]),.bool true]) iR:=by rw[rm];exact nB (P:=prog) qn ft iD 16 aaq
    clear rm;go_wp2_with fail;refine(ax0 mo uS Ms ah ayj jM (r:=nP) (by rw[hI.out];rfl)).mono ?_;refine D7 ?_;intro aN x M2 ou v0 v1 v2 v3 v4 v5 v6 hh jO pW tT mm lV dI;clear dV q1 dk eP gV mO bT;go_upto_region 16 with (fail);refine D8 ?_;clear v0 v1 v2 v3 v4 v5 v6 hh jO pW;intro a6 cA cR cS du dw dx dB dy jH eA qd iY;go_wp2_with (at_builtin;refine hc (ys:=xs) (c:=ia.cs) rfl (.tmp 56) (.tmp 58) 79 rfl ct _ 88 D9 bO bL bM bP rfl ah rfl qd x _ rfl (fi (cs:=ia.cs x) rfl) (ia.cQ _) ah ah (gz _) ?_;intro g9 ij dc ha fy);go_roundg (gk - 1);case measure=>omega
    case rel=>
     refine Ea ?_;intro jP jy;exact⟨7+1,jP,ou,_,ij,xs++[x],J,by go_num,by go_num,(by(try rw[hI.out]at jy);exact jy),(show(xs++[x]).length=7+1 by rw[c9,mE.out];rfl),wN.qA CA mE (λ_=>tT.trans ayk) (λe=>by omega) (λe=>by omega)⟩
   ·
    have hI:aa (jM=wM 6 0 0 0):=jA.symm;have rm:jM.k=6:=by rw[hI.out];rfl
    have bT:(Instr.lookup 139 (.map (some dM)) jM.k true).run prog iR=.ok (.tuple #[(.func (.func 182) #[] #[B]),.bool true]) iR:=by rw[rm];exact nB (P:=prog) qn ft iD 6 aal
    clear rm;go_wp2_with fail;refine(ax5 mo uS jM bE).mono ?_;refine D7 ?_;intro aN x M2 ou v0 v1 v2 v3 v4 v5 v6 hh jO pW tT mm lV dI;clear dV q1 dk eP gV mO bT;go_upto_region 16 with (fail);refine D8 ?_;clear v0 v1 v2 v3 v4 v5 v6 hh jO pW;intro a6 cA cR cS du dw dx dB dy jH eA qd iY;go_wp2_with (at_builtin;refine hc (ys:=xs) (c:=ia.cs) rfl (.tmp 56) (.tmp 58) 79 rfl ct _ 88 D9 bO bL bM bP rfl ah rfl qd x _ rfl (fi (cs:=ia.cs x) rfl) (ia.cQ _) ah ah (gz _) ?_;intro g9 ij dc ha fy);go_roundg (gk - 1);case measure=>omega
    case rel=>
     refine Ea ?_;intro jP jy;exact⟨8+1,jP,ou,_,ij,xs++[x],J,by go_num,by go_num,(by(try rw[hI.out]at jy);exact jy),(show(xs++[x]).length=8+1 by rw[c9,mE.out];rfl),wN.qA CA mE (λe=>by omega) (λ_=>tT.out.2 (by rw[hI.out];exact ayl)) (λe=>by omega)⟩
   ·
    have hI:aa (jM=wM 17 0 0 0):=jA.symm;have rm:jM.k=17:=by rw[hI.out];rfl
    have bT:(Instr.lookup 139 (.map (some dM)) jM.k true).run prog iR=.ok (.tuple #[(.func (.func 113) #[] #[]),.bool true]) iR:=by rw[rm];exact nB (P:=prog) qn ft iD 17 aar
    clear rm;go_wp2_with fail;refine(ax2 mo uS l5 ah jM (n0:=0) ah (by rw[hI.out];rfl) aak).mono ?_;refine D7 ?_;intro aN x M2 ou v0 v1 v2 v3 v4 v5 v6 hh jO pW tT mm lV dI;clear dV q1 dk eP gV mO bT;go_upto_region 16 with (fail);refine D8 ?_;clear v0 v1 v2 v3 v4 v5 v6 hh jO pW;intro a6 cA cR cS du dw dx dB dy jH eA qd iY;go_wp2_with (at_builtin;refine hc (ys:=xs) (c:=ia.cs) rfl (.tmp 56) (.tmp 58) 79 rfl ct _ 88 D9 bO bL bM bP rfl ah rfl qd x _ rfl (fi (cs:=ia.cs x) rfl) (ia.cQ _) ah ah (gz _) ?_;intro _ ij _ ha fy);go_roundg (gk - 1);case measure=>omega
    case rel=>
     refine Ea ?_;intro jP jy;exact⟨9+1,jP,ou,_,ij,xs++[x],J,by go_num,by go_num,(by(try rw[hI.out]at jy);exact jy),(show(xs++[x]).length=9+1 by rw[c9,mE.out];rfl),wN.qA CA mE (λe=>by omega) (λe=>by omega) (λ_=>⟨tT.out.1.trans (by rw[show(aaj 9)=rG from rfl,aym];rfl),tT.out.2⟩)⟩
  ·obtain rfl:k=10:=J;have qd:=I cw.row.aF;have DB:=I cw.ext;go_wp2;go_ret2;exact⟨aA,10,aR,xs,rfl,qd,mE,CA,DB⟩
def aH.lit{α:Type}{arr:Array Value}{sz:Nat}{c:α->List Value}{xs:List α}(ak:arr.toList=xs.flatMap c)(hw:∀y,(c y).length=sz)(aq:n=xs.length)(hs:arr.size=n*sz)(hm:n<=maxLen):aH (w.alloc (.cells arr t)) w t sz c (some (w,0)) n n xs:=
 ⟨ak▸World.ownsRow_lit w arr n (bJ _) hm hs,aq,hw⟩
def ayx:aS 5 #[] w (cU (.bool true) w):=by
 go_enter func5,ntmps5;go_wp2_with fail;refine(akV _ _).mono ?_;rintro e w1⟨rfl,bz⟩;replace bz:=I bz;go_wp2_with fail;have an:aH (w1.alloc (.cells #[.string ⟨#[112]⟩,bo 1,bo 5,.string ⟨#[]⟩] 77)) w1 77 4 cI.cs (some (w1,0)) 1 1 [Ru]:=aH.lit rfl cI.bI rfl rfl ah;have pB:(w1.alloc (.cells #[.string ⟨#[112]⟩,bo 1,bo 5,.string ⟨#[]⟩] 77)).heap.size=(w1:Nat)+1:=by simp
 have AB:((w1.alloc (.cells #[.string ⟨#[112]⟩,.int .i64 1,.int .i64 5,.string ⟨#[]⟩] 77)).alloc (.cells #[.int .i64 13,.int .i64 0,.int .i64 1,.int .i64 0,.slice none 0 0,.slice none 0 0,.int .i64 9,.int .i64 0,.int .i64 0,.int .i64 0,.slice none 0 0,.slice none 0 0,.int .i64 10,.int .i64 0,.int .i64 0,.int .i64 1,.slice (some (w1,0)) 1 1,.slice none 0 0,.int .i64 11,.int .i64 0,.int .i64 0,.int .i64 1,.slice none 0 0,.slice none 0 0,.int .i64 8,.int .i64 0,.int .i64 0,.int .i64 0,.slice none 0 0,.slice none 0 0,.int .i64 8,.int .i64 0,.int .i64 0,.int .i64 0,.slice none 0 0,.slice none 0 0,.int .i64 8,.int .i64 0,.int .i64 0,.int .i64 0,.slice none 0 0,.slice none 0 0,.int .i64 16,.int .i64 0,.int .i64 0,.int .i64 0,.slice none 0 0,.slice none 0 0,.int .i64 6,.int .i64 0,.int .i64 0,.int .i64 0,.slice none 0 0,.slice none 0 0,.int .i64 17,.int .i64 0,.int .i64 0,.int .i64 0,.slice none 0 0,.slice none 0 0] 72)).heap.size=(w1:Nat)+2:=by simp
 have aj3:(((w1.alloc (.cells #[.string ⟨#[112]⟩,.int .i64 1,.int .i64 5,.string ⟨#[]⟩] 77)).alloc (.cells #[.int .i64 13,.int .i64 0,.int .i64 1,.int .i64 0,.slice none 0 0,.slice none 0 0,.int .i64 9,.int .i64 0,.int .i64 0,.int .i64 0,.slice none 0 0,.slice none 0 0,.int .i64 10,.int .i64 0,.int .i64 0,.int .i64 1,.slice (some (w1,0)) 1 1,.slice none 0 0,.int .i64 11,.int .i64 0,.int .i64 0,.int .i64 1,.slice none 0 0,.slice none 0 0,.int .i64 8,.int .i64 0,.int .i64 0,.int .i64 0,.slice none 0 0,.slice none 0 0,.int .i64 8,.int .i64 0,.int .i64 0,.int .i64 0,.slice none 0 0,.slice none 0 0,.int .i64 8,.int .i64 0,.int .i64 0,.int .i64 0,.slice none 0 0,.slice none 0 0,.int .i64 16,.int .i64 0,.int .i64 0,.int .i64 0,.slice none 0 0,.slice none 0 0,.int .i64 6,.int .i64 0,.int .i64 0,.int .i64 0,.slice none 0 0,.slice none 0 0,.int .i64 17,.int .i64 0,.int .i64 0,.int .i64 0,.slice none 0 0,.slice none 0 0] 72)).alloc (.cells #[.int .i64 (-1),.int .i64 0] 3)).heap.size=(w1:Nat)+3:=by simp
 have aO:aH ((w1.alloc (.cells #[.string ⟨#[112]⟩,.int .i64 1,.int .i64 5,.string ⟨#[]⟩] 77)).alloc (.cells #[.int .i64 13,.int .i64 0,.int .i64 1,.int .i64 0,.slice none 0 0,.slice none 0 0,.int .i64 9,.int .i64 0,.int .i64 0,.int .i64 0,.slice none 0 0,.slice none 0 0,.int .i64 10,.int .i64 0,.int .i64 0,.int .i64 1,.slice (some (w1,0)) 1 1,.slice none 0 0,.int .i64 11,.int .i64 0,.int .i64 0,.int .i64 1,.slice none 0 0,.slice none 0 0,.int .i64 8,.int .i64 0,.int .i64 0,.int .i64 0,.slice none 0 0,.slice none 0 0,.int .i64 8,.int .i64 0,.int .i64 0,.int .i64 0,.slice none 0 0,.slice none 0 0,.int .i64 8,.int .i64 0,.int .i64 0,.int .i64 0,.slice none 0 0,.slice none 0 0,.int .i64 16,.int .i64 0,.int .i64 0,.int .i64 0,.slice none 0 0,.slice none 0 0,.int .i64 6,.int .i64 0,.int .i64 0,.int .i64 0,.slice none 0 0,.slice none 0 0,.int .i64 17,.int .i64 0,.int .i64 0,.int .i64 0,.slice none 0 0,.slice none 0 0] 72)) (w1.alloc (.cells #[.string ⟨#[112]⟩,.int .i64 1,.int .i64 5,.string ⟨#[]⟩] 77)).heap.size 72 6 sv.cs' (some ⟨(w1.alloc (.cells #[.string ⟨#[112]⟩,.int .i64 1,.int .i64 5,.string ⟨#[]⟩] 77)).heap.size,0,none⟩) 10 10 (Rw ⟨some (w1,0),1,1⟩):=aH.lit rfl sv.bI rfl rfl ah;have bt:aH (((w1.alloc (.cells #[.string ⟨#[112]⟩,.int .i64 1,.int .i64 5,.string ⟨#[]⟩] 77)).alloc (.cells #[.int .i64 13,.int .i64 0,.int .i64 1,.int .i64 0,.slice none 0 0,.slice none 0 0,.int .i64 9,.int .i64 0,.int .i64 0,.int .i64 0,.slice none 0 0,.slice none 0 0,.int .i64 10,.int .i64 0,.int .i64 0,.int .i64 1,.slice (some (w1,0)) 1 1,.slice none 0 0,.int .i64 11,.int .i64 0,.int .i64 0,.int .i64 1,.slice none 0 0,.slice none 0 0,.int .i64 8,.int .i64 0,.int .i64 0,.int .i64 0,.slice none 0 0,.slice none 0 0,.int .i64 8,.int .i64 0,.int .i64 0,.int .i64 0,.slice none 0 0,.slice none 0 0,.int .i64 8,.int .i64 0,.int .i64 0,.int .i64 0,.slice none 0 0,.slice none 0 0,.int .i64 16,.int .i64 0,.int .i64 0,.int .i64 0,.slice none 0 0,.slice none 0 0,.int .i64 6,.int .i64 0,.int .i64 0,.int .i64 0,.slice none 0 0,.slice none 0 0,.int .i64 17,.int .i64 0,.int .i64 0,.int .i64 0,.slice none 0 0,.slice none 0 0] 72)).alloc (.cells #[.int .i64 (-1),.int .i64 0] 3)) ((w1.alloc (.cells #[.string ⟨#[112]⟩,.int .i64 1,.int .i64 5,.string ⟨#[]⟩] 77)).alloc (.cells #[.int .i64 13,.int .i64 0,.int .i64 1,.int .i64 0,.slice none 0 0,.slice none 0 0,.int .i64 9,.int .i64 0,.int .i64 0,.int .i64 0,.slice none 0 0,.slice none 0 0,.int .i64 10,.int .i64 0,.int .i64 0,.int .i64 1,.slice (some (w1,0)) 1 1,.slice none 0 0,.int .i64 11,.int .i64 0,.int .i64 0,.int .i64 1,.slice none 0 0,.slice none 0 0,.int .i64 8,.int .i64 0,.int .i64 0,.int .i64 0,.slice none 0 0,.slice none 0 0,.int .i64 8,.int .i64 0,.int .i64 0,.int .i64 0,.slice none 0 0,.slice none 0 0,.int .i64 8,.int .i64 0,.int .i64 0,.int .i64 0,.slice none 0 0,.slice none 0 0,.int .i64 16,.int .i64 0,.int .i64 0,.int .i64 0,.slice none 0 0,.slice none 0 0,.int .i64 6,.int .i64 0,.int .i64 0,.int .i64 0,.slice none 0 0,.slice none 0 0,.int .i64 17,.int .i64 0,.int .i64 0,.int .i64 0,.slice none 0 0,.slice none 0 0] 72)).heap.size 3 1 dP (some ⟨((w1.alloc (.cells #[.string ⟨#[112]⟩,.int .i64 1,.int .i64 5,.string ⟨#[]⟩] 77)).alloc (.cells #[.int .i64 13,.int .i64 0,.int .i64 1,.int .i64 0,.slice none 0 0,.slice none 0 0,.int .i64 9,.int .i64 0,.int .i64 0,.int .i64 0,.slice none 0 0,.slice none 0 0,.int .i64 10,.int .i64 0,.int .i64 0,.int .i64 1,.slice (some (w1,0)) 1 1,.slice none 0 0,.int .i64 11,.int .i64 0,.int .i64 0,.int .i64 1,.slice none 0 0,.slice none 0 0,.int .i64 8,.int .i64 0,.int .i64 0,.int .i64 0,.slice none 0 0,.slice none 0 0,.int .i64 8,.int .i64 0,.int .i64 0,.int .i64 0,.slice none 0 0,.slice none 0 0,.int .i64 8,.int .i64 0,.int .i64 0,.int .i64 0,.slice none 0 0,.slice none 0 0,.int .i64 16,.int .i64 0,.int .i64 0,.int .i64 0,.slice none 0 0,.slice none 0 0,.int .i64 6,.int .i64 0,.int .i64 0,.int .i64 0,.slice none 0 0,.slice none 0 0,.int .i64 17,.int .i64 0,.int .i64 0,.int .i64 0,.slice none 0 0,.slice none 0 0] 72)).heap.size,0,none⟩) 2 2 [-1,0]:=aH.lit rfl dP.tD rfl rfl ah;have cC:aH ((((w1.alloc (.cells #[.string ⟨#[112]⟩,.int .i64 1,.int .i64 5,.string ⟨#[]⟩] 77)).alloc (.cells #[.int .i64 13,.int .i64 0,.int .i64 1,.int .i64 0,.slice none 0 0,.slice none 0 0,.int .i64 9,.int .i64 0,.int .i64 0,.int .i64 0,.slice none 0 0,.slice none 0 0,.int .i64 10,.int .i64 0,.int .i64 0,.int .i64 1,.slice (some (w1,0)) 1 1,.slice none 0 0,.int .i64 11,.int .i64 0,.int .i64 0,.int .i64 1,.slice none 0 0,.slice none 0 0,.int .i64 8,.int .i64 0,.int .i64 0,.int .i64 0,.slice none 0 0,.slice none 0 0,.int .i64 8,.int .i64 0,.int .i64 0,.int .i64 0,.slice none 0 0,.slice none 0 0,.int .i64 8,.int .i64 0,.int .i64 0,.int .i64 0,.slice none 0 0,.slice none 0 0,.int .i64 16,.int .i64 0,.int .i64 0,.int .i64 0,.slice none 0 0,.slice none 0 0,.int .i64 6,.int .i64 0,.int .i64 0,.int .i64 0,.slice none 0 0,.slice none 0 0,.int .i64 17,.int .i64 0,.int .i64 0,.int .i64 0,.slice none 0 0,.slice none 0 0] 72)).alloc (.cells #[.int .i64 (-1),.int .i64 0] 3)).alloc (.cells #[.int .i64 1] 3)) (((w1.alloc (.cells #[.string ⟨#[112]⟩,.int .i64 1,.int .i64 5,.string ⟨#[]⟩] 77)).alloc (.cells #[.int .i64 13,.int .i64 0,.int .i64 1,.int .i64 0,.slice none 0 0,.slice none 0 0,.int .i64 9,.int .i64 0,.int .i64 0,.int .i64 0,.slice none 0 0,.slice none 0 0,.int .i64 10,.int .i64 0,.int .i64 0,.int .i64 1,.slice (some (w1,0)) 1 1,.slice none 0 0,.int .i64 11,.int .i64 0,.int .i64 0,.int .i64 1,.slice none 0 0,.slice none 0 0,.int .i64 8,.int .i64 0,.int .i64 0,.int .i64 0,.slice none 0 0,.slice none 0 0,.int .i64 8,.int .i64 0,.int .i64 0,.int .i64 0,.slice none 0 0,.slice none 0 0,.int .i64 8,.int .i64 0,.int .i64 0,.int .i64 0,.slice none 0 0,.slice none 0 0,.int .i64 16,.int .i64 0,.int .i64 0,.int .i64 0,.slice none 0 0,.slice none 0 0,.int .i64 6,.int .i64 0,.int .i64 0,.int .i64 0,.slice none 0 0,.slice none 0 0,.int .i64 17,.int .i64 0,.int .i64 0,.int .i64 0,.slice none 0 0,.slice none 0 0] 72)).alloc (.cells #[.int .i64 (-1),.int .i64 0] 3)).heap.size 3 1 dP (some ⟨(((w1.alloc (.cells #[.string ⟨#[112]⟩,.int .i64 1,.int .i64 5,.string ⟨#[]⟩] 77)).alloc (.cells #[.int .i64 13,.int .i64 0,.int .i64 1,.int .i64 0,.slice none 0 0,.slice none 0 0,.int .i64 9,.int .i64 0,.int .i64 0,.int .i64 0,.slice none 0 0,.slice none 0 0,.int .i64 10,.int .i64 0,.int .i64 0,.int .i64 1,.slice (some (w1,0)) 1 1,.slice none 0 0,.int .i64 11,.int .i64 0,.int .i64 0,.int .i64 1,.slice none 0 0,.slice none 0 0,.int .i64 8,.int .i64 0,.int .i64 0,.int .i64 0,.slice none 0 0,.slice none 0 0,.int .i64 8,.int .i64 0,.int .i64 0,.int .i64 0,.slice none 0 0,.slice none 0 0,.int .i64 8,.int .i64 0,.int .i64 0,.int .i64 0,.slice none 0 0,.slice none 0 0,.int .i64 16,.int .i64 0,.int .i64 0,.int .i64 0,.slice none 0 0,.slice none 0 0,.int .i64 6,.int .i64 0,.int .i64 0,.int .i64 0,.slice none 0 0,.slice none 0 0,.int .i64 17,.int .i64 0,.int .i64 0,.int .i64 0,.slice none 0 0,.slice none 0 0] 72)).alloc (.cells #[.int .i64 (-1),.int .i64 0] 3)).heap.size,0,none⟩) 1 1 [1]:=aH.lit rfl dP.tD rfl rfl ah;rw[pB]at aO;rw[AB]at bt;rw[aj3]at cC;have hg:=I cC.aF;have gC:=I (bt.aF.ext ((Z.refl _).alloc (.cells #[bo 1] 3)));have fO:=I (aO.aF.ext (((Z.refl _).alloc (.cells #[bo (-1),av] 3)).alloc (.cells #[bo 1] 3)));have dg:=I (an.aF.ext ((((Z.refl _).alloc (.cells #[.int .i64 13,.int .i64 0,.int .i64 1,.int .i64 0,.slice none 0 0,.slice none 0 0,.int .i64 9,.int .i64 0,.int .i64 0,.int .i64 0,.slice none 0 0,.slice none 0 0,.int .i64 10,.int .i64 0,.int .i64 0,.int .i64 1,.slice (some (w1,0)) 1 1,.slice none 0 0,.int .i64 11,.int .i64 0,.int .i64 0,.int .i64 1,.slice none 0 0,.slice none 0 0,.int .i64 8,.int .i64 0,.int .i64 0,.int .i64 0,.slice none 0 0,.slice none 0 0,.int .i64 8,.int .i64 0,.int .i64 0,.int .i64 0,.slice none 0 0,.slice none 0 0,.int .i64 8,.int .i64 0,.int .i64 0,.int .i64 0,.slice none 0 0,.slice none 0 0,.int .i64 16,.int .i64 0,.int .i64 0,.int .i64 0,.slice none 0 0,.slice none 0 0,.int .i64 6,.int .i64 0,.int .i64 0,.int .i64 0,.slice none 0 0,.slice none 0 0,.int .i64 17,.int .i64 0,.int .i64 0,.int .i64 0,.slice none 0 0,.slice none 0 0] 72)).alloc (.cells #[.int .i64 (-1),.int .i64 0] 3)).alloc (.cells #[.int .i64 1] 3)));clear an aO bt cC pB AB aj3;refine(ayu gC hg fO dg).mono ?_;rintro e bA⟨a,n,_,xs,rfl,hs,a1,e3,ez⟩;obtain rfl:n=10:=hs.neq.trans a1;have hi:aa (Z w1 bA):=Z.trans U ez;obtain⟨b,o,rfl,eM⟩:=hs.get 7 J;obtain⟨b',ll,wq,jG⟩:=hs.get 8 J;cases wq;obtain⟨_,_,Dr,ij⟩:=hs.get 9 J;cases Dr;have d7:=eM 5 _ rfl;have d8:=jG 0 _ rfl;have d9:=ij 6 _ rfl;have d10:=ij 8 _ rfl;have lA:=e3.nP _ (eK (show 7<xs.length by omega));have wq:=e3.rG _ (eK (show 8<xs.length by omega));obtain⟨Dr,Pc⟩:=e3.a9 _ (eK (show 9<xs.length by omega));rw[lA]at d7;rw[wq]at d8;rw[Dr]at d9;rw[Pc]at d10;clear hs e3 ez eM jG ij lA wq Dr Pc;go_wp2;go_ret;exact⟨rfl,U⟩
structure jR where
 s:iF
 d:hE
def jR.cs(p:jR):List Value:= [.int .i64 p.d.id.b,.int .u64 p.d.id.l,.int .u64 p.d.id.s,.int .i64 p.d.cl,.slice p.s.a p.s.n p.s.c,.bool p.d.vi,.bool p.d.AJ]
def jR.bI(p:jR):p.cs.length=7:=rfl
def jR.cQ(p:jR):∀u∈p.cs,u.oneCell'=true:=by
 intro u aj;simp only[jR.cs,oy,tb,ue]at aj;rcases aj with rfl|rfl|rfl|rfl|rfl|rfl|rfl<;>rfl
structure aj4 (w:World) (a:Option Addr) (n c:Nat) (ps:List jR):Prop where
 aF:a7 w 7 jR.cs a n c ps
 aX:∀p,p∈ps->∃cD,cD.map (·.dt)=p.d.aX/\vO w p.s.a p.s.n p.s.c cD
def ayy(b l s b' l' s':Int)(w:aC):
  (binOp .neq 54 (.agg #[b,ae l,ae s]) (.agg #[b',ae l',ae s'])).run prog w=.ok (.bool (!cc ⟨b,l,s⟩ ⟨b',l',s'⟩)) w:=abw
def aj5{x:jR}(h:r0 w b o x.cs):
  w.cell? (b,o)=some ↑x.d.id.b/\w.cell? (b,o+1)=some ↑(ae x.d.id.l)/\w.cell? (b,o+2)=some ↑(ae x.d.id.s)/\w.cell? (b,o+3)=some ↑x.d.cl/\w.cell? (b,o+4)=some ↑x.s/\w.cell? (b,o+5)=some ↑x.d.vi/\w.cell? (b,o+6)=some ↑x.d.AJ:=
 ⟨h 0 _ rfl,h 1 _ rfl,h 2 _ rfl,h 3 _ rfl,h 4 _ rfl,h 5 _ rfl,h 6 _ rfl⟩
def ayz(hk:k<l.length)(h:l[k].id=i)(ad:∀(j:Nat) (aD:j<l.length),j<k->l[j].id≠i):sW l i=k:=by
 unfold sW;rw[List.findIdx_eq hk];exact⟨by simp[h],λj aD=>by simp[ad j J aD]⟩
def ayA(ad:∀(j:Nat) (aD:j<l.length),l[j].id≠i):sW l i=l.length:=by
 unfold sW;rw[List.findIdx_eq_length];intro x X;obtain⟨j,aD,rfl⟩:=T6.1 X;simp[ad j aD]
def aj6{cap:Nat}{ps:List jR}(ar:a7 w 7 jR.cs a n cap ps)(i:ax):
  aS 38 #[ao a n cap,i] w (cU (.int .i64 (sW (ps.map (·.d)) i:Nat)) w):=by
 obtain rfl:=ar.neq;refine td ?_;intro hm a1;replace ar:=I ar;have b3:Z w (w.alloc i):=U;have l4:aa ((w.alloc i).heap[(w:Nat)]?=some (i:Obj)):=e2 rfl;go_enter func38,ntmps38;go_wp2_with fail;obtain⟨bh,eX⟩:∃bh,w.alloc i=bh:=⟨_,rfl⟩;rw[eX]at b3 l4;try rw[eX]
 replace b3:=I b3;clear eX;go_loopg [5] (ps.length) (λg st wr=>∃k:Nat,g+k=ps.length/\st=.int .i64 k/\aa (∀(j:Nat) (aD:j<ps.length),j<k->ps[j].d.id≠i)/\aa (Z bh wr));case atStart=>exact⟨0,J,rfl,(λj aD h=>absurd h J),Z.refl _⟩
 case round=>
  obtain⟨k,_,rfl,eO,X⟩:=hrel;obtain⟨_,_,_⟩:=jm (X.out.ay l4.out);by_cases hk:k<ps.length
  ·obtain⟨b,o,rfl,al⟩:=ar.out.get k hk;obtain⟨_,_,_,_⟩:=aj5 (w:=wr) (b:=b) (o:=o+k*7) (x:=ps[k]) (λj v aD=>(b3.out.trans X.out).ag (al j v aD));clear al;have b0:(0:Int)<=(k:Int):=J;have bf:(k:Int)<(ps.length:Int):=J;have aG:decide ((k:Int)<(ps.length:Int))=true:=jf bf;have heq:=ayy ps[k].d.id.b ps[k].d.id.l ps[k].d.id.s i.b i.l i.s;by_cases he:cc ps[k].d.id i=true
   ·have Ag:cc ⟨ps[k].d.id.b,ps[k].d.id.l,ps[k].d.id.s⟩ ⟨i.b,i.l,i.s⟩=true:=he;rw[Ag]at heq;have cw:aa (sW (ps.map (·.d)) i=k):=ayz (by simpa using hk) (by simpa using NH.1 he) (λj aD DT=>by simpa using eO.out j (by simpa using aD) DT);clear he Ag;exact aj7
   ·have Ag:cc ⟨ps[k].d.id.b,ps[k].d.id.l,ps[k].d.id.s⟩ ⟨i.b,i.l,i.s⟩=false:=by
     cases bp:cc ps[k].d.id i with
     |false=>rfl
     |true=>exact absurd bp he
    rw[Ag]at heq;have yg:aa (ps[k].d.id≠i):=λz=>he (NH.2 z);clear he Ag;go_wp2_with fail;go_quiet (fail);go_wp2;go_roundg (gk - 1);case measure=>omega
    case rel=>exact⟨k+1,J,by go_num,(show ∀(j:Nat) (aD:j<ps.length),j<k+1->ps[j].d.id≠i from ajt (p:=λx=>x.d.id≠i) hk eO.out yg.out),U⟩
  ·have aG:decide ((k:Int)<(ps.length:Int))=false:=je J;have pZ:¬((k:Int)<(ps.length:Int)):=J;have cw:=I (show sW (ps.map (·.d)) i=k from by rw[ayA (λj aD=>by simpa using eO.out j (by simpa using aD) (by simp at aD;omega))];simp;omega);exact aj7
structure aat (au:List bb) (l:List hE):Prop where
 wk:(au.map (·.id)).Nodup
 ayB:∀d,d∈au->d.k=1->∃x,l[sW l d.id]?=some x/\x.vi=true/\x.AJ=false/\x.cl=d.c/\x.aX=d.aX
def ayC{ga:bl}{fS c pY:Nat}{xs:List bU}{ps:List jR}(bG:iG w a n c xs)(b8:aj4 w ga fS pY ps)(wH:aat (xs.map (·.d)) (ps.map (·.d))):
  aS 18 #[ao a n c,ao ga fS pY] w (cU (.bool true) w):=by
 obtain rfl:=bG.aF.neq;obtain rfl:=b8.aF.neq;have hm:=bG.aF.max;have a1:=bG.aF.len;have yZ:=b8.aF.max;have KM:=b8.aF.len;unfold maxLen at hm yZ;change aa _ at bG b8 wH;go_enter func18,ntmps18;go_wp2_with fail;go_loopg [5,6,7,8] (xs.length) (λg st _ _ _ wr=>∃i:Nat,g+i=xs.length/\st=.int .i64 i/\aa (Z w wr));case atStart=>exact⟨0,J,rfl,Z.refl _⟩
 case round=>
  obtain⟨i,_,rfl,X⟩:=hrel;by_cases aK:i<xs.length
  ·obtain⟨b,o,rfl,cg⟩:=bG.aF.get i aK;have b0:(0:Int)<=(i:Int):=J;have bf:(i:Int)<(xs.length:Int):=J;change aa _ at cg;go_wp2_with fail;obtain⟨cW,AA⟩:∃cW,cW=wr:=⟨_,rfl⟩;obtain⟨EN,OR⟩:∃EN,EN=gk:=⟨_,rfl⟩;subst AA;subst OR;go_loopg [6] (i) (λg st wr=>∃k:Nat,g+k=i/\st=.int .i64 k/\aa (Z cW wr));case atStart=>exact⟨0,J,rfl,Z.refl _⟩
   case round=>
    obtain⟨k,_,rfl,cn⟩:=hrel;obtain⟨z0,cZ,z2,z3,z4,z5,gx,fE⟩:=nh (w:=wr) (b:=b) (o:=o+i*8) (x:=xs[i].x) (λj v aD=>(X.trans cn).ag (cg j v aD));by_cases hk:k<i
    ·have jV:k<xs.length:=J;obtain⟨dA,_,ayD,F7⟩:=bG.aF.get k jV;cases ayD;obtain⟨_,_,_,_,_⟩:=nh (w:=wr) (b:=b) (o:=o+k*8) (x:=xs[k].x) (λj v aD=>(X.trans cn).ag (F7 j v aD));have heq:=Bm xs[k].x.id.b xs[k].x.id.l xs[k].x.id.s xs[i].x.id.b xs[i].x.id.l xs[i].x.id.s;have dj:cc ⟨xs[k].x.id.b,xs[k].x.id.l,xs[k].x.id.s⟩ ⟨xs[i].x.id.b,xs[i].x.id.l,xs[i].x.id.s⟩=false:=by
      cases bp:cc ⟨xs[k].x.id.b,xs[k].x.id.l,xs[k].x.id.s⟩ ⟨xs[i].x.id.b,xs[i].x.id.l,xs[i].x.id.s⟩ with
      |false=>rfl
      |true=>
       have af:xs[k].x.id=xs[i].x.id:=NH.1 bp;rw[(bG.ck _ (cT jV)).id,(bG.ck _ (cT aK)).id]at af;have an:=wH.wk;rw[Ij]at an;have aO:=(List.getElem_inj (i:=k) (j:=i) (h₀:=by simpa using jV) (h₁:=by simpa using aK) an).1 (by simpa using af);omega
     rw[dj]at heq;have dA:(0:Int)<=(k:Int):=J;have gh:(k:Int)<(xs.length:Int):=J;have gm:(k:Int)<(i:Int):=J;clear F7 dj;go_wp2_with fail;go_quiet (fail);exact Ia
    ·have gm:¬((k:Int)<(i:Int)):=J;have WB:=I (bG.ck _ (cT aK));by_cases af:xs[i].x.k=1
     ·rw[af]at z0;obtain⟨x,br,hS,aj8,JH,aj9⟩:=wH.ayB xs[i].d (nH (cT aK)) (WB.k.symm.trans af);have tp:=I WB.id.symm;have FP:=I (aj6 (w:=wr) ((b8.aF.ext (X.trans cn))) xs[i].x.id);rw[tp.out]at br;obtain⟨q,bs⟩:∃q,sW (ps.map (·.d)) xs[i].x.id=q:=⟨_,rfl⟩;rw[bs]at br FP;have Ry:q<ps.length:=by have:=(ud.1 br).1;simpa using this
      obtain rfl:ps[q].d=x:=by have:=(ud.1 br).2;simpa using this
      obtain⟨ti,ayE,rfl,aka⟩:=b8.aF.get q Ry;have ayF:=I (JH.trans WB.c.symm);have ti:(0:Int)<=(q:Int):=J;have uY:(q:Int)<(ps.length:Int):=J;have hG:¬((q:Int)=(ps.length:Int)):=J;have aA1:decide ((q:Int)=(ps.length:Int))=false:=je hG;change aa _ at aka hS aj8 aj9;clear br JH bs;go_wp2_with fail;refine FP.mono ?_;rintro e a6⟨rfl,dz⟩;have c0:=I (cn.trans dz);clear dz;obtain⟨_,_,_,d3,d4,d5,d6⟩:=aj5 (w:=a6) (o:=ayE+q*7) (x:=ps[q]) (λj v aD=>(X.trans c0).ag (aka j v aD));obtain⟨dU,cm,cq,fo,iM,kB,mi,lA⟩:=nh (w:=a6) (b:=b) (o:=o+i*8) (x:=xs[i].x) (λj v aD=>(X.trans c0).ag (cg j v aD));rw[hS.out]at d5;rw[aj8.out]at d6;rw[ayF.out]at d3;clear z0 cZ z2 z3 z4 z5 gx fE;go_wp2_with fail;go_quiet (fail);go_wp2_with fail;refine sX (Z a6) (λbd=>?_);refine AU ?_;refine de 3 ?_;refine zD 4 (·.ag lA) ?_;refine de 5 ?_;refine U3 ?_;refine zD 9 (·.ag d4) ?_;refine h9 10 λK aE=>?_;go_simp;go_at_call 26;obtain⟨ayG,ayH,ayI⟩:=WB.e;obtain⟨ayJ,ayK,ayL⟩:=b8.aX ps[q] (cT Ry);refine(axk _ _ _ _ _ _ ayG ayJ _ (ayI.ext (X.trans (c0.trans U))) (ayL.ext (X.trans (c0.trans U))) (ayH.trans (aj9.symm.trans ayK.symm))).mono ?_;rintro e bA⟨rfl,ez⟩;have hi:aa (Z a6 bA):=Z.trans U ez;clear ez;refine aE _ _ AM λbd=>ej ?_;refine de 11 ?_;refine og bQ ?_ _;exact akb
     ·exact akb
  ·go_wp2;go_ret;exact⟨rfl,U⟩
structure uT where
 e:iF
 f:iF
 x:wK
def uT.cs(p:uT):List Value:= [.int .i64 p.x.k,.int .i64 p.x.a,.int .i64 p.x.b,.slice p.e.a p.e.n p.e.c,.slice p.f.a p.f.n p.f.c]
def uT.bI(p:uT):p.cs.length=5:=rfl
structure Eb (w:World) (p:uT):Prop where
 e:a7 w 4 cI.cs p.e.a p.e.n p.e.c p.x.e
 f:a7 w 5 T.cs p.f.a p.f.n p.f.c p.x.f
def Eb.ext{p:uT}(h:Eb w p)(X:Z w w'):Eb w' p:=⟨h.e.ext X,h.f.ext X⟩
def ayM(p:uT):aS 35 #[.agg #[p.x.k,p.x.a,p.x.b,p.e,p.f]] w (cU (.bool (Rc p.x)) w):=by
 obtain⟨e,f,⟨k,a,b,lW,tr⟩⟩:=p;have bC:Rc ⟨k,a,b,lW,tr⟩=decide (k=9\/k=13\/k=14):=rfl;rw[bC];clear bC;dsimp only;have nV:Z w (w.alloc (.cells #[k,a,b,e,f] 38)):=U;by_cases o5:k=9
 ·subst o5;exact aau
 ·by_cases WC:k=13
  ·subst WC;exact aau
  ·by_cases akc:k=14
   ·subst akc;exact aau
   ·have cJ:aa (decide (k=9\/k=13\/k=14)=false):=je J;rw[cJ.out];go_enter func35,ntmps35;go_wp2;go_ret;refine⟨?_,U⟩;show Ending.returned _=_;simp[o5,WC,akc]
def ayN(p:uT)(H:Eb w p):aS 8 #[.agg #[p.x.k,p.x.a,p.x.b,p.e,p.f]] w (Xe (p.x.e.length<=20/\p.x.f.length<=10) w):=by
 replace H:=I H;have b3:Z w (w.alloc (.cells #[p.x.k,p.x.a,p.x.b,p.e,p.f] 38)):=U;have l4:aa ((w.alloc (.cells #[p.x.k,p.x.a,p.x.b,p.e,p.f] 38)).heap[(w:Nat)]?=some (.cells #[p.x.k,p.x.a,p.x.b,p.e,p.f] 38 (0,0))):=e2 rfl;go_enter func8,ntmps8;go_wp2_with fail;obtain⟨bh,eX⟩:∃bh,w.alloc (.cells #[p.x.k,p.x.a,p.x.b,p.e,p.f] 38)=bh:=⟨_,rfl⟩;rw[eX]at b3 l4;try rw[eX]
 replace b3:=I b3;clear eX;refine(alP _ _ _ p.x.e _ (H.e.ext b3)).mono ?_;rintro r _⟨f1,rfl,rQ,bz⟩;have gV:=aL (o:=4) (bz.ay l4) rfl;replace bz:=I bz;replace rQ:=I rQ;go_wp2_with fail;refine(alO _ _ _ p.x.f _ (H.f.ext (b3.trans bz))).mono ?_;rintro r _⟨f2,rfl,nC,bq⟩;replace bq:=I bq;replace nC:=I nC;cases f1 with
 |false=>
  go_wp2_with fail;exact Xg
 |true=>
  go_wp2;go_ret;exact⟨f2,rfl,(λh=>⟨rQ (by trivial),nC h⟩),U⟩
def aav(x:Int):IntKind.u64.wrap x=(D2 x:Int):=by rw[IntKind.wrap_u64];unfold D2;omega
def ayO{Cw:Nat}(h:h0 w M F c P aQ)(al:im c)(aK:cM c l Cw aQ)(hY:Cw<200)(p:uT)(X:Kb p.x)(aY:Eb w p)(bC:Rc p.x=true){r:Int×ax×ba}(az:Be c aQ p.x=r):
  aS 36 #[P,.agg #[p.x.k,p.x.a,p.x.b,p.e,p.f]] w (Wh c P w M F r):=by
 have b8:=I aY.f;have rQ:=I X.f;have nC:=I X.RZ;obtain⟨e,f,⟨k,a,b,_,tr⟩⟩:=p;have bC:decide (k=9\/k=13\/k=14)=true:=bC;have bC:=H4 bC;dsimp only at b8 rQ nC;dsimp only;have nV:Z w ((w.alloc (.cells #[k,a,b,e,f] 38)).alloc hr):=U;have fa:((w.alloc (.cells #[k,a,b,e,f] 38)).alloc hr).heap.size=(w:Nat)+2:=by simp
 have jt:((w.alloc (.cells #[k,a,b,e,f] 38)).alloc hr).heap[(w:Nat)+1]?=some (hr:Obj):=gA;have ku:((w.alloc (.cells #[k,a,b,e,f] 38)).alloc hr).heap[(w:Nat)]?=some (.cells #[k,a,b,e,f] 38):=gA;by_cases o5:k=9
 ·subst o5;go_enter func36,ntmps36;go_upto_region 1 with (fail);obtain⟨bh,eX⟩:∃bh,(w.alloc (.cells #[bo 9,a,b,e,f] 38)).alloc hr=bh:=⟨_,rfl⟩;rw[eX]at nV fa jt ku;refine aaw ?_;intro b3 jj eB bH b1 dJ eG oU;go_wp2_with fail;(try rw[aav]);refine(ai1 jj al aK J a).mono ?_;have kO:=(show r=aQ.call c a (λb=>b.uy a)from az.symm);exact aax
 ·by_cases WC:k=13
  ·subst WC;go_enter func36,ntmps36;go_upto_region 1 with (fail);obtain⟨bh,eX⟩:∃bh,(w.alloc (.cells #[bo 13,a,b,e,f] 38)).alloc hr=bh:=⟨_,rfl⟩;rw[eX]at nV fa jt ku;refine aaw ?_;intro b3 jj eB bH b1 dJ eG oU;go_wp2_with fail;(try rw[aav]);refine(ai3 jj al aK J a (D2 b) (Wm b) _ _ _ tr (b8.ext b3) nC rQ).mono ?_;have kO:=(show r=aQ.call c a (λx=>x.sub a (D2 b) tr)from az.symm);exact aax
  ·obtain rfl:k=14:=J;go_enter func36,ntmps36;go_upto_region 1 with (fail);obtain⟨bh,eX⟩:∃bh,(w.alloc (.cells #[bo 14,a,b,e,f] 38)).alloc hr=bh:=⟨_,rfl⟩;rw[eX]at nV fa jt ku;refine aaw ?_;intro b3 jj eB bH b1 dJ eG oU;go_wp2_with fail;(try rw[aav]);refine(awO jj al aK J a (D2 b) (Wm b)).mono ?_;have kO:=(show r=aQ.call c a (λx=>x.zv a (D2 b))from az.symm);exact aax
def ayP{Cw:Nat}(h:h0 w M F c P aQ)(al:im c)(aK:cM c l Cw aQ)(hY:Cw<200)(pt:c.room<=60000)(js:∀k,aQ.cur k<=1000000)(p:uT)(s6:Kb p.x)(aY:Eb w p)(i:ax){wr:ba}(pS:rj c aQ p.x i=wr){Ck:Int}(Gh:vE c aQ p.x i=Ck):
  aS 37 #[P,.agg #[p.x.k,p.x.a,p.x.b,p.e,p.f],i] w λe w'=>∃z:Int,(p.x.k=10\/p.x.k=11\/p.x.k=12->z=Ck)/\uP c P w M F z wr e w':=by
 have b3:Z w ((w.alloc (.cells #[p.x.k,p.x.a,p.x.b,p.e,p.f] 38)).alloc i):=U;have ku:((w.alloc (.cells #[p.x.k,p.x.a,p.x.b,p.e,p.f] 38)).alloc i).heap[(w:Nat)]?=some (.cells #[p.x.k,p.x.a,p.x.b,p.e,p.f] 38):=gA;have akd:((w.alloc (.cells #[p.x.k,p.x.a,p.x.b,p.e,p.f] 38)).alloc i).heap[(w:Nat)+1]?=some (i:Obj):=gA;have hf:=I aY.e;change aa _ at s6;go_enter func37,ntmps37;go_upto_region 1 with (fail);obtain⟨bh,eX⟩:∃bh,(w.alloc (.cells #[p.x.k,p.x.a,p.x.b,p.e,p.f] 38)).alloc i=bh:=⟨_,rfl⟩;rw[eX]at b3 ku akd;rw[eX];obtain⟨dV,_,_,_,_⟩:=Ku ku;obtain⟨_,_,_⟩:=jm akd;have wL:=h.ext b3;change aa _ at b3;by_cases bH:p.x.k=1
 ·have kE:Cq c aQ p.x.a=wr:=by rw[<-pS];unfold rj;rw[bc bH]
  rw[bH]at dV;change aa _ at bH;go_wp2_with fail;refine(aiw wL al aK pt p.x.a).mono ?_;rw[kE];rintro e w1⟨z,_,nw,kC,rfl,fL,iD⟩;change aa _ at fL iD;go_wp2;go_ret;exact⟨z,λk=>(by have:=bH.out;omega),nw,kC,rfl,fL,iD.cN b3⟩
 have da:¬p.x.k=1:=bH;by_cases b1:p.x.k=2
 ·have kE:yF c aQ p.x.a p.x.b=wr:=by rw[<-pS];unfold rj;rw[aV da,bc b1]
  rw[b1]at dV;change aa _ at b1;go_wp2_with fail;refine(aiy wL al aK p.x.a p.x.b s6.dD s6.dZ).mono ?_;rw[kE];rintro e w1⟨z,nw,kC,rfl,fL,iD⟩;change aa _ at fL iD;go_wp2;go_ret;exact⟨z,λk=>(by have:=b1.out;omega),nw,kC,rfl,fL,iD.cN b3⟩
 have cF:¬p.x.k=2:=b1;by_cases dJ:p.x.k=3
 ·have kE:(if ja c p.x.a p.x.b=true then aQ.drop p.x.a.toNat p.x.b.toNat else aQ)=wr:=by rw[<-pS];unfold rj;rw[aV da,aV cF,bc dJ]
  rw[dJ]at dV;change aa _ at dJ;go_wp2_with fail;refine(awx wL aK p.x.a p.x.b s6.dD s6.dZ).mono ?_;rw[kE];rintro e w1⟨z,nw,kC,rfl,fL,iD⟩;change aa _ at fL iD;go_wp2;go_ret;exact⟨z,λk=>(by have:=dJ.out;omega),nw,kC,rfl,fL,iD.cN b3⟩
 have fI:¬p.x.k=3:=dJ;by_cases eG:p.x.k=4
 ·have kE:(if ja c p.x.a p.x.b=true then aQ.Dm p.x.a.toNat p.x.b.toNat else aQ)=wr:=by rw[<-pS];unfold rj;rw[aV da,aV cF,aV fI,bc eG]
  rw[eG]at dV;change aa _ at eG;go_wp2_with fail;refine(awy wL aK p.x.a p.x.b s6.dD s6.dZ).mono ?_;rw[kE];rintro e w1⟨z,nw,kC,rfl,fL,iD⟩;change aa _ at fL iD;go_wp2;go_ret;exact⟨z,λk=>(by have:=eG.out;omega),nw,kC,rfl,fL,iD.cN b3⟩
 have mz:¬p.x.k=4:=eG;by_cases h4:p.x.k=5
 ·have kE:(if ja c p.x.a p.x.b=true then aQ.Ls p.x.a.toNat p.x.b.toNat else aQ)=wr:=by rw[<-pS];unfold rj;rw[aV da,aV cF,aV fI,aV mz,bc h4]
  rw[h4]at dV;change aa _ at h4;go_wp2_with fail;refine(awz wL aK p.x.a p.x.b s6.dD s6.dZ).mono ?_;rw[kE];rintro e w1⟨z,nw,kC,rfl,fL,iD⟩;change aa _ at fL iD;go_wp2;go_ret;exact⟨z,λk=>(by have:=h4.out;omega),nw,kC,rfl,fL,iD.cN b3⟩
 have hM:¬p.x.k=5:=h4;by_cases pN:p.x.k=6
 ·have kE:yH c aQ p.x.a=wr:=by rw[<-pS];unfold rj;rw[aV da,aV cF,aV fI,aV mz,aV hM,bc pN]
  rw[pN]at dV;change aa _ at pN;go_wp2_with fail;refine(i5 wL al p.x.a p.x.b).mono ?_;rw[kE];rintro e w1⟨z,_,nw,kC,rfl,fL,iD⟩;change aa _ at fL iD;go_wp2;go_ret;exact⟨z,λk=>(by have:=pN.out;omega),nw,kC,rfl,fL,iD.cN b3⟩
 have n6:¬p.x.k=6:=pN;by_cases qE:p.x.k=7
 ·have kE:Cu c aQ p.x.a=wr:=by rw[<-pS];unfold rj;rw[aV da,aV cF,aV fI,aV mz,aV hM,aV n6,bc qE]
  rw[qE]at dV;change aa _ at qE;go_wp2_with fail;refine(ai0 wL al aK hY p.x.a).mono ?_;rw[kE];rintro e w1⟨z,_,nw,kC,rfl,fL,iD⟩;change aa _ at fL iD;go_wp2;go_ret;exact⟨z,λk=>(by have:=qE.out;omega),nw,kC,rfl,fL,iD.cN b3⟩
 have n7:¬p.x.k=7:=qE;by_cases qF:p.x.k=8
 ·have kE:aQ.round c=wr:=by rw[<-pS];unfold rj;rw[aV da,aV cF,aV fI,aV mz,aV hM,aV n6,aV n7,bc qF]
  rw[qF]at dV;change aa _ at qF;go_wp2_with fail;refine(aiF wL al aK pt).mono ?_;rw[kE];rintro e w1⟨nw,kC,rfl,fL,iD⟩;change aa _ at fL iD;go_wp2;go_ret;exact⟨0,λk=>(by have:=qF.out;omega),nw,kC,rfl,fL,iD.cN b3⟩
 have n8:¬p.x.k=8:=qF;by_cases qz:p.x.k=10
 ·have kE:(aQ.ka c p.x.a i (λb=>b.wo i p.x.e)).2=wr:=by rw[<-pS];unfold rj;rw[aV da,aV cF,aV fI,aV mz,aV hM,aV n6,aV n7,aV n8,bc qz]
  have fj:(aQ.ka c p.x.a i (λb=>b.wo i p.x.e)).1=Ck:=by rw[<-Gh];unfold vE;rw[bc qz]
  rw[qz]at dV;change aa _ at qz;go_wp2_with fail;refine(ai6 wL al aK p.x.a i _ _ _ p.x.e (hf.ext b3) s6.e).mono ?_;exact aay
 have n10:¬p.x.k=10:=qz;by_cases wv:p.x.k=11
 ·have kE:(aQ.ka c p.x.a i (λb=>b.yc i)).2=wr:=by rw[<-pS];unfold rj;rw[aV da,aV cF,aV fI,aV mz,aV hM,aV n6,aV n7,aV n8,aV n10,bc wv]
  have fj:(aQ.ka c p.x.a i (λb=>b.yc i)).1=Ck:=by rw[<-Gh];unfold vE;rw[aV n10,bc wv]
  rw[wv]at dV;change aa _ at wv;go_wp2_with fail;refine(ai5 wL al aK p.x.a i).mono ?_;exact aay
 have n11:¬p.x.k=11:=wv;by_cases xo:p.x.k=12
 ·have kE:(aQ.ka c p.x.a i (λb=>b.rJ i)).2=wr:=by rw[<-pS];unfold rj;rw[aV da,aV cF,aV fI,aV mz,aV hM,aV n6,aV n7,aV n8,aV n10,aV n11,bc xo]
  have fj:(aQ.ka c p.x.a i (λb=>b.rJ i)).1=Ck:=by rw[<-Gh];unfold vE;rw[aV n10,aV n11]
  rw[xo]at dV;change aa _ at xo;go_wp2_with fail;refine(awQ wL al aK p.x.a i).mono ?_;exact aay
 have n12:¬p.x.k=12:=xo;by_cases HM:p.x.k=15
 ·have kE:(aQ.tZ c p.x.a).2.2=wr:=by rw[<-pS];unfold rj;rw[aV da,aV cF,aV fI,aV mz,aV hM,aV n6,aV n7,aV n8,aV n10,aV n11,aV n12,bc HM]
  rw[HM]at dV;change aa _ at HM;go_wp2_with fail;refine(ajd wL al aK pt js p.x.a).mono ?_;rintro e w1⟨_,_,_,_,nw,kC,rfl,_,_,_,fL,iD,_⟩;rw[kE]at fL;change aa _ at fL iD;go_wp2;go_ret;exact⟨_,λk=>(by have:=HM.out;omega),nw,kC,rfl,fL,iD.cN b3⟩
 have n15:¬p.x.k=15:=HM;have kE:aQ=wr:=by rw[<-pS];unfold rj;rw[aV da,aV cF,aV fI,aV mz,aV hM,aV n6,aV n7,aV n8,aV n10,aV n11,aV n12,aV n15]
 change aa _ at wL;go_wp2;go_ret;exact⟨0,λk=>J,M,F,rfl,kE▸wL.out,.of b3⟩
def ake(i j k:Nat)(l:Array Bool):Nat:=(if l.getD i true then 0 else 1)+(if l.getD j true then 0 else 1)+(if l.getD k true then 0 else 1)
def aaz(i j k:Nat)(rs:List Nat)(b0 bf dA:Bool):Bool:=(b0&&bf&&dA)||(!rs.isEmpty&&rs.all (λx=>(x==i&& !b0)||(x==j&&b0&& !bf)||(x==k&& !dA)))
def ayQ{i j:Nat}{rs:List Nat}{p:eZ}(b0 bf dA:Bool)(h:aaz i j k rs b0 bf dA=true)(aq:¬(b0=true/\bf=true/\dA=true))(aZ:b0=false->p i)(af:b0=true->bf=false->p j)(an:dA=false->p k):rs≠ []/\∀x∈rs,p x:=by
 unfold aaz at h;rw[vK]at h;rcases h with h|h
 ·simp only[jS]at h;exact absurd ⟨h.1.1,h.1.2,h.2⟩ aq
 ·rw[jS,Ad]at h;refine⟨λe=>by rw[e]at h;simp at h,λx X=>?_⟩;have:=h.2 x X;simp only[vK,jS,F1,Eo]at this;rcases this with (⟨rfl,b⟩|⟨⟨rfl,b⟩,d⟩)|⟨rfl,b⟩
  ·exact aZ b
  ·exact af b d
  ·exact an b
structure ahp {α:Type} (bh w:World) (T:TypeId) (sz:Nat) (c:α->List Value) (xs:List α) (y:α) (b0 bf dA:Bool) (u v x:Value):Prop where
 ext:Z bh w
 z:b0=true->∃H,u=.slice (some ⟨H,0,none⟩) 0 0/\aH w bh.heap.size T sz c (some ⟨H,0,none⟩) 0 0 []
 r:bf=true->∃aA n k,v=.slice aA n k/\aH w bh.heap.size T sz c aA n k xs
 e:dA=true->∃H,x=.slice (some ⟨H,0,none⟩) 1 1/\∀j u,(c y)[j]?=some u->w.cell? ⟨H,j,none⟩=some u
def ayR{cL ak:bl}{gJ fv aq al:Nat}{ps hs:List Int}(b8:a7 w 1 dP cL gJ fv ps)(oA:a7 w 1 dP ak aq al hs):
  aS 6 #[ao cL gJ fv,ao ak aq al] w λe w'=>∃g:Bool,e=.returned g/\Z w w'/\(g=true->j8 ps=true/\Cz ps.length hs=true/\ps.length<=6/\hs.length<=8):=by
 obtain rfl:=b8.neq;obtain rfl:=oA.neq;change aa _ at b8 oA;by_cases fV:ps.length<=6
 ·by_cases fG:hs.length<=8
  ·have d6:decide ((6:Int)<(ps.length:Int))=false:=je J;have d8:decide ((8:Int)<(hs.length:Int))=false:=je J;have mi:¬((6:Int)<(ps.length:Int)):=J;have wq:¬((8:Int)<(hs.length:Int)):=J;cases bm:j8 ps with
   |false=>
    change aa _ at bm;go_enter func6,ntmps6;go_wp2_with fail;refine qQ (axS (hs:=hs) b8 bm (room:=60000)) λw1 bG=>?_;go_wp2;go_ret;exact⟨false,rfl,bG,λh=>by cases h⟩
   |true=>
    change aa _ at bm;go_enter func6,ntmps6;go_wp2_with fail;refine(GT (room:=60000) b8 oA bm J J J J).mono ?_;rintro e _⟨af,an⟩;cases ad:Cz ps.length hs with
    |false=>
     obtain⟨rfl,bG⟩:=an ad;change aa _ at bG;clear af an;go_wp2;go_ret;exact⟨false,rfl,bG,λh=>by cases h⟩
    |true=>
     obtain⟨P,M,F,rfl,_,bG,_⟩:=af ad;change aa _ at bG ad;clear af an;go_wp2;go_ret;exact⟨true,rfl,bG,λ_=>⟨(by first|exact bm|trivial),(by first|exact ad|trivial),fV,fG⟩⟩
  ·have mi:¬((6:Int)<(ps.length:Int)):=J;have wq:(8:Int)<(hs.length:Int):=J;have d8:decide ((8:Int)<(hs.length:Int))=true:=jf wq;have d6:decide ((6:Int)<(ps.length:Int))=false:=je mi;exact akf
 ·have mi:(6:Int)<(ps.length:Int):=J;have d6:decide ((6:Int)<(ps.length:Int))=true:=jf mi;exact akf
section
open Go.RowKit Go.ChangeShapes Go.WideShapes
section
variable {H:Type}{nZ:TypeId×Value->H}{w:World}{base:Nat}{spare:Nat->Bool}{held:Bool}
def ayS{n:Int}(h:(Lit.int .i64 n).wf=true):lx n:=by
 unfold lx;simp[Lit.wf,IntKind.min,IntKind.max,IntKind.bits,IntKind.signed]at h;omega
def akg{cs:List Value}{x:DataW H×List MemPlace}(h:DataW.trod nZ prog w base spare held fuel 74 cs=some x):∃(k n:Int) (s:ByteArray),cs= [.int .i64 k,.int .i64 n,.string s]/\lx n:=by
 refine ayT ?_;intro a1 n0 cA aZ da cR af cF cS an
 match cs,a1 with
 | [cO,c1,c2],_=>
  obtain⟨a0,dU,_,_⟩:=DataW.trod_int ft aZ;obtain⟨cE,cm,_,hw⟩:=DataW.trod_int underlying2 af;obtain⟨ch,cq,_,_⟩:=DataW.trod_string za an;simp at dU;simp at cm;simp at cq;subst dU cm cq;exact⟨a0,cE,ch,rfl,ayS hw⟩
def ayU{cs:List Value}{x:DataW H×List MemPlace}(h:DataW.trod nZ prog w base spare held fuel 154 cs=some x):∃y:T,cs=y.cs/\lx y.n:=by
 refine ayV ?_;intro a1 n0 cA aZ da cR af cF cS an
 match cs,a1 with
 | [cO,c1,c2,cV,dF],_=>
  obtain⟨a0,dU,_,_⟩:=DataW.trod_string za aZ;obtain⟨cE,cm,_,_⟩:=DataW.trod_int ft af;simp at dU;simp at cm;obtain⟨p,q,r,cq,V4⟩:=akg an;simp at cq;obtain⟨rfl,rfl,rfl⟩:=cq;subst dU cm;exact⟨⟨a0,cE,p,q,r⟩,rfl,V4⟩
def ayW{cs:List Value}{x:DataW H×List MemPlace}(h:DataW.trod nZ prog w base spare held fuel 77 cs=some x):∃y:cI,cs=y.cs/\lx y.n:=by
 have a1:cs.length=4:=(Sh underlying77 h).trans bQ;obtain⟨_,_,aZ⟩:=yV underlying77 h 0 _ rfl 0 1 bQ rfl;obtain⟨_,_,af⟩:=yV underlying77 h 1 _ rfl 1 3 bQ rfl
 match cs,a1 with
 | [cO,c1,c2,cV],_=>
  obtain⟨a0,dU,_,_⟩:=DataW.trod_string za aZ;simp at dU;obtain⟨p,q,r,cm,V4⟩:=akg af;simp at cm;obtain⟨rfl,rfl,rfl⟩:=cm;subst dU;exact⟨⟨a0,p,q,r⟩,rfl,V4⟩
def ayX{cs:List Value}{x:DataW H×List MemPlace}(h:DataW.trod nZ prog w base spare held fuel 36 cs=some x):∃a n cap ys,cs= [.slice a n cap]/\a7 w 5 T.cs a n cap ys/\∀y,y∈ys->lx y.n:=
 Si (c:=T.cs) (sz:=5) (R:=λy=>lx y.n) KB bQ ah T.bI (λ_ _ _ k=>ayU k) h
def ayY{cs:List Value}{x:DataW H×List MemPlace}(h:DataW.trod nZ prog w base spare held fuel 34 cs=some x):∃a n cap ys,cs= [.slice a n cap]/\a7 w 4 cI.cs a n cap ys/\∀y,y∈ys->lx y.n:=
 Si (c:=cI.cs) (sz:=4) (R:=λy=>lx y.n) KJ bQ ah cI.bI (λ_ _ _ k=>ayW k) h
end
end
section
structure Ec (W w:World) (M F:Nat->Prop) (c:bK) (P:Nat) (aQ:ba):Prop where
 st:h0 w M F c P aQ
 ext:Z W w
 b5:∀x,M x->W.heap.size<=x
section
variable {W w w':World}{M F M' eF:Nat->Prop}{c:bK}{P:Nat}{aQ vD:ba}
def Ec.qX(h:Ec W w M F c P aQ)(hw:h0 w' M' eF c P vD)(hm:hj w M F w' M' eF):Ec W w' M' eF c P vD:=
 ⟨hw,hm.ee.ext (λx k=>h.b5 x (h.st.sub x k)) h.ext,λx k=>(hm.m.new x k).elim (h.b5 x) (λz=>ek h.ext.size z)⟩
def Ec.dp(h:Ec W w M F c P aQ)(X:Z w w'):Ec W w' M F c P aQ:=⟨h.st.ext X,h.ext.trans X,h.b5⟩
end
end
section
section
variable {c:bK}{l:List hE}{K n k:Nat}{w:ba}
def ayZ(aq:n<c.ps.length)(h:∃b,w.bN n=.up b):mH c w.bN (n:Int)=true:=by
 obtain⟨b,h⟩:=h;unfold mH;rw[kN,h,jf (⟨J,J⟩:(0:Int)<=(n:Int)/\(n:Int)<(c.ps.length:Int))];rfl
def akh(h:∃cp,w.bN n=.down cp):mH c w.bN (n:Int)=false:=by
 obtain⟨b,h⟩:=h;unfold mH;rw[kN,h,wV]
def aki(w:ba)(n:Nat):∃cp,(w.pe n).bN n=.down cp:=by
 unfold ba.pe;cases h:w.bN n with
 |down cp=>exact⟨cp,h⟩
 |up b=>exact⟨b.fz,uz _ _ _⟩
def ay0(h:∃cp,w.bN n=.down cp):w.pe n=w:=by
 obtain⟨_,h⟩:=h;unfold ba.pe;rw[h]
def ay1(aq:n<c.ps.length)(w:ba):et ((w.pe n).sU n) n={et (w.pe n) n with l:=(et (w.pe n) n).l+1}:=by
 obtain⟨_,h⟩:=aki w n;rw[aeV aq h,bc rfl]
def ay2(al:lZ c)(h:cM c l K w):aat (et w 0).au l:=by
 refine⟨(aeY h al.n0).se,λd aG hk=>?_⟩;obtain⟨x,af,an,aO,bt,cC,fV⟩:=(h.lf d aG).2 hk;exact⟨x,by rw[<-bt];exact aeK h.wk af,an,aO,cC,fV⟩
def ay3(al:lZ c)(h:cM c l K w)(aq:n<c.ps.length)(hk:k<c.ps.length)(aK:i∈(et w k).aB){xs:List bU}(X:xs.map (·.d)=(et w n).au)(I:∀p,p∈xs->p.x.id=p.d.id):(xs.map (·.x)).any (λx:bR=>cc x.id i)=false:=by
 have eO:=aqH al h aq hk aK;rw[Kp];intro x hm e;obtain⟨p,aY,rfl⟩:=lU.1 hm;have tc:p.x.id=i:=NH.1 e;apply eO;rw[<-tc,I p aY];unfold gr;rw[<-X];exact lU.2 ⟨p.d,lU.2 ⟨p,aY,rfl⟩,rfl⟩
end
end
section
structure Ed {α:Type} (bh w:World) (T:TypeId) (sz:Nat) (c:α->List Value) (xs:List α) (y:α) (b0 bf dA:Bool) (u v x:Value):Prop where
 o:bf=true->b0=true
 ext:Z bh w
 z:b0=true->bf=false->∃H,u=.slice (some ⟨H,0,none⟩) 0 0/\aH w bh.heap.size T sz c (some ⟨H,0,none⟩) 0 0 []/\∀K n m,x=.slice (some ⟨K,0,none⟩) n m->dA=true->K≠H
 r:bf=true->∃aA n k,v=.slice aA n k/\aH w bh.heap.size T sz c aA n k xs
 e:dA=true->∃H,x=.slice (some ⟨H,0,none⟩) 1 1/\H<w.heap.size/\∀j u,(c y)[j]?=some u->w.cell? ⟨H,j,none⟩=some u
def akj(b0 bf dA:Bool):Nat:=(if b0 then 0 else 1)+(if bf then 0 else 1)+(if dA then 0 else 1)
section
variable {α:Type}{bh w:World}{T:TypeId}{sz:Nat}{c:α->List Value}{xs:List α}{y:α}{b0 bf dA:Bool}{u v x:Value}
def Ed.lr(h:Ed bh w T sz c xs y b0 bf dA u v x)(hw:∀y,(c y).length=sz):Ed bh (w.alloc (.cells #[] T)) T sz c xs y true bf dA (.slice (some (w,0)) 0 0) v x:=
 have X:Z w (w.alloc (.cells #[] T)):=(Z.refl w).alloc _
 ⟨λ_=>rfl,h.ext.trans X,λ_ _=>⟨_,rfl,(aH.lit (xs:= []) rfl hw rfl (by simp) (gz _)).mono h.ext.size,λK n m e k=>by
  obtain⟨H,rfl,af,_⟩:=h.e k;cases e
  omega⟩,λe=>let ⟨aA,n,k,bH,b1⟩:=h.r e;⟨aA,n,k,bH,b1.ext X⟩,λe=>let ⟨H,bH,b1,dJ⟩:=h.e e;⟨H,bH,fQ b1 X.size,λj u aD=>X.ag (dJ j u aD)⟩⟩
def Ed.kM(h:Ed bh w T sz c xs y b0 bf dA u v x){arr:Array Value}(ak:arr.toList=c y):Ed bh (w.alloc (.cells arr T)) T sz c xs y b0 bf true u v (.slice (some (w,0)) 1 1):=by
 have e:arr=(c y).toArray:=by rw[<-ak]
 subst e;have X:Z w (w.alloc (.cells (c y).toArray T)):=(Z.refl w).alloc _;refine⟨h.o,h.ext.trans X,λe f=>?_,λe=>let ⟨aA,n,k,bH,b1⟩:=h.r e;⟨aA,n,k,bH,b1.ext X⟩,λ_=>⟨_,rfl,by simp,fi rfl⟩⟩;obtain⟨H,bH,b1,_⟩:=h.z e f;refine⟨H,bH,b1.ext X,λK n m q _ e=>?_⟩;cases q;have dk:H<(w:Nat):=(b1.lt _ rfl).2;omega
def Ed.gM(h:Ed bh w T sz c xs y true false dA u v x){H:Nat}(aj:u=.slice (some (H,0)) 0 0)(dj:∀K n m,x=.slice (some (K,0)) n m->dA=true->K≠H){w':aC}(X:Z bh w')(bC:w.grownBy w' (some H)){n:Nat}(az:aH w' bh T sz c aA n k xs):Ed bh w' T sz c xs y true true dA u (ao aA n k) x:=
 ⟨λ_=>rfl,X,λ_ e=>(by cases e),λ_=>⟨aA,n,k,rfl,az⟩,λe=>by
  obtain⟨K,bH,b1,dJ⟩:=h.e e;refine⟨K,bH,fQ b1 bC.size,λj u aD=>bC.cell (dJ j u aD) ?_⟩;intro q;cases q
  exact dj _ _ _ bH e rfl⟩
end
section
variable {P:Program}{ops:Array Oper}{Q:Exit->Act->World->Prop}{md:Region.Mode}{S:World->Prop}{L:Nat}
def akk(n:Nat)(m:Array Bool->Nat)(k0:Array Bool->Act->aC->Prop)(hs:∀l a w,k0 l a w->m l≠0->Region.ready md ops l≠ []/\∀i∈Region.ready md ops l,wpOp P ops Q i (λga w'=>S w'/\k0 (l.setIfInBounds i true) ga w'/\m (l.setIfInBounds i true)+1=m l) a w)(he:∀l a w,k0 l a w->m l=0->qa P md ops Q S L n l a w):
  ∀(k:Nat) (l:Array Bool) (a:Act) (w:aC),m l=k->k0 l a w->qa P md ops Q S L (n+k) l a w
 |0,l,a,w,hm,h=>he l a w h hm
 |k+1,l,a,w,hm,h=>by
  obtain⟨af,an⟩:=hs l a w h J;exact⟨λe=>absurd e af,λi aK=>wpOp_mono (λga w' q=>⟨λ_ _=>q.1,akk n m k0 hs he k _ ga w' J q.2.1⟩) (an i aK)⟩
end
def aaA{α:Type}{P:Program}{ops:Array Oper}{Q:Exit->Act->aC->Prop}{md:Region.Mode}{S:ye}{L:Nat}{bh:aC}{T:TypeId}{sz:Nat}{c:α->List Value}(xs:List α)(y:α)(i j k pa vI kH n:Nat)(arr:Bool->Bool->Bool->Array Bool)(A:Array Value)(u0 v0 h2:Value){f:Nat}{l:Array Bool}{a:Act}(hw:∀y,(c y).length=sz)(lo:A.toList=c y)(bk:f=n+3)(a1:l=arr false false false)(ak:a=((a.put (some pa) u0).put (some vI) v0).put (some kH) h2)(ad:∀b0 bf dA,ake i j k (arr b0 bf dA)=akj b0 bf dA/\(arr b0 bf dA).setIfInBounds i true=arr true bf dA/\(arr b0 bf dA).setIfInBounds j true=arr b0 true dA/\(arr b0 bf dA).setIfInBounds k true=arr b0 bf true/\((bf=true->b0=true)->aaz i j k (Region.ready md ops (arr b0 bf dA)) b0 bf dA=true))(aY:∀u v x V,(((a.put (some pa) u).put (some vI) v).put (some kH) x).put (some pa) V=((a.put (some pa) V).put (some vI) v).put (some kH) x/\(((a.put (some pa) u).put (some vI) v).put (some kH) x).put (some vI) V=((a.put (some pa) u).put (some vI) V).put (some kH) x/\(((a.put (some pa) u).put (some vI) v).put (some kH) x).put (some kH) V=((a.put (some pa) u).put (some vI) v).put (some kH) V)(bj:∀w',Z bh w'->S w')(aZ:∀u v x w K,K ((((a.put (some pa) u).put (some vI) v).put (some kH) x).put (some pa) (.slice (some (w,0)) 0 0)) (w.alloc (.cells #[] T))->wpOp P ops Q i K (((a.put (some pa) u).put (some vI) v).put (some kH) x) w)(an:∀u v x w K,Z bh w->K ((((a.put (some pa) u).put (some vI) v).put (some kH) x).put (some kH) (.slice (some (w,0)) 1 1)) (w.alloc (.cells A T))->wpOp P ops Q k K (((a.put (some pa) u).put (some vI) v).put (some kH) x) w)(af:∀H v x w K,Z bh w->aH w bh T sz c (some (H,0)) 0 0 []->(∀aA n aR w',aH w' bh T sz c aA n aR xs->Z bh w'->w.grownBy w' (some H)->K ((((a.put (some pa) (.slice (some (H,0)) 0 0)).put (some vI) v).put (some kH) x).put (some vI) (ao aA n aR)) w')->wpOp P ops Q j K (((a.put (some pa) (.slice (some (H,0)) 0 0)).put (some vI) v).put (some kH) x) w)(aO:∀u aA m aR H w,Z bh w->aH w bh.heap.size T sz c aA m aR xs->(∀j u,(c y)[j]?=some u->w.cell? ⟨H,j,none⟩=some u)->qa P md ops Q S L n (arr true true true) (((a.put (some pa) u).put (some vI) (.slice aA m aR)).put (some kH) (.slice (some ⟨H,0,none⟩) 1 1)) w):
  qa P md ops Q S L f l a bh:=by
 rw[bk];refine akk n (ake i j k) (λl ga w'=>∃(b0 bf dA:Bool) (u v x:Value),l=arr b0 bf dA/\ga=((a.put (some pa) u).put (some vI) v).put (some kH) x/\Ed bh w' T sz c xs y b0 bf dA u v x) ?_ ?_ 3 l a bh (by rw[a1,(ad _ _ _).1];rfl) ⟨false,false,false,u0,v0,h2,a1,ak,⟨λe=>(by cases e),Z.refl _,λe=>(by cases e),λe=>(by cases e),λe=>(by cases e)⟩⟩
 ·rintro l' ga w'⟨b0,bf,dA,u,v,x,rfl,rfl,CB⟩ hm;obtain⟨dV,q1,dk,eP,gV⟩:=ad b0 bf dA;refine ayQ b0 bf dA (gV CB.o) (λe=>hm (by rw[dV,e.1,e.2.1,e.2.2];rfl)) ?_ ?_ ?_
  ·rintro rfl;have A3:=CB.lr hw;refine aZ _ _ _ _ _ ⟨bj _ A3.ext,⟨true,bf,dA,_,v,x,q1,(aY _ _ _ _).1,A3⟩,?_⟩;rw[q1,(ad _ _ _).1,dV];cases bf<;>cases dA<;>rfl
  ·rintro rfl rfl;obtain⟨H,rfl,aM,dj⟩:=CB.z rfl rfl;refine af H _ _ _ _ CB.ext aM (λaA m aR ey az X bC=>?_);have A3:=CB.gM rfl dj X bC az;refine⟨bj _ X,⟨true,true,dA,_,_,x,dk,(aY _ _ _ _).2.1,A3⟩,?_⟩;rw[dk,(ad _ _ _).1,dV];cases dA<;>rfl
  ·rintro rfl;have A3:=CB.kM lo;refine an _ _ _ _ _ CB.ext ⟨bj _ A3.ext,⟨b0,bf,true,u,v,_,eP,(aY _ _ _ _).2.2,A3⟩,?_⟩;rw[eP,(ad _ _ _).1,dV];cases b0<;>cases bf<;>rfl
 ·rintro _ _ w'⟨b0,bf,dA,u,v,x,rfl,rfl,CB⟩ hm;rw[(ad _ _ _).1]at hm;have cm:b0=true/\bf=true/\dA=true:=by
   revert hm;cases b0<;>cases bf<;>cases dA<;>simp[akj]
  obtain⟨rfl,rfl,rfl⟩:=cm;obtain⟨aA,m,aR,rfl,az⟩:=CB.r rfl;obtain⟨H,rfl,_,he⟩:=CB.e rfl;exact aO u aA m aR H w' CB.ext az he
def iE(M:Nat->Prop)(w:World)(b:Nat)(o:Obj):Prop:=cv M w (λw=>w.heap[b]?=some o)
section
variable {w w':World}{M F M' eF:Nat->Prop}{b:Nat}{o:Obj}
def iE.qX(h:iE M w b o)(bj:∀x,F x->M x)(hm:hj w M F w' M' eF):iE M' w' b o:=hm.kS bj h
def iE.dp(h:iE M w b o)(X:Z w w'):iE M w' b o:=cv.step h (aI.of X) (b4.ep _ _)
def iE.new(ad:w.heap[b]?=some o)(aq:¬M b):iE M w b o:=λey aj=>(aj.block _ (bZ ad) aq).trans ad
def iE.c8(h:iE M w b o):w.heap[b]?=some o:=cv.c8 h
end
structure CC (p:rk) (K:Nat):Prop where
 l:p.l.length<=K
 i:p.ids.length<=K
 e:∀d,d∈p.l->d.aX.length<=K
def ay4{f:hE->hE}:(tJ l i f).length=l.length:=by
 unfold tJ;split
 ·rw[CT]
 ·rfl
def ay5{f:hE->hE}{d:hE}(h:d∈tJ l i f):d∈l\/∃x,x∈l/\d=f x:=by
 unfold tJ at h;split at h
 ·rename_i x X;rcases Gb h with h|h
  ·exact .inl h
  ·exact .inr ⟨x,AL X,h⟩
 ·exact .inl h
def aaB{f:hE->hE}:(vk l z i f).length=l.length:=by
 unfold vk;split
 ·exact ay4
 ·rfl
def aaC{f:hE->hE}{d:hE}(h:d∈vk l z i f):d∈l\/∃x,x∈l/\d=f x:=by
 unfold vk at h;split at h
 ·exact ay5 h
 ·exact .inl h
def CC.step{p:rk}(h:CC p K)(c:bK)(x:wK):CC (p.step c x) (K+1):=by
 unfold rk.step;split
 ·refine⟨?_,?_,?_⟩
  ·have:=h.l;show(if _ then _ else _:List hE).length<=_;split
   ·rw[c9,GO];omega
   ·omega
  ·have:=h.i;show(p.ids++_).length<=_;rw[c9,GO];omega
  ·intro d aG;have aG:d∈(if _ then _ else _:List hE):=aG;split at aG
   ·rcases ie.1 aG with k|k
    ·have:=h.e d k;omega
    ·obtain rfl:=jg.1 k;exact gz _
   ·have:=h.e d aG;omega
 ·refine⟨?_,?_,?_⟩
  ·have:=h.l;show(rZ _ _ _ _ _).length<=_;unfold rZ;split
   ·rw[aaB];omega
   ·split
    ·rw[aaB];omega
    ·split
     ·rw[aaB];omega
     ·omega
  ·have:=h.i;show p.ids.length<=_;omega
  ·intro d aG;have aG:d∈rZ c p.w x (M0 p.ids x.b) p.l:=aG;unfold rZ at aG;have bs:d∈p.l\/∃y,y∈p.l/\d.aX.length<=y.aX.length+1:=by
    split at aG
    ·rcases aaC aG with k|⟨y,k,rfl⟩
     ·exact .inl k
     ·exact .inr ⟨y,k,by rw[c9,GO];omega⟩
    ·split at aG
     ·rcases aaC aG with k|⟨y,k,rfl⟩
      ·exact .inl k
      ·exact .inr ⟨y,k,l9 _⟩
     ·split at aG
      ·rcases aaC aG with k|⟨y,k,rfl⟩
       ·exact .inl k
       ·exact .inr ⟨y,k,l9 _⟩
      ·exact .inl aG
   rcases bs with k|⟨y,k,e⟩
   ·have:=h.e d k;omega
   ·have:=h.e y k;omega
def akl{c:bK}{w:ba}{x:wK}(bp:x.k=10\/x.k=11\/x.k=12->z=vE c w x i)(h:z≠0\/sW l i=l.length):rZ c w x i l=l:=by
 have aj:∀f,(x.k=10\/x.k=11\/x.k=12)->vk l (vE c w x i) i f=l:=λf hk=>by
  unfold vk;split
  ·rename_i e;rcases h with h|h
   ·exact absurd ((bp hk).trans e) h
   ·unfold tJ;rw[h,zy (bJ _)]
  ·rfl
 unfold rZ;split
 ·exact aj _ (.inl (by assumption))
 ·split
  ·exact aj _ (.inr (.inl (by assumption)))
  ·split
   ·exact aj _ (.inr (.inr (by assumption)))
   ·rfl
structure wO (M:Nat->Prop) (w:World) (a:Option Addr) (n c:Nat) (aU:List jR):Prop where
 aF:cv M w (λw=>a7 w 7 jR.cs a n c aU)
 aX:∀p,p∈aU->∃cD,cD.map (·.dt)=p.d.aX/\cv M w (λw=>vO w p.s.a p.s.n p.s.c cD)
section
variable {M M' F eF:Nat->Prop}{w w':World}{a:Option Addr}{n c:Nat}{aU:List jR}
def cv.dp{Q:ye}(h:cv M w Q)(X:Z w w'):cv M w' Q:=cv.step h (aI.of X) (b4.ep _ _)
def wO.c8(h:wO M w a n c aU):aj4 w a n c aU:=⟨cv.c8 h.aF,λp aY=>let ⟨e,bH,b1⟩:=h.aX p aY;⟨e,bH,cv.c8 b1⟩⟩
def wO.dp(h:wO M w a n c aU)(X:Z w w'):wO M w' a n c aU:=⟨cv.dp h.aF X,λp aY=>let ⟨e,bH,b1⟩:=h.aX p aY;⟨e,bH,cv.dp b1 X⟩⟩
def wO.qX(h:wO M w a n c aU)(bj:∀x,F x->M x)(hm:hj w M F w' M' eF):wO M' w' a n c aU:=⟨hm.kS bj h.aF,λp aY=>let ⟨e,bH,b1⟩:=h.aX p aY;⟨e,bH,hm.kS bj b1⟩⟩
def wO.bS{base:Nat}{m:Nat}{HT:List jR}(eV:wO M w a n c aU)(X:Z w w')(aM:aH w' base t 7 jR.cs aA m aR HT)(aq:∀x,M x->x<base)(hm:∀q,q∈HT->q∈aU\/∃cD,cD.map (·.dt)=q.d.aX/\cv M w' (λw=>vO w q.s.a q.s.n q.s.c cD)):wO M w' aA m aR HT:=
 ⟨λey an=>(aM.kS (λai e k=>by have:=(aM.lt ai e).1;have:=aq _ k;omega) ey an).aF,λq bs=>by
  rcases hm q bs with k|k
  ·exact(eV.dp X).aX q k
  ·exact k⟩
end
end
def ay6(b0 bf dA:Bool):Array Bool:=#[b0,true,bf,true,true,true,true,dA,false,false]
def ay7(b0 bf dA:Bool):Array Bool:=#[true,b0,true,bf,true,dA,false,false,false]
def ay8(b0 bf dA:Bool):Array Bool:=#[true,true,b0,true,true,true,true,true,bf,true,true,dA,false,false,false,false]
def ay9:(prog.info? 100).map (λi=>(i.zero,i.size,i.bytes))=some (some (.agg #[av,aw,aw,av,aP,.bool false,.bool false]),7,64):=bQ
structure Kk (W w:World) (M F:Nat->Prop) (c:bK) (P:Nat) (p:rk) (er:Option Addr) (fk lc:Nat) (aU:List jR) (oZ:Option Addr) (gO lv:Nat):Prop where
 o:Ec W w M F c P p.w
 l:wO M w er fk lc aU
 d:aU.map (·.d)=p.l
 i:cv M w (λw=>a7 w 3 ax.cs oZ gO lv p.ids)
def aza(W:World)(c:bK)(P:Nat)(p:rk)(e:Ending)(w':World):Prop:=
 ∃(M F:Nat->Prop) (er:Option Addr) (fk lc:Nat) (aU:List jR) (oZ:Option Addr) (gO lv:Nat),e=.returned (.tuple #[ao er fk lc,ao oZ gO lv])/\Kk W w' M F c P p er fk lc aU oZ gO lv
def azb{W:aC}{c m base:Nat}{cD:List eu}{y:eu}(eL:cv M w (λw=>vO w a n c cD))(X:Z w w')(aM:aH w' base t 1 eu.cs aA m aR (cD++[y]))(ad:∀x,M x->x<base)(gW:∀x,M x->(W:Nat)<=x)(fq:Z W w)(hy:a7 W 4 cI.cs y.v.a y.v.n y.v.c y.dt):cv M w' (λw=>vO w aA m aR (cD++[y])):=λey aj=>
 ⟨(aM.kS (λai e k=>by have:=(aM.lt ai e).1;have:=ad _ k;omega) ey aj).aF,λx hm=>by
  rcases ie.1 hm with k|k
  ·exact(cv.dp eL X ey aj).dt x k
  ·obtain rfl:=jg.1 k
   exact hy.ext (aj.ext (λx k=>gW x k) (fq.trans X))⟩
set_option maxHeartbeats 8000000 in
theorem azc {W w:aC}{M F:eZ}{c:bK}{P:Nat}{fA:rk}{Cw:Nat}{er oZ:bl}{fk lc gO lv:Nat}{aU:List jR}
  (h:Kk W w M F c P fA er fk lc aU oZ gO lv) (cg:im c) (yP:cM c fA.l Cw fA.w) (hY:Cw<200) (pt:c.room<=60000) (zY:∀k,fA.w.cur k<=1000000) (WD:CC fA 1000) (p:uT) (bG:Kb p.x) (b8:Eb W p):
  aS 9 #[P,.agg #[p.x.k,p.x.a,p.x.b,p.e,p.f],ao er fk lc,ao oZ gO lv] w (aza W c P (fA.step c p.x)):=by
 obtain⟨ct,bO,bL,bM,bP⟩:=fB ay9;change aa _ at bO bL bM bP;obtain⟨dK,eY,e5,e6,e7⟩:=fB yY;change aa _ at eY e5 e6 e7;obtain rfl:=h.l.c8.aF.neq;obtain rfl:=h.i.c8.neq;have C9:aU.length<=1000:=by have:=WD.l;rw[<-h.d,cx]at this;exact this
 have CW:=WD.i;have cJ:=I h.d;obtain⟨_,Hr⟩:∃x,fA.step c p.x=x:=⟨_,rfl⟩;rw[Hr];have M4:(w.alloc (.cells #[p.x.k,p.x.a,p.x.b,p.e,p.f] 38)).heap[(w:Nat)]?=some (.cells #[p.x.k,p.x.a,p.x.b,p.e,p.f] 38):=e2 rfl;have nV:Z w (w.alloc (.cells #[p.x.k,p.x.a,p.x.b,p.e,p.f] 38)):=U;go_enter func9,ntmps9;go_upto_region 1 with (fail);obtain⟨bh,eX⟩:∃bh,w.alloc (.cells #[p.x.k,p.x.a,p.x.b,p.e,p.f] 38)=bh:=⟨_,rfl⟩;rw[eX]at M4 nV;rw[eX];clear eX;have nu:=I (iE.new (M:=M) M4 (λk=>by have:=h.o.st.b5 _ k;omega));have ar:=I (h.o.dp nV);have bg:=I (h.l.dp nV);have a8:=I (h.i.dp nV);obtain⟨B,bx⟩:∃B,(w:Nat)=B:=⟨_,rfl⟩;rw[bx]at nu;try rw[bx]
 change aa _ at b8 cg yP zY bG WD;clear bx M4 nV h;obtain⟨cO,c1,c2,cV,dF⟩:=Ku nu.c8;go_wp2_with fail;refine(ayM p).mono ?_;rintro e w1⟨rfl,br⟩;replace nu:=I (nu.dp br);replace ar:=I (ar.dp br);replace bg:=I (bg.dp br);replace a8:=I (a8.dp br);clear br cO c1 c2 cV dF;obtain⟨cO,c1,c2,cV,dF⟩:=Ku nu.c8;cases bC:Rc p.x with
 |true=>
  obtain⟨⟨z,s,azd⟩,cw⟩:∃r:Int×ax×ba,Be c fA.w p.x=r:=⟨_,rfl⟩;have dh:fA.step c p.x=⟨azd,if p.x.k=9/\z=0 then fA.l++[⟨s,p.x.a,[],false,false⟩] else fA.l,fA.ids++[s]⟩:=by
   unfold rk.step;rw[bc bC,cw]
  have zP:=I (dh.symm.trans Hr);change aa _ at cw;clear dh Hr;go_wp2_with fail;refine(ayO ar.st cg yP hY p bG (b8.ext ar.ext) bC cw).mono ?_;rintro e cW⟨M,F,rfl,J2,n4⟩;replace bg:=I (bg.qX ar.st.sub n4);replace a8:=I (n4.kS ar.st.sub a8);replace nu:=I (n4.kS ar.st.sub nu);replace ar:=I (ar.qX J2 n4);clear J2 n4 cO c1 c2 cV dF zY cw;go_upto_region 3 with (fail);have qq:Z cW (cW.alloc s):=U;have bn:(cW.alloc s).heap[(cW:Nat)]?=some (s:Obj):=e2 rfl;obtain⟨wr,pS⟩:∃wr,cW.alloc s=wr:=⟨_,rfl⟩;rw[pS]at qq bn;rw[pS];clear pS;replace bg:=I (bg.dp qq);replace a8:=I (a8.dp qq);replace nu:=I (nu.dp qq);replace ar:=I (ar.dp qq);obtain⟨Q,iQ⟩:∃Q,(cW:Nat)=Q:=⟨_,rfl⟩;rw[iQ]at bn;rw[iQ];clear iQ qq;change aa _ at bn;obtain⟨dV,q1,dk⟩:=jm bn;obtain⟨cO,c1⟩:=akZ nu.c8;obtain⟨Vb,Nf⟩:∃b,decide (p.x.k=9/\z=0)=b:=⟨_,rfl⟩;change aa _ at Nf;go_cut [30] (λv eD=>v=.bool Vb/\wr=eD);case first=>
   by_cases o5:p.x.k=9
   ·have d9:decide (p.x.k=9)=true:=jf o5;by_cases bp:z=0
    ·have WE:decide (z=0)=true:=jf bp;go_wp2;go_meet;exact⟨eH Value.bool ((jf (p:=p.x.k=9/\z=0) ⟨o5,bp⟩).symm.trans Nf),rfl⟩
    ·have WE:decide (z=0)=false:=je bp;have aA2:(z==0)=false:=by simp[bp]
     go_wp2;go_meet;exact⟨eH Value.bool ((je (p:=p.x.k=9/\z=0) (λk=>bp k.2)).symm.trans Nf),rfl⟩
   ·have d9:decide (p.x.k=9)=false:=je o5;go_wp2;go_meet;exact⟨eH Value.bool ((je (p:=p.x.k=9/\z=0) (λk=>o5 k.1)).symm.trans Nf),rfl⟩
  case rest=>
  obtain⟨rfl,rfl⟩:=hcut;go_upto_if 30 with (fail);go_cut [2] (λy4 eD=>∃(WG:bl) (WH WI:Nat) (HT:List jR),y4=.slice WG WH WI/\aa (Z wr eD)/\aa (wO M eD WG WH WI HT)/\aa (HT.map (·.d)=if p.x.k=9/\z=0 then fA.l++[⟨s,p.x.a,[],false,false⟩] else fA.l));case first=>
   cases Vb with
   |true=>
    have aze:=I (H4 Nf);go_wp2_with fail;refine rN 9 (Z wr) (λbd=>?_);refine dC 1 ?_;refine dC 3 ?_ (hy:=λw fh=>by(try dsimp only at fh);(have z0:=fh.ag dV;have cZ:=fh.ag q1;have z2:=fh.ag dk);exact A2);refine dC 4 ?_;refine AO 5 (·.ag c1) ?_;refine dC 6 ?_;refine aaA (sz:=7) (T:=100) (c:=jR.cs) aU (⟨⟨none,0,0⟩,⟨s,p.x.a,[],false,false⟩⟩:jR) 0 2 7 31 33 38 2 ay6 _ u31 u33 u38 jR.bI rfl rfl rfl (by first|rfl|kernel_rfl) aaD aaE (λw' h=>Z.trans U h) ?_ ?_ ?_ ?_
    ·intro u v x bA K aE;refine xC rfl (λlC vJ=>?_);rw[bc (show _=true by simp[Region.wanted])];simp only[Act.put,pf,oC,oD];go_simp;exact vJ _ _ aE
    ·intro u v x bA K ez aE;refine xC rfl (λlC vJ=>?_);rw[bc (show _=true by simp[Region.wanted])];simp only[Act.put,pf,oC,oD];go_simp;exact vJ _ _ aE
    ·intro H v x bA K ez aM aE;refine xC rfl (λlC vJ=>?_);rw[bc (show _=true by simp[Region.wanted])];simp only[Act.put,pf,oC,oD];refine te (c:=jR.cs) (ys0:= []) (ys:=aU) (.tmp 31) (.tmp 32) 30 100 rfl ct _ 64 underlying30 bO bL bM bP rfl ah rfl _ ez aM rfl (bg.c8.aF.ext (Z.trans U ez)) jR.cQ J ah ?_;intro cP fS wT c4 A5 mC ic DD;exact vJ _ _ (aE _ _ _ _ mC ic DD)
    ·intro u aA m aR H bA ez aM he;have bd:Z wr bA:=Z.trans U ez;simp only[Act.put,pf,oC,oD];refine jz 8 λK aE=>?_;refine tq (ys:=aU) (c:=jR.cs) rfl (.tmp 33) (.tmp 38) 30 rfl ct _ 64 underlying30 bO bL bM bP rfl ah rfl aM (⟨⟨none,0,0⟩,⟨s,p.x.a,[],false,false⟩⟩:jR) H rfl he (jR.cQ _) (by have:=aM.neq;omega) ah ez.size ?_;intro g6 eJ c4 mC q2;have ic:Z wr c4:=q2.ext aM (Z.size U) bd;refine aE _ _ (λ_ _=>(by(try dsimp only);exact ic)) λhH=>ej ?_;have bd:=hH rfl ah;refine jz 9 λK aE=>?_;go_simp;refine aE _ _ (λ_ h=>absurd rfl h) λ_=>ej ?_;refine LI bQ ?_ _;go_wp2;go_meet;refine⟨_,_,_,aU++[(⟨⟨none,0,0⟩,⟨s,p.x.a,[],false,false⟩⟩:jR)],rfl,I ic,I (bg.bS ic mC (λx k=>fQ (ar.st.b5 x k) (Z.size U)) (λq bs=>?_)),I ?_⟩
     ·rcases ie.1 bs with k|k
      ·exact .inl k
      ·obtain rfl:=jg.1 k;exact .inr ⟨[],rfl,λey _=>⟨a7.nil _ eu.bI,λx X=>by cases X⟩⟩
     ·rw[bc aze.out,fT,cJ.out];rfl
   |false=>
    go_wp2;go_meet;exact⟨_,_,_,aU,rfl,Z.refl _,bg,I (by rw[aV (of_decide_eq_false Nf.out)];exact cJ)⟩
  case rest=>
   obtain⟨WG,WH,WI,HT,rfl,ix,zR,J1⟩:=hcut;change aa _ at ix zR J1;replace a8:=I (a8.dp ix);replace ar:=I (ar.dp ix);replace bn:=I (ix.ay bn);clear dV q1 dk cO c1;obtain⟨dV,q1,dk⟩:=jm bn;go_upto_region 5 with (fail);refine rN 8 (Z wc) (λbd=>?_);refine dC 0 ?_;refine dC 2 ?_;refine dC 4 ?_ (hy:=λw fh=>by(try dsimp only at fh);(have z0:=fh.ag dV;have cZ:=fh.ag q1;have z2:=fh.ag dk);exact A2);refine aaA (sz:=3) (T:=54) (c:=ax.cs) fA.ids s 1 3 5 41 43 45 3 ay7 _ u41 u43 u45 ax.bI rfl rfl rfl (by first|rfl|kernel_rfl) aaD aaE (λw' h=>Z.trans U h) ?_ ?_ ?_ ?_
   ·intro u v x bA K aE;refine xC rfl (λlC vJ=>?_);rw[bc (show _=true by simp[Region.wanted])];simp only[Act.put,pf,oC,oD];go_simp;exact vJ _ _ aE
   ·intro u v x bA K ez aE;refine xC rfl (λlC vJ=>?_);rw[bc (show _=true by simp[Region.wanted])];simp only[Act.put,pf,oC,oD];go_simp;exact vJ _ _ aE
   ·intro H v x bA K ez aM aE;refine xC rfl (λlC vJ=>?_);rw[bc (show _=true by simp[Region.wanted])];simp only[Act.put,pf,oC,oD];refine te (c:=ax.cs) (ys0:= []) (ys:=fA.ids) (.tmp 41) (.tmp 42) 31 54 rfl dK _ 24 aiL eY e5 e6 e7 rfl ah rfl _ ez aM rfl (a8.c8.ext (Z.trans U ez)) ax.cQ J ah ?_;intro cP fS wT c4 A5 mC ic DD;exact vJ _ _ (aE _ _ _ _ mC ic DD)
   ·intro u aA m aR H bA ez aM he;have bd:Z wc bA:=Z.trans U ez;simp only[Act.put,pf,oC,oD];refine jz 6 λK aE=>?_;refine tq (ys:=fA.ids) (c:=ax.cs) rfl (.tmp 43) (.tmp 45) 31 rfl dK _ 24 aiL eY e5 e6 e7 rfl ah rfl aM s H rfl he (ax.cQ _) (by have:=aM.neq;omega) ah ez.size ?_;intro g6 eJ c4 mC q2;have ic:Z wc c4:=q2.ext aM (Z.size U) bd;refine aE _ _ (λ_ _=>(by(try dsimp only);exact ic)) λhH=>ej ?_;have bd:=hH rfl ah;refine dC 7 ?_;refine jz 8 λK aE=>?_;go_simp;refine aE _ _ (λ_ h=>absurd rfl h) λ_=>ej ?_;refine LI bQ ?_ _;go_wp2;go_ret2;rw[<-zP.out];refine⟨M,F,WG,WH,WI,HT,some (g6,0),_,eJ,rfl,⟨ar.dp ic,zR.dp ic,J1,λey aj=>(mC.kS (λai e k=>?_) ey aj).aF⟩⟩;have cE:=(mC.lt ai e).1;have ch:=ar.st.b5 _ k;have a3:(wc:Nat)<=wc.drew.heap.size:=Z.size (show Z wc wc.drew from U);omega
 |false=>
  obtain⟨i,ME⟩:∃i,M0 fA.ids p.x.b=i:=⟨_,rfl⟩;have dh:fA.step c p.x=⟨rj c fA.w p.x i,rZ c fA.w p.x i fA.l,fA.ids⟩:=by
   unfold rk.step;rw[aV (by rw[bC];decide),ME]
  have zP:=I (dh.symm.trans Hr);change aa _ at ME;clear dh Hr;go_upto_region 7 with (fail);have iT:Z w1 (w1.alloc hr):=U;have bn:(w1.alloc hr).heap[(w1:Nat)]?=some (hr:Obj):=e2 rfl;obtain⟨wr,pS⟩:∃wr,w1.alloc hr=wr:=⟨_,rfl⟩;rw[pS]at iT bn;rw[pS];clear pS;obtain⟨Q,fw⟩:∃Q,(w1:Nat)=Q:=⟨_,rfl⟩;rw[fw]at bn;rw[fw];change aa _ at bn fw;replace iT:=I iT;clear cO c1 c2 cV dF;have c2:=aL (o:=2) (nu.dp iT).c8 rfl;go_cut [55] (λv eD=>v=.bool (decide (0<fA.ids.length/\0<=p.x.b))/\wr=eD);case first=>
   by_cases aq:0<fA.ids.length
   ·have mX:decide ((0:Int)<(fA.ids.length:Int))=true:=jf J;have azf:decide (0<fA.ids.length)=true:=jf aq;by_cases ad:0<=p.x.b
    ·have azg:decide (0<=p.x.b)=true:=jf ad;go_wp2;go_meet;exact⟨eH Value.bool (jf (p:=0<fA.ids.length/\0<=p.x.b) ⟨aq,ad⟩).symm,rfl⟩
    ·have azg:decide (0<=p.x.b)=false:=je ad;go_wp2;go_meet;exact⟨eH Value.bool (je (p:=0<fA.ids.length/\0<=p.x.b) (λk=>by have:=k.2;omega)).symm,rfl⟩
   ·have mX:decide ((0:Int)<(fA.ids.length:Int))=false:=je J;have azf:decide (0<fA.ids.length)=false:=je aq;go_wp2;go_meet;exact⟨eH Value.bool (je (p:=0<fA.ids.length/\0<=p.x.b) (λk=>aq k.1)).symm,rfl⟩
  case rest=>
  obtain⟨rfl,rfl⟩:=hcut;go_upto_if 55 with (fail);go_cut [] (λeD=>aa (eD.heap[Q]?=some (i:Obj))/\aa (Z w1 eD));case first=>
   by_cases nN:0<fA.ids.length/\0<=p.x.b
   ·have azh:decide (0<fA.ids.length/\0<=p.x.b)=true:=jf nN;obtain⟨aq,ad⟩:=nN;obtain⟨q,bs⟩:∃q,p.x.b.toNat % fA.ids.length=q:=⟨_,rfl⟩;have Ry:q<fA.ids.length:=by rw[<-bs];exact Nat.mod_lt _ aq
    obtain⟨qc,jM,rfl,akm⟩:=a8.c8.get q Ry;obtain⟨_,_,_⟩:=Aj (w:=wr) (b:=qc) (o:=jM+q*3) (x:=fA.ids[q]) (λj v aD=>iT.ag (akm j v aD));have aA6:p.x.b.tmod (fA.ids.length:Int)=(q:Int):=by
     have e:p.x.b=(p.x.b.toNat:Int):=J;rw[e,<-Int.ofNat_tmod,bs]
    have AQ:¬((fA.ids.length:Int)=0):=J;have Gs:(0:Int)<=(q:Int):=J;have P8:(q:Int)<(fA.ids.length:Int):=J;obtain rfl:i=fA.ids[q]:=by
     rw[<-ME.out];unfold M0;rw[bc ⟨aq,ad⟩,bs,xk,eK Ry];rfl
    have K3:=λj=>nM (o:=j) bn;obtain⟨_,_,_⟩:=jm bn;clear akm;go_wp2;go_meet;exact⟨Ht bn fA.ids[q].b (ae fA.ids[q].l) (ae fA.ids[q].s),z_ iT (by have:=fw.out;omega) _ _ _⟩
   ·have azh:decide (0<fA.ids.length/\0<=p.x.b)=false:=je nN;obtain rfl:i=⟨0,0,0⟩:=by
     rw[<-ME.out];unfold M0;rw[aV nN]
    go_wp2;go_meet;exact⟨bn,iT⟩
  case rest=>
   obtain⟨akn,JC⟩:=hcut;have Rz:=I (iE.new (M:=M) akn (λk=>by have:=ar.st.b5 _ k;have:=fw.out;omega));replace bg:=I (bg.dp JC);replace a8:=I (a8.dp JC);replace nu:=I (nu.dp JC);replace ar:=I (ar.dp JC);clear akn JC c2 bn iT fw;obtain⟨cO,c1,c2,cV,dF⟩:=Ku nu.c8;obtain⟨dV,q1,dk⟩:=jm Rz.c8;go_wp2_with fail;refine(ayP ar.st cg yP hY pt zY p bG (b8.ext ar.ext) i rfl rfl).mono ?_;rintro e _⟨z,ec,M2,sO,rfl,J2,n4⟩;replace bg:=I (bg.qX ar.st.sub n4);replace a8:=I (n4.kS ar.st.sub a8);replace nu:=I (n4.kS ar.st.sub nu);replace Rz:=I (n4.kS ar.st.sub Rz);replace ar:=I (ar.qX J2 n4);change aa _ at ec;clear J2 n4 cO c1 c2 cV dF dV q1 dk zY;obtain⟨dV,q1,dk⟩:=jm (iE.c8 Rz);go_wp2_with fail;refine(aj6 bg.c8.aF i).mono ?_;rintro e cB⟨rfl,eQ⟩;replace bg:=I (bg.dp eQ);replace a8:=I (cv.dp a8 eQ);replace nu:=I (iE.dp nu eQ);replace ar:=I (ar.dp eQ);clear eQ dV q1 dk Rz;obtain⟨n,c3⟩:∃n,sW (aU.map (·.d)) i=n:=⟨_,rfl⟩;have sd:n<=aU.length:=by rw[<-c3];unfold sW;exact ek List.findIdx_le_length (by rw[cx];exact bJ _)
   rw[c3];change aa _ at c3;by_cases fa:z=0
   ·have WE:decide (z=0)=true:=jf fa;by_cases dj:n=aU.length
    ·have mX:decide ((n:Int)=(aU.length:Int))=true:=jf J;go_wp2;go_ret2;rw[<-zP.out];exact⟨M2,sO,er,_,_,aU,oZ,_,_,rfl,⟨ar,bg,(by rw[akl ec.out (.inr (by rw[<-cJ.out,c3.out,dj,cx]))];exact cJ),a8⟩⟩
    ·have mX:decide ((n:Int)=(aU.length:Int))=false:=je J;have F0:n<aU.length:=J;go_upto_region 14 with ((at_builtin;refine tf rfl λoz mx=>?_;refine te (c:=jR.cs) (ys0:= []) (ys:=aU) _ _ 30 100 rfl ct _ 64 underlying30 bO bL bM bP rfl ah rfl cB U (aH.lit (xs:= []) rfl jR.bI rfl rfl ah) rfl (bg.c8.aF.ext U) jR.cQ J ah ?_;intro cP _ qR c4 hA jc ic py;rw[ow]at hA;subst hA;refine mx _ _ ?_;have c7:=I jc;have jr:=I ic;clear jc ic py mx));replace c7:aa (aH c4 cB 100 7 jR.cs cP aU.length qR aU):=c7;obtain⟨g,rfl⟩:=c7.Pn J;have b9:=I (c7.Ie n F0);have FP:sW fA.l i=n:=by rw[<-cJ.out];exact c3
     have ako:fA.l[n]?=some aU[n].d:=by rw[<-cJ.out,nd,eK F0];rfl
     have b0:(0:Int)<=(n:Int):=J;have bf:(n:Int)<(aU.length:Int):=J;replace nu:=I (iE.dp nu (show Z cB c4 from jr));have cO:=aL (o:=0) (iE.c8 nu) rfl;change aa _ at FP ako;clear mX;have dN:∀f,vk fA.l (vE c fA.w p.x i) i f=if vE c fA.w p.x i=0 then fA.l.set n (f aU[n].d) else fA.l:=λf=>by
      unfold vk tJ;rw[FP.out,ako.out]
     change aa _ at dN;by_cases uM:p.x.k=10
     ·have d10:decide (p.x.k=10)=true:=jf uM;have Na:vE c fA.w p.x i=0:=by rw[<-ec.out (.inl uM)];exact fa
      have cV:=aL (o:=3) (iE.c8 nu) rfl;obtain⟨cD,jv,WJ⟩:=bg.aX aU[n] (cT F0);have Xq:cD.length<=1000:=by
       have af:=WD.e aU[n].d (by rw[<-cJ.out];exact nH (cT F0));rw[<-jv,cx]at af;exact af
      obtain⟨eB,lQ,lR,lS,lT⟩:=fB Ic;change aa _ at lQ lR lS lT jv WJ;have z4:=b9.out 4 _ rfl;have io:=I (cv.c8 WJ).aF.neq;go_upto_region 16 with (fail);change aa _ at uM fa Na;clear d10 WE;refine rN 15 (Z c4) (λbd=>?_);refine dC 0 ?_;refine dC 1 ?_;refine dC 3 ?_;refine dC 4 ?_;refine dC 5 ?_;refine dC 6 ?_;refine AO 7 (·.ag z4) ?_;refine dC 9 ?_;refine AO 10 (·.ag cV) ?_;refine aaA (sz:=1) (T:=34) (c:=eu.cs) cD (⟨p.e,p.x.e⟩:eu) 2 8 11 90 96 99 4 ay8 _ u90 u96 u99 eu.bI rfl rfl rfl (by first|rfl|kernel_rfl) aaD aaE (λw' h=>Z.trans U h) ?_ ?_ ?_ ?_
      ·intro u v x bA K aE;refine xC rfl (λlC vJ=>?_);rw[bc (show _=true by simp[Region.wanted])];simp only[Act.put,pf,oC,oD];go_simp;exact vJ _ _ aE
      ·intro u v x bA K ez aE;refine xC rfl (λlC vJ=>?_);rw[bc (show _=true by simp[Region.wanted])];simp only[Act.put,pf,oC,oD];go_simp;exact vJ _ _ aE
      ·intro H v x bA K ez aM aE;refine xC rfl (λlC vJ=>?_);rw[bc (show _=true by simp[Region.wanted])];simp only[Act.put,pf,oC,oD];refine te (c:=eu.cs) (ys0:= []) (ys:=cD) (.tmp 90) (.tmp 95) 64 34 rfl eB _ 24 F9 lQ lR lS lT rfl ah rfl _ ez aM rfl ((cv.c8 WJ).aF.ext (jr.trans (Z.trans U ez))) eu.cQ (by have:=io.out;omega) ah ?_;intro _ _ _ dR _ LU il azi;exact vJ _ _ (aE _ _ _ _ LU il azi)
      ·intro u _ m _ H bA ez aM he;have bd:Z c4 bA:=Z.trans U ez;simp only[Act.put,pf,oC,oD];refine jz 12 λK aE=>?_;refine tq (ys:=cD) (c:=eu.cs) rfl (.tmp 96) (.tmp 99) 64 rfl eB _ 24 F9 lQ lR lS lT rfl ah rfl aM (⟨p.e,p.x.e⟩:eu) H rfl he (eu.cQ _) (by have:=aM.neq;omega) ah ez.size ?_;intro g7 eM dR LU azj;have il:Z c4 dR:=azj.ext aM (Z.size U) bd;refine aE _ _ (λ_ _=>(by(try dsimp only);exact il)) λhH=>ej ?_;have bd:=hH rfl ah;have MI:=c7.ext il;have fE:=il.ag z4;have f7:=MI.free (n*7+4);refine jz 13 λK aE=>?_;go_simp;refine aE _ _ (λ_ _=>(by(try dsimp only);exact il)) λhH=>ej ?_;have bd:=hH rfl ah;refine jz 14 λK aE=>?_;go_simp;refine aE _ _ (λ_ _=>(by(try dsimp only);exact il)) λhH=>ej ?_;have bd:=hH rfl ah;refine jz 15 λK aE=>?_;go_simp;refine aE _ _ (λ_ h=>absurd rfl h) λ_=>ej ?_;refine LI bQ ?_ _;go_wp2;go_ret2;rw[<-zP.out];have azk:=(c7.lt _ rfl).2;have hP:Z cB (dR.setCell ⟨g,n*7+4,none⟩ (.slice (some ⟨g7,0,none⟩) (m+1) eM)):=Z.setCell (jr.trans il) (p:=⟨g,n*7+4,none⟩) (c7.lt _ rfl).1 _;have rq:=aM.neq;subst rq;refine⟨M2,sO,some (g,0),_,qR,aU.set n (⟨⟨some (g7,0),cD.length+1,eM⟩,{aU[n].d with aX:=aU[n].d.aX++[p.x.e]}⟩:jR),oZ,_,_,rfl,⟨ar.dp hP,bg.bS hP (MI.sZ n (⟨⟨some (g7,0),cD.length+1,eM⟩,{aU[n].d with aX:=aU[n].d.aX++[p.x.e]}⟩:jR) (eK F0) 4 ah (.slice (some (g7,0)) (cD.length+1) eM) rfl).1 (λx k=>ar.st.b5 _ k) (λq bs=>?_),?_,a8.dp hP⟩⟩
       ·rcases Gb bs with k|rfl
        ·exact .inl k
        ·refine .inr ⟨cD++[⟨p.e,p.x.e⟩],(by rw[fT,jv.out];rfl),azb WJ hP (LU.jD (p:=(g,n*7+4)) (fQ azk (Z.size U)) _) (λx k=>fQ (ar.st.b5 _ k) (ek jr.size (Z.size U))) ar.b5 ar.ext b8.e⟩
       ·show _=rZ c fA.w p.x i fA.l;unfold rZ;rw[bc uM.out,dN.out,bc Na.out,Ga,cJ.out]
     have d10:decide (p.x.k=10)=false:=je uM;by_cases D3:p.x.k=11
     ·have d11:decide (p.x.k=11)=true:=jf D3;have w5:vE c fA.w p.x i=0:=by rw[<-ec.out (.inr (.inl D3))];exact fa
      have z5:=b9.out 5 _ rfl;have f5:=c7.free (n*7+5);go_wp2;go_ret2;rw[<-zP.out];have il:Z cB (c4.setCell ⟨g,n*7+5,none⟩ (.bool true)):=Z.setCell jr (p:=⟨g,n*7+5,none⟩) (c7.lt _ rfl).1 _;refine⟨M2,sO,some ⟨g,0,none⟩,_,qR,aU.set n (⟨aU[n].s,{aU[n].d with vi:=true}⟩:jR),oZ,_,_,rfl,⟨ar.dp il,bg.bS il (c7.sZ n (⟨aU[n].s,{aU[n].d with vi:=true}⟩:jR) (eK F0) 5 ah (.bool true) rfl).1 (λx k=>ar.st.b5 _ k) (λq bs=>?_),?_,a8.dp il⟩⟩
      ·rcases Gb bs with k|rfl
       ·exact .inl k
       ·exact .inr ((bg.dp il).aX aU[n] (cT F0))
      ·show _=rZ c fA.w p.x i fA.l;unfold rZ;rw[aV uM,bc D3,dN.out,bc w5,Ga,cJ.out]
     have d11:decide (p.x.k=11)=false:=je D3;by_cases FT:p.x.k=12
     ·have d12:decide (p.x.k=12)=true:=jf FT;have w5:vE c fA.w p.x i=0:=by rw[<-ec.out (.inr (.inr FT))];exact fa
      have gx:=b9.out 6 _ rfl;have f6:=c7.free (n*7+6);go_wp2;go_ret2;rw[<-zP.out];have il:Z cB (c4.setCell ⟨g,n*7+6,none⟩ (.bool true)):=Z.setCell jr (p:=⟨g,n*7+6,none⟩) (c7.lt _ rfl).1 _;refine⟨M2,sO,some ⟨g,0,none⟩,_,qR,aU.set n (⟨aU[n].s,{aU[n].d with AJ:=true}⟩:jR),oZ,_,_,rfl,⟨ar.dp il,bg.bS il (c7.sZ n (⟨aU[n].s,{aU[n].d with AJ:=true}⟩:jR) (eK F0) 6 ah (.bool true) rfl).1 (λx k=>ar.st.b5 _ k) (λq bs=>?_),?_,a8.dp il⟩⟩
      ·rcases Gb bs with k|rfl
       ·exact .inl k
       ·exact .inr ((bg.dp il).aX aU[n] (cT F0))
      ·show _=rZ c fA.w p.x i fA.l;unfold rZ;rw[aV uM,aV D3,bc FT,dN.out,bc w5,Ga,cJ.out]
     have d12:decide (p.x.k=12)=false:=je FT;go_wp2;go_ret2;rw[<-zP.out];refine⟨M2,sO,some ⟨g,0,none⟩,_,qR,aU,oZ,_,_,rfl,⟨ar.dp jr,bg.bS jr c7 (λx k=>ar.st.b5 _ k) (λq bs=>.inl bs),?_,a8.dp jr⟩⟩;show _=rZ c fA.w p.x i fA.l;unfold rZ;rw[aV uM,aV D3,aV FT];exact cJ
   ·have WE:decide (z=0)=false:=je fa;go_wp2;go_ret2;rw[<-zP.out];exact⟨M2,sO,er,_,_,aU,oZ,_,_,rfl,⟨ar,bg,(by rw[akl ec.out (.inl fa)];exact cJ),a8⟩⟩
section
open Go.RowKit Go.ChangeShapes Go.WideShapes
structure RA (x:wK):Prop where
 e:∀t,t∈x.e->lx t.n
 f:∀t,t∈x.f->lx t.n
 dD:(Lit.int .i64 x.a).wf=true
 dZ:(Lit.int .i64 x.b).wf=true
def RA.ok{x:wK}(h:RA x)(k:x.f.length<=10):Kb x:=⟨h.e,h.f,J,h.dD,h.dZ⟩
structure akp (w:World) (a:Option Addr) (n c:Nat) (xs:List uT):Prop where
 aF:a7 w 5 uT.cs a n c xs
 ck:∀p,p∈xs->Eb w p/\RA p.x
def akq{w:aC}{x:uT}(h:r0 w b o x.cs):
  w.cell? (b,o)=some ↑x.x.k/\w.cell? (b,o+1)=some ↑x.x.a/\w.cell? (b,o+2)=some ↑x.x.b/\w.cell? (b,o+3)=some ↑x.e/\w.cell? (b,o+4)=some ↑x.f:=
 ⟨h 0 _ rfl,h 1 _ rfl,h 2 _ rfl,h 3 _ rfl,h 4 _ rfl⟩
section
variable {H:Type}{nZ:TypeId×Value->H}{w:World}{base:Nat}{spare:Nat->Bool}{held:Bool}
def azl{cs:List Value}{x:DataW H×List MemPlace}(h:DataW.trod nZ prog w base spare held fuel 38 cs=some x):∃y:uT,cs=y.cs/\(Eb w y/\RA y.x):=by
 have a1:cs.length=5:=(Sh Ng h).trans bQ;obtain⟨_,_,aZ⟩:=yV Ng h 0 _ rfl 0 1 bQ rfl;obtain⟨_,_,af⟩:=yV Ng h 1 _ rfl 1 1 bQ rfl;obtain⟨_,_,an⟩:=yV Ng h 2 _ rfl 2 1 bQ rfl;obtain⟨_,_,aO⟩:=yV Ng h 3 _ rfl 3 1 bQ rfl;obtain⟨_,_,bt⟩:=yV Ng h 4 _ rfl 4 1 bQ rfl
 match cs,a1 with
 | [cO,c1,c2,cV,dF],_=>
  obtain⟨a0,dU,_,_⟩:=DataW.trod_int ft aZ;obtain⟨cE,cm,_,kE⟩:=DataW.trod_int ft af;obtain⟨ch,cq,_,oQ⟩:=DataW.trod_int ft an;obtain⟨sa,kD,nS,ys,fo,oG,dJ⟩:=ayY aO;obtain⟨eS,fn,eT,cz,iM,aBs,eG⟩:=ayX bt;simp at dU;simp at cm;simp at cq;simp at fo;simp at iM;subst dU cm cq fo iM;exact⟨⟨⟨sa,kD,nS⟩,⟨eS,fn,eT⟩,⟨a0,cE,ch,ys,cz⟩⟩,rfl,⟨oG,aBs⟩,⟨dJ,eG,kE,oQ⟩⟩
def aBa{r:Reach}{b0:Nat}{v:Value}{d:DataW H}{p:List MemPlace}(bw:Value.okWide prog w r b0 23 v)(h:DataW.Trod nZ prog w base spare held 23 v d p):∃a n cap ys,v=.slice a n cap/\akp w a n cap ys:=by
 obtain⟨a,n,_,rfl⟩:=okWide_slice underlying23 bw;obtain⟨_,bk⟩:=h;obtain⟨_,_,_,ys,e,s,k⟩:=Si (c:=uT.cs) (sz:=5) (R:=λy=>Eb w y/\RA y.x) underlying23 bQ ah uT.bI (λ_ _ _ k=>azl k) bk;simp[Value.cells]at e;obtain⟨rfl,rfl,rfl⟩:=e;exact⟨_,_,_,ys,rfl,s,k⟩
end
def CC.ln{p:rk}{lC:Nat}(h:CC p K)(hk:K<=lC):CC p lC:=⟨by have:=h.l;omega,by have:=h.i;omega,λd aG=>by have:=h.e d aG;omega⟩
def CC.dp{p:rk}(h:CC p K):CC p (K+1):=h.ln (l9 _)
def Kk.dp{W w:aC}{p:rk}{er oZ:bl}{fk lc gO lv:Nat}{aU:List jR}(h:Kk W w M F c P p er fk lc aU oZ gO lv)(X:Z w w'):Kk W w' M F c P p er fk lc aU oZ gO lv:=⟨h.o.dp X,h.l.dp X,h.d,cv.dp h.i X⟩
def azm{w:ba}(aq:n<c.ps.length):yH c w (n:Int)=w.pe n:=by
 unfold yH;rw[bc ⟨J,J⟩,kN]
def azn{w:ba}(aq:n<c.ps.length):Cu c w (n:Int)=w.sU n:=by
 unfold Cu;rw[bc ⟨J,J⟩,kN]
def azo{w:ba}(aq:n<c.ps.length):mH c w.bN (n:Int)=true\/(mH c w.bN (n:Int)=false/\w.pe n=w):=by
 cases h:w.bN n with
 |up b=>exact .inl (ayZ aq ⟨b,h⟩)
 |down cp=>exact .inr ⟨akh ⟨cp,h⟩,ay0 ⟨cp,h⟩⟩
set_option maxHeartbeats 8000000 in
theorem aBb {w:aC}{cL ak sa eb:bl}{gJ fv aq al kD nS dm xJ:Nat}{ps hs e0:List Int}{cs:List uT} (b8:a7 w 1 dP cL gJ fv ps) (oA:a7 w 1 dP ak aq al hs) (WK:akp w sa kD nS cs) (b6:a7 w 1 dP eb dm xJ e0):
  aS 3 #[ao cL gJ fv,ao ak aq al,ao sa kD nS,ao eb dm xJ] w (cU (.bool true) w):=by
 obtain rfl:=b8.neq;obtain rfl:=oA.neq;obtain rfl:=WK.aF.neq;obtain rfl:=b6.neq;change aa _ at b8 oA WK b6;go_enter func3,ntmps3;go_wp2_with fail;refine ayx.mono ?_;rintro e _⟨rfl,bz⟩;replace bz:=I bz;go_wp2_with fail;refine(ayR (b8.ext U) (oA.ext U)).mono ?_;rintro e _⟨Ig,rfl,cn,bC⟩;have bq:=I (bz.trans cn);clear cn bz;cases Ig with
 |false=>
  clear bC;go_wp2;go_ret;exact⟨rfl,U⟩
 |true=>
  obtain⟨bm,ad,_,_⟩:=bC rfl;clear bC;go_wp2_with fail;have Kj:=GT (room:=60000) (b8.ext bq) (oA.ext bq) bm J J ah ah;rw[show((60000:Nat):Int)=60000 from rfl]at Kj;refine Kj.mono ?_;clear Kj;rintro e cW⟨af,_⟩;obtain⟨P,M,F,rfl,fq,gK,gW⟩:=af ad;have cg:=ajA (room:=60000) bm ad ah ah;obtain⟨c,al⟩:∃c:bK,c=⟨ps,hs,60000⟩:=⟨_,rfl⟩;rw[<-al]at fq cg;have xV:c.room<=60000:=by rw[al];exact bJ _
  have RB:c.ps.length=ps.length:=by rw[al]
  change aa _ at cg xV RB;have yy:aa (cM c [] 0 ba.new):=aeZ cg (ek ah cg.aey);have ar:aa (Kk w cW M F c P ⟨ba.new,[],[]⟩ none 0 0 [] none 0 0):=⟨⟨fq,bq.trans gK,λx k=>ek bq.size (gW x k)⟩,⟨λ_ _=>a7.nil _ jR.bI,λp aY=>by cases aY⟩,rfl,λ_ _=>a7.nil _ ax.bI⟩;clear af fq gK gW al bm ad bq;go_wp2_with fail;go_loopg [12,13,14] (cs.length) (λg y4 dS st wr=>∃(k:Nat) (M F:eZ) (fA:rk) (er oZ:bl) (fk lc gO lv:Nat) (aU:List jR),g+k=cs.length/\k<=50/\y4=.slice er fk lc/\dS=.slice oZ gO lv/\st=.int .i64 k/\aa (Kk w wr M F c P fA er fk lc aU oZ gO lv)/\aa (cM c fA.l k fA.w)/\aa (∀j,fA.w.cur j<=1000000)/\aa (CC fA k));case atStart=>exact⟨0,_,_,⟨ba.new,[],[]⟩,none,none,0,0,0,0,[],J,J,rfl,rfl,rfl,ar,yy,λ_=>gz _,⟨bJ _,bJ _,λd aG=>by cases aG⟩⟩
  case round=>
   clear ar yy;obtain⟨k,M,F,fA,er,oZ,fk,lc,gO,lv,aU,_,azp,rfl,rfl,rfl,ar,a8,zY,FD⟩:=hrel;obtain⟨akr,RC⟩:∃b,decide (k<cs.length/\k<50)=b:=⟨_,rfl⟩;change aa _ at RC;go_upto_region 12 with (fail);go_cut [49] (λv eD=>v=.bool akr/\wr=eD);case first=>
    by_cases RD:k<cs.length
    ·have bf:(k:Int)<(cs.length:Int):=J;by_cases WL:k<50
     ·have dA:(k:Int)<50:=J;go_wp2;go_meet;exact⟨eH Value.bool ((jf (p:=k<cs.length/\k<50) ⟨RD,WL⟩).symm.trans RC),rfl⟩
     ·have dA:¬((k:Int)<50):=J;go_wp2;go_meet;exact⟨eH Value.bool ((je (p:=k<cs.length/\k<50) (λz=>WL z.2)).symm.trans RC),rfl⟩
    ·have bf:¬((k:Int)<(cs.length:Int)):=J;go_wp2;go_meet;exact⟨eH Value.bool ((je (p:=k<cs.length/\k<50) (λz=>RD z.1)).symm.trans RC),rfl⟩
   case rest=>
    obtain⟨rfl,rfl⟩:=hcut;cases akr with
    |true=>
     obtain⟨RD,_⟩:=H4 RC;have b0:(0:Int)<=(k:Int):=J;have bf:(k:Int)<(cs.length:Int):=J;obtain⟨b,o,rfl,aaF⟩:=WK.aF.get k RD;obtain⟨dV,q1,dk,eP,gV⟩:=akq (w:=wr) (b:=b) (o:=o+k*5) (x:=cs[k]) (λj v aD=>ar.o.ext.ag (aaF j v aD));obtain⟨aaG,aks⟩:=WK.ck _ (cT RD);change aa _ at aaF aaG aks;go_wp2_with fail;refine(ayN cs[k] (aaG.ext ar.o.ext)).mono ?_;rintro e dT⟨akt,rfl,ev,aku⟩;replace ar:=I (ar.dp aku);change aa _ at ev;clear aku dV q1 dk eP gV;cases akt with
     |false=>
      go_wp2;go_roundg (gk - 1);case measure=>omega
      case rel=>exact⟨k+1,M,F,fA,er,oZ,fk,lc,gO,lv,aU,J,J,rfl,rfl,by go_num,ar,a8.dp J,zY,FD.dp⟩
     |true=>
      obtain⟨dV,q1,dk,eP,gV⟩:=akq (w:=dT) (b:=b) (o:=o+k*5) (x:=cs[k]) (λj v aD=>ar.o.ext.ag (aaF j v aD));have fK:=I (aks.ok (ev rfl).2);go_wp2_with fail;refine(azc ar cg a8 J xV zY (FD.ln J) cs[k] fK aaG).mono ?_;rintro e cW⟨nw,kC,azq,azr,azs,azt,azu,azv,azw,rfl,rU⟩;change aa _ at rU;clear dV q1 dk eP gV;go_wp2;go_roundg (gk - 1);case measure=>omega
      case rel=>exact⟨k+1,nw,kC,fA.step c cs[k].x,azq,azu,azr,azs,azv,azw,azt,J,J,rfl,rfl,by go_num,rU,rk.axc cg a8 J _ fK,rk.cur cg a8 xV zY _,FD.step _ _⟩
    |false=>
     obtain⟨dl,xL⟩:∃dl,fA.l=dl:=⟨_,rfl⟩;obtain⟨azx,J9⟩:∃aQ,fA.w=aQ:=⟨_,rfl⟩;have cJ:aa (aU.map (·.d)=dl):=ar.d.trans xL;have bg:=I ar.l;have oS:=I (a8.dp azp);rw[J9,xL]at oS;have bu:=I ar.o;rw[J9]at bu;clear ar a8 zY FD xL J9;go_wp2_with fail;go_loopg [15,16,17,18,19,20,21] (ps.length) (λg qZ _ _ _ _ _ _ wr=>∃(n:Nat) (M F:eZ) (aQ:ba),g+n=ps.length/\qZ=.int .i64 n/\aa (Ec w wr M F c P aQ)/\aa (cM c dl (50+n) aQ)/\aa (wO M wr er fk lc aU));case atStart=>exact⟨0,M,F,azx,J,rfl,bu,oS,bg⟩
     case round=>
      clear bu oS bg;obtain⟨n,M,F,aQ,_,rfl,ar,a8,bg⟩:=hrel;by_cases aq:n<ps.length
      ·have c3:=I (show n<c.ps.length by rw[RB.out];exact aq);have b0:(0:Int)<=(n:Int):=J;have bf:(n:Int)<(ps.length:Int):=J;go_wp2_with fail;refine(HK ar.st cg a8 xV c3).mono ?_;rintro e cW⟨cf,au,WM,rfl,dh,X⟩;have dN:=I (dh.b5 (M:=M) (λb k=>ar.st.b5 _ k));replace ar:=I (ar.dp X);replace bg:=I (bg.dp X);clear dh X;go_upto_region 20 with (fail);have iT:Z cW (cW.alloc cf):=U;have rY:(cW.alloc cf).heap[(cW:Nat)]?=some (cf:Obj):=e2 rfl;obtain⟨dZ,pQ⟩:∃V,cW.alloc cf=V:=⟨_,rfl⟩;rw[pQ]at iT rY;rw[pQ];clear pQ;have bE:iE M dZ cW (cf:Obj):=iE.new rY (λk=>by have:=ar.st.b5 _ k;omega);replace ar:=I (ar.dp iT);replace bg:=I (bg.dp iT);obtain⟨qD,bx⟩:∃B,(cW:Nat)=B:=⟨_,rfl⟩;rw[bx]at bE;rw[bx];change aa _ at bE;replace iT:=I iT;clear bx rY;replace dN:=I (cv.dp dN iT);clear iT;go_upto_if 80 with (fail);go_cut [17] (λv eD=>∃z:Int,v=.int .i64 z/\dZ=eD);case first=>
        by_cases ZK:n<e0.length
        ·have dA:(n:Int)<(e0.length:Int):=J;obtain⟨b,o,rfl,fR⟩:=b6.get n ZK;have dV:=ar.ext.ag (fR 0 _ rfl);rw[jd]at dV;simp only[uo]at dV;go_wp2;go_meet;exact⟨_,rfl,rfl⟩
        ·have dA:¬((n:Int)<(e0.length:Int)):=J;go_wp2;go_meet;exact⟨_,rfl,rfl⟩
       case rest=>
        obtain⟨z,rfl,rfl⟩:=hcut;go_upto_region 23 with (fail);go_cut [94] (λv eD=>v=.bool false/\∃(M F:eZ),aa (Ec w eD M F c P (aQ.pe n))/\aa (wO M eD er fk lc aU)/\aa (cv M eD (λw=>q6 w cf (et aQ n) au WM))/\aa (iE M eD qD (cf:Obj)));case first=>
         have dh:=ar.st;obtain⟨_,_,_,_,_,_,_,_,Wa,_⟩:=dh;have np:=VY Wa.dn (by rw[RB.out];omega) (n:Int);clear Wa;rcases azo c3 with aj|⟨aj,Ce⟩
         ·rw[aj]at np;change aa _ at aj;replace np:=I np;go_wp2_with fail;refine np.out.mono ?_;rintro e cB⟨rfl,eQ⟩;replace ar:=I (ar.dp eQ);replace bg:=I (bg.dp eQ);replace dN:=I (cv.dp dN eQ);replace bE:=I (iE.dp bE eQ);clear eQ;go_wp2_with fail;refine(i5 ar.st cg (n:Int) z).mono ?_;rintro e bA⟨z2,bp,nw,kC,rfl,jj,qh⟩;obtain rfl:=bp.2 aj;rw[azm c3.out]at jj;replace bg:=I (bg.qX ar.st.sub qh);replace dN:=I (qh.kS ar.st.sub dN);replace bE:=I (iE.qX bE ar.st.sub qh);replace ar:=I (ar.qX jj qh);clear bp jj qh;go_wp2;go_meet;exact⟨rfl,nw,kC,ar,bg,dN,bE⟩
         ·rw[aj]at np;change aa _ at Ce;replace np:=I np;clear aj;go_wp2_with fail;refine np.out.mono ?_;rintro e _⟨rfl,eA⟩;replace eA:=I eA;go_wp2;go_meet;exact⟨rfl,M,F,(by rw[Ce.out];exact ar.dp eA),bg.dp eA,cv.dp dN eA,iE.dp bE eA⟩
        case rest=>
         clear ar bg dN bE;obtain⟨rfl,M,F,ar,bg,dN,bE⟩:=hcut;have Ki:=I (Zn a8 c3);go_wp2_with fail;refine(HK ar.st cg Ki xV c3).mono ?_;rintro e cW⟨RE,_,_,rfl,dh,X⟩;have HL:=I (dh.b5 (M:=M) (λb k=>ar.st.b5 _ k));replace ar:=I (ar.dp X);replace bg:=I (bg.dp X);replace dN:=I (cv.dp dN X);replace bE:=I (iE.dp bE X);clear dh X;go_upto_region 26 with (fail);have iT:Z cW (cW.alloc RE):=U;have rY:(cW.alloc RE).heap[(cW:Nat)]?=some (RE:Obj):=e2 rfl;obtain⟨azy,pQ⟩:∃V,cW.alloc RE=V:=⟨_,rfl⟩;rw[pQ]at iT rY;rw[pQ];clear pQ;have fW:iE M azy cW (RE:Obj):=iE.new rY (λk=>by have:=ar.st.b5 _ k;omega);replace ar:=I (ar.dp iT);replace bg:=I (bg.dp iT);obtain⟨VF,bx⟩:∃B,(cW:Nat)=B:=⟨_,rfl⟩;rw[bx]at fW;rw[bx];change aa _ at fW;replace iT:=I iT;clear bx rY;replace dN:=I (cv.dp dN iT);replace HL:=I (cv.dp HL iT);replace bE:=I (iE.dp bE iT);clear iT;obtain⟨a0,cE,ch,a3⟩:=oX (iE.c8 bE);obtain⟨dU,cm,cq,fo⟩:=oX (iE.c8 fW);go_wp2_with fail;have Bd:=aeT a8 c3 n;refine(axl (d:=et aQ n) (e:=et (aQ.pe n) n) (cv.c8 dN) (cv.c8 HL) (by rw[Bd]) (by rw[Bd]) (by rw[Bd]) (by rw[Bd])).mono ?_;rintro e bA⟨rfl,ez⟩;change aa _ at Bd;replace ar:=I (ar.dp ez);replace bg:=I (bg.dp ez);replace dN:=I (cv.dp dN ez);replace bE:=I (iE.dp bE ez);clear ez a0 cE ch a3 dU cm cq fo HL fW;have gF:=ai0 ar.st cg Ki J (n:Int);replace gF:=I gF;go_wp2_with fail;refine gF.out.mono ?_;rintro e _⟨z2,bp,nw,kC,rfl,jj,qh⟩;obtain rfl:=bp ⟨⟨J,by have:=c3.out;omega⟩,akh (aki aQ n)⟩;rw[azn c3.out]at jj;replace bg:=I (bg.qX ar.st.sub qh);replace dN:=I (qh.kS ar.st.sub dN);replace bE:=I (iE.qX bE ar.st.sub qh);replace ar:=I (ar.qX jj qh);have Nd:=I (aeX cg.tolZ Ki c3 J);clear bp jj qh gF;go_wp2_with fail;refine(HK ar.st cg Nd xV c3).mono ?_;rintro e cW⟨Nh,akv,akw,rfl,dh,X⟩;have aaH:=ay1 c3 aQ;rw[Bd.out]at aaH;rw[aaH]at dh;have WN:=I (dh.b5 (M:=nw) (λb k=>ar.st.b5 _ k));replace ar:=I (ar.dp X);replace bg:=I (bg.dp X);replace dN:=I (cv.dp dN X);replace bE:=I (iE.dp bE X);clear dh X aaH;go_upto_region 30 with (fail);have iT:Z cW (cW.alloc Nh):=U;have rY:(cW.alloc Nh).heap[(cW:Nat)]?=some (Nh:Obj):=e2 rfl;obtain⟨azz,pQ⟩:∃V,cW.alloc Nh=V:=⟨_,rfl⟩;rw[pQ]at iT rY;rw[pQ];clear pQ;have fc:iE nw azz cW (Nh:Obj):=iE.new rY (λk=>by have:=ar.st.b5 _ k;omega);replace ar:=I (ar.dp iT);replace bg:=I (bg.dp iT);obtain⟨_,bx⟩:∃B,(cW:Nat)=B:=⟨_,rfl⟩;rw[bx]at fc;rw[bx];change aa _ at fc;replace iT:=I iT;clear bx rY;replace dN:=I (cv.dp dN iT);replace WN:=I (cv.dp WN iT);replace bE:=I (iE.dp bE iT);clear iT;have iB:=cv.c8 dN;have vv:=cv.c8 WN;have aaI:=iB.cX;have akx:=vv.cX;have BX:=a8.cX n c3;have p2:aa (au.map (·.d)=akv.map (·.d)):=iB.jI.trans vv.jI.symm;have azA:aa (WM.map (·.d)=akw.map (·.d)):=iB.kV.trans vv.kV.symm;obtain⟨L,eV⟩:∃L,(et aQ n).l=L:=⟨_,rfl⟩;have xb:Nh.cX=(L:Int)+1:=by rw[akx,<-eV];rfl
         rw[eV]at aaI BX;have U5:IntKind.u64.wrap ((L:Int)+1)=(L:Int)+1:=by rw[IntKind.wrap_u64];omega
         change aa _ at iB vv;clear akx eV dN WN;obtain⟨a0,cE,ch,a3⟩:=oX (iE.c8 bE);obtain⟨dU,cm,cq,fo⟩:=oX (iE.c8 fc);go_wp2_with fail;refine(Wp _ _ _ _ _ _ au akv _ iB.l vv.l p2).mono ?_;rintro e _⟨rfl,s8⟩;replace s8:=I s8;clear a0 cE ch a3 dU cm cq fo;replace bE:=I (iE.dp bE s8);replace fc:=I (iE.dp fc s8);obtain⟨a0,cE,ch,a3⟩:=oX (iE.c8 bE);obtain⟨dU,cm,cq,fo⟩:=oX (iE.c8 fc);go_wp2_with fail;refine(Wp _ _ _ _ _ _ WM akw _ (iB.p.ext s8) (vv.p.ext s8) azA).mono ?_;rintro e _⟨rfl,hP⟩;have l2:=I (s8.trans hP);clear a0 cE ch a3 dU cm cq fo;replace bE:=I (iE.dp bE hP);replace fc:=I (iE.dp fc hP);clear hP;obtain⟨a0,cE,ch,a3⟩:=oX (iE.c8 bE);obtain⟨dU,cm,cq,fo⟩:=oX (iE.c8 fc);go_wp2_with fail;refine(ajv _ _ _ _ _ _ (et aQ n).aB _ (iB.b.ext l2) (vv.b.ext l2)).mono ?_;rintro e _⟨rfl,ml⟩;clear a0 cE ch a3 dU cm cq fo;replace bE:=I (iE.dp bE ml);replace fc:=I (iE.dp fc ml);replace ar:=I (ar.dp (l2.trans ml));replace bg:=I (bg.dp (l2.trans ml));clear ml s8 l2;have a0:=aL (o:=0) (iE.c8 bE) rfl;have dU:=aL (o:=0) (iE.c8 fc) rfl;rw[aaI]at a0;rw[xb]at dU;clear aaI xb;go_wp2;go_roundg (gk - 1);case measure=>omega
         case rel=>exact⟨n+1,nw,kC,_,J,by go_num,ar,Nd.dp J,bg⟩
      ·have bf:¬((n:Int)<(ps.length:Int)):=J;go_wp2_with fail;go_loopg [22,23,24,25,26] (ps.length) (λg qZ _ _ _ _ wr=>∃n:Nat,g+n=ps.length/\qZ=.int .i64 n/\aa (Ec w wr M F c P aQ)/\aa (wO M wr er fk lc aU));case atStart=>exact⟨0,J,rfl,ar,bg⟩
       case round=>
        clear ar bg;obtain⟨cF,_,rfl,ar,bg⟩:=hrel;by_cases kA:cF<ps.length
        ·have c3:=I (show cF<c.ps.length by rw[RB.out];exact kA);have dA:(cF:Int)<(ps.length:Int):=J;go_wp2_with fail;refine(HK ar.st cg a8 xV c3).mono ?_;rintro e cW⟨cf,au,WM,rfl,dh,X⟩;have dN:=I dh.ck;replace ar:=I (ar.dp X);replace bg:=I (bg.dp X);clear dh X;go_upto_region 37 with (fail);have iT:Z cW (cW.alloc cf):=U;have rY:(cW.alloc cf).heap[(cW:Nat)]?=some (cf:Obj):=e2 rfl;obtain⟨dZ,pQ⟩:∃V,cW.alloc cf=V:=⟨_,rfl⟩;rw[pQ]at iT rY;rw[pQ];clear pQ;have bE:iE M dZ cW (cf:Obj):=iE.new rY (λk=>by have:=ar.st.b5 _ k;omega);replace ar:=I (ar.dp iT);replace bg:=I (bg.dp iT);obtain⟨_,bx⟩:∃B,(cW:Nat)=B:=⟨_,rfl⟩;rw[bx]at bE;rw[bx];change aa _ at bE;replace iT:=I iT;clear bx rY;replace dN:=I (dN.ext iT);clear iT;obtain⟨EN,OR⟩:∃EN,EN=gk:=⟨_,rfl⟩;subst OR;go_wp2_with fail;go_loopg [24,25,26] (ps.length) (λg K0 _ _ wr=>∃k:Nat,g+k=ps.length/\K0=.int .i64 k/\aa (Z dZ wr));case atStart=>exact⟨0,J,rfl,Z.refl _⟩
         case round=>
          obtain⟨k,_,rfl,dz⟩:=hrel;by_cases hk:k<ps.length
          ·have JJ:=I (show k<c.ps.length by rw[RB.out];exact hk);have gh:(k:Int)<(ps.length:Int):=J;go_wp2_with fail;refine(HK (ar.dp dz).st cg a8 xV JJ).mono ?_;rintro e Ni⟨⟨tl,WO,WQ,⟨gv,hU,fP⟩⟩,_,_,rfl,dh,X⟩;obtain⟨aB,tL⟩:∃aB,(et aQ k).aB=aB:=⟨_,rfl⟩;have db:=dh.ck.b;rw[tL]at db;obtain rfl:=db.neq;have kF:aB.length<=2 ^ 63 - 1:=by
            have af:aB.length<=fP:=db.len;have an:fP<=maxLen:=db.max;unfold maxLen at an;omega
           change aa _ at db tL;have eA:=I (dz.trans X);clear dh X;go_upto_region 41 with (fail);have iT:Z Ni (Ni.alloc (.cells #[ae tl,WO,WQ,ao gv aB.length fP] 44)):=U;have fW:(Ni.alloc (.cells #[ae tl,WO,WQ,ao gv aB.length fP] 44)).heap[(Ni:Nat)]?=some (.cells #[ae tl,WO,WQ,ao gv aB.length fP] 44):=e2 rfl;obtain⟨azB,pQ⟩:∃V,Ni.alloc (.cells #[ae tl,WO,WQ,ao gv aB.length fP] 44)=V:=⟨_,rfl⟩;rw[pQ]at iT fW;rw[pQ];clear pQ;obtain⟨_,bx⟩:∃B,(Ni:Nat)=B:=⟨_,rfl⟩;rw[bx]at fW;rw[bx];change aa _ at fW;replace iT:=I iT;clear bx;obtain⟨Kz,DQ⟩:∃Kz,Kz=gk:=⟨_,rfl⟩;subst DQ;go_wp2_with fail;go_loopg [26] (aB.length) (λg dS wr=>∃i:Nat,g+i=aB.length/\dS=.int .i64 i/\aa (Z azB wr));case atStart=>exact⟨0,J,rfl,Z.refl _⟩
           case round=>
            obtain⟨i,_,rfl,ez⟩:=hrel;have hi:=I (eA.trans (iT.trans ez));have fo:=aL (o:=3) (ez.ay fW) rfl;by_cases aK:i<aB.length
            ·obtain⟨b,o,rfl,al⟩:=db.get i aK;obtain⟨cA,cR,cS⟩:=Aj (w:=wr) (b:=b) (o:=o+i*3) (x:=aB[i]) (λj v aD=>(iT.trans ez).ag (al j v aD));obtain⟨a0,cE,ch,a3⟩:=oX (hi.ay bE.c8);have tN:=I (ay3 cg.tolZ a8 c3 JJ (i:=aB[i]) (by rw[tL.out];exact cT aK) dN.jI (λp aY=>(dN.l.ck p aY).id));have gm:(0:Int)<=(i:Int):=J;have ti:(i:Int)<(aB.length:Int):=J;clear al;go_wp2_with fail;refine sX (Z wr) (λbd=>?_);refine de 0 ?_ (hy:=λw fh=>by(try dsimp only at fh);(have z0:=fh.ag a0;have cZ:=fh.ag cE;have z2:=fh.ag ch;have z3:=fh.ag a3);exact A2);refine de 1 ?_;refine zD 2 (·.ag fo) ?_;refine de 3 ?_;refine de 4 ?_;refine de 5 ?_ (hy:=λw fh=>by(try dsimp only at fh);(have z0:=fh.ag cA;have cZ:=fh.ag cR;have z2:=fh.ag cS);exact A2);refine h9 6 λK aE=>?_;go_simp;go_at_call 17;refine(oF cf (au.map (·.x)) aB[i] _ ((dN.l.ext (hi.trans U)).cD)).mono ?_;rintro e bA⟨rfl,ic⟩;rw[tN.out];have jr:aa (Z wr bA):=Z.trans U ic;clear ic;refine aE _ _ (by(try dsimp only);exact jr) λbd=>ej ?_;refine og bQ ?_ _;clear fo cA cR cS a0 cE ch a3;go_wp2;go_roundg (gk - 1);case measure=>omega
             case rel=>exact⟨i+1,J,by go_num,ez.trans jr⟩
            ·have ti:¬((i:Int)<(aB.length:Int)):=J;go_wp2;go_roundg (Kz - 1);case measure=>omega
             case rel=>exact⟨k+1,J,by go_num,hi⟩
          ·have gh:¬((k:Int)<(ps.length:Int)):=J;go_wp2;go_roundg (EN - 1);case measure=>omega
           case rel=>exact⟨cF+1,J,by go_num,ar.dp dz,bg.dp dz⟩
        ·have dA:¬((cF:Int)<(ps.length:Int)):=J;go_wp2_with fail;have Dy:=HK ar.st cg a8 xV (n:=0) cg.tolZ.n0;rw[show((0:Nat):Int)=0 from rfl]at Dy;refine Dy.mono ?_;clear Dy;rintro e _⟨⟨tl,⟨Cm,tH,Cn⟩,⟨si,rP,sj⟩,⟨gv,hU,fP⟩⟩,au,_,rfl,dh,X⟩;have hf:=I dh.ck.l;have wH:=I (show aat (au.map (·.d)) (aU.map (·.d)) by rw[dh.ck.jI,cJ.out];exact ay2 cg.tolZ a8);replace ar:=I (ar.dp X);replace bg:=I (bg.dp X);clear dh X;have EQ:∀w:aC,(Instr.field 44 (.agg #[ae tl,ao Cm tH Cn,ao si rP sj,ao gv hU fP]) 1).run prog w=.ok (.slice Cm tH Cn) w:=λ_=>by kernel_rfl
         go_wp2_with fail;refine(ayC hf bg.c8 wH).mono ?_;rintro e _⟨rfl,ez⟩;have hi:=I (ar.ext.trans ez);clear ez EQ;go_wp2;go_ret;exact⟨rfl,U⟩
end
end Go.Proofs.YtfiiblnenhdlhaaGreat
