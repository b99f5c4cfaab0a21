/- Part. -/
import Derived.Test.YtfiiblnenhdlhaaGreatG2
set_option linter.unusedVariables false
set_option linter.unusedSimpArgs false
set_option linter.defProp false
set_option maxRecDepth 100000
set_option maxHeartbeats 4000000
namespace Go.Proofs.YtfiiblnenhdlhaaGreat
open Go.RowKit Tryz
variable {ops:Array Oper}{cs:Array Value}{Q:Exit->Act->World->Prop}{rest:List Oper}{ps:List bO}{aX:List bg}{st:List bg×List bg}{B aDn b base cap g jE n o sz:Nat}{a aw:Option Addr}{P:Program}{α:Type}{e t:TypeId}{B0 BY BZ gR iF iu ji k0 o7 oq sc xl:Value}{w w':World}{dj:aA->Bool}{x:b1}{d:bg}
def adp{c:α->List Value}{ys:List α}{o:Oper}{a:Act}(np:o.guard=none)(s x:Operand)(t e:TypeId)(aK:o.op=.call {callee:=.builtin .append,args:=#[s,x],argTypes:=#[t,t]})(i:TypeInfo)(z:Value)(bytes:Nat)(a6:P.underlying t=some (.slice e))(aO:P.info? e=some i)(bf:i.zero=some z)(yB:i.size=sz)(wy:i.bytes=bytes)(yC:z.cells.size=sz)(fS:0<sz)(hs:a.eval s=.slice none 0 0)(base:Nat){sa:bk}(U:a.eval x=.slice sa n cap)(a8:a1 w sz c sa n cap ys)(ae:∀y,∀u∈c y,u.oneCell'=true)(an:n*bytes<=140737488355328)(j4:0<bytes)(BX:base<=(w:Nat))(h:∀aw dL w',Own w' base e sz c aw n dL ys->Z w w'->(∀ai,aw=some ai->(w:Nat)<=ai.block)->wpList P ops Q rest (a.put o.dst (aq aw n dL)) w'):wpList P ops Q (o::rest) a w:=by
 have adq:Own w w e sz c none 0 0 ([]:List α):=Own.nil _ _ _ a8.bH;cases sa with
 |none=>
  have ao:=a8.none rfl;have aT:=a8.len;obtain rfl:cap=0:=ao;obtain rfl:n=0:=J;have hy:ys= []:=xj a8.neq.symm;subst hy;refine wpList_append_own_none np s x t aK w e i sz a6 aO aH 0 [] hs adq.row U ?_;exact h none 0 w (Own.nil _ _ _ a8.bH) (Z.refl _) (λai aj=>by cases aj)
 |some ai=>
  have hbound:n<=n*bytes:=MQ _ j4;have hlen:(ys.flatMap c).length=n*sz:=by
   rw[a8.neq];have hw:=a8.bH;clear h U a8 an hbound;induction ys with
   |nil=>simp
   |cons y l cI=>exact Rv
  refine wpList_append_own w np s x t aK w e i z sz bytes a6 aO bf yB wy yC fS aH 0 [] hs adq.row ai n cap (ys.flatMap c) U hlen ?_ ?_ (by simp only[maxLen];omega) (by rw[om];exact an) (bA _) ?_
  ·intro j u aJ;refine acb ?_;intro yE hk b off Rw jS;subst jS;refine acd ?_;intro hm J0 this;rw[show((b,off):Addr).add j=(b,off+j)from by unfold Addr.add;split<;>simp_all,this];exact J0.symm
  exact Rx
  ·intro _ w' aE bW _;rw[lq,om]at aE;have ch:Z w w':=⟨bW.os,bW.tape,bW.output,bW.size,λk hk=>bW.block k hk (by simp[Value.ownBlock])⟩;rcases aE.2 with ⟨rfl,aW⟩|⟨g,aQ,cur,rfl,jH,AA,Ww⟩
   ·subst aW;exact h none 0 w' ((Own.mk aE a8.neq a8.bH).mono BX) ch (λai aj=>by cases aj)
   ·refine h _ aQ w' ((Own.mk aE a8.neq a8.bH).mono BX) ch (λnw aj=>?_);cases aj;exact jH
structure fO (w:World) (base:Nat) (x:b1) (d:bg):Prop where
 k:x.k=d.k
 id:x.id=d.id
 c:x.c=d.c
 u:x.u=d.u
 f:Own w base 154 5 T.cs x.f.a x.f.n x.f.c d.ts
 e:∃ys:List eJ,ys.map (·.dH)=d.aS/\Own w base 34 1 eJ.cs x.e.a x.e.n x.e.c ys/\∀y,y∈ys->Own w base 77 4 cd.cs y.v.a y.v.n y.v.c y.dH
def fO.ct(h:fO w base x d):h0 w x d:=
 let ⟨ys,e,o,a⟩:=h.e;⟨h.k,h.id,h.c,h.u,h.f.aF,ys,e,o.aF,λy hy=>(a y hy).aF⟩
def fO.ext(h:fO w base x d)(U:Z w w'):fO w' base x d:=
 let ⟨ys,e,o,a⟩:=h.e;⟨h.k,h.id,h.c,h.u,h.f.ext U,ys,e,o.ext U,λy hy=>(a y hy).ext U⟩
def fO.mono(h:fO w base x d)(aa:aDn<=base):fO w aDn x d:=
 let ⟨ys,e,o,a⟩:=h.e;⟨h.k,h.id,h.c,h.u,h.f.mono aa,ys,e,o.mono aa,λy hy=>(a y hy).mono aa⟩
def fO.grow{c:α->List Value}{cq:List α}(h:fO w base x d)(bu:lH w w' aw g)(ax:Own w aDn e sz c aw n cap cq)(ae:e≠154)(ak:e≠34)(aM:e≠77):fO w' base x d:=
 let ⟨ys,e,o,a⟩:=h.e
 ⟨h.k,h.id,h.c,h.u,bu.bI h.f (ax.gQ h.f ae),ys,e,bu.bI o (ax.gQ o ak),λy hy=>bu.bI (a y hy) (ax.gQ (a y hy) aM)⟩
structure fx (w:World) (base:Nat) (a:Option Addr) (n c:Nat) (ps:List bO):Prop where
 cg:Own w base 66 8 bO.cs a n c ps
 ct:∀p,p∈ps->fO w base p.x p.d
def fx.sj{c:Nat}(h:fx w base a n c ps):ja w a n c ps:=⟨h.cg.aF,λp aV=>(h.ct p aV).ct⟩
def fx.ext{c:Nat}(h:fx w base a n c ps)(U:Z w w'):fx w' base a n c ps:=⟨h.cg.ext U,λp aV=>(h.ct p aV).ext U⟩
def fx.mono{c:Nat}(h:fx w base a n c ps)(aa:aDn<=base):fx w aDn a n c ps:=⟨h.cg.mono aa,λp aV=>(h.ct p aV).mono aa⟩
def Nh(d:bg)(w:World)(e:Ending)(w':World):Prop:=
 ∃x:b1,e=.returned (.agg #[x.k,x.id.b,ad x.id.l,ad x.id.s,x.c,ad x.u,x.f,x.e])/\fO w' w.heap.size x d/\Z w w'
def adr(x:b1)(d:bg)(w:aC)(bb:h0 w x d)(hs:mo d):aR 314 #[x] w (Nh d w):=by
 refine Ni ?_;intro ca bJ bF bG bK dc eo dB ej fe eI mZ na nb nc dz kv kg dp a6 he aj;obtain⟨hL,mK,hM,mL,⟨fA,fn,fB⟩,⟨dK,_,dM⟩⟩:=x;dsimp only at dp kg ⊢;obtain rfl:=kg.aF.neq;refine Nj ?_;intro hm Kc Kd dA;replace bb:=I bb;replace dp:=I dp;replace kg:=I kg;replace kv:=I kv;replace bJ:=I bJ;replace bF:=I bF;replace bG:=I bG;replace bK:=I bK;replace eo:=I eo;replace dB:=I dB;replace ej:=I ej;replace fe:=I fe;replace mZ:=I mZ;replace na:=I na;replace nb:=I nb;replace nc:=I nc;clear a6 he aj hs;go_enter func314,ntmps314;refine Nk ?round;intro aw dL w1 cT c1 c2 da dJ dw eC eK gh dr eF fN hx kx nO tM uM yJ dn bx AL s3 _ _ gk wr u3 u5 u13 u14 u15 u16 u17 u18 u19 u20 u21 u22 hrel _ _ _ _;case round=>
  obtain⟨k,ab,m,aQ,ys,_,rfl,rfl,aE,U⟩:=hrel;refine Nl ?_;intro hk
  ·refine Ke ?_;intro b9;rw[b9]at aE;refine Nn ?_;clear cT c1 c2 da dJ dw eC eK gh dr eF fN hx kx nO tM uM yJ;intro gn q1 dP fp iw ov xu DJ lN e3 ju oP uR s4 uS tP Kf Kg DK jI;go_wp2_with fail;refine bodyPost_ret (v:=.agg #[hL,mK.b,ad mK.l,ad mK.s,hM,ad mL,aq aw fn dL,aq ab m aQ]) (by simp[results,results314,go_sem,lN,e3,ju,oP,uR,s4,uS,tP]) rfl ⟨⟨hL,mK,hM,mL,⟨aw,fn,dL⟩,⟨ab,m,aQ⟩⟩,rfl,⟨bb.out.k,bb.out.id,bb.out.c,bb.out.u,Own.mono (base:=(w:Nat)+1+1) ?_ (No (oN _)),ys,by rw[aE.out.2.1,kv.out],Own.mono (base:=(w1:Nat)) ?_ (lr s3),λy hy=>Own.mono (base:=(w1:Nat)) ?_ (lr s3)⟩,?_⟩;exact Np;exact Nq;exact Nr;exact Ns
def RY(x:b1)(d:bg)(w:aC)(bb:h0 w x d)(hs:mo d):aR 264 #[x] w (Nh d w):=by
 refine Ni ?_;intro ca bJ bF bG bK dc eo dB ej fe eI mZ na nb nc dz kv kg dp a6 he aj;obtain⟨hL,mK,hM,mL,⟨fA,fn,fB⟩,⟨dK,_,dM⟩⟩:=x;dsimp only at dp kg ⊢;obtain rfl:=kg.aF.neq;refine Nj ?_;intro hm Kc Kd dA;replace bb:=I bb;replace dp:=I dp;replace kg:=I kg;replace kv:=I kv;replace bJ:=I bJ;replace bF:=I bF;replace bG:=I bG;replace bK:=I bK;replace eo:=I eo;replace dB:=I dB;replace ej:=I ej;replace fe:=I fe;replace mZ:=I mZ;replace na:=I na;replace nb:=I nb;replace nc:=I nc;clear a6 he aj hs;go_enter func264,ntmps264;refine Nk ?round;intro aw dL w1 cT c1 c2 da dJ dw eC eK gh dr eF fN hx kx nO tM uM yJ dn bx AL s3 _ _ gk wr u3 u5 u13 u14 u15 u16 u17 u18 u19 u20 u21 u22 hrel _ _ _ _;case round=>
  obtain⟨k,ab,m,aQ,ys,_,rfl,rfl,aE,U⟩:=hrel;refine Nl ?_;intro hk
  ·refine Ke ?_;intro b9;rw[b9]at aE;refine Nn ?_;clear cT c1 c2 da dJ dw eC eK gh dr eF fN hx kx nO tM uM yJ;intro gn q1 dP fp iw ov xu DJ lN e3 ju oP uR s4 uS tP Kf Kg DK jI;go_wp2_with fail;refine bodyPost_ret (v:=.agg #[hL,mK.b,ad mK.l,ad mK.s,hM,ad mL,aq aw fn dL,aq ab m aQ]) (by simp[results,results264,go_sem,lN,e3,ju,oP,uR,s4,uS,tP]) rfl ⟨⟨hL,mK,hM,mL,⟨aw,fn,dL⟩,⟨ab,m,aQ⟩⟩,rfl,⟨bb.out.k,bb.out.id,bb.out.c,bb.out.u,Own.mono (base:=(w:Nat)+1+1) ?_ (No (oN _)),ys,by rw[aE.out.2.1,kv.out],Own.mono (base:=(w1:Nat)) ?_ (lr s3),λy hy=>Own.mono (base:=(w1:Nat)) ?_ (lr s3)⟩,?_⟩;exact Np;exact Nq;exact Nr;exact Ns
def AM:(prog.info? 66).map (λi=>(i.zero,i.size,i.bytes))=some (some (.agg #[ar,ar,au,au,ar,au,aH,aH]),8,96):=bV
def bO.cN(p:bO):∀u∈p.cs,u.oneCell'=true:=b1.cN p.x
def p7(ag ps:List b1)(ay:List aA)(i:aA):Bool:=ag.any (λx=>cf x.id i)||ps.any (λx=>cf x.id i)||ay.any (λx=>cf x i)
def W0(ag ps:List b1)(ay:List aA)(i:aA):p7 ag ps ay i=(ag.any (λx=>cf x.id i)||ps.any (λx=>cf x.id i)||ay.any (λx=>cf x i)):=rfl
def nx(dj:aA->Bool)(jE:Nat)(st:List bg×List aA)(d:bg):List bg×List aA:=
 if (dj d.id||st.1.any (λx=>cf x.id d.id)||st.2.any (λx=>cf x d.id))=true then st else if jE+st.1.length<6 then (st.1++[d],st.2) else (st.1,st.2++[d.id])
def pe(dj:aA->Bool)(jE:Nat)(aX:List bg):List bg×List aA:=aX.foldl (nx dj jE) ([],[])
def apE{k:Nat}(hk:k<aX.length):pe dj jE (aX.take (k+1))=nx dj jE (pe dj jE (aX.take k)) aX[k]:=by
 unfold pe;exact Ca
def W1{st:List bg×List aA}(h:(dj d.id||st.1.any (λx=>cf x.id d.id)||st.2.any (λx=>cf x d.id))=true):nx dj jE st d=st:=by
 unfold nx;rw[if_pos h]
def apF{st:List bg×List aA}(h:(dj d.id||st.1.any (λx=>cf x.id d.id)||st.2.any (λx=>cf x d.id))=false)(an:jE+st.1.length<6):nx dj jE st d=(st.1++[d],st.2):=by
 unfold nx;rw[if_neg (by rw[h];simp),if_pos an]
def apG{st:List bg×List aA}(h:(dj d.id||st.1.any (λx=>cf x.id d.id)||st.2.any (λx=>cf x d.id))=false)(an:¬jE+st.1.length<6):nx dj jE st d=(st.1,st.2++[d.id]):=by
 unfold nx;rw[if_neg (by rw[h];simp),if_neg an]
def W2(dj:aA->Bool)(jE:Nat):∀(l:List bg) (st:List bg×List aA),(l.foldl (nx dj jE) st).1.length+(l.foldl (nx dj jE) st).2.length<=st.1.length+st.2.length+l.length
 | [],st=>by simp
 |d::l,st=>by
  rw[mM]
  have:=W2 dj jE l (nx dj jE st d)
  have ak:(nx dj jE st d).1.length+(nx dj jE st d).2.length<=st.1.length+st.2.length+1:=by
   unfold nx;split
   ·omega
   ·split<;>simp<;>omega
  rw[mv];omega
def apH(aS:List bg)(ct:List aA)(w:World)(e:Ending)(w':World):Prop:=
 ∃aw n c cK m q ps,e=.returned (.tuple #[aq aw n c,aq cK m q])/\fx w' w.heap.size aw n c ps/\ps.map (·.d)=aS/\Own w' w.heap.size 54 3 aA.cs cK m q ct/\Z w w'
def Nt(s:lZ)(ag ps:List b1)(ay:List aA)(i:aA)(aQ:Nat)(w:aC)(bL:a1 w 8 b1.cs s.l.a s.l.n s.l.c ag)(cy:a1 w 8 b1.cs s.p.a s.p.n s.p.c ps)(bB:a1 w 3 aA.cs s.b.a s.b.n s.b.c ay)(aW:w.cell? (aQ,0)=some ↑(ad s.cO))(ae:w.cell? (aQ,1)=some ↑s.l)(ak:w.cell? (aQ,2)=some ↑s.p)(aM:w.cell? (aQ,3)=some ↑s.b):
  aR 313 #[i,aQ] w (cM (.bool (p7 ag ps ay i)) w):=by
 have fM:=Dl aW;dsimp only at fM;have aB9:aQ<(w:Nat)+1:=J;change Hid _ at bL cy bB;cases ae:ag.any (λx=>cf x.id i)with
 |true=>
  change Hid _ at ae;go_enter func313,ntmps313;go_wp2_with (first|(go_at_call 17;refine(ou s ag i _ (bL.ext X)).mono ?_;rintro e w'⟨rfl,cw⟩;have ao:=cw.cell;have bf:aQ<(w':Nat):=hz;have gg:(w:Nat)<(w':Nat):=hz;change Hid _ at cw;rw[ae.out])|(go_at_call 141;refine(vB s ps i _ (cy.ext X)).mono ?_;rintro e w'⟨rfl,cw⟩;have ao:=cw.cell;have bf:aQ<(w':Nat):=hz;have gg:(w:Nat)<(w':Nat):=hz;change Hid _ at cw;rw[dZ.out])|(go_at_call 137;refine(yI s ay i _ (bB.ext X)).mono ?_;rintro e w'⟨rfl,cw⟩;have ao:=cw.cell;have bf:aQ<(w':Nat):=hz;have gg:(w:Nat)<(w':Nat):=hz;change Hid _ at cw;rw[fK.out]));go_ret;refine⟨iW (by rw[W0,ae.out];rfl),?_⟩;exact X
 |false=>
  change Hid _ at ae;cases ak:ps.any (λx=>cf x.id i)with
  |true=>
   change Hid _ at ak;go_enter func313,ntmps313;go_wp2_with (first|(go_at_call 17;refine(ou s ag i _ (bL.ext X)).mono ?_;rintro e w'⟨rfl,cw⟩;have ao:=cw.cell;have bf:aQ<(w':Nat):=hz;have gg:(w:Nat)<(w':Nat):=hz;change Hid _ at cw;rw[ae.out])|(go_at_call 141;refine(vB s ps i _ (cy.ext X)).mono ?_;rintro e w'⟨rfl,cw⟩;have ao:=cw.cell;have bf:aQ<(w':Nat):=hz;have gg:(w:Nat)<(w':Nat):=hz;change Hid _ at cw;rw[ak.out])|(go_at_call 137;refine(yI s ay i _ (bB.ext X)).mono ?_;rintro e w'⟨rfl,cw⟩;have ao:=cw.cell;have bf:aQ<(w':Nat):=hz;have gg:(w:Nat)<(w':Nat):=hz;change Hid _ at cw;rw[fK.out]));go_ret;refine⟨iW (by rw[W0,ae.out,ak.out];rfl),?_⟩;exact X
  |false=>
   change Hid _ at ak;cases aM:ay.any (λx=>cf x i)with
   |true=>
    change Hid _ at aM;go_enter func313,ntmps313;go_wp2_with (first|(go_at_call 17;refine(ou s ag i _ (bL.ext X)).mono ?_;rintro e w'⟨rfl,cw⟩;have ao:=cw.cell;have bf:aQ<(w':Nat):=hz;have gg:(w:Nat)<(w':Nat):=hz;change Hid _ at cw;rw[ae.out])|(go_at_call 141;refine(vB s ps i _ (cy.ext X)).mono ?_;rintro e w'⟨rfl,cw⟩;have ao:=cw.cell;have bf:aQ<(w':Nat):=hz;have gg:(w:Nat)<(w':Nat):=hz;change Hid _ at cw;rw[ak.out])|(go_at_call 137;refine(yI s ay i _ (bB.ext X)).mono ?_;rintro e w'⟨rfl,cw⟩;have ao:=cw.cell;have bf:aQ<(w':Nat):=hz;have gg:(w:Nat)<(w':Nat):=hz;change Hid _ at cw;rw[aM.out]));exact ads
   |false=>
    change Hid _ at aM;go_enter func313,ntmps313;go_wp2_with (first|(go_at_call 17;refine(ou s ag i _ (bL.ext X)).mono ?_;rintro e w'⟨rfl,cw⟩;have ao:=cw.cell;have bf:aQ<(w':Nat):=hz;have gg:(w:Nat)<(w':Nat):=hz;change Hid _ at cw;rw[ae.out])|(go_at_call 141;refine(vB s ps i _ (cy.ext X)).mono ?_;rintro e w'⟨rfl,cw⟩;have ao:=cw.cell;have gg:(w:Nat)<(w':Nat):=hz;change Hid _ at cw;rw[ak.out])|(go_at_call 137;refine(yI s ay i _ (bB.ext X)).mono ?_;rintro e w'⟨rfl,cw⟩;change Hid _ at cw;rw[aM.out]));exact ads
def apI(s:lZ)(ag ps:List b1)(ay:List aA)(fG:bk)(ei lc:Nat)(xs:List bO)(w:aC)(fH:a1 w 8 b1.cs s.l.a s.l.n s.l.c ag)(kz:a1 w 8 b1.cs s.p.a s.p.n s.p.c ps)(br:a1 w 3 aA.cs s.b.a s.b.n s.b.c ay)(iG:ja w fG ei lc xs)(AN:∀p,p∈xs->mo p.d)(hY:s.p.n<=1000000)(k5:ei<=1000000):
  aR 290 #[s,aq fG ei lc] w (apH (pe (p7 ag ps ay) s.p.n (xs.map (·.d))).1 (pe (p7 ag ps ay) s.p.n (xs.map (·.d))).2 w):=by
 obtain⟨ca,aO,gg,ft,pc⟩:=info_parts AM;obtain⟨dc,aJ,tL,oM,lK⟩:=info_parts zE;obtain rfl:=iG.aF.neq;have hm:=iG.aF.max;unfold maxLen at hm;generalize xv:xs.map (·.d)=aX;have Ce:aX.length=xs.length:=by rw[<-xv,cr]
 change Hid _ at xv Ce fH kz br iG AN aO;have bF:=I gg;have bG:=I ft;change Hid _ at pc;have eo:=I aJ;change Hid _ at tL oM lK;clear gg ft aJ;go_enter func290,ntmps290;refine J1 ?_;intro _ _
 go_loopg [6,7,14] (xs.length) (λg e1 rv st wr=>∃(k:Nat) (aw:bk) (m aQ:Nat) (cK:bk) (r uT:Nat) (ys:List bO),g+k=xs.length/\st=.int .i64 k/\e1=.slice aw m aQ/\rv=.slice cK r uT/\
  Hid (Own wr (w.alloc s).heap.size 66 8 bO.cs aw m aQ ys/\ys.map (·.d)=(pe (p7 ag ps ay) s.p.n (aX.take k)).1/\(∀y,y∈ys->fO wr (w.alloc s).heap.size y.x y.d)/\Own wr (w.alloc s).heap.size 54 3 aA.cs cK r uT (pe (p7 ag ps ay) s.p.n (aX.take k)).2)/\Hid (Z (w.alloc s) wr))
 case atStart=>exact⟨0,none,0,0,none,0,0,[],J,rfl,rfl,rfl,⟨Own.nil _ _ _ bO.bH,rfl,(λy hy=>by cases hy),Own.nil _ _ _ aA.bH⟩,Z.refl _⟩
 case round=>
  obtain⟨k,aw,m,aQ,cK,r,uT,ys,_,rfl,rfl,rfl,aE,U⟩:=hrel;by_cases hk:k<xs.length
  ·obtain⟨b,o,rfl,ao⟩:=iG.out.aF.get k hk;have ch:Z w wr:=Z.trans ((Z.refl w).alloc _) U.out;obtain⟨_,_,_,_,_,_,_,_⟩:=pd (w:=wr) (b:=b) (o:=o+k*8) (x:=xs[k].x) (λj v aJ=>ch.ah (ao j v aJ));have lN:wr.cell? (w,0)=some ↑(ad s.cO):=U.out.ah (by simp);have e3:wr.cell? (w,1)=some ↑s.l:=U.out.ah (by simp);have ju:wr.cell? (w,2)=some ↑s.p:=U.out.ah (by simp);have oP:wr.cell? (w,3)=some ↑s.b:=U.out.ah (by simp);have gg:(w:Nat)<(wr:Nat):=by have:=U.out.size;simp at this;omega
   have ft:(w:Nat)<(wr:Nat)+1:=J;have bN:=I ((iG.out.ct xs[k] (c7 hk)).ext ch);have eH:=I (AN.out xs[k] (c7 hk));have k6:k<aX.length:=by rw[Ce.out];exact hk
   have k7:aX[k]=xs[k].d:=by have:=xv.out;subst this;simp
   have uU:=I bN.out.id;have lp:=I (show pe (p7 ag ps ay) s.p.n (aX.take (k+1))=nx (p7 ag ps ay) s.p.n (pe (p7 ag ps ay) s.p.n (aX.take k)) xs[k].d from by rw[apE k6,k7]);have DL:∀i,(pe (p7 ag ps ay) s.p.n (aX.take k)).1.any (λx=>cf x.id i)=(ys.map (·.x)).any (λx=>cf x.id i):=by
    intro i;rw[<-aE.out.2.1,xm,xm];have h:=aE.out.2.2.1;clear aE;induction ys with
    |nil=>rfl
    |cons y l cI=>rw[Nu,Nu,cI (λz bf=>h z (kA _ bf))];simp only[Function.comp];rw[(h y (kh ..)).id]
   have RZ:=I (DL xs[k].x.id);have W3:m+r<=k:=by
    have ae:=aE.out.1.neq;have ak:=eP List.length aE.out.2.1;have aM:=aE.out.2.2.2.neq;have bn:=W2 (p7 ag ps ay) s.p.n (aX.take k) ([],[]);rw[cr]at ak;unfold pe at ak aM;simp at bn;omega
   have vD:=I (show m=(pe (p7 ag ps ay) s.p.n (aX.take k)).1.length by rw[<-aE.out.2.1,cr];exact aE.out.1.neq);clear ao ch k6 k7 DL;refine kt ?_;intro b0 bd;cases ae:p7 ag ps ay xs[k].x.id with
   |true=>
    change Hid _ at ae;go_wp2_with (first|(go_at_call 313;refine(Nt s ag ps ay xs[k].x.id (w:Nat) _ (fH.out.ext (Z.trans ((Z.refl w).alloc _) (Z.trans U.out X))) (kz.out.ext (Z.trans ((Z.refl w).alloc _) (Z.trans U.out X))) (br.out.ext (Z.trans ((Z.refl w).alloc _) (Z.trans U.out X))) (Z.ah (W:=wr) X lN) (Z.ah (W:=wr) X e3) (Z.ah (W:=wr) X ju) (Z.ah (W:=wr) X oP)).mono ?_;rintro e w'⟨rfl,aa⟩;have ao:=aa.cell;have gg:(w:Nat)<(w':Nat):=ow;have ft:(wr:Nat)<(w':Nat):=ow;have cw:=I aa;clear aa;rw[ae.out])|(go_at_call 286;refine(B9 _ _ _ (ys.map (·.x)) xs[k].x.id _ ((a1.map (λp:bO=>p.x) aE.out.1.aF b1.bH).ext X)).mono ?_;rintro e w'⟨rfl,aa⟩;have ao:=aa.cell;have gg:(w:Nat)<(w':Nat):=ow;have ft:(wr:Nat)<(w':Nat):=ow;have cw:=I aa;clear aa;rw[dZ.out])|(go_at_call 201;refine(tN _ _ _ (pe (p7 ag ps ay) s.p.n (aX.take k)).2 xs[k].x.id _ (aE.out.2.2.2.aF.ext X)).mono ?_;rintro e w'⟨rfl,aa⟩;have ao:=aa.cell;have gg:(w:Nat)<(w':Nat):=ow;have ft:(wr:Nat)<(w':Nat):=ow;have cw:=I aa;clear aa;rw[fK.out]));go_roundg (gk - 1);case measure=>omega
    case rel=>exact⟨k+1,aw,m,aQ,cK,r,uT,ys,J,by go_num,rfl,rfl,(by rw[lp.out,W1 (by rw[<-uU.out];rw[ae.out];simp)];exact W4),X⟩
   |false=>
    change Hid _ at ae;cases ak:(ys.map (·.x)).any (λx=>cf x.id xs[k].x.id)with
    |true=>
     change Hid _ at ak;go_wp2_with (first|(go_at_call 313;refine(Nt s ag ps ay xs[k].x.id (w:Nat) _ (fH.out.ext (Z.trans ((Z.refl w).alloc _) (Z.trans U.out X))) (kz.out.ext (Z.trans ((Z.refl w).alloc _) (Z.trans U.out X))) (br.out.ext (Z.trans ((Z.refl w).alloc _) (Z.trans U.out X))) (Z.ah (W:=wr) X lN) (Z.ah (W:=wr) X e3) (Z.ah (W:=wr) X ju) (Z.ah (W:=wr) X oP)).mono ?_;rintro e w'⟨rfl,aa⟩;have ao:=aa.cell;have gg:(w:Nat)<(w':Nat):=ow;have ft:(wr:Nat)<(w':Nat):=ow;have cw:=I aa;clear aa;rw[ae.out])|(go_at_call 286;refine(B9 _ _ _ (ys.map (·.x)) xs[k].x.id _ ((a1.map (λp:bO=>p.x) aE.out.1.aF b1.bH).ext X)).mono ?_;rintro e w'⟨rfl,aa⟩;have ao:=aa.cell;have gg:(w:Nat)<(w':Nat):=ow;have ft:(wr:Nat)<(w':Nat):=ow;have cw:=I aa;clear aa;rw[ak.out])|(go_at_call 201;refine(tN _ _ _ (pe (p7 ag ps ay) s.p.n (aX.take k)).2 xs[k].x.id _ (aE.out.2.2.2.aF.ext X)).mono ?_;rintro e w'⟨rfl,aa⟩;have ao:=aa.cell;have gg:(w:Nat)<(w':Nat):=ow;have ft:(wr:Nat)<(w':Nat):=ow;have cw:=I aa;clear aa;rw[fK.out]));go_roundg (gk - 1);case measure=>omega
     case rel=>exact⟨k+1,aw,m,aQ,cK,r,uT,ys,J,by go_num,rfl,rfl,(by rw[lp.out,W1 (by rw[<-uU.out];rw[ae.out,RZ.out,ak.out];simp)];exact W4),X⟩
    |false=>
     change Hid _ at ak;cases aM:(pe (p7 ag ps ay) s.p.n (aX.take k)).2.any (λx=>cf x xs[k].x.id)with
     |true=>
      change Hid _ at aM;go_wp2_with (first|(go_at_call 313;refine(Nt s ag ps ay xs[k].x.id (w:Nat) _ (fH.out.ext (Z.trans ((Z.refl w).alloc _) (Z.trans U.out X))) (kz.out.ext (Z.trans ((Z.refl w).alloc _) (Z.trans U.out X))) (br.out.ext (Z.trans ((Z.refl w).alloc _) (Z.trans U.out X))) (Z.ah (W:=wr) X lN) (Z.ah (W:=wr) X e3) (Z.ah (W:=wr) X ju) (Z.ah (W:=wr) X oP)).mono ?_;rintro e w'⟨rfl,aa⟩;have ao:=aa.cell;have gg:(w:Nat)<(w':Nat):=ow;have ft:(wr:Nat)<(w':Nat):=ow;have cw:=I aa;clear aa;rw[ae.out])|(go_at_call 286;refine(B9 _ _ _ (ys.map (·.x)) xs[k].x.id _ ((a1.map (λp:bO=>p.x) aE.out.1.aF b1.bH).ext X)).mono ?_;rintro e w'⟨rfl,aa⟩;have ao:=aa.cell;have gg:(w:Nat)<(w':Nat):=ow;have ft:(wr:Nat)<(w':Nat):=ow;have cw:=I aa;clear aa;rw[ak.out])|(go_at_call 201;refine(tN _ _ _ (pe (p7 ag ps ay) s.p.n (aX.take k)).2 xs[k].x.id _ (aE.out.2.2.2.aF.ext X)).mono ?_;rintro e w'⟨rfl,aa⟩;have ao:=aa.cell;have gg:(w:Nat)<(w':Nat):=ow;have ft:(wr:Nat)<(w':Nat):=ow;have cw:=I aa;clear aa;rw[aM.out]));go_roundg (gk - 1);case measure=>omega
      case rel=>exact⟨k+1,aw,m,aQ,cK,r,uT,ys,J,by go_num,rfl,rfl,(by rw[lp.out,W1 (by rw[<-uU.out];rw[ae.out,RZ.out,ak.out,aM.out];simp)];exact W4),X⟩
     |false=>
      change Hid _ at aM;by_cases Ka:s.p.n+m<6
      ·have Kb:(s.p.n:Int)+(m:Int)<6:=J;go_wp2_with (first|(at_builtin;refine hf (ys:=ys) rfl (.tmp 41) (.tmp 44) 42 rfl ca _ 96 underlying42 aO.out bF.out bG.out pc.out rfl af rfl (aE.out.1.ext X) ⟨bX,xs[k].d⟩ _ rfl (fc (cs:=bO.cs ⟨bX,xs[k].d⟩) rfl) (bO.cN _) J af (Z.size X) ?_;intro g dL aY fY bW;have cz:=I fY;have cv:=I bW;clear fY bW)|(go_at_call 314;refine(adr xs[k].x xs[k].d _ (bN.out.ext X) eH.out).mono ?_;rintro e w'⟨bX,rfl,sk,aa⟩;have j4:=aa.size;have ki:=I sk;have cw:=I aa;clear aa sk)|(go_at_call 313;refine(Nt s ag ps ay xs[k].x.id (w:Nat) _ (fH.out.ext (Z.trans ((Z.refl w).alloc _) (Z.trans U.out X))) (kz.out.ext (Z.trans ((Z.refl w).alloc _) (Z.trans U.out X))) (br.out.ext (Z.trans ((Z.refl w).alloc _) (Z.trans U.out X))) (Z.ah (W:=wr) X lN) (Z.ah (W:=wr) X e3) (Z.ah (W:=wr) X ju) (Z.ah (W:=wr) X oP)).mono ?_;rintro e w'⟨rfl,aa⟩;have ao:=aa.cell;have gg:(w:Nat)<(w':Nat):=ow;have ft:(wr:Nat)<(w':Nat):=ow;have cw:=I aa;clear aa;rw[ae.out])|(go_at_call 286;refine(B9 _ _ _ (ys.map (·.x)) xs[k].x.id _ ((a1.map (λp:bO=>p.x) aE.out.1.aF b1.bH).ext X)).mono ?_;rintro e w'⟨rfl,aa⟩;have ao:=aa.cell;have gg:(w:Nat)<(w':Nat):=ow;have ft:(wr:Nat)<(w':Nat):=ow;have cw:=I aa;clear aa;rw[ak.out])|(go_at_call 201;refine(tN _ _ _ (pe (p7 ag ps ay) s.p.n (aX.take k)).2 xs[k].x.id _ (aE.out.2.2.2.aF.ext X)).mono ?_;rintro e w'⟨rfl,aa⟩;have ao:=aa.cell;have gg:(w:Nat)<(w':Nat):=ow;have ft:(wr:Nat)<(w':Nat):=ow;have cw:=I aa;clear aa;rw[aM.out]));go_roundg (gk - 1);case measure=>omega
       case rel=>
        refine⟨k+1,_,_,_,cK,r,uT,ys++[⟨bX,xs[k].d⟩],J,by go_num,rfl,rfl,?_,cv.out.ext (aE.out.1.ext X) (bA _) X⟩;rw[lp.out,apF (by rw[<-uU.out];rw[ae.out,RZ.out,ak.out,aM.out];rfl) (by rw[<-vD.out];exact Ka)];refine⟨cz.out,by rw[gS,aE.out.2.1];rfl,λy hy=>?_,cv.out.AB (aE.out.1.ext X) (aE.out.2.2.2.ext X) af⟩;rcases iR.1 hy with hy|hy
        ·exact((aE.out.2.2.1 y hy).ext X).grow cv.out (aE.out.1.ext X) af af af
        ·obtain rfl:=iH.1 hy;exact((ki.out.mono (Z.size X)).ext X).grow cv.out (aE.out.1.ext X) af af af
      ·skip;go_wp2_with (first|(at_builtin;refine hf (ys:=(pe (p7 ag ps ay) s.p.n (aX.take k)).2) rfl (.tmp 46) (.tmp 49) 31 rfl dc _ 24 underlying31 eo.out tL.out oM.out lK.out rfl af rfl (aE.out.2.2.2.ext X) xs[k].x.id _ rfl (fc (cs:=aA.cs xs[k].x.id) rfl) (aA.cN _) J af (Z.size X) ?_;intro g _ _ fY bW;have cz:=I fY;have cv:=I bW;clear fY bW)|(go_at_call 314;refine(adr xs[k].x xs[k].d _ (bN.out.ext X) eH.out).mono ?_;rintro e w'⟨_,rfl,sk,aa⟩;have j4:=aa.size;have ki:=I sk;have cw:=I aa;clear aa sk)|(go_at_call 313;refine(Nt s ag ps ay xs[k].x.id (w:Nat) _ (fH.out.ext (Z.trans ((Z.refl w).alloc _) (Z.trans U.out X))) (kz.out.ext (Z.trans ((Z.refl w).alloc _) (Z.trans U.out X))) (br.out.ext (Z.trans ((Z.refl w).alloc _) (Z.trans U.out X))) (Z.ah (W:=wr) X lN) (Z.ah (W:=wr) X e3) (Z.ah (W:=wr) X ju) (Z.ah (W:=wr) X oP)).mono ?_;rintro e w'⟨rfl,aa⟩;have ao:=aa.cell;have gg:(w:Nat)<(w':Nat):=ow;have ft:(wr:Nat)<(w':Nat):=ow;have cw:=I aa;clear aa;rw[ae.out])|(go_at_call 286;refine(B9 _ _ _ (ys.map (·.x)) xs[k].x.id _ ((a1.map (λp:bO=>p.x) aE.out.1.aF b1.bH).ext X)).mono ?_;rintro e w'⟨rfl,aa⟩;have ao:=aa.cell;have gg:(w:Nat)<(w':Nat):=ow;have ft:(wr:Nat)<(w':Nat):=ow;have cw:=I aa;clear aa;rw[ak.out])|(go_at_call 201;refine(tN _ _ _ (pe (p7 ag ps ay) s.p.n (aX.take k)).2 xs[k].x.id _ (aE.out.2.2.2.aF.ext X)).mono ?_;rintro e w'⟨rfl,aa⟩;have ao:=aa.cell;have cw:=I aa;clear aa;rw[aM.out]));go_roundg (gk - 1);case measure=>omega
       case rel=>
        refine⟨k+1,aw,m,aQ,_,_,_,ys,J,by go_num,rfl,rfl,?_,cv.out.ext (aE.out.2.2.2.ext X) (bA _) X⟩;rw[lp.out,apG (by rw[<-uU.out];rw[ae.out,RZ.out,ak.out,aM.out];rfl) (by rw[<-vD.out];exact Ka)];exact⟨cv.out.AB (aE.out.2.2.2.ext X) (aE.out.1.ext X) af,aE.out.2.1,λy hy=>((aE.out.2.2.1 y hy).ext X).grow cv.out (aE.out.2.2.2.ext X) af af af,by rw[<-uU.out];exact cz.out⟩
  ·have b9:aX.take k=aX:=ir (by rw[Ce.out];omega);rw[b9]at aE;clear b9;go_wp2;rw[nJ];go_ret2;exact⟨aw,m,aQ,cK,r,uT,ys,rfl,fx.mono ⟨aE.out.1,λp aV=>aE.out.2.2.1 p aV⟩ (by simp),aE.out.2.1,aE.out.2.2.2.mono (by simp),X⟩
section
attribute [local go_sem ↓] Go.wp_at_zero Go.wp_at_succ
def pf:ky:=⟨0,0,⟨none,0,0⟩,⟨none,0,0⟩,⟨none,0,0⟩,⟨none,0,0⟩,⟨none,0,0⟩,⟨none,0,0⟩⟩
end
section
section
variable {α:Type}{w w':World}{base:Nat}{e:TypeId}{sz:Nat}{c:α->List Value}{aw:Option Addr}{n cap:Nat}{ys:List α}
def vE{o:Oper}{a:Act}{K:Act->aC->Prop}{E:Prop}(np:o.guard=none)(s x:Operand)(t:TypeId)(aK:o.op=.call {callee:=.builtin .append,args:=#[s,x],argTypes:=#[t,t]})(i:TypeInfo)(z:Value)(bytes:Nat)(a6:P.underlying t=some (.slice e))(aO:P.info? e=some i)(bf:i.zero=some z)(yB:i.size=sz)(wy:i.bytes=bytes)(yC:z.cells.size=sz)(fS:0<sz)(hs:a.eval s=.slice aw n cap)(aE:Own w base e sz c aw n cap ys)(y:α)(H:Nat)(U:a.eval x=.slice (some ⟨H,0,.none⟩) 1 1)(Wq:∀j u,(c y)[j]?=some u->w.cell? ⟨H,j,.none⟩=some u)(ae:∀u∈c y,u.oneCell'=true)(an:(n+1)*bytes<=140737488355328)(j4:0<bytes)(BX:base<=(w:Nat))(h:∀g dL w',Own w' base e sz c (some ⟨g,0,.none⟩) (n+1) dL (ys++[y])->lH w w' aw g->
   K (a.put o.dst (.slice (some ⟨g,0,.none⟩) ((n+1:Nat):Nat) dL)) w'):
  if Region.wanted o (yielded ops a.tmps)=true then Oper.wp P o a w K Q else E:=by
 have Dp:∀j,(⟨H,0,.none⟩:Addr).add j=⟨H,j,.none⟩:=λj=>by unfold Addr.add;split<;>simp_all
 refine step_append_lies w np s x t aK base e i z sz bytes a6 aO bf yB wy yC fS (aq aw n cap) n (ys.flatMap c) hs aE.row ⟨H,0,.none⟩ 1 1 (c y) U (by rw[aE.bH];omega)
  (λj u aJ=>by rw[Dp];exact Wq j u aJ) ae J ?_ an BX _ rfl ?_
 exact abV
 ·intro g dL w' o6 bW jR _
  refine h g dL w' ⟨by rw[xk,MK];exact o6,by rw[cH,<-aE.neq];rfl,aE.bH⟩
   ⟨bW.os,bW.tape,bW.output,bW.size,λb aa di=>bW.block b aa (λe=>?_),?_⟩
  exact Ri;exact Rj
end
structure yK (w w':World) (B:Nat) (aw:Option Addr):Prop where
 os:w'.os=w.os
 tape:w'.tape=w.tape
 output:w'.output=w.output
 size:w.heap.size<=w'.heap.size
 block:∀b,b<w.heap.size->b≠B->(∀ai,aw=some ai->ai.block≠b)->w'.heap[b]? =w.heap[b]?
def yK.of{w w1 aN:aC}{aw:bk}(U:Z w w1)(bu:lH w1 aN aw g)(ai:Addr)(v:Value):yK w (aN.setCell ai v) ai.block aw:=by
 have hs:Below 0 aN (aN.setCell ai v):=Below.setCell (Below.refl 0 aN) (hX _) v;refine⟨hs.os.trans (bu.os.trans U.os),hs.tape.trans (bu.tape.trans U.tape),hs.output.trans (bu.output.trans U.output),?_,λb aa di aj=>?_⟩
 ·have:=U.size;have:=bu.size;have:=hs.size;omega
 ·rw[Below.heap_setCell aN ai v b di];exact(bu.block b Rh aj).trans (U.block b aa)
def yK.ext{W w w':aC}{aw:bk}(h:yK w w' B aw)(U:Z W w)(br:(W:Nat)<=B)(aj:∀ai,aw=some ai->(W:Nat)<=ai.block):Z W w':=
 Below.trans U ⟨h.os,h.tape,h.output,h.size,λk hk=>h.block k Rh J (λai he=>by have:=aj ai he;omega)⟩
def yK.bI{α:Type}{w w':aC}{base:Nat}{e:TypeId}{sz:Nat}{c:α->List Value}{cK aw:bk}{n cap:Nat}{ys:List α}(h:yK w w' B aw)(aE:Own w base e sz c cK n cap ys)(br:B<base)(aD:oo aw cK):Own w' base e sz c cK n cap ys:=
 aE.ah λai aj=>h.block _ (aE.lt ai aj).2 (by have:=(aE.lt ai aj).1;omega) (λx U=>aD x ai U aj)
def yK.Kh{α:Type}{w w':aC}{base:Nat}{e:TypeId}{sz:Nat}{c:α->List Value}{aw:bk}{n cap:Nat}{cq:List α}(h:yK w w' B aw)(he:fO w base x d)(ax:Own w aDn e sz c aw n cap cq)(br:B<base)(ae:e≠154)(ak:e≠34)(aM:e≠77):fO w' base x d:=
 let ⟨ys,q,o,a⟩:=he.e
 ⟨he.k,he.id,he.c,he.u,h.bI he.f br (ax.gQ he.f ae),ys,q,h.bI o br (ax.gQ o ak),λy hy=>h.bI (a y hy) br (ax.gQ (a y hy) aM)⟩
def fO.jD{w:aC}{base:Nat}(h:fO w base x d){p:Addr}(aV:p.block<base)(u:Value):fO (w.setCell p u) base x d:=
 let ⟨ys,q,o,a⟩:=h.e
 ⟨h.k,h.id,h.c,h.u,h.f.jD aV u,ys,q,o.jD aV u,λy hy=>(a y hy).jD aV u⟩
end
section
attribute [local go_sem ↓] Go.wp_at_zero Go.wp_at_succ
def R0(aS:List bg)(w:World)(e:Ending)(w':World):Prop:=
 ∃aw n c ps,e=.returned (.slice aw n c)/\Own w' w.heap.size 66 8 bO.cs aw n c ps/\(∀p,p∈ps->fO w' w.heap.size p.x p.d)/\ps.map (·.d)=aS/\Z w w'
def W5(fG:bk)(ei lc:Nat)(xs:List bO)(w:aC)(bU:ja w fG ei lc xs)(DM:∀p,p∈xs->mo p.d)(k5:ei<=1000000):
  aR 262 #[aq fG ei lc] w (R0 (xs.map (·.d)) w):=by
 obtain⟨ca,bJ,bF,bG,bK⟩:=info_parts AM;obtain rfl:=bU.aF.neq;have hm:=bU.aF.max;unfold maxLen at hm;change Hid _ at bU DM bJ bF bG bK;go_enter func262,ntmps262;go_wp2_with fail;refine adt ?round;intro gk wr u3 u5 u8 u9 u10 u11 u12 u13 u14 u15 u16 u17 hrel _ _ _ _;case round=>
  obtain⟨k,aw,m,aQ,ys,_,rfl,rfl,aE,U⟩:=hrel;by_cases hk:k<xs.length
  ·obtain⟨b,o,rfl,ao⟩:=bU.aF.get k hk;refine W6 ?_;intro cT c1 c2 da dJ dw eC eK bN eH;refine adu ?_;intro hi;obtain rfl:k=m:=hi.symm;refine adv ?_;intro lp;clear ao;refine kt ?_;intro b0 bd;go_wp2_with (first|(go_at_call 264;refine(RY xs[k].x xs[k].d _ (bN.ext X) eH).mono ?_;rintro e w'⟨bX,rfl,ki,cw⟩;change Hid _ at ki cw)|(at_builtin;refine hf (ys:=ys) rfl _ _ 42 rfl ca _ 96 underlying42 bJ bF bG bK rfl af rfl (aE.out.1.ext X) ⟨bX,xs[k].d⟩ _ rfl (fc (cs:=bO.cs ⟨bX,xs[k].d⟩) rfl) (bO.cN _) J af (Z.size X) ?_;intro g _ _ fY bW;have cz:=I fY;have cv:=I bW;clear fY bW));exact adw
  ·refine se ?_;intro b9;exact adx
def wH(ab:List aA)(out:List aA)(i:aA):List aA:=if out.length<16/\ab.any (λx=>cf x i)=true/\out.any (λx=>cf x i)=false then out++[i] else out
def wI(ab:List aA)(l:List aA):List aA:=l.foldl (wH ab) []
def apJ{ab:List aA}{l:List b1}{k:Nat}(hk:k<l.length):wI ab ((l.take (k+1)).map (·.id))=wH ab (wI ab ((l.take k).map (·.id))) l[k].id:=by
 unfold wI;rw[List.take_succ_eq_append_getElem hk,List.map_append,List.foldl_append];rfl
def apK(ha:bk)(h2 gG:Nat)(ay:List aA)(fG:bk)(ei lc:Nat)(xs:List b1)(w:aC)(bB:a1 w 3 aA.cs ha h2 gG ay)(bU:a1 w 8 b1.cs fG ei lc xs):
  aR 227 #[aq ha h2 gG,aq fG ei lc] w (Dq 3 aA.cs (wI ay (xs.map (·.id))) w):=by
 obtain⟨ca,bJ,bF,bG,bK⟩:=info_parts zE;obtain rfl:=bU.neq;obtain rfl:=bB.neq;have hm:=bU.max;have aT:=bU.len;unfold maxLen at hm;change Hid _ at bU bB bJ bF bG bK;go_enter func227,ntmps227;go_wp2_with fail
 go_loopg [5,10] (xs.length) (λg e1 st wr=>∃(k:Nat) (aw:bk) (m aQ:Nat),g+k=xs.length/\st=.int .i64 k/\e1=.slice aw m aQ/\
  Hid (Own wr w 54 3 aA.cs aw m aQ (wI ay ((xs.take k).map (·.id))))/\Hid (Z w wr))
 case atStart=>exact⟨0,none,0,0,J,rfl,rfl,Own.nil _ _ _ aA.bH,Z.refl _⟩
 case round=>
  obtain⟨k,aw,m,aQ,_,rfl,rfl,aE,U⟩:=hrel;by_cases hk:k<xs.length
  ·obtain⟨b,o,rfl,ao⟩:=bU.get k hk;obtain⟨_,_,_,_,_,_,_,_⟩:=pd (w:=wr) (b:=b) (o:=o+k*8) (x:=xs[k]) (λj v aJ=>U.ah (ao j v aJ));have lp:=I (apJ (ab:=ay) hk);have vD:=I aE.neq;have dc:(wr.alloc ((xs[k]:Obj))).cell? (wr,1)=some ↑xs[k].id.b:=aI (heap_alloc_new _ _) rfl;have fL:(wr.alloc ((xs[k]:Obj))).cell? (wr,2)=some ↑(ad xs[k].id.l):=aI (heap_alloc_new _ _) rfl;have dS:(wr.alloc ((xs[k]:Obj))).cell? (wr,3)=some ↑(ad xs[k].id.s):=aI (heap_alloc_new _ _) rfl;clear ao;refine kt ?_;intro b0 bd;by_cases ny:m<16
   ·have apL:(m:Int)<16:=J;cases lY:ay.any (λx=>cf x xs[k].id)with
    |false=>
     have dA:=I lY;clear lY;go_wp2_with (go_at_call_of 201 (Value.slice ha ay.length gG);refine(tN _ _ _ ay xs[k].id _ (bB.ext X)).mono ?_;rintro e cY⟨he,aa⟩;rw[dA.out]at he;subst he;have gH:=I aa;have dc:=aa.ah dc;have fL:=aa.ah fL;have dS:=aa.ah dS;clear aa);go_roundg (gk - 1);case measure=>omega
     case rel=>exact⟨k+1,aw,m,aQ,J,by go_num,rfl,(by rw[lp.out];unfold wH;rw[if_neg (λc=>by(rw[dA.out]at c;exact absurd c.2.1 af))];exact aE.ext X),X⟩
    |true=>
     have dA:=I lY;clear lY;cases hC:(wI ay ((xs.take k).map (·.id))).any (λx=>cf x xs[k].id)with
     |true=>
      have cn:=I hC;clear hC;go_wp2_with (first|(go_at_call_of 201 (Value.slice ha ay.length gG);refine(tN _ _ _ ay xs[k].id _ (bB.ext X)).mono ?_;rintro e cY⟨he,aa⟩;rw[dA.out]at he;subst he;have gH:=I aa;have dc:=aa.ah dc;have fL:=aa.ah fL;have dS:=aa.ah dS;clear aa)|(go_at_call_of 201 (Value.slice aw m aQ);refine(tN _ _ _ (wI ay ((xs.take k).map (·.id))) xs[k].id _ (aE.aF.ext X)).mono ?_;rintro e cY⟨he,aa⟩;rw[cn.out]at he;subst he;have mw:=I aa;have dc:=aa.ah dc;have fL:=aa.ah fL;have dS:=aa.ah dS;clear aa));go_roundg (gk - 1);case measure=>omega
      case rel=>exact⟨k+1,aw,m,aQ,J,by go_num,rfl,(by rw[lp.out];unfold wH;rw[if_neg (λc=>by(rw[cn.out]at c;exact absurd c.2.2 af))];exact aE.ext X),X⟩
     |false=>
      have cn:=I hC;clear hC;go_wp2_with (first|(go_at_call_of 201 (Value.slice ha ay.length gG);refine(tN _ _ _ ay xs[k].id _ (bB.ext X)).mono ?_;rintro e cY⟨he,aa⟩;rw[dA.out]at he;subst he;have gH:=I aa;have dc:=aa.ah dc;have fL:=aa.ah fL;have dS:=aa.ah dS;clear aa)|(go_at_call_of 201 (Value.slice aw m aQ);refine(tN _ _ _ (wI ay ((xs.take k).map (·.id))) xs[k].id _ (aE.aF.ext X)).mono ?_;rintro e _⟨he,aa⟩;rw[cn.out]at he;subst he;have mw:=I aa;have dc:=aa.ah dc;have fL:=aa.ah fL;have dS:=aa.ah dS;clear aa)|(at_builtin;refine hf (ys:=wI ay ((xs.take k).map (·.id))) rfl _ _ 31 rfl ca _ 24 underlying31 bJ bF bG bK rfl af rfl (aE.ext X) xs[k].id _ rfl (fc (cs:=aA.cs xs[k].id) rfl) (aA.cN _) J af (Z.size X) ?_;intro g _ _ jt bW;have dn:=I jt;have cv:=I bW;clear jt bW));go_roundg (gk - 1);case measure=>omega
      case rel=>exact⟨k+1,_,_,_,J,by go_num,rfl,(by rw[lp.out];unfold wH;rw[if_pos ⟨by rw[<-vD.out];exact ny,dA,cn⟩];exact dn),cv.ext (aE.ext X) (Nat.le_refl _) X⟩
   ·have apL:¬(m:Int)<16:=J;go_wp2_with fail;go_roundg (gk - 1);case measure=>omega
    case rel=>exact⟨k+1,aw,m,aQ,J,by go_num,rfl,(by rw[lp.out];unfold wH;rw[if_neg (λc=>by(have:=c.1;have:=vD.out;omega))];exact aE.ext X),X⟩
  ·refine se ?_;intro b9;rw[b9]at aE;clear b9;go_wp2;go_ret;exact⟨aw,m,aQ,rfl,aE.aF,X⟩
end
section
attribute [local go_sem ↓] Go.wp_at_zero Go.wp_at_succ
def ja.part(h:ja w (some (b,o)) n cap ps)(k m:Nat)(hk:k+m<=n):ja w (some (b,o+k*8)) m (cap - k) ((ps.drop k).take m):=
 ⟨⟨by rw[o9,Dx];have:=h.aF.neq;omega,by have:=h.aF.len;omega,by have:=h.aF.max;omega,(λe=>by cases e),h.aF.bH,λj x aJ=>by
  rw[List.getElem?_take]at aJ;split at aJ
  ·rw[RF]at aJ;obtain⟨_,_,aa,ao⟩:=h.aF.at_ _ _ aJ;cases aa;exact⟨b,o+k*8,rfl,by rw[show o+k*8+j*8=o+(k+j)*8 from by omega];exact ao⟩
  ·cases aJ⟩,λp aV=>h.ct p (HI (AO aV))⟩
def ja.apM(h:ja w a n cap ps)(aW:0<n):∃b o,a=some ⟨b,o,none⟩:=by
 obtain⟨b,o,aa,_⟩:=h.aF.get 0 (by rw[<-h.aF.neq];exact aW);exact⟨b,o,aa⟩
def apN(fG:bk)(ei lc:Nat)(xs:List bO)(v:Nat)(w:aC)(bU:ja w fG ei lc xs)(eH:∀p,p∈xs->mo p.d)(k5:ei<=1000000):
  aR 225 #[aq fG ei lc,ad v] w (R0 (((xs.drop v).take 4).map (·.d)) w):=by
 have eu:=bU.aF.neq;have hm:=bU.aF.max;have aT:=bU.aF.len;unfold maxLen at hm;by_cases bo:ei<=v
 ·have DN:(ei:Int)<=(v:Int):=J;have e:(xs.drop v).take 4= []:=by rw[MU J];rfl
  rw[e];clear bU e eu;go_enter func225,ntmps225;go_wp2;go_ret;exact⟨none,0,0,[],rfl,Own.nil _ _ _ bO.bH,(λp aV=>by cases aV),rfl,X⟩
 ·have DN:¬(ei:Int)<=(v:Int):=J;obtain⟨b,o,rfl⟩:=bU.apM J;change Hid _ at bU eu eH;by_cases bn:ei - v<=4
  ·have Nv:((ei - v:Nat):Int)<=4:=J;have OM:min ((ei - v:Nat):Int) 4=((ei - v:Nat):Int):=J;have e:(xs.drop v).take 4=(xs.drop v).take (ei - v):=by
    have:=eu.out;rw[ir (by rw[Dx];omega),ir (by rw[Dx];omega)]
   rw[e];clear e;go_enter func225,ntmps225;go_wp2_with (go_at_call 262;refine(W5 _ _ _ ((xs.drop v).take (ei - v)) _ (bU.part v (ei - v) J) (λp aV=>eH p (HI (AO aV))) J).mono ?_;rintro e w'⟨aw,n,c,ps,rfl,H1,dZ,fK,gu⟩;change Hid _ at H1 dZ fK gu);go_ret;exact⟨aw,n,c,ps,rfl,H1,dZ,fK,gu⟩
  ·have Nv:¬((ei - v:Nat):Int)<=4:=J;have OM:min ((ei - v:Nat):Int) 4=4:=J;go_enter func225,ntmps225;go_wp2_with (go_at_call 262;refine(W5 _ _ _ ((xs.drop v).take 4) _ (bU.part v 4 J) (λp aV=>eH p (HI (AO aV))) J).mono ?_;rintro e w'⟨aw,n,c,ps,rfl,H1,dZ,fK,gu⟩;change Hid _ at H1 dZ fK gu);go_ret;exact⟨aw,n,c,ps,rfl,H1,dZ,fK,gu⟩
end
section
attribute [local go_sem ↓] Go.wp_at_zero Go.wp_at_succ
def yL(ag:List b1)(ay:List aA)(i:aA):Bool:=ag.any (λx=>cf x.id i)||ay.any (λx=>cf x i)
def apO(ag:List b1)(ay:List aA)(i:aA):yL ag ay i=(ag.any (λx=>cf x.id i)||ay.any (λx=>cf x i)):=rfl
def pg(dj:aA->Bool)(st:List bg×List bg)(d:bg):List bg×List bg:=
 if (dj d.id||st.1.any (λx=>cf x.id d.id)||st.2.any (λx=>cf x.id d.id))=true then st
 else if d.k=1 then (if st.1.length<4 then (st.1++[d],st.2) else st) else (st.1,st.2++[d])
def s5(dj:aA->Bool)(o:List bg)(aX:List bg):List bg×List bg:=aX.foldl (pg dj) (o,[])
def apP{o:List bg}{k:Nat}(hk:k<aX.length):s5 dj o (aX.take (k+1))=pg dj (s5 dj o (aX.take k)) aX[k]:=by
 unfold s5;exact Ca
def apQ(h:(dj d.id||st.1.any (λx=>cf x.id d.id)||st.2.any (λx=>cf x.id d.id))=true):pg dj st d=st:=by
 unfold pg;rw[if_pos h]
def apR(h:(dj d.id||st.1.any (λx=>cf x.id d.id)||st.2.any (λx=>cf x.id d.id))=false)(hk:d.k≠1):pg dj st d=(st.1,st.2++[d]):=by
 unfold pg;rw[if_neg (by rw[h];decide),if_neg hk]
def apS(h:(dj d.id||st.1.any (λx=>cf x.id d.id)||st.2.any (λx=>cf x.id d.id))=false)(hk:d.k=1)(an:st.1.length<4):pg dj st d=(st.1++[d],st.2):=by
 unfold pg;rw[if_neg (by rw[h];decide),if_pos hk,if_pos an]
def apT(h:(dj d.id||st.1.any (λx=>cf x.id d.id)||st.2.any (λx=>cf x.id d.id))=false)(hk:d.k=1)(an:¬st.1.length<4):pg dj st d=st:=by
 unfold pg;rw[if_neg (by rw[h];decide),if_pos hk,if_neg an]
def ady(dj:aA->Bool):∀(l:List bg) (st:List bg×List bg),(l.foldl (pg dj) st).1.length+(l.foldl (pg dj) st).2.length<=st.1.length+st.2.length+l.length
 | [],_=>bA _
 |d::l,st=>by
  rw[mM]
  refine eh (ady dj l _) ?_
  unfold pg
  rw[mv]
  split
  ·omega
  ·split
   ·split
    ·rw[cH];simp;omega
    ·omega
   ·rw[cH];simp;omega
def apU(aS hZ:List bg)(w:World)(e:Ending)(w':World):Prop:=
 ∃aw n c ps cK m q c3,e=.returned (.tuple #[aq aw n c,aq cK m q])/\fx w' w.heap.size aw n c ps/\ps.map (·.d)=aS/\fx w' w.heap.size cK m q c3/\c3.map (·.d)=hZ/\Z w w'
def R1{l:List bO}{i:aA}(hm:l.map (·.d)=aX)(h:∀p,p∈l->p.x.id=p.d.id):(l.map (·.x)).any (λx=>cf x.id i)=aX.any (λx=>cf x.id i):=by
 subst hm;rw[xm,xm];induction l with
 |nil=>rfl
 |cons y l cI=>rw[Nu,Nu,cI (λz bf=>h z (kA _ bf))];simp only[Function.comp];rw[h y (kh ..)]
def apV(s:lZ)(ag:List b1)(ay:List aA)(fF:bk)(on fZ:Nat)(os:List bO)(fG:bk)(ei lc:Nat)(xs:List bO)(w:aC)(bL:a1 w 8 b1.cs s.l.a s.l.n s.l.c ag)(bB:a1 w 3 aA.cs s.b.a s.b.n s.b.c ay)(ba:ja w fF on fZ os)(adz:∀p,p∈os->mo p.d)(bU:ja w fG ei lc xs)(DM:∀p,p∈xs->mo p.d)(hY:on<=1000000)(k5:ei<=1000000):
  aR 206 #[s,aq fF on fZ,aq fG ei lc] w (apU (s5 (yL ag ay) (os.map (·.d)) (xs.map (·.d))).1 (s5 (yL ag ay) (os.map (·.d)) (xs.map (·.d))).2 w):=by
 obtain⟨ca,bJ,bF,bG,bK⟩:=info_parts AM;obtain rfl:=bU.aF.neq;have hm:=bU.aF.max;unfold maxLen at hm;generalize xv:xs.map (·.d)=aX;have HJ:aX.length=xs.length:=by rw[<-xv,cr]
 have R2:os.length=on:=ba.aF.neq.symm;change Hid _ at xv HJ R2 bL bB ba adz bU DM bJ bF bG bK;go_enter func206,ntmps206;go_wp2_with fail;go_step3;go_wp2_with fail;have gL:(w.alloc s).heap[(w:Nat)]?=some (s:Obj):=hT;refine(W5 fF on fZ os (w.alloc s) (ba.ext ((Z.refl w).alloc _)) adz hY).mono ?_;rintro e _⟨vF,kB,kj,cs,rfl,FQ,adA,W7,bw⟩;have a0:Hid ((w.alloc s).cell? (w,0)=some ↑(ad s.cO)):=aI gL rfl;have cL:Hid ((w.alloc s).cell? (w,1)=some ↑s.l):=aI gL rfl;have cE:Hid ((w.alloc s).cell? (w,2)=some ↑s.p):=aI gL rfl;have a3:Hid ((w.alloc s).cell? (w,3)=some ↑s.b):=aI gL rfl;change Hid _ at bw FQ adA W7;clear gL;generalize W8:os.map (·.d)=D0 at W7 ⊢;have R3:=I W8;have aCa:D0.length<=1000000:=by rw[<-W8,cr];have:=R2.out;omega
 clear W8;go_wp2_with fail;go_step3;go_wp2_with fail
 go_loopg [8,9,16] (xs.length) (λg e1 DO st wr=>∃(k:Nat) (aw:bk) (m aQ:Nat) (ys:List bO) (cK:bk) (r uT:Nat) (cq:List bO),g+k=xs.length/\st=.int .i64 k/\e1=.slice aw m aQ/\DO=.slice cK r uT/\
  Hid (Own wr (w.alloc s).heap.size 66 8 bO.cs aw m aQ ys/\Own wr (w.alloc s).heap.size 66 8 bO.cs cK r uT cq/\oo aw cK/\ys.map (·.d)=(s5 (yL ag ay) D0 (aX.take k)).1/\cq.map (·.d)=(s5 (yL ag ay) D0 (aX.take k)).2/\(∀y,y∈ys->fO wr (w.alloc s).heap.size y.x y.d)/\(∀y,y∈cq->fO wr (w.alloc s).heap.size y.x y.d))/\Hid (Z (w.alloc s) wr))
 case atStart=>exact⟨0,vF,kB,kj,cs,none,0,0,[],J,rfl,rfl,rfl,⟨FQ,Own.nil _ _ _ bO.bH,(oo.nil _).symm,W7,rfl,adA,(λy hy=>by cases hy)⟩,bw⟩
 case round=>
  obtain⟨k,aw,m,aQ,ys,cK,r,uT,cq,_,rfl,rfl,rfl,aE,U⟩:=hrel;by_cases hk:k<xs.length
  ·obtain⟨b,o,rfl,ao⟩:=bU.aF.get k hk;have ch:Z w wr:=Z.trans ((Z.refl w).alloc _) U;obtain⟨_,_,_,_,_,_,_,_⟩:=pd (w:=wr) (b:=b) (o:=o+k*8) (x:=xs[k].x) (λj v aJ=>ch.ah (ao j v aJ));have bN:=I ((bU.ct xs[k] (c7 hk)).ext ch);have eH:=I (DM xs[k] (c7 hk));have k6:k<aX.length:=by rw[HJ.out];exact hk
   have k7:aX[k]=xs[k].d:=by have:=xv.out;subst this;simp
   have uU:=I bN.id;have zA:=I bN.k;have lp:=I (show s5 (yL ag ay) D0 (aX.take (k+1))=pg (yL ag ay) (s5 (yL ag ay) D0 (aX.take k)) xs[k].d from by rw[apP k6,k7]);have p8:=I (R1 (i:=xs[k].x.id) aE.out.2.2.2.1 (λp aV=>(aE.out.2.2.2.2.2.1 p aV).id));have eM:=I (R1 (i:=xs[k].x.id) aE.out.2.2.2.2.1 (λp aV=>(aE.out.2.2.2.2.2.2 p aV).id));have W3:m+r<=1000000+k:=by
    have ae:=aE.out.1.neq;have ak:=eP List.length aE.out.2.2.2.1;have aM:=aE.out.2.1.neq;have ey:=eP List.length aE.out.2.2.2.2.1;have bn:=ady (yL ag ay) (aX.take k) (D0,[]);rw[cr]at ak ey;unfold s5 at ak ey;simp at bn;omega
   have vD:=I (show m=(s5 (yL ag ay) D0 (aX.take k)).1.length by rw[<-aE.out.2.2.2.1,cr];exact aE.out.1.neq);have iS:=(Z.refl wr).alloc xs[k].x;have gn:=iS.ah (U.ah a0);have q1:=iS.ah (U.ah cL);have dP:=iS.ah (U.ah cE);have fp:=iS.ah (U.ah a3);refine adB ?_;intro gp dc fL dS k1 j5 l1 l2 l3;change Hid _ at iS;clear ao ch k6 k7 gp;refine kt ?_;intro b0 bd;go_upto_region 6 with (fail);go_cut [41] (λc fD=>∃K:Bool,c=.bool K/\Hid (((ag.any (λx:b1=>cf x.id xs[k].x.id)||ay.any (λx:aA=>cf x xs[k].x.id))||(ys.map (·.x)).any (λx:b1=>cf x.id xs[k].x.id)||(cq.map (·.x)).any (λx:b1=>cf x.id xs[k].x.id))=K)/\Hid (Z wr fD)/\(wr:Nat)<(fD:Nat)/\fD.cell? (wr,0)=some ↑xs[k].x.k/\fD.cell? (wr,1)=some ↑xs[k].x.id.b/\fD.cell? (wr,2)=some ↑(ad xs[k].x.id.l)/\fD.cell? (wr,3)=some ↑(ad xs[k].x.id.s)/\fD.cell? (wr,4)=some ↑xs[k].x.c/\fD.cell? (wr,5)=some ↑(ad xs[k].x.u)/\fD.cell? (wr,6)=some ↑xs[k].x.f/\fD.cell? (wr,7)=some ↑xs[k].x.e);case first=>
    as_aux_lemma=>
     cases lY:ag.any (λx:b1=>cf x.id xs[k].x.id)with
     |true=>
      have dA:=I lY;clear lY;go_wp2_with (go_at_call 17;refine(ou s ag xs[k].x.id _ (bL.ext X)).mono ?_;rintro e cY⟨he,hN⟩;rw[dA.out]at he;subst he;have gn:=hN.ah gn;have q1:=hN.ah q1;have dP:=hN.ah dP;have fp:=hN.ah fp;have dc:=hN.ah dc;have fL:=hN.ah fL;have dS:=hN.ah dS;have k1:=hN.ah k1;have j5:=hN.ah j5;have l1:=hN.ah l1;have l2:=hN.ah l2;have l3:=hN.ah l3;have yM:(wr:Nat)<(cY:Nat):=R4;change Hid _ at hN);go_meet;exact⟨_,rfl,I (by rw[dA.out];rfl),X,yM,dc,fL,dS,k1,j5,l1,l2,l3⟩
     |false=>
      have dA:=I lY;clear lY;cases br:ay.any (λx:aA=>cf x xs[k].x.id)with
      |true=>
       have o8:=I br;clear br;go_wp2_with (first|(go_at_call 17;refine(ou s ag xs[k].x.id _ (bL.ext X)).mono ?_;rintro e cY⟨he,hN⟩;rw[dA.out]at he;subst he;have gn:=hN.ah gn;have q1:=hN.ah q1;have dP:=hN.ah dP;have fp:=hN.ah fp;have dc:=hN.ah dc;have fL:=hN.ah fL;have dS:=hN.ah dS;have k1:=hN.ah k1;have j5:=hN.ah j5;have l1:=hN.ah l1;have l2:=hN.ah l2;have l3:=hN.ah l3;have yM:(wr:Nat)<(cY:Nat):=R4;change Hid _ at hN)|(go_at_call 137;refine(yI s ay xs[k].x.id _ (bB.ext X)).mono ?_;rintro e cY⟨he,iS⟩;rw[o8.out]at he;subst he;have gn:=iS.ah gn;have q1:=iS.ah q1;have dP:=iS.ah dP;have fp:=iS.ah fp;have dc:=iS.ah dc;have fL:=iS.ah fL;have dS:=iS.ah dS;have k1:=iS.ah k1;have j5:=iS.ah j5;have l1:=iS.ah l1;have l2:=iS.ah l2;have l3:=iS.ah l3;have yM:(wr:Nat)<(cY:Nat):=W9;change Hid _ at iS));go_meet;exact⟨_,rfl,I (by rw[dA.out,o8.out];rfl),X,yM,dc,fL,dS,k1,j5,l1,l2,l3⟩
      |false=>
       have o8:=I br;clear br;cases hC:(ys.map (·.x)).any (λx:b1=>cf x.id xs[k].x.id)with
       |true=>
        have cn:=I hC;clear hC;go_wp2_with (first|(go_at_call 17;refine(ou s ag xs[k].x.id _ (bL.ext X)).mono ?_;rintro e cY⟨he,hN⟩;rw[dA.out]at he;subst he;have gn:=hN.ah gn;have q1:=hN.ah q1;have dP:=hN.ah dP;have fp:=hN.ah fp;have dc:=hN.ah dc;have fL:=hN.ah fL;have dS:=hN.ah dS;have k1:=hN.ah k1;have j5:=hN.ah j5;have l1:=hN.ah l1;have l2:=hN.ah l2;have l3:=hN.ah l3;have yM:wr.heap.size<cY.heap.size:=R4;change Hid _ at hN)|(go_at_call 137;refine(yI s ay xs[k].x.id _ (bB.ext X)).mono ?_;rintro e cY⟨he,iS⟩;rw[o8.out]at he;subst he;have gn:=iS.ah gn;have q1:=iS.ah q1;have dP:=iS.ah dP;have fp:=iS.ah fp;have dc:=iS.ah dc;have fL:=iS.ah fL;have dS:=iS.ah dS;have k1:=iS.ah k1;have j5:=iS.ah j5;have l1:=iS.ah l1;have l2:=iS.ah l2;have l3:=iS.ah l3;have yM:wr.heap.size<cY.heap.size:=W9;change Hid _ at iS)|(go_at_call_of 263 (Value.slice aw m aQ);refine(WY _ _ _ (ys.map (·.x)) xs[k].x.id _ ((a1.map (λp:bO=>p.x) aE.out.1.aF b1.bH).ext X)).mono ?_;rintro e cY⟨he,nP⟩;rw[cn.out]at he;subst he;have gn:=nP.ah gn;have q1:=nP.ah q1;have dP:=nP.ah dP;have fp:=nP.ah fp;have dc:=nP.ah dc;have fL:=nP.ah fL;have dS:=nP.ah dS;have k1:=nP.ah k1;have j5:=nP.ah j5;have l1:=nP.ah l1;have l2:=nP.ah l2;have l3:=nP.ah l3;have yM:wr.heap.size<cY.heap.size:=(by have:=nP.size;(try simp at this);omega);change Hid _ at nP));go_meet;exact⟨_,rfl,I (by rw[dA.out,o8.out,cn.out];rfl),X,yM,dc,fL,dS,k1,j5,l1,l2,l3⟩
       |false=>
        have cn:=I hC;clear hC;cases jw:(cq.map (·.x)).any (λx:b1=>cf x.id xs[k].x.id)
        all_goals
         have c5:=I jw
         clear jw
         go_wp2_with (first|(go_at_call 17;refine(ou s ag xs[k].x.id _ (bL.ext X)).mono ?_;rintro e cY⟨he,hN⟩;rw[dA.out]at he;subst he;have gn:=hN.ah gn;have q1:=hN.ah q1;have dP:=hN.ah dP;have fp:=hN.ah fp;have dc:=hN.ah dc;have fL:=hN.ah fL;have dS:=hN.ah dS;have k1:=hN.ah k1;have j5:=hN.ah j5;have l1:=hN.ah l1;have l2:=hN.ah l2;have l3:=hN.ah l3;have yM:wr.heap.size<cY.heap.size:=R4;change Hid _ at hN)|(go_at_call 137;refine(yI s ay xs[k].x.id _ (bB.ext X)).mono ?_;rintro e cY⟨he,iS⟩;rw[o8.out]at he;subst he;have gn:=iS.ah gn;have q1:=iS.ah q1;have dP:=iS.ah dP;have fp:=iS.ah fp;have dc:=iS.ah dc;have fL:=iS.ah fL;have dS:=iS.ah dS;have k1:=iS.ah k1;have j5:=iS.ah j5;have l1:=iS.ah l1;have l2:=iS.ah l2;have l3:=iS.ah l3;have yM:wr.heap.size<cY.heap.size:=W9;change Hid _ at iS)|(go_at_call_of 263 (Value.slice aw m aQ);refine(WY _ _ _ (ys.map (·.x)) xs[k].x.id _ ((a1.map (λp:bO=>p.x) aE.out.1.aF b1.bH).ext X)).mono ?_;rintro e cY⟨he,nP⟩;rw[cn.out]at he;subst he;have gn:=nP.ah gn;have q1:=nP.ah q1;have dP:=nP.ah dP;have fp:=nP.ah fp;have dc:=nP.ah dc;have fL:=nP.ah fL;have dS:=nP.ah dS;have k1:=nP.ah k1;have j5:=nP.ah j5;have l1:=nP.ah l1;have l2:=nP.ah l2;have l3:=nP.ah l3;have yM:wr.heap.size<cY.heap.size:=(by have:=nP.size;(try simp at this);omega);change Hid _ at nP)|(go_at_call_of 263 (Value.slice cK r uT);refine(WY _ _ _ (cq.map (·.x)) xs[k].x.id _ ((a1.map (λp:bO=>p.x) aE.out.2.1.aF b1.bH).ext X)).mono ?_;rintro e cY⟨he,Cf⟩;rw[c5.out]at he;subst he;have dc:=Cf.ah dc;have fL:=Cf.ah fL;have dS:=Cf.ah dS;have k1:=Cf.ah k1;have j5:=Cf.ah j5;have l1:=Cf.ah l1;have l2:=Cf.ah l2;have l3:=Cf.ah l3;have yM:wr.heap.size<cY.heap.size:=(by have:=Cf.size;(try simp at this);omega);change Hid _ at Cf))
         go_meet
         exact⟨_,rfl,I (by rw[dA.out,o8.out,cn.out,c5.out];rfl),X,yM,dc,fL,dS,k1,j5,l1,l2,l3⟩
   case rest=>
    obtain⟨K,rfl,b8,gH,_,dc,fL,dS,k1,j5,l1,l2,l3⟩:=hcut
    rename aC=>cY
    cases K with
    |true=>
     go_wp2_with fail;go_roundg (gk - 1);case measure=>omega
     case rel=>exact⟨k+1,aw,m,aQ,ys,cK,r,uT,cq,J,by go_num,rfl,rfl,(by rw[lp.out,apQ R5];exact adC),X⟩
    |false=>
     by_cases ae:xs[k].x.k=1
     ·have H1:=I ae;have apW:(xs[k].x.k !=1)=false:=by simp[ae]
      clear ae;by_cases bn:m<4
      ·have Nv:(m:Int)<4:=J;go_wp2_with (first|(go_at_call 264;refine(RY xs[k].x xs[k].d _ (bN.ext X) eH).mono ?_;rintro e w'⟨bX,rfl,ki,cw⟩;change Hid _ at ki cw)|(at_builtin;refine hf (ys:=ys) rfl (.tmp 55) (.tmp 58) 42 rfl ca _ 96 underlying42 bJ bF bG bK rfl af rfl (aE.out.1.ext X) ⟨bX,xs[k].d⟩ _ rfl (fc (cs:=bO.cs ⟨bX,xs[k].d⟩) rfl) (bO.cN _) J af (Z.size X) ?_;intro g dL aY fY bW;have cz:=I fY;have cv:=I bW;clear fY bW));go_roundg (gk - 1);case measure=>omega
       case rel=>
        refine⟨k+1,_,_,_,ys++[⟨bX,xs[k].d⟩],cK,r,uT,cq,J,by go_num,rfl,rfl,?_,cv.ext (aE.out.1.ext X) (bA _) X⟩;rw[lp.out,apS R5 (by rw[<-zA.out];exact H1) (by rw[<-vD.out];exact bn)];refine⟨cz,cv.bI (aE.out.2.1.ext X) aE.out.2.2.1,cv.gK (aE.out.2.1.ext X) aE.out.2.2.1,by rw[gS,aE.out.2.2.2.1];rfl,aE.out.2.2.2.2.1,λy hy=>?_,λy hy=>((aE.out.2.2.2.2.2.2 y hy).ext X).grow cv (aE.out.1.ext X) af af af⟩;rcases iR.1 hy with hy|hy
        ·exact((aE.out.2.2.2.2.2.1 y hy).ext X).grow cv (aE.out.1.ext X) af af af
        exact adD
      ·have Nv:¬(m:Int)<4:=J;go_wp2_with fail;go_roundg (gk - 1);case measure=>omega
       case rel=>exact⟨k+1,aw,m,aQ,ys,cK,r,uT,cq,J,by go_num,rfl,rfl,(by rw[lp.out,apT R5 (by rw[<-zA.out];exact H1) (by rw[<-vD.out];exact bn)];exact adC),X⟩
     ·have H1:=I ae;have apW:(xs[k].x.k !=1)=true:=by simp[ae]
      clear ae;go_wp2_with (first|(go_at_call 264;refine(RY xs[k].x xs[k].d _ (bN.ext X) eH).mono ?_;rintro e w'⟨bX,rfl,ki,cw⟩;change Hid _ at ki cw)|(at_builtin;refine hf (ys:=cq) rfl (.tmp 46) (.tmp 49) 42 rfl ca _ 96 underlying42 bJ bF bG bK rfl af rfl (aE.out.2.1.ext X) ⟨bX,xs[k].d⟩ _ rfl (fc (cs:=bO.cs ⟨bX,xs[k].d⟩) rfl) (bO.cN _) J af (Z.size X) ?_;intro g _ _ fY bW;have cz:=I fY;have cv:=I bW;clear fY bW));go_roundg (gk - 1);case measure=>omega
      case rel=>
       refine⟨k+1,aw,m,aQ,ys,_,_,_,cq++[⟨bX,xs[k].d⟩],J,by go_num,rfl,rfl,?_,cv.ext (aE.out.2.1.ext X) (bA _) X⟩;rw[lp.out,apR R5 (by rw[<-zA.out];exact H1)];refine⟨cv.bI (aE.out.1.ext X) aE.out.2.2.1.symm,cz,(cv.gK (aE.out.1.ext X) aE.out.2.2.1.symm).symm,aE.out.2.2.2.1,by rw[gS,aE.out.2.2.2.2.1];rfl,λy hy=>((aE.out.2.2.2.2.2.1 y hy).ext X).grow cv (aE.out.2.1.ext X) af af af,λy hy=>?_⟩;rcases iR.1 hy with hy|hy
       ·exact((aE.out.2.2.2.2.2.2 y hy).ext X).grow cv (aE.out.2.1.ext X) af af af
       ·obtain rfl:=iH.1 hy;exact((ki.mono (Z.size X)).ext X).grow cv (aE.out.2.1.ext X) af af af
  ·have b9:aX.take k=aX:=ir (by rw[HJ.out];omega);rw[b9]at aE;clear b9;rw[<-R3.out]at aE;go_wp2;go_ret2;exact⟨aw,m,aQ,ys,cK,r,uT,cq,rfl,fx.mono ⟨aE.out.1,λp aV=>aE.out.2.2.2.2.2.1 p aV⟩ (by simp),aE.out.2.2.2.1,fx.mono ⟨aE.out.2.1,λp aV=>aE.out.2.2.2.2.2.2 p aV⟩ (by simp),aE.out.2.2.2.2.1,Z.trans ((Z.refl w).alloc _) U⟩
end
section
attribute [local go_sem ↓] Go.wp_at_zero Go.wp_at_succ
def lH.aB(h:lH w w' aw g){o:Obj}(aa:w.heap[b]?=some o)(di:∀ai,aw=some ai->ai.block≠b):w'.heap[b]?=some o:=(h.block _ (lt_of_block aa) di).trans aa
def yK.aB(h:yK w w' B aw){o:Obj}(aa:w.heap[b]?=some o)(br:b≠B)(di:∀ai,aw=some ai->ai.block≠b):w'.heap[b]?=some o:=(h.block _ (lt_of_block aa) br di).trans aa
def Xa(base gr:Nat)(t e:TypeId)(sz:Nat)(c:α->List Value)(aw:Option Addr)(n:Nat)(ys:List α)(Y:World->α->Prop)(w:World)(r:Ending)(w':World):Prop:=
 r=.returned (.tuple #[])/\∃g dL y,Own w' base e sz c (some ⟨g,0,none⟩) (n+1) dL (ys++[y])/\Y w' y/\w'.heap[gr]?=some (.cells #[.slice (some ⟨g,0,none⟩) (n+1) dL] t (0,0))/\yK w w' gr aw/\((∃ai,aw=some ai/\ai.block=g)\/w.heap.size<=g)
def apX(x:b1)(d:bg)(base gr:Nat)(aw:bk)(n cap:Nat)(ys:List bO)(w:aC)(bb:h0 w x d)(eH:mo d)(ba:Own w base 66 8 bO.cs aw n cap ys)(yG:gr<base)(AP:base<=(w:Nat))(ao:w.heap[gr]?=some (.cells #[aq aw n cap] 42 (0,0)))(an:n<=1000000):
  aR 266 #[x,gr] w (Xa base gr 42 66 8 bO.cs aw n ys (λw' y=>y.d=d/\fO w' base y.x y.d) w):=by
 refine adE ?_;intro ca bJ bF bG bK HK AQ eI bQ;change Hid _ at bJ bF bG bK bb eH ba;clear ao;go_enter func266,ntmps266;exact adF
def apY(x:b1)(d:bg)(base gr:Nat)(aw:bk)(n cap:Nat)(ys:List bO)(w:aC)(bb:h0 w x d)(eH:mo d)(ba:Own w base 66 8 bO.cs aw n cap ys)(yG:gr<base)(AP:base<=(w:Nat))(ao:w.heap[gr]?=some (.cells #[aq aw n cap] 42 (0,0)))(an:n<=1000000):
  aR 265 #[x,gr] w (Xa base gr 42 66 8 bO.cs aw n ys (λw' y=>y.d=d/\fO w' base y.x y.d) w):=by
 refine adE ?_;intro ca bJ bF bG bK HK AQ eI bQ;change Hid _ at bJ bF bG bK bb eH ba;clear ao;go_enter func265,ntmps265;exact adF
def apZ(x:b1)(d:bg)(base gr:Nat)(aw:bk)(n cap:Nat)(ys:List aA)(w:aC)(fE:h0 w x d)(ba:Own w base 54 3 aA.cs aw n cap ys)(yG:gr<base)(AP:base<=(w:Nat))(ao:w.heap[gr]?=some (.cells #[aq aw n cap] 31 (0,0)))(an:n<=1000000):
  aR 267 #[x,gr] w (Xa base gr 31 54 3 aA.cs aw n ys (λ_ y=>y=d.id) w):=by
 obtain⟨ca,bJ,bF,bG,bK⟩:=info_parts zE;obtain⟨hL,mK,hM,mL,xw,mr⟩:=x;obtain rfl:mK=d.id:=fE.id;have HK:=I AP;have AQ:Hid (∀ai,aw=some ai->ai.block≠gr):=λai aj=>by have:=(ba.lt ai aj).1;omega
 have eI:(w.alloc (.cells #[bh (b1.mk hL d.id hM mL xw mr).k,bh (b1.mk hL d.id hM mL xw mr).id.b,ad (b1.mk hL d.id hM mL xw mr).id.l,ad (b1.mk hL d.id hM mL xw mr).id.s,bh (b1.mk hL d.id hM mL xw mr).c,ad (b1.mk hL d.id hM mL xw mr).u,.slice (b1.mk hL d.id hM mL xw mr).f.a (b1.mk hL d.id hM mL xw mr).f.n (b1.mk hL d.id hM mL xw mr).f.c,.slice (b1.mk hL d.id hM mL xw mr).e.a (b1.mk hL d.id hM mL xw mr).e.n (b1.mk hL d.id hM mL xw mr).e.c] 66)).heap[gr]?=some (.cells #[aq aw n cap] 31 (0,0)):=((Z.refl w).alloc _).aB ao;have bQ:=cell_of_one eI;have bY:=free_of_one eI;change Hid _ at bJ bF bG bK ba;clear fE ao;dsimp only at eI bQ bY ⊢;go_enter func267,ntmps267;go_wp2_with (at_builtin;refine hf (ys:=ys) rfl (.tmp 3) (.tmp 6) 31 rfl ca _ 24 underlying31 bJ bF bG bK rfl af rfl (ba.ext X) d.id _ rfl (fc (cs:=aA.cs d.id) (by simp)) (aA.cN _) J af (eh HK (Z.size X)) ?_;intro g dL _ fY bW;have cz:=I fY;have oQ:=bW.aB (((Z.refl _).alloc _).aB eI) AQ;have Nw:=cell_of_one oQ;have Nx:=free_of_one oQ;have cv:=I bW;clear fY bW);go_end0;refine⟨rfl,g,dL,d.id,cz.jD yG _,rfl,one_setCell oQ,yK.of X cv (gr,0) _,?_⟩;rcases cv.at_ with h|h
 ·exact .inl h
 ·exact .inr (by rw[h];exact Z.size X)
end
section
attribute [local go_sem ↓] Go.wp_at_zero Go.wp_at_succ
def Cg(f:aA->Int)(aX:List bg):List bg:=aX.filter λd=>f d.id==1
def xx(f:aA->Int)(aX:List bg):List aA:=(aX.filter λd=>f d.id==2).map (·.id)
def Ny(f:aA->Int)(aX:List bg):List bg:=aX.filter λd=>f d.id==0
def Xb{p:α->Bool}{xs:List α}{k:Nat}(hk:k<xs.length):(xs.take (k+1)).filter p=(xs.take k).filter p++if p xs[k]=true then [xs[k]] else []:=by
 rw[iX hk,zC,HL];rfl
def adG{f:aA->Int}{k:Nat}{v:Int}(hk:k<aX.length)(aD:aX[k]=d)(h:f d.id=v):Cg f (aX.take (k+1))=Cg f (aX.take k)++if v=1 then [d] else []:=by
 subst aD;unfold Cg;rw[Xb hk];simp[h]
def adH{f:aA->Int}{k:Nat}{v:Int}(hk:k<aX.length)(aD:aX[k]=d)(h:f d.id=v):Ny f (aX.take (k+1))=Ny f (aX.take k)++if v=0 then [d] else []:=by
 subst aD;unfold Ny;rw[Xb hk];simp[h]
def Xc{f:aA->Int}{k:Nat}{v:Int}(hk:k<aX.length)(aD:aX[k]=d)(h:f d.id=v):xx f (aX.take (k+1))=xx f (aX.take k)++if v=2 then [d.id] else []:=by
 subst aD;unfold xx;rw[Xb hk];simp only[h,beq_iff_eq,List.map_append];split<;>rfl
def Own.adI{c:α->List Value}{ys:List α}(h:Own w base e sz c aw n cap ys){β:Type}{f:α->β}{p:β->Bool}{l:List β}{m:Nat}(hm:ys.map f=l.filter p)(aT:l.length<=m):n<=m:=by
 have ae:=h.neq;have ak:=eP List.length hm;rw[cr]at ak;have aM:=xq p l;omega
def adJ{c:α->List Value}{cK:bk}{ys:List α}(h:(∃ai,aw=some ai/\ai.block=g)\/(w:Nat)<=g)(aD:oo aw cK)(aE:Own w base e sz c cK n cap ys):oo (some (g,0)) cK:=λx y U hy he=>by
 cases U;rcases h with ⟨ai,aj,bu⟩|bu
 ·exact aD ai y aj hy (by rw[bu];exact he)
 ·have:=(aE.lt y hy).2;simp only at he;omega
structure R6 (w wr:World) (f:aA->Int) (aX:List bg) (mN:Option Addr) (p9 nd:Nat) (ys:List bO) (ek:Option Addr) (jj sl:Nat) (fF:Option Addr) (on fZ:Nat) (os:List bO):Prop where
 Nz:wr.heap[w.heap.size]?=some (.cells #[aq mN p9 nd] 42 (0,0))
 DP:wr.heap[(w.heap.size+1)]?=some (.cells #[aq fF on fZ] 42 (0,0))
 NA:wr.heap[(w.heap.size+1+1)]?=some (.cells #[aq ek jj sl] 31 (0,0))
 mp:wr.heap[(w.heap.size+1+1+1)]?=some (Obj.map #[⟨.int .i64 0,.func (.func 265) #[] #[.pointer (some ⟨w.heap.size+1,0,none⟩)],0⟩,⟨.int .i64 1,.func (.func 266) #[] #[.pointer (some ⟨w.heap.size,0,none⟩)],1⟩,⟨.int .i64 2,.func (.func 267) #[] #[.pointer (some ⟨w.heap.size+1+1,0,none⟩)],2⟩] 3)
 wJ:Own wr (w.heap.size+1+1+1+1) 66 8 bO.cs mN p9 nd ys
 wK:Own wr (w.heap.size+1+1+1+1) 66 8 bO.cs fF on fZ os
 vG:Own wr (w.heap.size+1+1+1+1) 54 3 aA.cs ek jj sl (xx f aX)
 gK:oo mN fF
 NB:∀y,y∈ys->fO wr (w.heap.size+1+1+1+1) y.x y.d
 NC:∀y,y∈os->fO wr (w.heap.size+1+1+1+1) y.x y.d
 ND:ys.map (·.d)=Cg f aX
 NF:os.map (·.d)=Ny f aX
def R6.ext{wr fD:aC}{f:aA->Int}{mN:bk}{p9 nd:Nat}{ys:List bO}{ek:bk}{jj sl:Nat}{fF:bk}{on fZ:Nat}{os:List bO}(h:R6 w wr f aX mN p9 nd ys ek jj sl fF on fZ os)(U:Z wr fD):R6 w fD f aX mN p9 nd ys ek jj sl fF on fZ os:=
 ⟨U.aB h.Nz,U.aB h.DP,U.aB h.NA,U.aB h.mp,h.wJ.ext U,h.wK.ext U,h.vG.ext U,h.gK,λy hy=>(h.NB y hy).ext U,λy hy=>(h.NC y hy).ext U,h.ND,h.NF⟩
def eQ{c:α->List Value}{ys:List α}(h:Own w base e sz c aw n cap ys)(aa:b<base):∀ai,aw=some ai->ai.block≠b:=λai aj=>by have:=(h.lt ai aj).1;omega
def ap0(f:aA->Int)(aX:List bg)(w:World)(e:Ending)(w':World):Prop:=
 ∃mN p9 nd ys ek jj sl fF on fZ os,e=.returned (.tuple #[aq mN p9 nd,aq ek jj sl,aq fF on fZ])/\fx w' w.heap.size mN p9 nd ys/\ys.map (·.d)=Cg f aX/\Own w' w.heap.size 54 3 aA.cs ek jj sl (xx f aX)/\fx w' w.heap.size fF on fZ os/\os.map (·.d)=Ny f aX/\Z w w'
def ap1(fG:bk)(ei lc:Nat)(xs:List bO)(ea:bk)(dj AK:Nat)(cc:List sf)(w:aC)(bU:ja w fG ei lc xs)(DM:∀p,p∈xs->mo p.d)(b8:Kids w ea dj AK cc)(k5:ei<=1000000):
  aR 207 #[aq fG ei lc,aq ea dj AK] w (ap0 (p5 cc) (xs.map (·.d)) w):=by
 have sd:=@run_makeMap prog;have ca:=fun(v:Value)=>wz (P:=prog) underlying342 underlying3 (((w.alloc AR).alloc AR).alloc (.cells #[aH] 31)) (w.heap.size+1+1+1) (by simp) #[] 0 0 v rfl;have i1:=fun(v v0:Value)=>wz (P:=prog) underlying342 underlying3 (((w.alloc AR).alloc AR).alloc (.cells #[aH] 31)) (w.heap.size+1+1+1) (by simp) #[⟨.int .i64 0,v0,0⟩] 1 1 v rfl;have ht:=fun(v v0 v1:Value)=>wz (P:=prog) underlying342 underlying3 (((w.alloc AR).alloc AR).alloc (.cells #[aH] 31)) (w.heap.size+1+1+1) (by simp) #[⟨.int .i64 0,v0,0⟩,⟨.int .i64 1,v1,1⟩] 2 2 v rfl;obtain rfl:=bU.aF.neq;have hm:=bU.aF.max;unfold maxLen at hm;generalize xv:xs.map (·.d)=aX;have HJ:aX.length=xs.length:=by rw[<-xv,cr]
 change Hid _ at xv HJ bU DM b8;go_enter func207,ntmps207;go_wp2_with fail;clear ca i1 ht sd;go_loopg [12,13,14,22] (xs.length) (λg _ _ _ st wr=>∃(k:Nat) (mN:bk) (p9 nd:Nat) (ys:List bO) (ek:bk) (jj sl:Nat) (fF:bk) (on fZ:Nat) (os:List bO),g+k=xs.length/\st=.int .i64 k/\Hid (R6 w wr (p5 cc) (aX.take k) mN p9 nd ys ek jj sl fF on fZ os)/\Hid (Z w wr));case atStart=>exact⟨0,none,0,0,[],none,0,0,none,0,0,[],J,rfl,⟨by(exact Ht),by(exact Ht),by(exact Ht),by(exact Ht),Own.nil _ _ _ bO.bH,Own.nil _ _ _ bO.bH,Own.nil _ _ _ aA.bH,oo.nil _,(λy hy=>by cases hy),(λy hy=>by cases hy),rfl,rfl⟩,X⟩
 case round=>
  obtain⟨k,mN,p9,nd,ys,ek,jj,sl,fF,on,fZ,os,_,rfl,q6,U⟩:=hrel;by_cases hk:k<xs.length
  ·obtain⟨b,o,rfl,ao⟩:=bU.aF.get k hk;refine W6 ?_;intro cT c1 c2 da dJ dw eC eK bN eH;have k6:k<aX.length:=by rw[HJ.out];exact hk
   have xy:aX[k]=xs[k].d:=by have:=xv.out;subst this;simp
   have yN:=I k6;have hlen:(aX.take k).length<=1000000:=by rw[o9];omega
   have aCb:p9<=1000000:=q6.wJ.adI q6.ND hlen;have xz:on<=1000000:=q6.wK.adI q6.NF hlen;have DG:jj<=1000000:=by
    have ae:=q6.vG.neq;unfold xx at ae;rw[cr]at ae;have aM:=xq (λd:bg=>p5 cc d.id==2) (aX.take k);omega
   refine adB ?_;intro gp dc fL dS k1 j5 l1 l2 l3;have R7:(w:Nat)+1+1+1<(wr:Nat):=lt_of_block q6.mp;have uU:=I bN.id;change Hid _ at xy;clear ao gp hlen;refine kt ?_;intro b0 bd;rcases adl cc xs[k].x.id with h|h|h
   ·have NG:=I h;have AS:=I (show p5 cc xs[k].d.id=0 from by rw[<-uU.out];exact h);clear h;go_wp2_with (first|(go_at_call 217;refine(HE _ _ _ cc xs[k].x.id _ (b8.ext X)).mono ?_;rintro e cY⟨he,gH⟩;rw[NG.out]at he;subst he;have oR:=I (q6.ext (((Z.refl wr).alloc _).trans gH));have c4:=nr (P:=prog) underlying342 underlying3 oR.mp 0 rfl;have adK:(Instr.lookup 342 (.map (some (w.heap.size+1+1+1))) ar true).run prog cY=.ok _ cY:=c4;clear c4;have dc:=gH.ah dc;have fL:=gH.ah fL;have dS:=gH.ah dS;have k1:=gH.ah k1;have j5:=gH.ah j5;have l1:=gH.ah l1;have l2:=gH.ah l2;have l3:=gH.ah l3;change Hid _ at gH)|(go_at_call 265;refine(apY xs[k].x xs[k].d (w.heap.size+1+1+1+1) (w.heap.size+1) fF on fZ os _ (bN.ext X) eH (oR.wK.ext X) J Xd (Z.aB X oR.DP) J).mono ?_;rintro e wf⟨rfl,g,dL,y,FR,Ch,FT,FU,uV⟩;change Hid _ at FR Ch FT FU uV));go_roundg (gk - 1);case measure=>omega
    case rel=>
     have e4:=oR.out;have aa:=FU.out;have Xe:=eQ e4.wK (b:=(w:Nat)) J;have Xf:=eQ e4.wK (b:=(w.heap.size+1+1)) J;have NH:=eQ e4.wK (b:=(w.heap.size+1+1+1)) J;refine⟨k+1,mN,p9,nd,ys,ek,jj,sl,some (g,0),on+1,dL,os++[y],J,by go_num,?_,aa.ext X J (λai aj=>by have:=(e4.wK.lt ai aj).1;omega)⟩;refine⟨aa.aB e4.Nz J Xe,FT,aa.aB e4.NA J Xf,aa.aB e4.mp J NH,aa.bI e4.wJ J e4.gK.symm,FR,?_,(adJ uV e4.gK.symm e4.wJ).symm,λz bf=>aa.Kh (e4.NB z bf) e4.wK J af af af,λz bf=>?_,?_,?_⟩
     ·rw[Xc yN.out xy.out AS.out,bj af,mH];exact aa.bI e4.vG J (e4.wK.gQ e4.vG af)
     ·rcases iR.1 bf with bf|bf
      ·exact aa.Kh (e4.NC z bf) e4.wK J af af af
      ·obtain rfl:=iH.1 bf;exact Ch.out.2
     exact adL
     ·rw[adH yN.out xy.out AS.out,bm rfl,gS,e4.NF];simp[Ch.out.1]
   ·have NG:=I h;have AS:=I (show p5 cc xs[k].d.id=1 from by rw[<-uU.out];exact h);clear h;go_wp2_with (first|(go_at_call 217;refine(HE _ _ _ cc xs[k].x.id _ (b8.ext X)).mono ?_;rintro e cY⟨he,gH⟩;rw[NG.out]at he;subst he;have oR:=I (q6.ext (((Z.refl wr).alloc _).trans gH));have c4:=nr (P:=prog) underlying342 underlying3 oR.mp 1 rfl;have adK:(Instr.lookup 342 (.map (some (w.heap.size+1+1+1))) (bh 1) true).run prog cY=.ok _ cY:=c4;clear c4;have dc:=gH.ah dc;have fL:=gH.ah fL;have dS:=gH.ah dS;have k1:=gH.ah k1;have j5:=gH.ah j5;have l1:=gH.ah l1;have l2:=gH.ah l2;have l3:=gH.ah l3;change Hid _ at gH)|(go_at_call 266;refine(apX xs[k].x xs[k].d (w.heap.size+1+1+1+1) w mN p9 nd ys _ (bN.ext X) eH (oR.wJ.ext X) J Xd (Z.aB X oR.Nz) J).mono ?_;rintro e wf⟨rfl,g,dL,y,FR,Ch,FT,FU,uV⟩;change Hid _ at FR Ch FT FU uV));go_roundg (gk - 1);case measure=>omega
    case rel=>
     have e4:=oR.out;have aa:=FU.out;have Xg:=eQ e4.wJ (b:=(w.heap.size+1)) J;have Xf:=eQ e4.wJ (b:=(w.heap.size+1+1)) J;have NH:=eQ e4.wJ (b:=(w.heap.size+1+1+1)) J;refine⟨k+1,some (g,0),p9+1,dL,ys++[y],ek,jj,sl,fF,on,fZ,os,J,by go_num,?_,aa.ext X J (λai aj=>by have:=(e4.wJ.lt ai aj).1;omega)⟩;refine⟨FT,aa.aB e4.DP J Xg,aa.aB e4.NA J Xf,aa.aB e4.mp J NH,FR,aa.bI e4.wK J e4.gK,?_,adJ uV e4.gK e4.wK,λz bf=>?_,λz bf=>aa.Kh (e4.NC z bf) e4.wJ J af af af,?_,?_⟩
     ·rw[Xc yN.out xy.out AS.out,bj af,mH];exact aa.bI e4.vG J (e4.wJ.gQ e4.vG af)
     ·rcases iR.1 bf with bf|bf
      ·exact aa.Kh (e4.NB z bf) e4.wJ J af af af
      ·obtain rfl:=iH.1 bf;exact Ch.out.2
     ·rw[adG yN.out xy.out AS.out,bm rfl,gS,e4.ND];simp[Ch.out.1]
     exact adM
   ·have NG:=I h;have AS:=I (show p5 cc xs[k].d.id=2 from by rw[<-uU.out];exact h);clear h;go_wp2_with (first|(go_at_call 217;refine(HE _ _ _ cc xs[k].x.id _ (b8.ext X)).mono ?_;rintro e cY⟨he,gH⟩;rw[NG.out]at he;subst he;have oR:=I (q6.ext (((Z.refl wr).alloc _).trans gH));have c4:=nr (P:=prog) underlying342 underlying3 oR.mp 2 rfl;have adK:(Instr.lookup 342 (.map (some (w.heap.size+1+1+1))) (bh 2) true).run prog cY=.ok _ cY:=c4;clear c4;have dc:=gH.ah dc;have fL:=gH.ah fL;have dS:=gH.ah dS;have k1:=gH.ah k1;have j5:=gH.ah j5;have l1:=gH.ah l1;have l2:=gH.ah l2;have l3:=gH.ah l3;change Hid _ at gH)|(go_at_call 267;refine(apZ xs[k].x xs[k].d (w.heap.size+1+1+1+1) (w.heap.size+1+1) ek jj sl (xx (p5 cc) (aX.take k)) _ (bN.ext X) (oR.vG.ext X) J Xd (Z.aB X oR.NA) J).mono ?_;rintro e _⟨rfl,g,dL,y,FR,Ch,FT,FU,uV⟩;change Hid _ at FR Ch FT FU uV));go_roundg (gk - 1);case measure=>omega
    case rel=>
     have e4:=oR.out;have aa:=FU.out;have Xe:=eQ e4.vG (b:=(w:Nat)) J;have Xg:=eQ e4.vG (b:=(w.heap.size+1)) J;have NH:=eQ e4.vG (b:=(w.heap.size+1+1+1)) J;refine⟨k+1,mN,p9,nd,ys,some (g,0),jj+1,dL,fF,on,fZ,os,J,by go_num,?_,aa.ext X J (λai aj=>by have:=(e4.vG.lt ai aj).1;omega)⟩;refine⟨aa.aB e4.Nz J Xe,aa.aB e4.DP J Xg,FT,aa.aB e4.mp J NH,aa.bI e4.wJ J (e4.vG.gQ e4.wJ af),aa.bI e4.wK J (e4.vG.gQ e4.wK af),?_,e4.gK,λz bf=>aa.Kh (e4.NB z bf) e4.vG J af af af,λz bf=>aa.Kh (e4.NC z bf) e4.vG J af af af,?_,?_⟩
     ·rw[Xc yN.out xy.out AS.out,bm rfl,<-Ch.out];exact FR
     exact adL;exact adM
  ·have b9:aX.take k=aX:=ir (by rw[HJ.out];omega);rw[b9]at q6;clear b9;have cF:=cell_of_one q6.Nz;have ap2:=cell_of_one q6.DP;have n0:=cell_of_one q6.NA;go_wp2_with fail;go_quiet (fail);go_wp2;go_ret3;replace q6:=I (q6.ext ((Z.refl wr).drewN nq));exact⟨mN,p9,nd,ys,ek,jj,sl,fF,on,fZ,os,rfl,fx.mono ⟨q6.wJ,λp aV=>q6.NB p aV⟩ J,q6.ND,q6.vG.mono J,fx.mono ⟨q6.wK,λp aV=>q6.NC p aV⟩ J,q6.NF,X⟩
end
def s6:Nat->Nat->Nat
 |0,_=>0
 |f+1,n=>if n=0 then 0 else 1+s6 f (n / 256)
def nz(n:Nat):Nat:=s6 8 n
def adN:∀(f n:Nat),s6 f n<=f
 |0,_=>bA _
 |f+1,n=>by
  unfold s6
  split
  ·omega
  ·have:=adN f (n / 256);omega
def xA(n:Nat):nz n<=8:=adN 8 n
def adO:∀(f n:Nat),n<256 ^ f->s6 (f+1) n=s6 f n
 |0,n,h=>by
  have:n=0:=by simpa using h
  subst this;rfl
 |f+1,n,h=>by
  rw[s6]
  rw[show s6 (f+1) n=if n=0 then 0 else 1+s6 f (n / 256)from rfl]
  split
  ·rfl
  ·rw[adO f (n / 256) adP]
def gv(n:Nat):Prop:=n<2 ^ 64
def gv.ap3(h:gv n):gv (n / 256):=NI (Nat.div_le_self _ _) h
def Xh:nz 0=0:=rfl
def Xi(aW:0<n)(h:n<2 ^ 64):nz n=1+nz (n / 256):=by
 unfold nz;rw[show s6 8 n=if n=0 then 0 else 1+s6 7 (n / 256)from rfl,bj J,adO 7 (n / 256) J]
def adQ:∀(f n:Nat),n<256 ^ f->n<256 ^ s6 f n/\(0<n->256 ^ (s6 f n - 1)<=n)
 |0,n,h=>⟨h,λaW=>by simp at h;omega⟩
 |f+1,n,h=>by
  unfold s6
  split
  ·next e=>subst e;exact⟨af,λaW=>by omega⟩
  ·next e=>
   obtain⟨ae,ak⟩:=adQ f (n / 256) adP
   refine⟨?_,λ_=>?_⟩
   ·rw[Nat.add_comm,Nat.pow_succ];omega
   ·rw[Nat.add_sub_cancel_left]
    by_cases aW:0<n / 256
    ·have aM:=ak aW
     have aV:0<s6 f (n / 256):=by
      cases f with
      |zero=>have aM:n / 256<256 ^ 0:=ae;omega
      |succ f=>unfold s6;rw[if_neg J];omega
     rw[show s6 f (n / 256)=s6 f (n / 256) - 1+1 from by omega,Nat.pow_succ]
     omega
    ·have dV:n / 256=0:=J
     rw[dV]
     cases f with
     |zero=>show 256 ^ 0<=n;omega
     |succ f=>show 256 ^ (if 0=0 then 0 else 1+s6 f (0 / 256))<=n;rw[bm rfl];omega
def Xj(h:n<2 ^ 64):n<256 ^ nz n/\(0<n->256 ^ (nz n - 1)<=n):=adQ 8 n (by simpa using h)
def vH(n i:Nat):UInt8:=UInt8.ofNat (n / 256 ^ i)
def HM(n i:Nat):(vH n i).toNat=n / 256 ^ i % 256:=by unfold vH;rw[UInt8.toNat_ofNat']
def jJ(n:Nat):Nat->List UInt8
 |0=> []
 |k+1=>jJ (n / 256) k++[vH n 0]
def s7:∀(k n:Nat),(jJ n k).length=k
 |0,_=>rfl
 |k+1,n=>by rw[jJ,cH,s7 k];rfl
def Xk:∀(k n i:Nat),i<k->(jJ n k)[i]?=some (vH n (k - 1 - i))
 |0,_,_,h=>by omega
 |k+1,n,i,h=>by
  rw[jJ]
  by_cases e:i=k
  ·subst e
   rw[JU (by rw[s7];exact bA _),s7,Nat.sub_self]
   simp
  ·rw[Hp (by rw[s7];omega),Xk k (n / 256) i J]
   unfold vH
   rw[Nat.div_div_eq_div_mul,<-Nat.pow_succ',show(k - 1 - i).succ=k+1 - 1 - i from by omega]
def NJ{k i:Nat}(h:i<k):(jJ n k).take (i+1)=(jJ n k).take i++[vH n (k - 1 - i)]:=by
 have aT:i<(jJ n k).length:=by rw[s7];exact h
 rw[iX aT];have:=Xk k n i h;rw[fz aT]at this;rw[wL this]
def cJ(n:Nat):List UInt8:=UInt8.ofNat (nz n)::jJ n (nz n)
def AT(n:Nat):(cJ n).length=1+nz n:=by unfold cJ;rw[List.length_cons,s7,Nat.add_comm]
def hg(n:Nat):(cJ n).length<=9:=by rw[AT];have:=xA n;omega
def vI(l:List UInt8):Nat:=l.foldl (λa b=>a*256+b.toNat) 0
def Xl(l:dR)(b:UInt8):vI (l++[b])=vI l*256+b.toNat:=by unfold vI;rw[List.foldl_append];rfl
def R8:∀(k n:Nat),vI (jJ n k)=n % 256 ^ k
 |0,n=>by rw[Nat.pow_zero,Nat.mod_one];rfl
 |k+1,n=>by
  rw[jJ,Xl,R8 k,HM,Nat.pow_zero,Nat.div_one,Nat.pow_succ',Nat.mod_mul];omega
def ap4(h:n<2 ^ 64):vI (jJ n (nz n))=n:=by rw[R8];exact HN (Xj h).1
def adR:∀(l:dR),vI l<256 ^ l.length:=by
 intro l
 suffices h:∀(l:dR) (a:Nat),l.foldl (λa b=>a*256+b.toNat) a<(a+1)*256 ^ l.length by simpa[vI]using h l 0
 intro l;induction l with
 |nil=>intro a;simp
 |cons b l cI=>
  intro a;rw[mM,mv];refine gw (cI _) ?_;rw[Nat.pow_succ',<-Nat.mul_assoc];exact R9 _ (by have:=b.toNat_lt;omega)
def ap5(h:n<2 ^ 64)(aW:0<nz n):∃b l,jJ n (nz n)=b::l/\0<b.toNat:=by
 have an:0<n:=by
  rcases yO n with e|e
  ·subst e;simp[Xh]at aW
  ·exact e
 obtain⟨bd,hv⟩:=Xj h;have bu:=Xk (nz n) n 0 aW;cases e:jJ n (nz n)with
 |nil=>rw[e]at bu;simp at bu
 |cons b l=>
  rw[e]at bu;simp only[Rg,Option.some.injEq]at bu;refine⟨b,l,rfl,?_⟩;rw[bu,HM,Nat.sub_zero];have ak:=hv an;have aV:0<256 ^ (nz n - 1):=Nat.pow_pos af;have aM:0<n / 256 ^ (nz n - 1):=Nat.div_pos ak aV
  have bn:n / 256 ^ (nz n - 1)<256:=Sa (by
   rw[<-Nat.pow_succ,show(nz n - 1).succ=nz n from by omega];exact bd)
  omega
def ap6(j:Nat):(2:Int) ^ (8*j)=((256 ^ j:Nat):Int):=by
 have h:(2:Nat) ^ (8*j)=256 ^ j:=by rw[Nat.pow_mul]
 rw[<-h];exact(Int.natCast_pow 2 (8*j)).symm
def gi(l:List UInt8):List UInt8:=cJ l.length++l
def yP(l:dR):(gi l).length=1+nz l.length+l.length:=by unfold gi;rw[List.length_append,AT]
def k8(n:Int):Prop:=-9223372036854775808<=n/\n<=9223372036854775807
def xB(n:Int):Nat:=if n<0 then (2*(-(n+1))+1).toNat else (2*n).toNat
def NK(n:Nat):Int:=if n % 2=1 then -((n / 2:Nat):Int) - 1 else ((n / 2:Nat):Int)
def ap7{n:Int}(h:k8 n):gv (xB n):=by
 unfold k8 at h;unfold gv xB;split<;>omega
def ap8(n:Int):NK (xB n)=n:=by
 unfold NK xB;split<;>split<;>omega
def Sb(k n:Int):Nat:=if k=1 then xB n else n.toNat
def zI(k n:Int)(s:List UInt8):List UInt8:=cJ k.toNat++cJ (Sb k n)++gi s
structure AU (k n:Int) (s:List UInt8):Prop where
 nf:wv k n s=0
 i64:k8 n
def AU.k{k n:Int}{s:dR}(h:AU k n s):k=1\/(k=2/\n=0)\/(k=3/\(n=0\/n=1)):=by
 have:=h.nf;unfold wv at this;split at this
 ·next c=>
       rcases c with c|c|c
       ·exact .inl c.1
       ·exact .inr (.inl ⟨c.1,c.2.1⟩)
       ·exact .inr (.inr ⟨c.1,c.2.1⟩)
 ·omega
def AU.s{k n:Int}{s:dR}(h:AU k n s):s.length<=40:=by
 have:=h.nf;unfold wv at this;split at this
 ·next c=>
       rcases c with c|c|c
       ·rw[c.2];simp
       ·exact c.2.2
       ·rw[c.2.2];simp
 ·omega
def AU.NL{k n:Int}{s:dR}(h:AU k n s):gv (Sb k n):=by
 unfold Sb;split
 ·exact ap7 h.i64
 ·have:=h.k;unfold gv;omega
def cp(b:UInt8):List Value:= [.int .u8 (b.toNat:Int)]
def cp.bH(b:UInt8):(cp b).length=1:=rfl
def cp.cN(b:UInt8):∀u∈cp b,u.oneCell'=true:=by
 intro u al;simp only[cp,nK,sW,tJ]at al;subst al;rfl
def HO:(prog.info? 5).map (λi=>(i.zero,i.size,i.bytes))=some (some (.int .u8 0),1,1):=bV
def DQ:(prog.info? 5).map (·.size)=some 1:=bV
def Km(xs:dR):(xs.flatMap cp).length=xs.length:=by
 induction xs with
 |nil=>rfl
 |cons x xs cI=>rw[nI,cH,cI,mv];show 1+xs.length=_;omega
def Sc{xs:dR}(h:a1 w 1 cp (some (b,o)) n cap xs)(k:Nat)(hk:k<xs.length):w.cell? (b,o+k)=some (.int .u8 (xs[k].toNat:Int)):=adS
def Xm{o:Oper}{a:Act}(np:o.guard=none)(l c:Operand)(t e:TypeId)(aK:o.op=.makeSlice t l c){i:TypeInfo}{z:Value}(a6:P.underlying t=some (.slice e))(aO:P.info? e=some i)(bf:i.zero=some z)(hs:i.size=1){m:Nat}(aT:a.eval l=.int .i64 (n:Int))(ao:a.eval c=.int .i64 (m:Int))(DR:n<=m)(aa:i.bytes*m<=281474976710656)(aCc:m<=9223372036854775807)(h:wpList P ops Q rest (a.put o.dst (.slice (some (w,0)) n m)) (w.alloc (.cells (madeCells z.cells m) e))):wpList P ops Q (o::rest) a w:=by
 refine wpList_plain np λK aL=>?_;have mG:=run_make (P:=P) w t e i z a6 aO bf .i64 .i64 n m J J (by rw[<-Int.natCast_mul];omega) J;rw[hs,jT,nQ,nQ]at mG;unfold Oper.wp;simp[execOp,aK,aT,ao,mG,Result.andThen];exact aL _ _ h
def Sd(v:Value)(n:Nat):(madeCells #[v] n).toList.length=n:=by rw[Array.length_toList,size_madeCells]
def Se(a:bk)(n cap:Nat)(xs:dR)(m:Nat)(w:aC)(av:a1 w 1 cp a n cap xs)(an:n<=10000000)(hm:m<=10000000):
  Calls prog 191 #[aq a n cap,(m:Int)] w λe w'=>∃g,e=.returned (.slice (some ⟨g,0,none⟩) n (n+m))/\Own w' w.heap.size 5 1 cp (some ⟨g,0,none⟩) n (n+m) xs/\Z w w':=by
 obtain⟨_,bJ,bF,bG,bK⟩:=info_parts HO;change Hid _ at bJ bF bG bK;have lW:=I av.neq;change Hid _ at av;go_enter func191,ntmps191;go_wp2_with (first|(with_reducible refine Xm rfl (.tmp 7) (.tmp 11) 107 5 rfl underlying107 bJ.out bF.out bG.out (n:=n) (m:=n+m) rfl rfl J (by rw[bK.out];omega) J ?_)|(with_reducible refine wpList_copy_splice rfl (.tmp 13) (.tmp 14) 107 107 rfl 5 underlying107 DQ _ _ _ _ _ _ rfl rfl w 0 (madeCells #[.int .u8 0] (n+m)).toList 5 ?c1 (xs.flatMap cp) ?c2 ?da ?dJ ?dw w w ?eC (bA _) ?_));case c1=>rw[Array.toArray_toList];exact heap_alloc_new _ _
 case c2=>rw[Km,lW.out];exact(Nat.min_self _).symm
 case da=>
  intro aV;have aV:0<xs.length:=by
   have h:=Km xs;rw[List.length_flatMap]at h;omega
  obtain⟨b,o,rfl,ao⟩:=av.out.get 0 aV;exact⟨_,rfl,λj v aJ=>((Z.refl w).alloc _).ah (av.out.MP af j v aJ)⟩
 case dJ=>rw[Km,Sd,<-lW.out];omega
 case dw=>exact λv bo=>let ⟨x,_,U⟩:=Kn.1 bo;cp.cN x v U
 case eC=>exact(Z.refl w).alloc _
 intro _ cv U;change Hid _ at U;go_wp2;go_ret;have aT:(splice (madeCells #[.int .u8 0] (n+m)).toList 0 (xs.flatMap cp)).length=n+m:=by
  rw[length_splice _ _ _ (by rw[Km,Sd,<-lW.out];omega),Sd]
 refine⟨(w:Nat),rfl,⟨⟨by rw[Km,lW.out,Nat.mul_one],.inr ⟨(w:Nat),n+m,_,rfl,Nat.le_refl _,cv.out,J,by unfold maxLen;omega,by rw[List.size_toArray,aT,Nat.mul_one],?_⟩⟩,lW.out,cp.bH⟩,U.out⟩;rw[List.toList_toArray];unfold splice;rw[DS,lq,List.take_left' (by rw[Km,lW.out,jT])]
def ap9(n:Nat)(w:aC)(an:gv n):aR 297 #[ad (n:Int)] w (cM (nz n:Int) w):=by
 go_enter func297,ntmps297;go_wp2_with fail;go_loopg [0,3] (nz n) (λg lu Sf wr=>∃(m k:Nat),Hid (gv m)/\g=nz m/\k+nz m=nz n/\lu=.int .u64 (m:Int)/\Sf=.int .i64 (k:Int)/\Hid (Z w wr));case atStart=>exact⟨n,0,an,rfl,J,rfl,rfl,Z.refl _⟩
 case round=>
  obtain⟨m,k,hm,bu,hk,rfl,rfl,U⟩:=hrel;have fs:=xA n;by_cases aW:0<m
  ·have bL:=Xi aW hm;have cv:=I bu;have b8:=I hk;have aCd:k<=8:=J;replace bL:=I bL;go_wp2;go_roundg (nz (m / 256));case measure=>have:=bL.out;have:=cv.out;omega
   case rel=>exact⟨m / 256,k+1,hm.ap3,rfl,by have:=bL.out;have:=b8.out;omega,rfl,by go_num,U⟩
  ·have bf:m=0:=J;subst bf;have b8:=I hk;go_wp2;go_ret;exact⟨jC (by have:=b8.out;rw[Xh]at this;omega),U⟩
def aqa{L:Nat}(h:L<256):cp (UInt8.ofNat L)= [.int .u8 (L:Int)]:=by unfold cp;rw[UInt8.toNat_ofNat',Nat.mod_eq_of_lt h]
def aqb(m j:Nat):cp (vH m j)= [.int .u8 ((m:Int) / 2 ^ (8*j) % 256)]:=by
 unfold cp;rw[HM,ap6];generalize 256 ^ j=p;rfl
def adT(W:aC)(aw:bk)(n cap:Nat)(ys:dR)(m:Nat)(w:aC)(ba:Own w W 5 1 cp aw n cap ys)(bU:Z W w)(bM:gv m)(an:n<=10000000):
  aR 257 #[aq aw n cap,ad (m:Int)] w λe w'=>∃cK gE dL,e=.returned (aq cK gE dL)/\Own w' W 5 1 cp cK gE dL (ys++cJ m)/\Z W w':=by
 refine Xn ?_;intro ca bJ bF bG bK;have fs:=xA m;obtain⟨L,bL⟩:∃L,L=nz m:=⟨_,rfl⟩;rw[<-bL]at fs;replace ba:=I ba;replace bU:=I bU;replace bM:=I bM;go_enter func257,ntmps257;go_wp2_with fail;refine(ap9 m _ bM).mono ?_;rintro e _⟨rfl,bw⟩;replace bw:=I bw;rw[<-bL];replace bL:=I bL;go_wp2_with (at_builtin;refine hf (ys:=ys) rfl (.tmp 9) (.tmp 12) 107 rfl ca _ 1 underlying107 bJ bF bG bK rfl af rfl (ba.ext X) (UInt8.ofNat L) _ rfl ?_ (cp.cN _) J af (Z.size (bU.trans X)) ?_)
 ·rw[aqa J];exact fc rfl
 intro g _ _ b7 bW;replace b7:=I b7;have bz:=I (bW.ext (ba.ext X) (bA _) (bU.trans X));go_wp2_with fail;go_loopg [0,15] L (λs8 e1 dN wr=>∃(i:Nat) (cK:bk) (uW aQ:Nat),s8+i=L/\dN=.int .i64 (i:Int)/\e1=.slice cK uW aQ/\uW<=10000001+i/\Hid (Own wr W 5 1 cp cK uW aQ (ys++UInt8.ofNat L::(jJ m L).take i))/\Hid (Z W wr));case atStart=>exact⟨0,_,_,_,J,rfl,rfl,J,(show Own _ _ _ _ _ _ _ _ _ from b7),bz⟩
 case round=>
  obtain⟨i,cK,uW,aQ,_,rfl,rfl,_,aE,U⟩:=hrel;by_cases aO:i<L
  ·have bd:(i:Int)<(L:Int):=J;go_wp2_with (at_builtin;refine hf (ys:=(ys++UInt8.ofNat L::(jJ m L).take i)) rfl (.tmp 18) (.tmp 27) 107 rfl ca _ 1 underlying107 bJ bF bG bK rfl af rfl (aE.ext X) (vH m (L - 1 - i)) _ rfl ?_ (cp.cN _) J af (Z.size (U.trans X)) ?_)
   ·rw[aqb];exact fc rfl
   intro _ _ _ cz yQ;replace cz:=I cz;have c9:=I (yQ.ext (aE.ext X) (bA _) (U.trans X));go_wp2_with fail;go_roundg (gk - 1);case measure=>omega
   case rel=>exact⟨i+1,_,_,_,J,by go_num,rfl,J,(by rw[NJ J];exact(show Own _ _ _ _ _ _ _ _ _ from cz)),c9⟩
  ·go_wp2;go_ret;have hk:(jJ m L).take i=jJ m L:=ir (by rw[s7];omega);refine⟨cK,uW,aQ,rfl,?_,U⟩;have ae:=aE.out;rw[hk,bL.out]at ae;exact ae
def j6(a:bk)(n cap:Nat)(xs:dR)(m:Nat)(w:aC)(av:a1 w 1 cp a n cap xs)(bM:gv m)(an:n<=1000000):
  aR 197 #[aq a n cap,ad (m:Int)] w (p3 5 1 cp (xs++cJ m) w):=by
 change Hid _ at av bM;go_enter func197,ntmps197;go_wp2_with fail;refine(Se _ _ _ xs 9 _ av J J).mono ?_;rintro e _⟨g,rfl,ba,U⟩;change Hid _ at ba U;go_wp2_with fail;refine(adT w _ _ _ xs m _ ba U bM J).mono ?_;rintro e _⟨cK,cZ,c2,rfl,b7,cj⟩;change Hid _ at b7 cj;go_wp2;go_ret;exact⟨cK,cZ,c2,rfl,b7,cj⟩
def HP(a:bk)(n cap:Nat)(xs:dR)(b:bk)(m gG:Nat)(cq:dR)(w:aC)(av:a1 w 1 cp a n cap xs)(eM:a1 w 1 cp b m gG cq)(an:n<=1000000)(hm:m<=1000000):
  aR 199 #[aq a n cap,aq b m gG] w (p3 5 1 cp (xs++gi cq) w):=by
 obtain⟨ca,bJ,bF,bG,bK⟩:=info_parts HO;change Hid _ at bJ bF bG bK;have adU:=eM.neq;have fy:=I (show gv m from by unfold gv;omega);change Hid _ at adU av eM;have sm:=I av.neq;go_enter func199,ntmps199;go_wp2_with fail;refine(Se _ _ _ xs (9+m) _ av J J).mono ?_;rintro e _⟨g,rfl,ba,U⟩;change Hid _ at ba U;go_wp2_with fail;refine(adT w _ _ _ xs m _ ba U fy J).mono ?_;rintro e _⟨_,cZ,_,rfl,b7,cj⟩;have tQ:=hg m;have k5:cZ<=1000010:=by
  have h:=b7.neq;rw[cH,<-sm.out]at h;omega
 change Hid _ at b7 cj;clear tQ;go_wp2_with (at_builtin;refine wpList_plain rfl λoL ns=>?_;refine wC (c:=cp) (ys0:=xs++cJ m) (ys:=cq) (.tmp 14) (.tmp 15) 107 5 rfl ca _ 1 underlying107 bJ bF bG bK rfl af rfl w cj b7 rfl (eM.ext cj) cp.cN J af ?_;intro e6 gF da _ vJ fY dE RB;refine ns _ _ ?_;have cz:=I fY;have c9:=I dE;clear fY dE RB vJ);go_ret;refine⟨e6,gF,da,rfl,?_,c9⟩;have h:=cz.out;rw[iI,adU.out]at h;exact h
def aqc(n:Int)(w:aC)(H:k8 n):aR 327 #[n] w (cM (ad (xB n:Int)) w):=by
 change Hid _ at H;by_cases aW:n<0
 ·go_enter func327,ntmps327;go_wp2;go_ret;refine⟨jC ?_,X⟩;have:=H.out;unfold k8 at this;unfold xB;rw[bm aW];simp only[wrap64,IntKind.wrap_u64];omega
 ·go_enter func327,ntmps327;go_wp2;go_ret;refine⟨jC ?_,X⟩;have:=H.out;unfold k8 at this;unfold xB;rw[bj J];simp only[IntKind.wrap_u64];omega
def aqd(n:Nat)(w:aC)(H:gv n):aR 295 #[ad (n:Int)] w (cM (.int .i64 (NK n)) w):=by
 change Hid _ at H;by_cases aW:n % 2=1
 ·have q:(n:Int) % 2=1:=J;go_enter func295,ntmps295;go_wp2;go_ret;refine⟨jC ?_,X⟩;have:=H.out;unfold gv at this;unfold NK;rw[bm aW];simp only[wrap64,IntKind.wrap_u64];omega
 ·have q:(n:Int) % 2=0:=J;go_enter func295,ntmps295;go_wp2;go_ret;refine⟨jC ?_,X⟩;have:=H.out;unfold gv at this;unfold NK;rw[bj aW];simp only[wrap64,IntKind.wrap_u64];omega
def Xo{o:Oper}{a:Act}(np:o.guard=none)(x:Operand)(src dst e:TypeId)(aK:o.op=.convert src dst x)(hs:P.underlying src=some .string)(aD:P.underlying dst=some (.slice e))(he:P.underlying e=some (.int .u8)){s:ByteArray}(U:a.eval x=.string s)(hm:s.size<=1000000)(h:∀w' cap,a1 w' 1 cp (some (w,0)) s.size cap s.toList->Z w w'->(w:Nat)<(w':Nat)->wpList P ops Q rest (a.put o.dst (.slice (some (w,0)) s.size cap)) w'):wpList P ops Q (o::rest) a w:=by
 refine wpList_plain np λK aL=>?_;have mG:=run_bytes_of_string (P:=P) w src dst e s hs aD he;unfold Oper.wp;simp[execOp,aK,U,mG,Result.andThen];refine aL _ _ (h _ _ ⟨(yA s).symm,grownCap_ge _ _ _ _,grownCap_le_maxLen _ _ _ _ HQ,(λk=>by cases k),cp.bH,λk y hk=>⟨_,_,rfl,λj v aJ=>?_⟩⟩ (((Z.refl w).drew).alloc _) (by simp));have aW:j=0:=by
  have:=(vv.1 aJ).1;rw[cp.bH]at this;omega
 subst aW;have b9:=(vv.1 hk);obtain⟨nR,k3⟩:=b9;rw[show(0:Nat)+k*1+0=k from by omega];have fS:w.drew.heap.size=(w:Nat):=rfl;rw[<-fS,World.cell?_alloc_mark];have HD:k<s.data.size:=by rw[yA]at nR;exact nR
 rw[bytesRow_at s _ k HD];simp only[cp,Rg,Option.some.injEq]at aJ;rw[<-aJ,<-k3];have:s.toList[k]=s.data[k]:=by simp[Dk]
 rw[this]
def adV(a:bk)(n cap:Nat)(xs:dR)(k m:Int)(s:ByteArray)(w:aC)(av:a1 w 1 cp a n cap xs)(bN:AU k m s.toList)(an:n<=100000):
  aR 298 #[aq a n cap,.agg #[k,m,s]] w (p3 5 1 cp (xs++zI k m s.toList) w):=by
 have adW:=bN.s;rw[yA]at adW;have eu:=av.neq;have hk:=bN.k;change Hid _ at eu;have bM:=I bN.NL;change Hid _ at av bN;rcases hk with rfl|⟨rfl,rfl⟩|⟨rfl,rfl|rfl⟩
 ·go_enter func298,ntmps298;go_wp2_with fail;refine(aqc m _ bN.i64).mono ?_;rintro e w1⟨rfl,U⟩;have d0:w1.cell? (w,0)=some ↑(bh 1):=U.ah (by simp);have ij:w1.cell? (w,2)=some ↑s:=U.ah (by simp);change Hid _ at U;go_wp2_with fail;refine(j6 _ _ _ xs 1 _ (av.ext X) FV J).mono ?_;rintro e aN⟨cE,cZ,c2,rfl,b7,cj⟩;have ox:=b7.neq;have dP:=hg 1;rw[cH,<-eu.out]at ox;have k5:cZ<=100020:=J;replace ij:=cj.ah ij;change Hid _ at b7 cj;clear ox dP;go_wp2_with fail;refine(j6 _ _ _ _ (xB m) _ b7.aF bM J).mono ?_;rintro e aY⟨a3,gF,da,rfl,cz,dE⟩;have zJ:=cz.neq;have fp:=hg (xB m);exact Sg
 ·go_enter func298,ntmps298;have ij:(w.alloc (.cells #[bh 2,ar,s] 74)).cell? (w,2)=some ↑s:=by simp
  go_wp2_with fail;refine(j6 _ _ _ xs 2 _ (av.ext X) FV J).mono ?_;rintro e aN⟨cE,cZ,c2,rfl,b7,cj⟩;have ox:=b7.neq;have dP:=hg 2;rw[cH,<-eu.out]at ox;have k5:cZ<=100020:=J;replace ij:=cj.ah ij;change Hid _ at b7 cj;clear ox dP;go_wp2_with fail;refine(j6 _ _ _ _ (0) _ b7.aF bM J).mono ?_;rintro e aY⟨a3,gF,da,rfl,cz,dE⟩;have zJ:=cz.neq;have fp:=hg (0);exact Sg
 ·go_enter func298,ntmps298;have ij:(w.alloc (.cells #[bh 3,ar,s] 74)).cell? (w,2)=some ↑s:=by simp
  go_wp2_with fail;refine(j6 _ _ _ xs 3 _ (av.ext X) FV J).mono ?_;rintro e aN⟨cE,cZ,c2,rfl,b7,cj⟩;have ox:=b7.neq;have dP:=hg 3;rw[cH,<-eu.out]at ox;have k5:cZ<=100020:=J;replace ij:=cj.ah ij;change Hid _ at b7 cj;clear ox dP;go_wp2_with fail;refine(j6 _ _ _ _ (0) _ b7.aF bM J).mono ?_;rintro e aY⟨a3,gF,da,rfl,cz,dE⟩;have zJ:=cz.neq;have fp:=hg (0);exact Sg
 ·go_enter func298,ntmps298;have ij:(w.alloc (.cells #[bh 3,bh 1,s] 74)).cell? (w,2)=some ↑s:=by simp
  go_wp2_with fail;refine(j6 _ _ _ xs 3 _ (av.ext X) FV J).mono ?_;rintro e _⟨cE,cZ,_,rfl,b7,cj⟩;have ox:=b7.neq;have dP:=hg 3;rw[cH,<-eu.out]at ox;have k5:cZ<=100020:=J;replace ij:=cj.ah ij;change Hid _ at b7 cj;clear ox dP;go_wp2_with fail;refine(j6 _ _ _ _ (1) _ b7.aF bM J).mono ?_;rintro e _⟨a3,gF,_,rfl,cz,dE⟩;have zJ:=cz.neq;have fp:=hg (1);exact Sg
section
structure aG (S:Nat->Prop) (w w':World):Prop where
 os:w'.os=w.os
 tape:w'.tape=w.tape
 output:w'.output=w.output
 size:w.heap.size<=w'.heap.size
 block:∀b,b<w.heap.size->¬S b->w'.heap[b]? =w.heap[b]?
section
variable {S S':Nat->Prop}{W w w' fj:World}
def aG.of(h:Z w w'):aG S w w':=⟨h.os,h.tape,h.output,h.size,λb aa _=>h.block b aa⟩
def aG.refl(S:ff)(w:aC):aG S w w:=.of (Z.refl w)
def aG.trans(h:aG S w w')(k:aG S w' fj):aG S w fj:=
 ⟨k.os.trans h.os,k.tape.trans h.tape,k.output.trans h.output,eh h.size k.size,λb aa an=>(k.block b (gw aa h.size) an).trans (h.block b aa an)⟩
def aG.mono(h:aG S w w')(hs:∀b,b<(w:Nat)->S b->S' b):aG S' w w':=⟨h.os,h.tape,h.output,h.size,λb aa an=>h.block b aa (λk=>an (hs b aa k))⟩
def aG.ext(h:aG S w w')(fa:∀b,S b->(W:Nat)<=b)(U:Z W w):Z W w':=
 Below.trans U ⟨h.os,h.tape,h.output,h.size,λb aa=>h.block b Rh (λk=>by have:=fa b k;omega)⟩
def aG.setCell(h:aG S w w')(p:Addr)(aV:S p.block\/(w:Nat)<=p.block)(u:Value):aG S w (w'.setCell p u):=by
 have hs:Below 0 w' (w'.setCell p u):=Below.setCell (Below.refl 0 w') (hX _) u
 exact⟨hs.os.trans h.os,hs.tape.trans h.tape,hs.output.trans h.output,eh h.size hs.size,λb aa an=>
  (Below.heap_setCell w' p u b (λe=>by subst e;rcases aV with aV|aV;exact an aV;omega)).trans (h.block b aa an)⟩
def aG.alloc(h:aG S w w')(o:Obj):aG S w (w'.alloc o):=h.trans (.of ((Z.refl _).alloc o))
def aG.drew(h:aG S w w'):aG S w w'.drew:=h.trans (.of ((Z.refl _).drew))
def aG.drewN(h:aG S w w')(n:Nat):aG S w (w'.drewN n):=h.trans (.of ((Z.refl _).drewN n))
def aG.cell(h:aG S w w'){v:Value}(ao:w.cell? (b,o)=some v)(aa:¬S b):w'.cell? (b,o)=some v:=by
 rw[JV (a:=⟨b,o,.none⟩) (h.block b (Dl ao) aa)];exact ao
def aG.aF{c:α->List Value}{xs:List α}(h:aG S w w')(hs:a1 w sz c a n cap xs)(di:∀ai,a=some ai->¬S ai.block):a1 w' sz c a n cap xs:=
 ⟨hs.neq,hs.len,hs.max,hs.none,hs.bH,λk x hk=>let ⟨b,o,aj,ao⟩:=hs.at_ k x hk;⟨b,o,aj,λj v aJ=>h.cell (ao j v aJ) (di _ aj)⟩⟩
def aG.bI{c:α->List Value}{ys:List α}(h:aG S w w')(aK:Own w base e sz c aw n cap ys)(di:∀ai,aw=some ai->¬S ai.block):Own w' base e sz c aw n cap ys:=
 aK.ah λai aj=>h.block _ (aK.lt ai aj).2 (di ai aj)
end
def DT{w:aC}{c:Nat}{aX:Array Value}{u:TypeId}{fr Xp:Nat×Nat}(h:w.heap[b]?=some (.cells cs t fr))(k:w.heap[c]?=some (.cells aX u Xp))(an:t≠u):¬b=c:=by
 intro e;subst e;rw[h]at k;injection k with k;injection k with _ a6;exact an a6
def bT{w:aC}{o:Obj}(h:w.heap[b]?=some o):b<(w:Nat):=by
 rcases zz b (w:Nat)with k|k
 ·exact k
 ·rw[Sh k]at h;cases h
def nS{w:aC}(h:w.heap[b]?=some (.cells cs t)):w.frozen? ⟨b,o,none⟩=false:=by
 unfold World.frozen?;simp only[h];simp
def er{w:aC}{fr:Nat×Nat}(h:w.heap[b]?=some (.cells cs t fr))(j:Nat)(u:Value):(w.setCell (b,j) u).heap[b]?=some (.cells (cs.setIfInBounds j u) t fr):=by
 unfold World.setCell;simp only[Si,h];simp
def aqe{w:aC}{l:List Value}(h:w.heap[b]?=some (.cells (List.toArray (iF::l)) t)):w.cell? (b,0)=some iF/\∀j,w.frozen? ⟨b,j,none⟩=false:=⟨aI h rfl,λ_=>nS h⟩
def Sj{w:aC}{l:List Value}(h:w.heap[b]?=some (.cells (List.toArray (iF::iu::l)) t)):w.cell? (b,0)=some iF/\w.cell? (b,1)=some iu/\∀j,w.frozen? ⟨b,j,none⟩=false:=⟨aI h rfl,aI h rfl,λ_=>nS h⟩
def sn{w:aC}{l:List Value}(h:w.heap[b]?=some (.cells (List.toArray (iF::iu::gR::l)) t)):w.cell? (b,0)=some iF/\w.cell? (b,1)=some iu/\w.cell? (b,2)=some gR/\∀j,w.frozen? ⟨b,j,none⟩=false:=⟨aI h rfl,aI h rfl,aI h rfl,λ_=>nS h⟩
def Ci{w:aC}{l:List Value}(h:w.heap[b]?=some (.cells (List.toArray (iF::iu::gR::ji::l)) t)):w.cell? (b,0)=some iF/\w.cell? (b,1)=some iu/\w.cell? (b,2)=some gR/\w.cell? (b,3)=some ji/\∀j,w.frozen? ⟨b,j,none⟩=false:=⟨aI h rfl,aI h rfl,aI h rfl,aI h rfl,λ_=>nS h⟩
def aqf{w:aC}{l:List Value}(h:w.heap[b]?=some (.cells (List.toArray (iF::iu::gR::ji::k0::l)) t)):w.cell? (b,0)=some iF/\w.cell? (b,1)=some iu/\w.cell? (b,2)=some gR/\w.cell? (b,3)=some ji/\w.cell? (b,4)=some k0/\∀j,w.frozen? ⟨b,j,none⟩=false:=⟨aI h rfl,aI h rfl,aI h rfl,aI h rfl,aI h rfl,λ_=>nS h⟩
def kl{w:aC}{l:List Value}(h:w.heap[b]?=some (.cells (List.toArray (iF::iu::gR::ji::k0::oq::o7::sc::l)) t)):w.cell? (b,0)=some iF/\w.cell? (b,1)=some iu/\w.cell? (b,2)=some gR/\w.cell? (b,3)=some ji/\w.cell? (b,4)=some k0/\w.cell? (b,5)=some oq/\w.cell? (b,6)=some o7/\w.cell? (b,7)=some sc/\∀j,w.frozen? ⟨b,j,none⟩=false:=⟨aI h rfl,aI h rfl,aI h rfl,aI h rfl,aI h rfl,aI h rfl,aI h rfl,aI h rfl,λ_=>nS h⟩
def uX{w:aC}{l:List Value}(h:w.heap[b]?=some (.cells (List.toArray (iF::iu::gR::ji::k0::oq::o7::sc::xl::l)) t)):w.cell? (b,0)=some iF/\w.cell? (b,1)=some iu/\w.cell? (b,2)=some gR/\w.cell? (b,3)=some ji/\w.cell? (b,4)=some k0/\w.cell? (b,5)=some oq/\w.cell? (b,6)=some o7/\w.cell? (b,7)=some sc/\w.cell? (b,8)=some xl/\∀j,w.frozen? ⟨b,j,none⟩=false:=⟨aI h rfl,aI h rfl,aI h rfl,aI h rfl,aI h rfl,aI h rfl,aI h rfl,aI h rfl,aI h rfl,λ_=>nS h⟩
def aqg{w:aC}{l:List Value}(h:w.heap[b]?=some (.cells (List.toArray (iF::iu::gR::ji::k0::oq::o7::sc::xl::BY::BZ::B0::l)) t)):w.cell? (b,0)=some iF/\w.cell? (b,1)=some iu/\w.cell? (b,2)=some gR/\w.cell? (b,3)=some ji/\w.cell? (b,4)=some k0/\w.cell? (b,5)=some oq/\w.cell? (b,6)=some o7/\w.cell? (b,7)=some sc/\w.cell? (b,8)=some xl/\w.cell? (b,9)=some BY/\w.cell? (b,10)=some BZ/\w.cell? (b,11)=some B0/\∀j,w.frozen? ⟨b,j,none⟩=false:=⟨aI h rfl,aI h rfl,aI h rfl,aI h rfl,aI h rfl,aI h rfl,aI h rfl,aI h rfl,aI h rfl,aI h rfl,aI h rfl,aI h rfl,λ_=>nS h⟩
def q7{w:aC}{FF:Value}{l:List Value}(h:w.heap[b]?=some (.cells (List.toArray (iF::iu::gR::ji::k0::oq::o7::sc::xl::BY::BZ::B0::FF::l)) t)):w.cell? (b,0)=some iF/\w.cell? (b,1)=some iu/\w.cell? (b,2)=some gR/\w.cell? (b,3)=some ji/\w.cell? (b,4)=some k0/\w.cell? (b,5)=some oq/\w.cell? (b,6)=some o7/\w.cell? (b,7)=some sc/\w.cell? (b,8)=some xl/\w.cell? (b,9)=some BY/\w.cell? (b,10)=some BZ/\w.cell? (b,11)=some B0/\w.cell? (b,12)=some FF/\∀j,w.frozen? ⟨b,j,none⟩=false:=⟨aI h rfl,aI h rfl,aI h rfl,aI h rfl,aI h rfl,aI h rfl,aI h rfl,aI h rfl,aI h rfl,aI h rfl,aI h rfl,aI h rfl,aI h rfl,λ_=>nS h⟩
def aqh{w:aC}{FF MM:Value}{l:List Value}(h:w.heap[b]?=some (.cells (List.toArray (iF::iu::gR::ji::k0::oq::o7::sc::xl::BY::BZ::B0::FF::MM::l)) t)):w.cell? (b,0)=some iF/\w.cell? (b,1)=some iu/\w.cell? (b,2)=some gR/\w.cell? (b,3)=some ji/\w.cell? (b,4)=some k0/\w.cell? (b,5)=some oq/\w.cell? (b,6)=some o7/\w.cell? (b,7)=some sc/\w.cell? (b,8)=some xl/\w.cell? (b,9)=some BY/\w.cell? (b,10)=some BZ/\w.cell? (b,11)=some B0/\w.cell? (b,12)=some FF/\w.cell? (b,13)=some MM/\∀j,w.frozen? ⟨b,j,none⟩=false:=⟨aI h rfl,aI h rfl,aI h rfl,aI h rfl,aI h rfl,aI h rfl,aI h rfl,aI h rfl,aI h rfl,aI h rfl,aI h rfl,aI h rfl,aI h rfl,aI h rfl,λ_=>nS h⟩
end
end Go.Proofs.YtfiiblnenhdlhaaGreat
