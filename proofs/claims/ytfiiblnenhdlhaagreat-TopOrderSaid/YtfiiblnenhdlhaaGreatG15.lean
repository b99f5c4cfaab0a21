/- Part. -/
import Derived.Test.YtfiiblnenhdlhaaGreatG14
set_option linter.unusedVariables false
set_option linter.unusedSimpArgs false
set_option linter.defProp false
set_option maxRecDepth 100000
set_option maxHeartbeats 4000000
namespace Go.Proofs.YtfiiblnenhdlhaaGreat
open Go.RowKit Tryz
variable {hs:List Int}{ids:List aA}{l:List lz}{B aQ an ao b dF eL fw k n:Nat}{cur:Nat->Nat}{M M' gP:Nat->Prop}{bR:Nat->n1}{a aj cD:Option Addr}{t:TypeId}{w w' wr:World}{i:aA}{aU:aZ}{c:bt}
def aAi{P:Nat}{v:qY}{ps:List Int}{c3:List Nat}(aa:w.heap[P]?=some (.cells #[v.cD,v.aj,v.lT,v.aX,.map (some v.dg),v.fJ,v.go] 90 (0,0)))(cy:a1 w 1 dD v.cD.a v.cD.n v.cD.c ps)(qD:a1 w 1 dD v.aj.a v.aj.n v.aj.c hs)(aD:a1 w 1 zu v.aX.a v.aX.n v.aX.c c3)(dp:jn ps=true)(sN:ps.length<=16)(an:n<ps.length)(bq:n<c3.length)(VK:hs.length<=32)(QR:zx ps.length hs=false):
  aR 31 #[P,(n:Int)] w (cM (bh 1) w):=by
 have fM:n<v.aX.n:=by rw[aD.neq];exact bq
 obtain⟨_,o,qq,fW⟩:=aD.get n bq;have qX:=fW 0 _ rfl;rw[jT]at qX;simp only[uY]at qX;have b0:(0:Int)<=(n:Int):=J;have bd:(n:Int)<(v.aX.n:Int):=J;have alG:=I (aI (o:=0) aa rfl);have tF:=I (aI (o:=1) aa rfl);have Av:=aI (o:=3) aa rfl;rw[show(#[v.cD,v.aj,v.lT,v.aX,.map (some v.dg),v.fJ,v.go]:Array Value)[3]=Value.slice v.aX.a v.aX.n v.aX.c from rfl,qq]at Av;change Hid _ at Av cy qD dp QR qX;clear aD qq fW aa;go_enter func31,ntmps31;go_wp2_with fail;refine uc 16 (Z w) (λa7=>?_);refine um ?_;refine alH ?_;intro K aL;refine(az8 (cy.ext X) (qD.ext X) dp sN an VK QR).mono ?_;rintro e b3⟨rfl,fv⟩;have eX:Hid (Z w b3):=Z.trans X fv;clear fv;refine Hb ?_;intro _ a7;refine cX 17 ?_;refine cX 18 ?_;refine cX 19 ?_;refine cX 20 ?_;refine cX 21 ?_;refine wpAnyH_done bV ?_ _;go_wp2_with fail;go_ret;exact⟨rfl,X⟩
section
structure Ax (bs w:World) (P:Nat) (v:qY) (ps hs:List Int) (room:Nat) (c3:List Nat):Prop where
 ext:Z bs w
 kz:bs.heap.size<=P
 box:w.heap[P]?=some (.cells #[v.cD,v.aj,v.lT,v.aX,.map (some v.dg),v.fJ,v.go] 90 (0,0))
 p:Own w bs.heap.size 3 1 dD v.cD.a v.cD.n v.cD.c ps
 h:Own w bs.heap.size 3 1 dD v.aj.a v.aj.n v.aj.c hs
 fJ:Own w bs.heap.size 3 1 dD v.fJ.a v.fJ.n v.fJ.c (List.replicate hs.length 0)
 go:Own w bs.heap.size 133 1 mD.cs v.go.a v.go.n v.go.c (List.replicate hs.length ⟨⟨none,0,0⟩⟩)
 m:fl w prog 3 v.dg 0 0 (λ_=>none)
 cx:bs.heap.size<=v.dg
 jX:oo v.cD.a v.fJ.a
 ij:oo v.aj.a v.fJ.a
 aX:Own w bs.heap.size 91 1 zu v.aX.a v.aX.n v.aX.c c3
 rV:∀q,q∈c3->bs.heap.size<=q/\ly w (λb=>b=q) q [] 0 room
 qs:c3.Nodup
section
variable {bs w et fh wc:World}{P q g n aQ room:Nat}{v:qY}{ps hs:List Int}{c3:List Nat}
def ly.aaK{O:ff}{q:Nat}{ay:dR}{gM room:Nat}(h:ly w O q ay gM room):∃cs,w.heap[q]?=some (.cells cs 144 (0,0)):=let ⟨_,_,_,ae,_⟩:=h.ct;⟨_,ae⟩
def aml{a:Nat}{cs aX:Array Value}{u:TypeId}{f g:Nat×Nat}(h:w.heap[a]?=some (.cells cs t f))(k:w.heap[b]?=some (.cells aX u g))(di:t≠u):a≠b:=λe=>by
 subst e;rw[h]at k;injection k with k;injection k with _ k _;exact di k
def Ax.pB(h:Ax bs w P v ps hs room c3)(U:Z w et):Ax bs et P v ps hs room c3:=
 ⟨h.ext.trans U,h.kz,U.aB h.box,h.p.ext U,h.h.ext U,h.fJ.ext U,h.go.ext U,h.m.ext U,h.cx,h.jX,h.ij,h.aX.ext U,λq bq=>⟨(h.rV q bq).1,(h.rV q bq).2.ext U⟩,h.qs⟩
def Ax.zU(h:Ax bs w P v ps hs room c3)(U:Z w et)(aD:ly et (λb=>b=q) q [] 0 room)(bq:(w:Nat)<=q)(nv:Z et fh)(bu:lH fh wc v.aX.a g)(aK:Own wc bs 91 1 zu (some (g,0)) n aQ (c3++[q])):
  Ax bs (wc.setCell (P,3) (.slice (some (g,0)) n aQ)) P {v with aX:=⟨some (g,0),n,aQ⟩} ps hs room (c3++[q]):=by
 have k:=h.pB (U.trans nv);have amm:=bu.aB k.box (λai aj=>k.aX.eQ k.box af ai aj);have en:aG (λx=>x=P\/pP v.aX.a x) fh (wc.setCell (P,3) (.slice (some (g,0)) n aQ)):=(bu.dT.mono (λx _ e=>.inr e)).setCell (P,3) (.inl (.inl rfl)) _;have di:∀{α:Type}{e:TypeId}{sz:Nat}{c:α->List Value}{aw:bk}{n cap base:Nat}{ys:List α},Own fh base e sz c aw n cap ys->e≠90->91≠e->∀ai,aw=some ai->¬(ai.block=P\/pP v.aX.a ai.block):=λaK ae ak ai aj hk=>hk.elim (aK.eQ k.box ae ai aj) (fun⟨nw,pK,C3⟩=>(k.aX.gQ aK ak) nw ai pK aj C3);have k7:∀Dc,ly fh (λb=>b=Dc) Dc [] 0 room->ly (wc.setCell (P,3) (.slice (some (g,0)) n aQ)) (λb=>b=Dc) Dc [] 0 room:=λDc UB=>by
  obtain⟨_,sb⟩:=UB.aaK
  exact UB.dT en (λb e hk=>by
   have e:b=Dc:=e;subst e
   exact hk.elim (aml sb k.box af) (fun⟨nw,pK,C3⟩=>k.aX.eQ sb af nw pK C3))
 have lg:=k.m.Hd
 refine⟨en.ext (λx U=>U.elim (λe=>e▸h.kz) (fun⟨ai,aj,e⟩=>e▸(k.aX.lt ai aj).1)) k.ext,h.kz,er amm 3 _,en.bI k.p (di k.p af af),en.bI k.h (di k.h af af),en.bI k.fJ (di k.fJ af af),en.bI k.go (di k.go af af),
  k.m.aB (en.block _ k.m.lt (λhk=>hk.elim (λe=>?_) (fun⟨ai,aj,e⟩=>k.aX.C8 lg ai aj e))),h.cx,h.jX,h.ij,aK.nh amm af _,λDc aAj=>?_,?_⟩
 ·obtain⟨_,_,hm⟩:=lg;have e:v.dg=P:=e;rw[e,k.box]at hm;cases hm
 ·rcases iR.1 aAj with z|z
  ·exact⟨(h.rV Dc z).1,k7 Dc (k.rV Dc z).2⟩
  ·obtain rfl:=iH.1 z;exact⟨eh h.ext.size bq,k7 _ (aD.ext nv)⟩
 ·rw[Ow];refine⟨h.qs,by simp,λa aj b aa e=>?_⟩;obtain rfl:=iH.1 aa;subst e;have:=(h.rV a aj).2.cx a rfl;omega
end
def Dd(k:Nat):Nat->n1:=λj=>if j<k then .up (qj j j0) else .down []
def Mz(P:Nat)(v:qY):Nat->Prop:=λx=>x=P\/x=v.dg\/pP v.fJ.a x\/pP v.go.a x
def aAk{c3:List Nat}{n:Nat}(h:c3.length=n):(List.range n).map (λk=>c3.getD k 0)=c3:=by
 apply K1;intro j;rw[nu];rcases zz j n with z|z
 ·rw[List.getElem?_range z];simp[fz (show j<c3.length by omega)]
 ·rw[y8 (by simpa using z),y8 J];rfl
def aAl{c3:List Nat}(h:k<c3.length):c3.getD k 0∈c3:=by
 rw[xO,fz h];exact c7 h
def aAm{c3:List Nat}(an:c3.Nodup){j:Nat}(aJ:j<c3.length)(hk:k<c3.length)(h:c3.getD j 0=c3.getD k 0):j=k:=by
 rw[xO,xO,fz aJ,fz hk]at h;exact(List.getElem_inj an).1 h
def Ax.dh{bs w:aC}{P:Nat}{v:qY}{c3:List Nat}(h:Ax bs w P v c.ps c.hs c.room c3)(bq:c3.length=c.ps.length):
  lG w (λx=>Mz P v x\/x∈c3) c P (Dd 0) (λ_=>0) v (λ_=>0) (λk=>c3.getD k 0) (λk x=>x=c3.getD k 0) (λ_ _=>False) (Mz P v):=by
 have lg:=h.m.Hd;have aAn:∀q,q∈c3->¬Mz P v q:=λq aAo hk=>by
  obtain⟨cs,sb⟩:=(h.rV q aAo).2.aaK;rcases hk with e|e|⟨ai,aj,e⟩|⟨ai,aj,e⟩
  ·exact aml sb h.box af e
  ·obtain⟨_,_,hm⟩:=lg;rw[<-e,sb]at hm;cases hm
  ·exact h.fJ.eQ sb af ai aj e
  ·exact h.go.eQ sb af ai aj e
 have eO:∀{α:Type}{e:TypeId}{sz:Nat}{kj:α->List Value}{aw:bk}{n cap base:Nat}{ys:List α},Own w base e sz kj aw n cap ys->e≠90->e≠144->133≠e->oo aw v.fJ.a->∀ai,aw=some ai->¬(Mz P v ai.block\/ai.block∈c3):=λaK ae ak aM aD ai aj hk=>by
  rcases hk with (e|e|⟨nw,pK,e⟩|⟨nw,pK,e⟩)|e
  ·exact aK.eQ h.box ae ai aj e
  ·exact aK.C8 lg ai aj e
  ·exact aD ai nw aj pK e.symm
  ·exact(h.go.gQ aK aM) nw ai pK aj e
  ·obtain⟨_,sb⟩:=(h.rV _ e).2.aaK;exact aK.eQ sb ak ai aj rfl
 have P7:∀n,n<c.ps.length->c3.getD n 0∈c3:=λn an=>aAl J
 refine⟨h.box,(((h.p.pJ (eO h.p af af af h.jX)).and ((h.h.pJ (eO h.h af af af h.ij)).and (h.aX.pJ (eO h.aX af af af (h.aX.gQ h.fJ af))))).mono (λw k=>⟨k.1.aF,k.2.1.aF,by rw[aAk bq];exact k.2.2.aF⟩)),
  ⟨0,_,[],h.m,⟨xX,λk hk=>(by cases hk)⟩,rfl,λk hk=>?_⟩,λn an=>?_,?_,⟨⟨_,h.go.mono (hX _),List.length_replicate,λy hy=>?_,λi j y z ai nw aO aJ aj pK=>?_,λk y hk=>?_⟩,λai aj=>.inr (.inr (.inr ⟨ai,aj,rfl⟩))⟩,⟨.inl rfl,.inr (.inl rfl),λai aj=>.inr (.inr (.inl ⟨ai,aj,rfl⟩))⟩,λx U=>.inl U,λn an x U=>U.elim (λe=>.inr ((show x=c3.getD n 0 from e)▸P7 n an)) (λe=>e.elim),λn an x U=>U.elim (λe=>(show x=c3.getD n 0 from e)▸aAn _ (P7 n an)) (λe=>e.elim),λn k an hk kC x U hy=>?_,λn an x _ hy=>hy,λx U=>?_⟩
 ·have e:mi (Dd 0) (λ_=>0) k=none:=rfl;rw[e];exact⟨λhk=>(by cases hk),rfl⟩
 ·exact⟨(h.rV _ (P7 n an)).2,λx U=>(by cases U)⟩
 ·have e:(List.range c.hs.length).map (λk=>(((λ_=>0:Nat->Nat) k:Nat):Int))=List.replicate c.hs.length 0:=by
   apply RK
   ·simp
   ·intro i ae _;simp
  rw[e];exact h.fJ.mono (hX _)
 ·have:=(List.mem_replicate.1 hy).2;subst this;exact⟨[],Own.nil _ _ _ mD.bH,λai aj=>(by cases aj)⟩
 ·have:=(List.mem_replicate.1 (Be aO)).2;subst this;cases aj
 ·have:=(List.mem_replicate.1 (Be hk)).2;subst this;exact hX _
 ·rcases U with U|U
  ·rcases hy with hy|hy
   ·have bS:x=c3.getD n 0:=U;have bE:x=c3.getD k 0:=hy;exact kC (aAm h.qs J J (bE.symm.trans bS))
   ·exact hy
  ·exact U
 ·rcases U with (e|e|⟨ai,aj,e⟩|⟨ai,aj,e⟩)|e
  ·exact e▸bT h.box
  ·exact e▸h.m.lt
  ·exact e▸(h.fJ.lt ai aj).2
  ·exact e▸(h.go.lt ai aj).2
  ·exact(h.rV x e).2.cx x rfl
def Ax.aAp{bs w:aC}{P:Nat}{v:qY}{ps hs:List Int}{room:Nat}{c3:List Nat}(h:Ax bs w P v ps hs room c3):∀x,(Mz P v x\/x∈c3)->(bs:Nat)<=x:=λx U=>by
 rcases U with (e|e|⟨ai,aj,e⟩|⟨ai,aj,e⟩)|e
 ·exact e▸h.kz
 ·exact e▸h.cx
 ·exact e▸(h.fJ.lt ai aj).1
 ·exact e▸(h.go.lt ai aj).1
 ·exact(h.rV x e).1
def amn{ps hs:List Int}{room:Nat}(a6:jn ps=true)(aa:zx ps.length hs=true)(aaL:10<=room)(ax:room<=60000):jL ⟨ps,hs,room⟩:=by
 unfold zx at aa;rw[ke,jQ,uL]at aa;exact⟨⟨a6,by show room<=1048576;omega⟩,aa.1,λh b5=>of_decide_eq_true (aa.2 h b5),aaL⟩
def aAq(ao:jL c):Vn c [] j0 {j0 with l:=j0.l+1}:=by
 have ax:nZ [my 1]<=c.room:=eh af ao.afL;have aT:xP {j0 with l:=j0.l+1}= [my 1]:=rfl;refine⟨λx U=>(by cases U),λr ax=>(by cases ax),rfl,λr ax=>(by cases ax),hX _,rfl,af,⟨λr ax=>?_,afj (s:=⟨1,[],[],[]⟩) ⟨xX,xX,xX,λi h=>(by cases h),λi h=>(by cases h),λi h=>(by cases h)⟩ Nat.one_pos,ax,Nat.one_pos⟩,ao.room⟩;exact af5
def aAr(k:Nat):C9 (Dd k) k (.up (qj k j0))=Dd (k+1):=by
 funext j;unfold C9 Dd;by_cases e:j=k
 ·subst e;rw[bm rfl,bm J]
 ·rw[bj e];by_cases h:j<k
  ·rw[bm h,bm J]
  ·rw[bj h,bj J]
def lG.congr{w:aC}{W:ff}{P:Nat}{ns':Nat->n1}{v:qY}{p q:Nat->Nat}{D O:Nat->Nat->Prop}(h:lG w M c P bR cur v p q D O W)(he:∀n,n<c.ps.length->bR n=ns' n):lG w M c P ns' cur v p q D O W:=by
 refine⟨h.box,h.lR,?_,λn an=>he n an▸h.qs n an,h.fJ,h.go,h.bI,h.qv,h.sub,h.uB,h.gK,h.G9,h.cx⟩;obtain⟨s,f,e5,ae,ak,aM,bn⟩:=h.dg;refine⟨s,f,e5,ae,ak,aM,λk hk=>?_⟩;have e:mi ns' p k=mi bR p k:=by unfold mi;rw[he k hk]
 rw[e];exact bn k hk
def lG.op{w:aC}{W bP bZ:ff}{P n:Nat}{ns':Nat->n1}{v:qY}{p q:Nat->Nat}{D O:Nat->Nat->Prop}(h:lG w M c P bR cur v p q D O W)(an:n<c.ps.length)(k:aad w w' M M' c n bR ns' v p q D O eL bP bZ)(cB:∀j,j≠n->ns' j=bR j):
  lG w' M' c P ns' cur v (λj=>if j=n then eL else p j) q (λj=>if j=n then bP else D j) (λj=>if j=n then bZ else O j) W:=
 h.VH an k.al k.jw k.dO.new k.bc k.aT k.hs k.zv (by rw[bm rfl];exact k.sm) cB (λj aJ=>bj aJ) k.lg
def rz.aAs{w:aC}{W:ff}{s:iY}{N:Nat}(h:rz w W s N cur)(al:aG (·=B) w w'){cs:Array Value}{fr:Nat×Nat}(aa:w.heap[B]?=some (.cells cs t fr))(ae:133≠t)(ak:64≠t):rz w' W s N cur:=by
 obtain⟨⟨gs,bQ,bY,ew,fm⟩,iQ⟩:=h;exact⟨⟨gs,al.bI bQ (λai aj=>bQ.eQ aa ae ai aj),bY,λy hy=>let ⟨ys,cU,z2⟩:=ew y hy;⟨ys,al.bI cU (λai aj=>cU.eQ aa ak ai aj),z2⟩,fm⟩,iQ⟩
def lG.aAt{w:aC}{W:ff}{P:Nat}{v:qY}{p q:Nat->Nat}{D O:Nat->Nat->Prop}(h:lG w M c P bR cur v p q D O W)(u:Value):
  lG (w.setCell (P,2) u) M c P bR cur {v with lT:=u} p q D O W/\aG (·=P) w (w.setCell (P,2) u):=by
 have al:aG (·=P) w (w.setCell (P,2) u):=(aG.refl (λy=>y=P) w).setCell (P,2) (.inl rfl) _;have fa:=h.bI.1;have a8:∀y,y=P->M y:=λy e=>e▸h.qv _ fa;refine⟨⟨er h.box 2 _,h.lR.step (al.sub a8) (b4.eG _ _),h.dg.aB (al.block _ h.dg.lt (λe=>?_)),λn an=>(h.qs n an).step al a8 (λy hy e=>h.uB n an y hy (by rw[show y=P from e];exact fa)) (b4.eG _ _) (λy hy=>gw (h.cx y hy) al.size),al.bI h.fJ (λai aj=>h.fJ.eQ h.box af ai aj),h.go.aAs al h.box af af,h.bI,h.qv,h.sub,h.uB,h.gK,h.G9,λy hy=>gw (h.cx y hy) al.size⟩,al⟩;obtain⟨s,f,_,hm,_⟩:=h.dg;obtain⟨_,k,hm⟩:=hm.Hd;have e:v.dg=P:=e;rw[e,h.box]at hm;cases hm
def aAu{bs cV:aC}{W:ff}{P cA n s:Nat}{v:qY}{p q:Nat->Nat}{D O:Nat->Nat->Prop}{g:Nat->Nat->Nat}{f:Lit->Option Value}(h:lG wr M c P (Dd c.ps.length) (λ_=>0) v p q D O W)(ho:∀x,M x->(bs:Nat)<=x)(U:Z bs wr)(dG:Gy wr cV (mR c) cA dF n g f s)(pH:(wr:Nat)<=cA)(zl:(wr:Nat)<=dF)(lL:Z wr cV):
  ∃M' fb,jh (cV.setCell (P,2) cA) M' fb c P aZ.new/\Z bs (cV.setCell (P,2) cA)/\∀x,M' x->(bs:Nat)<=x:=by
 obtain⟨ae,ak,aM,bn,cb⟩:=dG;have bf:=U.size;have yU:∀x,tz c g x->(wr:Nat)<=x/\x<(cV:Nat)/\x≠cA/\x≠dF:=λx ⟨a,b,jS,e⟩=>by
  obtain⟨bQ,bY⟩:=cb a b jS;subst e;refine⟨bQ,bT bY,λe=>?_,λe=>?_⟩
  ·rw[e,ae]at bY;cases bY
  ·obtain⟨_,_,hm⟩:=ak.Hd;rw[e,hm]at bY;cases bY
 have bc:b4 wr M (λx=>M x\/tz c g x):=⟨λx k=>.inl k,λx k=>k.imp id (λz=>(yU x z).1)⟩;have aAv:lG cV (λx=>M x\/tz c g x) c P (Dd c.ps.length) (λ_=>0) v p q D O W:=h.step (S:=λ_=>False) (.of lL) (λ_ k=>k.elim) (λ_ _ k=>k) (λ_ _ _ _ k=>k) bc (λx k=>k.elim (λz=>gw (h.cx x z) lL.size) (λz=>(yU x z).2.1));have Cn:qW cV (λx=>M x\/tz c g x) c cA g (λ_ _=> []):=by
  refine⟨λw' al=>⟨dF,n,s,f,?_,?_,aM⟩,bn,λa b jS=>.inr ⟨a,b,jS,rfl⟩,λa b jS=>⟨#[],0,0,(cb a b jS).2,rfl,λk m hk=>(by cases hk)⟩⟩
  ·exact(al.block _ (bT ae) (λk=>k.elim (λz=>by have:=h.cx _ z;omega) (λz=>(yU _ z).2.2.1 rfl))).trans ae
  ·exact ak.aB (al.block _ ak.lt (λk=>k.elim (λz=>by have:=h.cx _ z;omega) (λz=>(yU _ z).2.2.2 rfl)))
 obtain⟨aAw,H2⟩:=aAv.aAt cA;have aC3:P<(wr:Nat):=h.cx P (h.qv _ h.bI.1);have aeo:=Cn.Ha (M':=λx=>M x\/tz c g x) H2 (λx e=>by rw[show x=P from e];exact .inl (h.qv _ h.bI.1)) (λx k e=>by have e:x=P:=e;have:=(yU x k).1;omega) (b4.eG _ _);refine⟨_,uC c g D O W,⟨_,cA,g,p,q,D,O,W,⟨aAw.congr (ns':=aZ.new.bR) (λj aJ=>by unfold Dd;rw[if_pos aJ];rfl),rfl,aeo,λx k hw=>?_,λj aJ x k aD=>?_,λ_ _ _=>rfl⟩,λ_=>Iff.rfl⟩,H2.ext (λx e=>by rw[show x=P from e];exact ho _ (h.qv _ h.bI.1)) (U.trans lL),λx k=>k.elim (ho x) (λz=>by have:=(yU x z).1;omega)⟩
 ·have:=(yU x k).1;have:=h.cx x (h.qv x hw);omega
 ·have:=(yU x k).1;have:=h.cx x (h.sub j aJ x aD);omega
end
def aAx:(prog.info? 91).map (λi=>(i.zero,i.size,i.bytes))=some (some (.pointer none),1,8):=bV
def aAy:(prog.info? 133).map (λi=>(i.zero,i.size,i.bytes))=some (some ↑aH,1,24):=bV
def zu.nt(q:Nat):∀u∈zu q,u.oneCell'=true:=by
 intro u al;simp only[zu,nK,sW,tJ]at al;subst al;rfl
def aaM{room:Nat}{ps:List Int}(cy:a1 w 1 dD cD eL fw ps)(qD:a1 w 1 dD aj an ao hs)(yz:jn ps=true)(ny:ps.length<=16)(LD:hs.length<=32)(aaL:10<=room)(ax:room<=60000):
  aR 7 #[.slice cD eL fw,.slice aj an ao,.int .i64 (room:Int)] w λe w'=>(zx ps.length hs=true->∃P M F,e=.returned (.tuple #[.pointer (some (P,0)),.int .i64 0])/\jh w' M F ⟨ps,hs,room⟩ P aZ.new/\Z w w'/\∀x,M x->(w:Nat)<=x)/\
   (zx ps.length hs=false->e=.returned (.tuple #[.pointer none,bh 1])/\Z w w'):=by
 obtain rfl:=cy.neq;obtain rfl:=qD.neq;obtain⟨ca,bJ,bF,bG,bK⟩:=info_parts S0;replace bJ:=I bJ;replace bF:=I bF;replace bG:=I bG;replace bK:=I bK;obtain⟨_,eo,dB,ej,fe⟩:=info_parts aAy;replace eo:=I eo;replace dB:=I dB;replace ej:=I ej;replace fe:=I fe;obtain⟨d0,Cq,sw,mQ,oV⟩:=info_parts aAx;replace Cq:=I Cq;replace sw:=I sw;replace mQ:=I mQ;replace oV:=I oV;have xG:0<ps.length:=by
  have:=yz;unfold jn at this;rw[ke,jQ]at this;omega
 replace cy:=I cy;replace qD:=I qD;replace yz:=I yz;go_enter func7,ntmps7;go_wp2_with fail;refine(KH cD ps.length fw ps _ cy).mono ?_;rintro e bs⟨rfl,cS⟩;rw[yz.out];have CO:Cr true=0:=rfl;rw[CO];replace cS:=I cS;clear CO;go_wp2_with fail;refine sI (Z bs) (λa7=>?_);refine cX 0 ?_;refine cX 2 ?_;refine cX 5 ?_;refine cX 6 ?_;refine cX 8 ?_;refine cX 9 ?_;refine aAc 3 5 QP (λa0 l a w'=>∃(bd e6 e2 hW iU:Bool) (u22 u24 u25 u28 u31:Value),l=QQ bd e6 e2 hW iU/\a=((((a0.put (some 22) u22).put (some 24) u24).put (some 25) u25).put (some 28) u28).put (some 31) u31/\tI bs w' ps hs bd e6 e2 hW iU u22 u24 u25 u28 u31) (by rfl) bV ?_ ?_ ?_
 ·exact⟨false,false,false,false,false,undef,undef,undef,undef,undef,by kernel_rfl,rfl,⟨X,(λe=>by cases e),(λe=>by cases e),(λe=>by cases e),(λe=>by cases e),(λe=>by cases e),(λe=>by cases e),(λe=>by cases e)⟩⟩
 ·rintro l' hU w'⟨bd,e6,e2,hW,iU,u22,u24,u25,u28,u31,rfl,rfl,hF⟩ hm;have aAz:=I hF;refine aAg bd e6 e2 hW iU (by clear hm hF aAz;cases bd<;>cases e6<;>cases e2<;>cases hW<;>cases iU<;>kernel_rfl) hm ?_ ?_ ?_ ?_ ?_
  ·rintro rfl;refine wpOp_step rfl (λK aL=>?_);rw[bm (show _=true by simp[Region.wanted])];simp only[Act.put,List.setIfInBounds_toArray,List.set_cons_zero,List.set_cons_succ];refine wC (c:=dD) (ys0:= []) (ys:=ps) (.const aH) (.tmp 21) 22 3 rfl ca _ 8 underlying22 bJ bF bG bK rfl af rfl w' (Z.refl _) (Own.nil _ _ _ dD.rM) rfl (cy.ext (cS.trans hF.ext)) dD.nt J af ?_;intro cK gE yD fj CZ aE U bu;refine aL _ _ ⟨hF.ext.trans U,⟨true,e6,e2,hW,iU,.slice cK gE yD,u24,u25,u28,u31,rfl,by(first|rfl|kernel_rfl),hF.e3 U ⟨_,_,_,rfl,aE⟩⟩,by cases e6<;>cases e2<;>cases hW<;>cases iU<;>rfl⟩
  ·rintro rfl rfl;refine wpOp_step rfl (λK aL=>?_);rw[bm (show _=true by simp[Region.wanted])];simp only[Act.put,List.setIfInBounds_toArray,List.set_cons_zero,List.set_cons_succ];refine wC (c:=dD) (ys0:= []) (ys:=hs) (.const aH) (.tmp 23) 22 3 rfl ca _ 8 underlying22 bJ bF bG bK rfl af rfl w' (Z.refl _) (Own.nil _ _ _ dD.rM) rfl (qD.ext (cS.trans hF.ext)) dD.nt J af ?_;intro cK gE yD fj CZ aE U bu;refine aL _ _ ⟨hF.ext.trans U,⟨true,true,e2,hW,iU,u22,.slice cK gE yD,u25,u28,u31,rfl,by(first|rfl|kernel_rfl),hF.oP U ⟨_,_,_,rfl,aE⟩⟩,by cases e2<;>cases hW<;>cases iU<;>rfl⟩
  ·rintro rfl;refine wpOp_step rfl (λK aL=>?_);rw[bm (show _=true by simp[Region.wanted])];have sd:=@run_makeMap prog;simp only[Act.put,List.setIfInBounds_toArray,List.set_cons_zero,List.set_cons_succ];go_simp;clear sd;refine aL _ _ ⟨hF.ext.trans ((Z.refl _).alloc _),⟨bd,e6,true,hW,iU,u22,u24,.map (some (w':Nat)),u28,u31,rfl,by(first|rfl|kernel_rfl),hF.uR ((Z.refl _).alloc _) (fl.CL _ _ _) (bA _)⟩,by cases bd<;>cases e6<;>cases hW<;>cases iU<;>rfl⟩
  ·rintro rfl;refine wpOp_step rfl (λK aL=>?_);rw[bm (show _=true by simp[Region.wanted])];simp only[Act.put,List.setIfInBounds_toArray,List.set_cons_zero,List.set_cons_succ];refine amk (c:=dD) (.tmp 27) 22 3 rfl underlying22 bJ bF bG bK rfl (n:=hs.length) rfl J af (0:Int) rfl dD.rM ?_;intro cK fj aE U;refine aL _ _ ⟨hF.ext.trans U,⟨bd,e6,e2,true,iU,u22,u24,u25,.slice (some (cK,0)) hs.length hs.length,u31,rfl,by(first|rfl|kernel_rfl),hF.tP U ⟨_,_,_,rfl,aE⟩⟩,by cases bd<;>cases e6<;>cases e2<;>cases iU<;>rfl⟩
  ·rintro rfl;refine wpOp_step rfl (λK aL=>?_);rw[bm (show _=true by simp[Region.wanted])];simp only[Act.put,List.setIfInBounds_toArray,List.set_cons_zero,List.set_cons_succ];refine amk (c:=mD.cs) (.tmp 30) 86 133 rfl underlying86 eo dB ej fe rfl (n:=hs.length) rfl J af (⟨⟨none,0,0⟩⟩:mD) rfl mD.bH ?_;intro cK _ aE U;refine aL _ _ ⟨hF.ext.trans U,⟨bd,e6,e2,hW,true,u22,u24,u25,u28,.slice (some (cK,0)) hs.length hs.length,rfl,by(first|rfl|kernel_rfl),hF.aAe U ⟨_,_,_,rfl,aE⟩⟩,by cases bd<;>cases e6<;>cases e2<;>cases hW<;>rfl⟩
 ·rintro _ _ w1⟨_,_,_,_,_,_,_,_,_,_,rfl,rfl,hF⟩ hm;obtain⟨rfl,rfl,rfl,rfl,rfl⟩:=aAh hm;obtain⟨MA,QS,QT,rfl,Bm⟩:=hF.p rfl;obtain⟨pK,CZ,xn,rfl,VY⟩:=hF.h rfl;obtain⟨dg,rfl,jZ,rB⟩:=hF.m rfl;obtain⟨JD,ry,QU,rfl,VZ⟩:=hF.fJ rfl;obtain⟨QV,QW,QX,rfl,V0⟩:=hF.go rfl;have oR:oo MA JD:=λx y U hy e=>hF.jX rfl rfl x y _ _ _ _ (by rw[U]) (by rw[hy]) e;have hQ:oo pK JD:=λx y U hy e=>hF.ij rfl rfl x y _ _ _ _ (by rw[U]) (by rw[hy]) e;have bx:=I hF.ext;have a7:=hF.ext;replace Bm:=I Bm;replace VY:=I VY;replace VZ:=I VZ;replace V0:=I V0;replace rB:=I rB;replace oR:=I oR;replace hQ:=I hQ;clear hF hm;simp only[Act.put,List.setIfInBounds_toArray,List.set_cons_zero,List.set_cons_succ];refine cX 11 ?_;refine hE 12 λK aL=>?_;go_simp;obtain⟨aN,pq⟩:∃aN,w1.alloc (.cells #[aq MA QS QT,aq pK CZ xn,.pointer none,aH,.map (some dg),aq JD ry QU,aq QV QW QX] 90)=aN:=⟨_,rfl⟩;have eu:Ax bs aN (w1:Nat) ⟨⟨MA,QS,QT⟩,⟨pK,CZ,xn⟩,.pointer none,⟨none,0,0⟩,dg,⟨JD,ry,QU⟩,⟨QV,QW,QX⟩⟩ ps hs room []:=by
   subst pq;exact⟨bx.alloc _,bx.size,fi rfl,Bm.ext X,VY.ext X,VZ.ext X,V0.ext X,rB.ext X,jZ,oR,hQ,Own.nil _ _ _ zu.bH,(λq bq=>by cases bq),xX⟩
  have cj:Z w1 aN:=by subst pq;exact X
  rw[pq];clear pq;refine aL _ _ (by(try dsimp only);exact Z.trans bx cj) λa7=>eY ?_;obtain⟨P,kz⟩:∃P,(w1:Nat)=P:=⟨_,rfl⟩;rw[kz]at eu ⊢;replace eu:=I eu;clear kz;refine cX 13 ?_;refine wpAnyH_done bV ?_ _;go_wp2_with fail;clear cj bx Bm VY VZ V0 rB oR hQ jZ a7;go_loopg [10,11,36] (ps.length) (λg aC4 tn dN wr=>∃(k:Nat) (aX:iY) (c3:List Nat),g+k=ps.length/\dN=.int .i64 (k:Int)/\Hid (Ax bs wr P ⟨⟨MA,QS,QT⟩,⟨pK,CZ,xn⟩,.pointer none,aX,dg,⟨JD,ry,QU⟩,⟨QV,QW,QX⟩⟩ ps hs room c3)/\Hid (c3.length=k));case atStart=>exact⟨0,_,[],J,rfl,eu,rfl⟩
  case round=>
   obtain⟨k,⟨oZ,o0,nB⟩,c3,bu,rfl,tt,aaO⟩:=hrel;by_cases hk:k<ps.length
   ·have b0:(k:Int)<(ps.length:Int):=J;go_wp2_with fail;refine(aeZ room wr J).mono ?_;rintro e aY⟨rfl,kS,c9⟩;have fp:=aI (o:=3) (c9.aB tt.box) rfl;replace c9:=I c9;replace kS:=I kS;have aAA:=I tt.aX.neq;have eX:Z wr (aY.alloc (.cells #[wr] 91)):=c9.trans ((Z.refl aY).alloc _);replace eX:=I eX;have dW:=I (tt.aX.ext eX);have xr:=I (eX.aB tt.box);have aaP:=I (Z.size (tt.ext.trans eX));go_wp2_with (at_builtin;refine hf (ys:=c3) (c:=zu) rfl (.tmp 50) (.tmp 52) 88 rfl d0 _ 8 underlying88 Cq sw mQ oV rfl af rfl dW (wr:Nat) _ rfl (fc (cs:=zu (wr:Nat)) rfl) (zu.nt _) (by have:=aaO.out;have:=aAA.out;omega) af aaP ?_;intro g9 ie cG hb fq;have pT:=fq.aB xr (λai aj=>dW.eQ xr af ai aj);have mx:∀j,cG.frozen? ⟨P,j,none⟩=false:=(λj=>nS pT);have z3:=aI (o:=3) pT rfl);go_roundg (gk - 1);case measure=>omega
    case rel=>exact⟨k+1,⟨some ⟨g9,0,none⟩,o0+1,ie⟩,c3++[wr.heap.size],J,by go_num,tt.zU c9 kS (bA _) ((Z.refl _).alloc _) fq hb,by rw[cH,aaO.out];rfl⟩
   ·have b0:¬((k:Int)<(ps.length:Int)):=J;have h3:c3.length=ps.length:=by have:=aaO.out;omega
    replace h3:=I h3;go_wp2_with fail;obtain⟨cY,A2⟩:∃cY,cY=wr:=⟨_,rfl⟩;subst A2;cases br:zx ps.length hs with
    |false=>
     have QR:=I br;clear br;go_loopg [12,13,59] (1) (λg tR tn dN wr=>dN=.int .i64 0/\wr=cY);case atStart=>exact⟨rfl,rfl⟩
     case round=>
      obtain⟨rfl,rfl⟩:=hrel;have b0:(0:Int)<(ps.length:Int):=J;go_wp2_with fail;refine(aAi tt.box tt.p.aF tt.h.aF tt.aX.aF yz ny (n:=0) xG (by rw[h3.out];exact xG) LD QR).mono ?_;rintro e bp⟨rfl,ic⟩;replace ic:=I ic;go_wp2_with fail;go_ret2;exact⟨λh=>(by rw[QR.out]at h;cases h),λ_=>⟨rfl,cS.trans (tt.ext.trans ic)⟩⟩
    |true=>
     have aAB:=I br;have cn:=I (amn yz br aaL ax);have aAC:=I (tt.dh (c:=⟨ps,hs,room⟩) h3);have aAD:=I tt.ext;have yk:=I tt.aAp;clear br;go_loopg [12,13,59] (ps.length) (λg tR tn dN wr=>∃(k:Nat) (M:ff) (p:Nat->Nat) (D O:Nat->Nat->Prop),g+k=ps.length/\dN=.int .i64 (k:Int)/\Hid (lG wr M ⟨ps,hs,room⟩ P (Dd k) (λ_=>0) ⟨⟨MA,QS,QT⟩,⟨pK,CZ,xn⟩,.pointer none,⟨oZ,o0,nB⟩,dg,⟨JD,ry,QU⟩,⟨QV,QW,QX⟩⟩ p (λk=>c3.getD k 0) D O (Mz P ⟨⟨MA,QS,QT⟩,⟨pK,CZ,xn⟩,.pointer none,⟨oZ,o0,nB⟩,dg,⟨JD,ry,QU⟩,⟨QV,QW,QX⟩⟩))/\Hid (Z bs wr)/\Hid (∀x,M x->(bs:Nat)<=x));case atStart=>exact⟨0,_,_,_,_,J,rfl,aAC,aAD,yk⟩
     case round=>
      obtain⟨k,M,p,D,O,_,rfl,JE,tT,V1⟩:=hrel;by_cases hk:k<ps.length
      ·have b0:(k:Int)<(ps.length:Int):=J;go_wp2_with fail;refine(azE JE cn (n:=k) hk (by unfold Dd;exact if_neg J) (aAq cn)).mono ?_;rintro e _⟨kq,_,_,_,rfl,bC⟩;have Bm:=JE.op hk bC (λj aJ=>by unfold C9;exact if_neg aJ);rw[aAr]at Bm;replace Bm:=I Bm;have ic:=I (bC.al.ext (λx U=>U.elim (λz=>V1 x (JE.sub k hk x z)) (λe=>V1 x (by rw[e];exact JE.qv _ JE.bI.2.1))) tT);have vn:=I (show ∀x,kq x->(bs:Nat)<=x from λx U=>(bC.bc.new x U).elim (V1 x) (λz=>eh tT.size z));clear bC;go_wp2_with fail;go_roundg (gk - 1);case measure=>omega
       case rel=>exact⟨k+1,kq,_,_,_,J,by go_num,Bm,ic,vn⟩
      ·obtain rfl:k=ps.length:=J;have b0:¬((ps.length:Int)<(ps.length:Int)):=J;go_wp2_with fail;refine(auM cD ps.length fw ⟨ps,hs,room⟩ _ (cy.ext (cS.trans tT)) yz).mono ?_;rintro e _⟨_,_,_,_,_,_,rfl,pH,zl,IT,lL⟩;have amo:=lL.aB JE.box;have PU:=I (aAu (c:=⟨ps,hs,room⟩) JE V1 tT IT pH zl lL);obtain⟨-,-,_,_⟩:=sn amo;clear IT lL amo pH zl;go_wp2_with fail;go_ret2;refine⟨λ_=>?_,λh=>(by rw[aAB.out]at h;cases h)⟩;obtain⟨M',fb,ae,ak,aM⟩:=PU;exact⟨P,M',fb,rfl,ae,cS.trans ak,λx U=>eh cS.size (aM x U)⟩
def aAE{w:aC}{cD aj:bk}{eL fw an ao room:Nat}{ps hs:List Int}(cy:a1 w 1 dD cD eL fw ps)(yz:jn ps=false):
  aR 7 #[aq cD eL fw,aq aj an ao,(room:Int)] w (cM (.tuple #[.pointer none,bh 120]) w):=by
 obtain rfl:=cy.neq;change Hid _ at cy yz;go_enter func7,ntmps7;go_wp2_with fail;refine(KH cD ps.length fw ps _ cy).mono ?_;rintro e _⟨rfl,cS⟩;rw[yz.out,show Cr false=120 from rfl];change Hid _ at cS;go_wp2_with fail;go_ret2;exact⟨rfl,cS⟩
section
def jG(w:World)(M gP:Nat->Prop)(c:bt)(Q:Nat)(aU:aZ)(ids:List aA):Prop:=
 ∃(P:Nat) (F:Nat->Prop) (a:Option Addr) (n aQ:Nat),jh w M F c P aU/\w.heap[Q]?=some (.cells #[P,aq a n aQ] 138 (0,0))/\Own w 0 54 3 aA.cs a n aQ ids/\(∀x,x=Q\/pP a x->M x/\¬F x)/\(∀x,F x\/x=Q\/pP a x->gP x)/\∀x,gP x->M x
structure h7 where
 z:Int
 i:aA
 st:Int
 b:iY
 dk:Int
 vq:Int
 up:Bool
instance:Coe h7 Value:=⟨λx=>.agg #[.int .i64 x.z,.int .i64 x.i.b,.int .u64 x.i.l,.int .u64 x.i.s,.int .i64 x.st,.slice x.b.a x.b.n x.b.c,.int .i64 x.dk,.int .i64 x.vq,.bool x.up]⟩
instance:Coe h7 Obj:=⟨λx=>.cells #[.int .i64 x.z,.int .i64 x.i.b,.int .u64 x.i.l,.int .u64 x.i.s,.int .i64 x.st,.slice x.b.a x.b.n x.b.c,.int .i64 x.dk,.int .i64 x.vq,.bool x.up] 83⟩
def h7.cs(x:h7):List Value:= [.int .i64 x.z,.int .i64 x.i.b,.int .u64 x.i.l,.int .u64 x.i.s,.int .i64 x.st,.slice x.b.a x.b.n x.b.c,.int .i64 x.dk,.int .i64 x.vq,.bool x.up]
def h7.bH(x:h7):x.cs.length=9:=rfl
def h7.cN(x:h7):∀u∈x.cs,u.oneCell'=true:=by
 intro u al;simp only[h7.cs,nK,sW,tJ]at al;exact Za
def Fv(c:bt)(Q:Nat)(w:World)(M gP:Nat->Prop)(aU:aZ)(ids:List aA)(aDt:h7->Prop)(e:Ending)(w':World):Prop:=
 ∃x M' QY,e=.returned (.agg #[x.z,x.i.b,ad x.i.l,ad x.i.s,x.st,x.b,x.dk,x.vq,x.up])/\aDt x/\jG w' M' QY c Q aU ids/\hJ w M gP w' M' QY
section
variable {w w':World}{M gP:Nat->Prop}{c:bt}{Q:Nat}{aU:aZ}{ids:List aA}
def jG.ext(h:jG w M gP c Q aU ids)(U:Z w w'):jG w' M gP c Q aU ids:=by
 obtain⟨P,F,a,n,aQ,ae,ak,aM,bn,cb⟩:=h;exact⟨P,F,a,n,aQ,ae.ext U,U.aB ak,aM.ext U,bn,cb⟩
def jG.sub(h:jG w M gP c Q aU ids):∀x,gP x->M x:=let ⟨_,_,_,_,_,_,_,_,_,_,ey⟩:=h;ey
def jG.cx(h:jG w M gP c Q aU ids):∀x,M x->x<(w:Nat):=let ⟨_,_,_,_,_,ae,_⟩:=h;ae.cx
def jG.aaQ{P:Nat}{F:ff}{fb:ff}{vo:aZ}(ak:w.heap[Q]?=some (.cells #[P,aq a n aQ] 138 (0,0)))(aM:Own w 0 54 3 aA.cs a n aQ ids)(bn:∀x,x=Q\/pP a x->M x/\¬F x)(cb:∀x,F x\/x=Q\/pP a x->gP x)(ey:∀x,gP x->M x)(hw:jh w' M' fb c P vo)(hm:hJ w M F w' M' fb):jG w' M' (λx=>gP x\/fb x) c Q vo ids/\hJ w M gP w' M' (λx=>gP x\/fb x):=by
 have jz:=(bn Q (.inl rfl)).2;have fM:∀x,x=Q\/pP a x->x<(w:Nat):=λx U=>U.elim (λe=>e▸bT ak) (fun⟨ai,aj,e⟩=>e▸(aM.lt ai aj).2);refine⟨⟨P,fb,a,n,aQ,hw,(hm.dT.block _ (bT ak) jz).trans ak,hm.dT.bI aM (λai aj=>(bn _ (.inr ⟨ai,aj,rfl⟩)).2),λx U=>⟨hm.m.up x (bn x U).1,λk=>(hm.f.new x k).elim (bn x U).2 (λz=>by have:=fM x U;omega)⟩,λx U=>U.elim .inr (λk=>.inl (cb x (.inr k))),λx U=>U.elim (λk=>hm.m.up x (ey x k)) (hw.sub x)⟩,hm.dT.mono (λx _ k=>cb x (.inl k)),⟨λx k=>.inl k,λx k=>k.elim .inl (λz=>(hm.f.new x z).imp (λy=>cb x (.inl y)) id)⟩,hm.m⟩
def jG.pB{P g gE yD:Nat}{F:ff}{fh:aC}(ae:jh w M F c P aU)(ak:w.heap[Q]?=some (.cells #[P,aq a n aQ] 138 (0,0)))(aM:Own w 0 54 3 aA.cs a n aQ ids)(bn:∀x,x=Q\/pP a x->M x/\¬F x)(cb:∀x,F x\/x=Q\/pP a x->gP x)(ey:∀x,gP x->M x)(bu:lH w fh a g)(aK:Own fh 0 54 3 aA.cs (some (g,0)) gE yD (ids++[i])):
  ∃M' QY,jG (fh.setCell (Q,1) (.slice (some (g,0)) gE yD)) M' QY c Q aU (ids++[i])/\hJ w M gP (fh.setCell (Q,1) (.slice (some (g,0)) gE yD)) M' QY:=by
 have r6:=bu.aB ak (λai aj=>aM.eQ ak af ai aj);have en:aG (λx=>x=Q\/pP a x) w (fh.setCell (Q,1) (.slice (some (g,0)) gE yD)):=(bu.dT.mono (λx _ e=>.inr e)).setCell (Q,1) (.inl (.inl rfl)) _;have wR:pP a g\/(w:Nat)<=g:=bu.at_.elim (λk=>.inl (let ⟨ai,aj,e⟩:=k;⟨ai,aj,e⟩)) (λe=>.inr J);have pI:=aK.nh r6 af (.slice (some (g,0)) gE yD) (j:=1);have GH:=(pI.lt _ rfl).2;have bc:b4 w M (λx=>M x\/x=g):=⟨λx k=>.inl k,λx k=>k.elim .inl (λe=>wR.elim (λz=>.inl (e▸(bn g (.inr z)).1)) (λz=>.inr (e▸z)))⟩;have aAF:¬F g:=λk=>wR.elim (λz=>(bn g (.inr z)).2 k) (λz=>by have:=ae.cx g (ae.sub g k);omega);have hw:=ae.step en (λx U=>(bn x U).1) (λx U k=>(bn x k).2 U) bc (λx k=>k.elim (λz=>gw (ae.cx x z) en.size) (λe=>e▸GH));refine⟨λx=>M x\/x=g,λx=>gP x\/x=g,⟨P,F,_,_,_,hw,er r6 1 _,pI,λx U=>?_,λx U=>?_,λx U=>U.imp (ey x) id⟩,en.mono (λx _ k=>cb x (.inr k)),⟨λx k=>.inl k,λx k=>k.elim .inl (λe=>wR.elim (λz=>.inl (e▸cb g (.inr (.inr z)))) (λz=>.inr (e▸z)))⟩,bc⟩
 ·rcases U with rfl|⟨ai,aj,e⟩
  ·exact⟨.inl (bn _ (.inl rfl)).1,(bn _ (.inl rfl)).2⟩
  ·cases aj;have e:g=x:=e;subst e;exact⟨.inr rfl,aAF⟩
 ·rcases U with k|k|⟨ai,aj,e⟩
  ·exact .inl (cb x (.inl k))
  ·exact .inl (cb x (.inr (.inl k)))
  ·cases aj;exact .inr e.symm
end
section
variable {w bs cV cG:World}{M gP iN JF:Nat->Prop}{c:bt}{Q R:Nat}{aU vo:aZ}{ids V2:List aA}
def Fw{fr:Nat×Nat}{cT c1 c2 da dJ dw eC eK iT:Value}(h:w.heap[R]?=some (.cells #[cT,c1,c2,da,dJ,dw,eC,eK,iT] t fr))(v0 v1 v2 v3 v4 v5 v6 gy iC:Value):
  (((((((((w.setCell (R,0) v0).setCell (R,1) v1).setCell (R,2) v2).setCell (R,3) v3).setCell (R,4) v4).setCell (R,5) v5).setCell (R,6) v6).setCell (R,7) gy).setCell (R,8) iC).heap[R]?=some (.cells #[v0,v1,v2,v3,v4,v5,v6,gy,iC] t fr):=by
 have aW:=er h 0 v0;rw[show(#[cT,c1,c2,da,dJ,dw,eC,eK,iT]:Array Value).setIfInBounds 0 v0=#[v0,c1,c2,da,dJ,dw,eC,eK,iT]from rfl]at aW;have ae:=er aW 1 v1;rw[show(#[v0,c1,c2,da,dJ,dw,eC,eK,iT]:Array Value).setIfInBounds 1 v1=#[v0,v1,c2,da,dJ,dw,eC,eK,iT]from rfl]at ae;have ak:=er ae 2 v2;rw[show(#[v0,v1,c2,da,dJ,dw,eC,eK,iT]:Array Value).setIfInBounds 2 v2=#[v0,v1,v2,da,dJ,dw,eC,eK,iT]from rfl]at ak;have aM:=er ak 3 v3;rw[show(#[v0,v1,v2,da,dJ,dw,eC,eK,iT]:Array Value).setIfInBounds 3 v3=#[v0,v1,v2,v3,dJ,dw,eC,eK,iT]from rfl]at aM;have bn:=er aM 4 v4;rw[show(#[v0,v1,v2,v3,dJ,dw,eC,eK,iT]:Array Value).setIfInBounds 4 v4=#[v0,v1,v2,v3,v4,dw,eC,eK,iT]from rfl]at bn;have cb:=er bn 5 v5;rw[show(#[v0,v1,v2,v3,v4,dw,eC,eK,iT]:Array Value).setIfInBounds 5 v5=#[v0,v1,v2,v3,v4,v5,eC,eK,iT]from rfl]at cb;have ey:=er cb 6 v6;rw[show(#[v0,v1,v2,v3,v4,v5,eC,eK,iT]:Array Value).setIfInBounds 6 v6=#[v0,v1,v2,v3,v4,v5,v6,eK,iT]from rfl]at ey;have iZ:=er ey 7 gy;rw[show(#[v0,v1,v2,v3,v4,v5,v6,eK,iT]:Array Value).setIfInBounds 7 gy=#[v0,v1,v2,v3,v4,v5,v6,gy,iT]from rfl]at iZ;have fs:=er iZ 8 iC;rw[show(#[v0,v1,v2,v3,v4,v5,v6,gy,iT]:Array Value).setIfInBounds 8 iC=#[v0,v1,v2,v3,v4,v5,v6,gy,iC]from rfl]at fs;exact fs
def Fx(v0 v1 v2 v3 v4 v5 v6 gy iC:Value):aG (·=R) w (((((((((w.setCell (R,0) v0).setCell (R,1) v1).setCell (R,2) v2).setCell (R,3) v3).setCell (R,4) v4).setCell (R,5) v5).setCell (R,6) v6).setCell (R,7) gy).setCell (R,8) iC):=
 (((((((((aG.refl (·=R) w).setCell ⟨R,0,none⟩ (.inl rfl) v0).setCell ⟨R,1,none⟩ (.inl rfl) v1).setCell ⟨R,2,none⟩ (.inl rfl) v2).setCell ⟨R,3,none⟩ (.inl rfl) v3).setCell ⟨R,4,none⟩ (.inl rfl) v4).setCell ⟨R,5,none⟩ (.inl rfl) v5).setCell ⟨R,6,none⟩ (.inl rfl) v6).setCell ⟨R,7,none⟩ (.inl rfl) gy).setCell ⟨R,8,none⟩ (.inl rfl) iC
def jG.cell(h:jG w M gP c Q aU ids)(U:Z w bs)(bC:(w:Nat)<=R)(aT:R<(bs:Nat)):jG bs (λx=>M x\/x=R) gP c Q aU ids:=by
 obtain⟨P,F,a,n,aQ,ae,ak,aM,bn,cb,ey⟩:=h;exact⟨P,F,a,n,aQ,ae.cell U bC aT,U.aB ak,aM.ext U,λx k=>⟨.inl (bn x k).1,(bn x k).2⟩,cb,λx k=>.inl (ey x k)⟩
def jG.Fs(h:jG w M gP c Q aU ids)(bC:(w:Nat)<=R):¬gP R:=λk=>by have:=h.cx R (h.sub R k);omega
def jG.store(h:jG cG iN JF c Q vo V2)(hm:iN R)(hF:¬JF R)(al:aG (·=R) cG cV):jG cV iN JF c Q vo V2:=by
 obtain⟨P,F,a,n,aQ,ae,ak,aM,bn,cb,ey⟩:=h;refine⟨P,F,a,n,aQ,ae.store hm (λk=>hF (cb _ (.inl k))) al,(al.block _ (bT ak) (λe=>hF (cb R (.inr (.inl (show Q=R from e).symm))))).trans ak,al.bI aM (λai aj e=>hF (cb R (.inr (.inr ⟨ai,aj,e⟩)))),bn,cb,ey⟩
def jG.wb(h:jG cG iN JF c Q vo V2)(hm:hJ bs (λx=>M x\/x=R) gP cG iN JF)(U:Z w bs)(bC:(w:Nat)<=R)(aT:R<(bs:Nat))(hF:¬gP R)(al:aG (·=R) cG cV):jG cV iN JF c Q vo V2/\hJ w M gP cV iN JF:=
 ⟨h.store (hm.m.up _ (.inr rfl)) (λk=>(hm.f.new _ k).elim hF (λz=>by omega)) al,hm.cell U bC al⟩
end
end
def aAG{Q:Nat}(h:jG w M gP c Q aU ids)(aT:ids.length<=1000)(i:aA)(z:Int):
  aR 183 #[Q,i,z] w (Fv c Q w M gP aU (ids++[uy z i]) (λx=>x.z=z)):=by
 obtain⟨dc,bJ,bF,bG,bK⟩:=info_parts zE;replace bJ:=I bJ;replace bF:=I bF;replace bG:=I bG;replace bK:=I bK;have bw:Z w ((w.alloc i).alloc (.cells #[ar,ar,au,au,ar,aH,ar,ar,.bool false] 83)):=X;have BJ:((w.alloc i).alloc (.cells #[ar,ar,au,au,ar,aH,ar,ar,.bool false] 83)).heap[(w:Nat)]?=some (i:Obj):=hT;have Ar:((w.alloc i).alloc (.cells #[ar,ar,au,au,ar,aH,ar,ar,.bool false] 83)).heap[(w:Nat)+1]?=some (.cells #[ar,ar,au,au,ar,aH,ar,ar,.bool false] 83):=hT;have ft:((w.alloc i).alloc (.cells #[ar,ar,au,au,ar,aH,ar,ar,.bool false] 83)).heap.size=(w:Nat)+2:=by simp
 by_cases bf:z=0
 ·subst bf;go_enter func183,ntmps183;go_wp2_with fail;obtain⟨bs,hI⟩:∃bs,((w.alloc i).alloc (.cells #[ar,ar,au,au,ar,aH,ar,ar,.bool false] 83))=bs:=⟨_,rfl⟩;rw[hI]at bw BJ Ar ft;rw[hI];clear hI;have kr:=h.Fs (R:=(w:Nat)) (bA _);have fu:=h.Fs (R:=(w:Nat)+1) J;have mU:=h.cell (R:=(w:Nat)+1) bw J J;obtain⟨P,F,a,n,aQ,H1,dZ,fK,gu,hh,j7⟩:=mU;have eu:=I fK.neq;replace H1:=I H1;replace dZ:=I dZ;replace fK:=I fK;replace gu:=I gu;replace hh:=I hh;replace j7:=I j7;replace kr:=I kr;replace fu:=I fu;change Hid _ at bw BJ Ar ft;clear h;refine uc 10 (λw'=>w'.heap[Q]?=some (.cells #[P,aq a n aQ] 138 (0,0))/\w'.heap[(w:Nat)]?=some (i:Obj)) (λa7=>?_) (by(try dsimp only);exact⟨Z.aB (W:=bs) X dZ,Z.aB (W:=bs) X BJ⟩);refine um ?_;refine ed 3 ?_;refine kH 4 (·.1) ?_;refine kH 5 (·.2) ?_;refine lh 6 λK aL=>?_;go_simp;refine aL _ _ (λ_ _=>(by(try dsimp only);exact⟨Z.aB (W:=bs) X dZ,Z.aB (W:=bs) X BJ⟩)) λhH=>eY ?_;have a7:=hH rfl af;refine lh 7 λK aL=>?_;have jO:Z bs (bs.alloc i).drew:=X;have hj:=I (fK.ext jO);have kQ:=I (jO.aB dZ);replace jO:=I jO;refine vE (ys:=ids) (c:=aA.cs) rfl (.tmp 14) (.tmp 16) 31 rfl dc _ 24 underlying31 bJ bF bG bK rfl af rfl hj i _ rfl (fc (cs:=aA.cs i) rfl) (aA.cN _) (by have:=eu.out;omega) af (hX _) ?_;intro g6 eC cV qb ta;have pX:=ta.aB kQ (λai aj=>hj.eQ kQ af ai aj);obtain⟨aaR,aaS,Fy,iq⟩:=jG.pB (ids:=ids) (i:=i) (H1.ext jO) (jO.aB dZ) hj (λx U=>gu x U) hh j7 ta qb;have MB:=ta.aB (jO.aB BJ) (λai aj e=>kr (hh _ (.inr (.inr ⟨ai,aj,e⟩))));replace pX:=I pX;replace MB:=I MB;replace iq:=I iq;replace Fy:=I Fy;clear qb ta;refine amp ?_;intro hH a7 cU mx K aL df xg;rw[xg]at iq Fy;rw[xg];clear xg cU mx;have MC:=(iq.dT.block _ (bT (jO.aB BJ)) kr).trans (jO.aB BJ);have Fz:=(iq.dT.block _ (bT (jO.aB Ar)) fu).trans (jO.aB Ar);obtain⟨eI,bQ,bY⟩:=iE MC;obtain⟨v0,v1,v2,v3,v4,v5,v6,gy,iC,pC⟩:=uX Fz;replace Fz:=I Fz;clear MC;refine Jt ?_;intro _;go_wp2_with fail;have g9:=Fw Fz ar i.b (ad i.l) (ad i.s) ar aH ar ar (.bool false);have lx:=Fx (w:=df) (R:=(w:Nat)+1) ar i.b (ad i.l) (ad i.s) ar aH ar ar (.bool false);obtain⟨lk,iL⟩:∃lk,(((((((((df.setCell (w,1,0) ar).setCell (w,1,1) i.b).setCell (w,1,2) (ad i.l)).setCell (w,1,3) (ad i.s)).setCell (w,1,4) ar).setCell (w,1,5) aH).setCell (w,1,6) ar).setCell (w,1,7) ar).setCell (w,1,8) (.bool false))=lk:=⟨_,rfl⟩;rw[iL]at g9 lx;rw[iL];clear iL;obtain⟨cF,cP,cQ,dd,ds,dm,dt,du,jy⟩:=vy g9;refine⟨rfl,_,(by simp[results,results183,go_sem,cF,cP,cQ,dd,ds,dm,dt,du,jy];rfl),?_⟩;obtain⟨f1,f2⟩:=Fy.wb (iq.cC jO) bw J (by have:=ft.out;omega) fu lx;rw[show uy 0 i=i from rfl];exact⟨⟨0,i,0,⟨none,0,0⟩,0,0,false⟩,aaR,aaS,rfl,rfl,f1,f2⟩
 ·go_enter func183,ntmps183;go_wp2_with fail;clear bw BJ Ar ft;obtain⟨kL,me⟩:∃kL:aA,kL=⟨0,0,0⟩:=⟨_,rfl⟩;have bx:Z w ((w.alloc kR).alloc (.cells #[ar,ar,au,au,ar,aH,ar,ar,.bool false] 83)):=X;have Hh:((w.alloc kR).alloc (.cells #[ar,ar,au,au,ar,aH,ar,ar,.bool false] 83)).heap[(w:Nat)]?=some (kL:Obj):=by subst me;(exact Ht)
  have QZ:((w.alloc kR).alloc (.cells #[ar,ar,au,au,ar,aH,ar,ar,.bool false] 83)).heap[(w:Nat)+1]?=some (.cells #[ar,ar,au,au,ar,aH,ar,ar,.bool false] 83):=hT;have n2:((w.alloc kR).alloc (.cells #[ar,ar,au,au,ar,aH,ar,ar,.bool false] 83)).heap.size=(w:Nat)+2:=by simp
  replace me:=I me;obtain⟨bs,hI⟩:∃bs,((w.alloc kR).alloc (.cells #[ar,ar,au,au,ar,aH,ar,ar,.bool false] 83))=bs:=⟨_,rfl⟩;rw[hI]at bx Hh QZ n2;rw[hI];clear hI;have kr:=h.Fs (R:=(w:Nat)) (bA _);have fu:=h.Fs (R:=(w:Nat)+1) J;have mU:=h.cell (R:=(w:Nat)+1) bx J J;obtain⟨P,F,a,n,aQ,H1,dZ,fK,gu,hh,j7⟩:=mU;have eu:=I fK.neq;replace H1:=I H1;replace dZ:=I dZ;replace fK:=I fK;replace gu:=I gu;replace hh:=I hh;replace j7:=I j7;replace kr:=I kr;replace fu:=I fu;replace bx:=I bx;replace Hh:=I Hh;replace QZ:=I QZ;replace n2:=I n2;clear h;refine uc 10 (λw'=>w'.heap[Q]?=some (.cells #[P,aq a n aQ] 138 (0,0))/\w'.heap[(w:Nat)]?=some (kL:Obj)) (λa7=>?_) (by(try dsimp only);exact⟨Z.aB (W:=bs) X dZ,Z.aB (W:=bs) X Hh⟩);refine um ?_;refine ed 3 ?_;refine kH 4 (·.1) ?_;refine kH 5 (·.2) ?_;refine lh 6 λK aL=>?_;go_simp;refine aL _ _ (λ_ _=>(by(try dsimp only);exact⟨Z.aB (W:=bs) X dZ,Z.aB (W:=bs) X Hh⟩)) λhH=>eY ?_;have a7:=hH rfl af;refine lh 7 λK aL=>?_;have jO:Z bs (bs.alloc kL).drew:=X;have hj:=I (fK.ext jO);have kQ:=I (jO.aB dZ);replace jO:=I jO;refine vE (ys:=ids) (c:=aA.cs) rfl (.tmp 14) (.tmp 16) 31 rfl dc _ 24 underlying31 bJ bF bG bK rfl af rfl hj kL _ rfl (fc (cs:=aA.cs kL) rfl) (aA.cN _) (by have:=eu.out;omega) af (hX _) ?_;intro g6 eC cV qb ta;have pX:=ta.aB kQ (λai aj=>hj.eQ kQ af ai aj);obtain⟨aaR,aaS,Fy,iq⟩:=jG.pB (ids:=ids) (i:=kL) (H1.ext jO) (jO.aB dZ) hj (λx U=>gu x U) hh j7 ta qb;have MB:=ta.aB (jO.aB Hh) (λai aj e=>kr (hh _ (.inr (.inr ⟨ai,aj,e⟩))));replace pX:=I pX;replace MB:=I MB;replace iq:=I iq;replace Fy:=I Fy;clear qb ta;refine amp ?_;intro hH a7 cU mx K aL df xg;rw[xg]at iq Fy;rw[xg];clear xg cU mx;have MC:=(iq.dT.block _ (bT (jO.aB Hh)) kr).trans (jO.aB Hh);have Fz:=(iq.dT.block _ (bT (jO.aB QZ)) fu).trans (jO.aB QZ);obtain⟨_,_,_⟩:=iE MC;obtain⟨_,_,_,_,_,_,_,_,_,_⟩:=uX Fz;replace Fz:=I Fz;clear MC;refine Jt ?_;intro _;go_wp2_with fail;have g9:=Fw Fz z kL.b (ad kL.l) (ad kL.s) ar aH ar ar (.bool false);have lx:=Fx (w:=df) (R:=(w:Nat)+1) z kL.b (ad kL.l) (ad kL.s) ar aH ar ar (.bool false);obtain⟨lk,iL⟩:∃lk,(((((((((df.setCell (w,1,0) z).setCell (w,1,1) kL.b).setCell (w,1,2) (ad kL.l)).setCell (w,1,3) (ad kL.s)).setCell (w,1,4) ar).setCell (w,1,5) aH).setCell (w,1,6) ar).setCell (w,1,7) ar).setCell (w,1,8) (.bool false))=lk:=⟨_,rfl⟩;rw[iL]at g9 lx;rw[iL];clear iL;obtain⟨cF,cP,cQ,dd,ds,dm,dt,du,jy⟩:=vy g9;refine⟨rfl,_,(by simp[results,results183,go_sem,cF,cP,cQ,dd,ds,dm,dt,du,jy];rfl),?_⟩;obtain⟨f1,f2⟩:=Fy.wb (iq.cC jO) bx J (by have:=n2.out;omega) fu lx;rw[show uy z i=kL from by unfold uy;rw[if_neg bf,me.out]];exact⟨⟨z,kL,0,⟨none,0,0⟩,0,0,false⟩,aaR,aaS,rfl,rfl,f1,f2⟩
structure r7 where
 k:Int
 a:Int
 b:Int
 n:Int
 e:iY
 f:iY
instance:Coe r7 Value:=⟨λx=>.agg #[.int .i64 x.k,.int .i64 x.a,.int .i64 x.b,.int .i64 x.n,.slice x.e.a x.e.n x.e.c,.slice x.f.a x.f.n x.f.c]⟩
instance:Coe r7 Obj:=⟨λx=>.cells #[.int .i64 x.k,.int .i64 x.a,.int .i64 x.b,.int .i64 x.n,.slice x.e.a x.e.n x.e.c,.slice x.f.a x.f.n x.f.c] 72⟩
def aaT{Q:Nat}{T:Nat}(h:jG w M gP c Q aU ids)(ao:jL c)(aO:dy c l T aU)(r5:c.room<=60000)(o:r7):
  aR 104 #[Q,o] w (Fv c Q w M gP (aU.round c) ids (λ_=>True)):=by
 refine Hi ?_;intro cS iB fX cm mU kr fu;go_enter func104,ntmps104;refine JG ?_;intro _ _ _ bs hI;rw[hI]at cS iB fX cm mU;try rw[hI]
 obtain⟨P,F,a,n,_,H1,dZ,fK,gu,hh,j7⟩:=mU;have gn:=aI (o:=0) dZ rfl;replace cS:=I cS;replace iB:=I iB;replace fX:=I fX;replace cm:=I cm;replace kr:=I kr;replace fu:=I fu;replace H1:=I H1;replace dZ:=I dZ;replace fK:=I fK;replace gu:=I gu;replace hh:=I hh;replace j7:=I j7;go_wp2_with fail;refine(VD H1 ao aO r5).mono ?_;rintro r w1⟨_,_,rfl,gq,hq⟩;obtain⟨mf,q0⟩:=jG.aaQ dZ fK gu hh j7 gq hq;have c6:=(q0.dT.block _ (bT cm) fu).trans cm;obtain⟨_,_,_,_,_,_,_,_,_,_⟩:=uX c6;replace mf:=I mf;replace q0:=I q0;replace c6:=I c6;go_wp2_with fail;have g9:=Fw c6 ar ar au au ar aH ar ar (.bool false);have lx:=Fx (w:=w1) (R:=(w:Nat)+1) ar ar au au ar aH ar ar (.bool false);obtain⟨lk,iL⟩:∃lk,(((((((((w1.setCell (w,1,0) ar).setCell (w,1,1) ar).setCell (w,1,2) au).setCell (w,1,3) au).setCell (w,1,4) ar).setCell (w,1,5) aH).setCell (w,1,6) ar).setCell (w,1,7) ar).setCell (w,1,8) (.bool false))=lk:=⟨_,rfl⟩;rw[iL]at g9 lx;rw[iL];obtain⟨cF,cP,cQ,dd,ds,dm,dt,du,jy⟩:=vy g9;refine⟨rfl,_,(by simp[results,results104,go_sem,cF,cP,cQ,dd,ds,dm,dt,du,jy];rfl),?_⟩;obtain⟨f1,f2⟩:=mf.wb q0 cS J Qk fu lx;exact⟨⟨0,⟨0,0,0⟩,0,⟨none,0,0⟩,0,0,false⟩,_,_,rfl,trivial,f1,f2⟩
def aAH{Q:Nat}{T:Nat}(h:jG w M gP c Q aU ids)(ao:jL c)(aO:dy c l T aU)(kp:T<=1000)(aT:ids.length<=1000)(o:r7){r:Int×aA×aZ}(ax:aU.call c o.a (λb=>b.pO o.a)=r):
  aR 105 #[Q,o] w (Fv c Q w M gP r.2.2 (ids++[uy r.1 r.2.1]) (λx=>x.z=r.1)):=by
 refine Hi ?_;intro cS iB fX cm mU kr fu;go_enter func105,ntmps105;refine JG ?_;intro _ _ _ bs hI;rw[hI]at cS iB fX cm mU;try rw[hI]
 obtain⟨P,F,a,n,aQ,H1,dZ,fK,gu,hh,j7⟩:=mU;replace cS:=I cS;replace iB:=I iB;replace fX:=I fX;replace cm:=I cm;replace kr:=I kr;replace fu:=I fu;replace H1:=I H1;replace dZ:=I dZ;replace fK:=I fK;replace gu:=I gu;replace hh:=I hh;replace j7:=I j7;go_wp2_with fail;refine uc 10 (λw'=>w'.heap[Q]?=some (.cells #[P,aq a n aQ] 138 (0,0))/\w'.heap[(w:Nat)]?=some (o:Obj)) (λa7=>?_) aaU;refine um ?_;refine ed 3 ?_;refine kH 4 (·.1) ?_;refine ed 5 ?_;refine kH 6 (·.2) ?_;refine lh 7 λK aL=>?_;go_simp;go_at_call 22;refine(aaj (H1.ext X) ao aO kp o.a).mono ?_;rw[ax];rintro e _⟨_,_,rfl,gq,hq⟩;refine Q0 ?_;intro rK mf q0 hV dn c6;refine aL _ _ (λ_ _=>(by(try dsimp only);exact⟨hV,dn⟩)) λhH=>eY ?_;have a7:=hH rfl af;refine ed 8 ?_;refine ed 9 ?_;refine lh 10 λK aL=>?_;refine amq ?_;intro aY x LR V3 v0 v1 v2 v3 v4 v5 v6 gy iC pC h9 qN JH CH;refine Hb ?_;intro _ a7;refine hE 11 λK aL=>?_;refine V4 ?_;intro a7;go_wp2_with fail;refine amr ?_;intro lk lx g9 iL;obtain⟨cF,cP,cQ,dd,ds,dm,dt,du,jy⟩:=vy g9;refine⟨rfl,_,(by simp[results,results105,go_sem,cF,cP,cQ,dd,ds,dm,dt,du,jy];rfl),?_⟩;exact ams
def aAI{Q:Nat}{K:Nat}(h:jG w M gP c Q aU ids)(ao:jL c)(aO:dy c l K aU)(kp:K<=1000)(aT:ids.length<=1000)(o:r7){u:Nat}(V5:o.b=(u:Int))(al:u<9223372036854775808){ts:List T}(hF:a1 w 5 T.cs o.f.a o.f.n o.f.c ts)(A6:ts.length<=100)(aam:∀t,t∈ts->k8 t.n){r:Int×aA×aZ}(ax:aU.call c o.a (λb=>b.sub o.a u ts)=r):
  aR 106 #[Q,o] w (Fv c Q w M gP r.2.2 (ids++[uy r.1 r.2.1]) (λx=>x.z=r.1)):=by
 replace V5:=I V5;refine Hi ?_;intro cS iB fX cm mU kr fu;go_enter func106,ntmps106;go_upto_region 1 with (fail);obtain⟨bs,hI⟩:∃bs,((w.alloc o).alloc (.cells #[ar,ar,au,au,ar,aH,ar,ar,.bool false] 83))=bs:=⟨_,rfl⟩;rw[hI]at cS iB fX cm mU;try rw[hI]
 obtain⟨P,F,a,n,aQ,H1,dZ,fK,gu,hh,j7⟩:=mU;replace cS:=I cS;replace iB:=I iB;replace fX:=I fX;replace cm:=I cm;replace kr:=I kr;replace fu:=I fu;replace H1:=I H1;replace dZ:=I dZ;replace fK:=I fK;replace gu:=I gu;replace hh:=I hh;replace j7:=I j7;have z2:=aI (o:=2) fX rfl;have aC5:¬(o.b<0):=by have:=V5.out;omega
 go_wp2_with fail;refine uc 15 (λw'=>w'.heap[Q]?=some (.cells #[P,aq a n aQ] 138 (0,0))/\w'.heap[(w:Nat)]?=some (o:Obj)) (λa7=>?_) aaU;refine um ?_;refine ed 3 ?_;refine kH 4 (·.1) ?_;refine ed 5 ?_;refine kH 6 (·.2) ?_;refine ed 7 ?_;refine kH 8 (·.2) ?_;refine ed 9 ?_;refine ed 10 ?_;refine kH 11 (·.2) ?_;refine lh 12 λK aL=>?_;go_simp;go_at_call 19;rw[show IntKind.u64.wrap o.b=(u:Int)from by rw[V5.out,IntKind.wrap_u64];omega];refine(alR (H1.ext X) ao aO kp o.a u J _ _ _ ts (hF.ext (cS.trans X)) A6 aam).mono ?_;rw[ax];rintro e _⟨_,_,rfl,gq,hq⟩;refine Q0 ?_;intro rK mf q0 hV dn c6;refine aL _ _ (λ_ _=>(by(try dsimp only);exact⟨hV,dn⟩)) λhH=>eY ?_;have a7:=hH rfl af;refine ed 13 ?_;refine ed 14 ?_;refine lh 15 λK aL=>?_;refine amq ?_;intro aY x LR V3 v0 v1 v2 v3 v4 v5 v6 gy iC pC h9 qN JH CH;refine Hb ?_;intro _ a7;refine hE 16 λK aL=>?_;refine V4 ?_;intro a7;go_wp2_with fail;refine amr ?_;intro lk lx g9 iL;obtain⟨cF,cP,cQ,dd,ds,dm,dt,du,jy⟩:=vy g9;refine⟨rfl,_,(by simp[results,results106,go_sem,cF,cP,cQ,dd,ds,dm,dt,du,jy];rfl),?_⟩;exact ams
def amt{Q P:Nat}(bq:w.heap[Q]?=some (.cells #[P,aq a n aQ] 138 (0,0)))(aK:Own w 0 54 3 aA.cs a n aQ ids)(aO:ids[k]?=some i):
  aR 184 #[Q,(k:Int)] w (cM (.tuple #[i,.bool true]) w):=by
 have hk:=(vv.1 aO).1;have an:=aK.neq;obtain⟨b,o,rfl,ao⟩:=aK.aF.at_ k i aO;have va:Z w (w.alloc kR):=X;have j4:(w.alloc kR).heap[(w:Nat)]?=some (kR:Obj):=fi rfl;have c1:=aI (o:=1) (va.aB bq) rfl;obtain⟨d0,jX,ij⟩:=FO (w:=(w.alloc kR)) (b:=b) (o:=o+k*3) (x:=i) (λj v aJ=>va.ah (ao j v aJ));have fX:=I j4;obtain⟨dV,bS,bE,aAJ⟩:=sn j4;have b0:(0:Int)<=(k:Int):=J;have bd:(k:Int)<(n:Int):=J;have hv:¬((k:Int)<0):=J;have e6:¬((n:Int)<=(k:Int)):=J;have cS:=I va;go_enter func184,ntmps184;go_upto_region 1 with (fail);obtain⟨bs,hI⟩:∃bs,w.alloc kR=bs:=⟨_,rfl⟩;rw[hI]at va c1 d0 jX ij fX dV bS bE cS;simp only[hI]at aAJ;try rw[hI]
 go_wp2_with fail;obtain⟨cV,yu⟩:∃cV,(((bs.setCell (w,0) i.b).setCell (w,1) (ad i.l)).setCell (w,2) (ad i.s))=cV:=⟨_,rfl⟩;have f0:=LZ fX.out i.b (ad i.l) (ad i.s);have oe:=zK (S:=λx=>x=(w:Nat)) (aG.refl _ bs) (R:=(w:Nat)) (.inl rfl) 0 1 2 i.b (ad i.l) (ad i.s);rw[yu]at f0 oe;rw[yu];obtain⟨z0,cU,z2⟩:=iE f0;refine⟨rfl,_,(by simp[results,results184,go_sem,z0,cU,z2];rfl),?_⟩;exact⟨rfl,oe.ext (λx e=>sT) cS.out⟩
def aAK{Q:Nat}{K:Nat}(h:jG w M gP c Q aU ids)(ao:jL c)(aO:dy c l K aU)(o:r7)(bb:ids[k]?=some i)(eu:o.n=(k:Int)){xs:List cd}(ss:a1 w 4 cd.cs o.e.a o.e.n o.e.c xs)(Af:∀y,y∈xs->k8 y.n){r:Int×aZ}(ax:aU.kG c o.a i (λb=>b.rl i xs)=r):
  aR 108 #[Q,o] w (Fv c Q w M gP r.2 ids (λx=>x.z=r.1)):=by
 replace eu:=I eu;replace bb:=I bb;refine Hi ?_;intro cS iB fX cm mU kr fu;go_enter func108,ntmps108;refine JG ?_;intro _ _ _ bs hI;rw[hI]at cS iB fX cm mU;try rw[hI]
 obtain⟨P,F,a,n,aQ,H1,dZ,fK,gu,hh,j7⟩:=mU;replace cS:=I cS;replace iB:=I iB;replace fX:=I fX;replace cm:=I cm;replace kr:=I kr;replace fu:=I fu;replace H1:=I H1;replace dZ:=I dZ;replace fK:=I fK;replace gu:=I gu;replace hh:=I hh;replace j7:=I j7;have z3:=aI (o:=3) fX rfl;go_wp2_with fail;rw[eu.out];refine(amt dZ fK bb).mono ?_;rintro e w1⟨rfl,bx⟩;replace bx:=I bx;go_wp2_with fail;refine amu ?_;intro aN pq bz w8 zn b7;refine uc 9 (λw'=>(w'.heap[Q]?=some (.cells #[P,aq a n aQ] 138 (0,0))/\w'.heap[(w:Nat)]?=some (o:Obj))/\w'.heap[(w1:Nat)]?=some (i:Obj)) (λa7=>?_) amv;refine um ?_;refine kH 3 (·.1.1) ?_;refine ed 4 ?_;refine kH 5 (·.1.2) ?_;refine kH 6 (·.2) ?_;refine ed 7 ?_;refine kH 8 (·.1.2) ?_;refine lh 9 λK aL=>?_;go_simp;go_at_call 23;refine(aar ((H1.ext bz).ext (w':=aN.drew) X) ao aO o.a i _ _ _ xs (ss.ext (cS.trans (bz.trans X))) Af).mono ?_;rw[ax];rintro e aY⟨_,_,rfl,gq,hq⟩;refine Q0 ?_;intro rK mf q0 hV dn c6;obtain⟨_,_,_,_,_,_,_,_,_,_⟩:=uX c6;refine Hb ?_;intro _ a7;refine cX 10 ?_;refine hE 11 λK aL=>?_;refine V4 ?_;intro a7;go_wp2_with fail;refine amw ?_;intro lk lx g9 iL;obtain⟨cF,cP,cQ,dd,ds,dm,dt,du,jy⟩:=vy g9;refine⟨rfl,_,(by simp[results,results108,go_sem,cF,cP,cQ,dd,ds,dm,dt,du,jy];rfl),?_⟩;exact amx
def aAL{Q:Nat}{K:Nat}(h:jG w M gP c Q aU ids)(ao:jL c)(aO:dy c l K aU)(o:r7)(bb:ids[k]?=some i)(eu:o.n=(k:Int)){r:Int×aZ}(ax:aU.kG c o.a i (λb=>b.tp i)=r):
  aR 109 #[Q,o] w (Fv c Q w M gP r.2 ids (λx=>x.z=r.1)):=by
 replace eu:=I eu;replace bb:=I bb;refine Hi ?_;intro cS iB fX cm mU kr fu;go_enter func109,ntmps109;refine JG ?_;intro _ _ _ bs hI;rw[hI]at cS iB fX cm mU;try rw[hI]
 obtain⟨P,F,a,n,aQ,H1,dZ,fK,gu,hh,j7⟩:=mU;replace cS:=I cS;replace iB:=I iB;replace fX:=I fX;replace cm:=I cm;replace kr:=I kr;replace fu:=I fu;replace H1:=I H1;replace dZ:=I dZ;replace fK:=I fK;replace gu:=I gu;replace hh:=I hh;replace j7:=I j7;have z3:=aI (o:=3) fX rfl;go_wp2_with fail;rw[eu.out];refine(amt dZ fK bb).mono ?_;rintro e w1⟨rfl,bx⟩;replace bx:=I bx;go_wp2_with fail;refine amu ?_;intro aN pq bz w8 zn b7;refine uc 7 (λw'=>(w'.heap[Q]?=some (.cells #[P,aq a n aQ] 138 (0,0))/\w'.heap[(w:Nat)]?=some (o:Obj))/\w'.heap[(w1:Nat)]?=some (i:Obj)) (λa7=>?_) amv;refine um ?_;refine kH 3 (·.1.1) ?_;refine ed 4 ?_;refine kH 5 (·.1.2) ?_;refine kH 6 (·.2) ?_;refine lh 7 λK aL=>?_;go_simp;go_at_call 24;refine(aaq ((H1.ext bz).ext (w':=aN.drew) X) ao aO o.a i).mono ?_;rw[ax];rintro e aY⟨_,_,rfl,gq,hq⟩;refine Q0 ?_;intro rK mf q0 hV dn c6;obtain⟨_,_,_,_,_,_,_,_,_,_⟩:=uX c6;refine Hb ?_;intro _ a7;refine cX 8 ?_;refine hE 9 λK aL=>?_;refine V4 ?_;intro a7;go_wp2_with fail;refine amw ?_;intro lk lx g9 iL;obtain⟨cF,cP,cQ,dd,ds,dm,dt,du,jy⟩:=vy g9;refine⟨rfl,_,(by simp[results,results109,go_sem,cF,cP,cQ,dd,ds,dm,dt,du,jy];rfl),?_⟩;exact amx
def aAM{Q:Nat}{K:Nat}(h:jG w M gP c Q aU ids)(ao:jL c)(aO:dy c l K aU)(r5:c.room<=60000)(qt:∀k,aU.cur k<=1000000)(o:r7){r:List (List cd)×Int×aZ}(ax:aU.o5 c o.a=r):
  aR 112 #[Q,o] w (Fv c Q w M gP r.2.2 ids (λx=>x.b.n=r.1.length)):=by
 refine Hi ?_;intro cS iB fX cm mU kr fu;go_enter func112,ntmps112;refine JG ?_;intro _ _ _ bs hI;rw[hI]at cS iB fX cm mU;try rw[hI]
 obtain⟨P,F,a,n,aQ,H1,dZ,fK,gu,hh,j7⟩:=mU;replace cS:=I cS;replace iB:=I iB;replace fX:=I fX;replace cm:=I cm;replace kr:=I kr;replace fu:=I fu;replace H1:=I H1;replace dZ:=I dZ;replace fK:=I fK;replace gu:=I gu;replace hh:=I hh;replace j7:=I j7;go_wp2_with fail;refine uc 6 (λw'=>w'.heap[Q]?=some (.cells #[P,aq a n aQ] 138 (0,0))/\w'.heap[(w:Nat)]?=some (o:Obj)) (λa7=>?_) aaU;refine um ?_;refine kH 3 (·.1) ?_;refine ed 4 ?_;refine kH 5 (·.2) ?_;refine lh 6 λK aL=>?_;go_simp;go_at_call 25;refine(aav (H1.ext (w':=bs.drew) X) ao aO r5 qt o.a).mono ?_;rw[ax];rintro e w1⟨ha,h2,gG,_,_,_,rfl,Ts,_,aaV,lC,hq,_⟩;have aAN:=I (show h2=r.1.length from by rw[Ts.neq,<-aaV,cr]);have rK:=(hq).cC (show Z bs _ from X);obtain⟨mf,q0⟩:=jG.aaQ dZ fK gu hh j7 lC rK;refine amy ?_;intro hV dn c6;replace mf:=I mf;replace q0:=I q0;replace hV:=I hV;replace dn:=I dn;replace c6:=I c6;replace lC:=I lC;refine Hb ?_;intro _ a7;refine cX 7 ?_;refine cX 8 ?_;refine cX 9 ?_;refine cX 10 ?_;refine cX 11 ?_;refine wpAnyH_done bV ?_ _;go_wp2_with fail;refine uc 10 (λw'=>w'.heap[Q]?=some (.cells #[P,aq a n aQ] 138 (0,0))/\w'.heap[(w:Nat)]?=some (o:Obj)) (λa7=>?_) (by(try dsimp only);exact⟨Z.aB (W:=w1) X hV,Z.aB (W:=w1) X dn⟩);refine um ?_;refine ed 3 ?_;refine ed 4 ?_;refine kH 5 (·.1) ?_;refine ed 6 ?_;refine kH 7 (·.2) ?_;refine lh 8 λK aL=>?_;go_simp;go_at_call 185;obtain⟨_,_,g9,_,_,_,_,_,aaW,_⟩:=lC;refine(azM (aaW.dh.ext X) o.a).mono ?_;rintro e aY⟨rfl,dE⟩;have c9:Hid (Z w1 aY):=Z.trans X dE;obtain⟨MD,ad4⟩:∃MD,Mu c r.2.2.cur o.a=MD:=⟨_,rfl⟩;rw[ad4];refine aL _ _ (λ_ _=>(by(try dsimp only);exact⟨Z.aB (W:=w1) X hV,Z.aB (W:=w1) X dn⟩)) λhH=>eY ?_;have a7:=hH rfl af;refine ed 9 ?_;have h9:=I (c9.aB c6);obtain⟨_,_,_,_,_,_,_,_,_,_⟩:=uX h9;refine lh 10 λK aL=>?_;go_simp;refine Jt ?_;intro _;go_wp2_with fail;have g9:=Fw h9 r.2.1 ar au au ar (aq ha h2 gG) MD ar (.bool false);have lx:=Fx (w:=aY) (R:=(w:Nat)+1) r.2.1 ar au au ar (aq ha h2 gG) MD ar (.bool false);obtain⟨lk,iL⟩:∃lk,(((((((((aY.setCell (w,1,0) r.2.1).setCell (w,1,1) ar).setCell (w,1,2) au).setCell (w,1,3) au).setCell (w,1,4) ar).setCell (w,1,5) (aq ha h2 gG)).setCell (w,1,6) MD).setCell (w,1,7) ar).setCell (w,1,8) (.bool false))=lk:=⟨_,rfl⟩;rw[iL]at g9 lx;rw[iL];obtain⟨cF,cP,cQ,dd,ds,dm,dt,du,jy⟩:=vy g9;refine⟨rfl,_,(by simp[results,results112,go_sem,cF,cP,cQ,dd,ds,dm,dt,du,jy];rfl),?_⟩;obtain⟨f1,f2⟩:=(mf.ext c9).wb (q0.ext c9) cS J Qk fu lx;exact⟨⟨r.2.1,⟨0,0,0⟩,0,⟨ha,h2,gG⟩,MD,0,false⟩,_,_,rfl,aAN,f1,f2⟩
def aAO{Q:Nat}{K:Nat}(h:jG w M gP c Q aU ids)(ao:jL c)(aO:dy c l K aU)(r5:c.room<=60000)(o:r7){n0:Nat}(an:n0<c.ps.length)(mE:o.a=(n0:Int)){dk:List gJ}(cB:aU.bR n0=.down dk):
  aR 113 #[Q,o] w (Fv c Q w M gP aU ids (λx=>x.dk=((gZ aU n0).ag.length:Nat)/\x.up=false)):=by
 replace mE:=I mE;refine Hi ?_;intro cS iB fX cm mU kr fu;go_enter func113,ntmps113;refine JG ?_;intro _ _ _ bs hI;rw[hI]at cS iB fX cm mU;try rw[hI]
 obtain⟨P,F,a,n,aQ,H1,dZ,fK,gu,hh,j7⟩:=mU;replace cS:=I cS;replace iB:=I iB;replace fX:=I fX;replace cm:=I cm;replace kr:=I kr;replace fu:=I fu;replace H1:=I H1;replace dZ:=I dZ;replace fK:=I fK;replace gu:=I gu;replace hh:=I hh;replace j7:=I j7;go_wp2_with fail;refine uc 24 (λw'=>w'.heap[Q]?=some (.cells #[P,aq a n aQ] 138 (0,0))/\w'.heap[(w:Nat)]?=some (o:Obj)) (λa7=>?_) V6;refine um ?_;refine kH 3 (·.1) ?_;refine ed 4 ?_;refine kH 5 (·.2) ?_;refine ed 9 ?_;refine ed 10 ?_;refine ed 11 ?_;refine kH 12 (·.1) ?_;refine ed 13 ?_;refine kH 14 (·.2) ?_;refine ed 16 ?_;refine ed 17 ?_;refine ed 18 ?_;refine kH 19 (·.1) ?_;refine ed 20 ?_;refine kH 21 (·.2) ?_;refine lh 6 λK aL=>?_;go_simp;go_at_call 10;rw[mE.out];refine(aaD (H1.out.ext X) ao aO r5 an).mono ?_;rintro e w1⟨cu,_,ps,rfl,ec,bw⟩;have CF:=I ec.ct.xQ;have aaG:∀w:aC,(Instr.field 44 (.agg #[ad cu.cO,cu.l,cu.p,cu.b]) 1).run prog w=.ok (.slice cu.l.a cu.l.n cu.l.c) w:=λ_=>by kernel_rfl
 have bx:Hid (Z bs w1):=Z.trans X bw;refine aL _ _ (λ_ _=>V6) λhH=>eY ?_;have a7:=hH rfl af;refine ed 7 ?_;refine ed 8 ?_;refine lh 15 λK aL=>?_;go_simp;go_at_call 186;refine(azY (H1.out.ext (bx.out.trans X)) ao aO r5 an cB).mono ?_;rintro e aN⟨rfl,cj⟩;have bz:Hid (Z bs aN):=Z.trans (bx.out.trans X) cj;obtain⟨vq,aaV⟩:∃vq:Int,((gZ aU n0).ps.length:Nat)=vq:=⟨_,rfl⟩;rw[aaV];refine aL _ _ (λ_ _=>V6) λhH=>eY ?_;have a7:=hH rfl af;refine lh 22 λK aL=>?_;go_simp;go_at_call 11;obtain⟨_,_,g9,_,_,_,_,_,aaW,_⟩:=H1.out;refine(Id (aaW.dh.ext (bz.out.trans X)) (by have:=Fm ao.toka;omega) (n0:Int)).mono ?_;rintro e aY⟨rfl,dE⟩;rw[show qZ c aU.bR (n0:Int)=false from by unfold qZ;rw[Int.toNat_natCast,cB,Bool.and_false]];have c9:Hid (Z bs aY):=Z.trans (bz.out.trans X) dE;have h9:=I (c9.out.aB cm.out);obtain⟨_,_,_,_,_,_,_,_,_,_⟩:=uX h9.out;refine aL _ _ (λ_ _=>V6) λhH=>eY ?_;have a7:=hH rfl af;refine ed 23 ?_;refine lh 24 λK aL=>?_;go_simp;refine Jt ?_;intro _;go_wp2_with fail;have g9:=Fw h9.out ar ar au au ar aH (cu.l.n:Int) vq (.bool false);have lx:=Fx (w:=aY) (R:=(w:Nat)+1) ar ar au au ar aH (cu.l.n:Int) vq (.bool false);obtain⟨lk,iL⟩:∃lk,(((((((((aY.setCell (w,1,0) ar).setCell (w,1,1) ar).setCell (w,1,2) au).setCell (w,1,3) au).setCell (w,1,4) ar).setCell (w,1,5) aH).setCell (w,1,6) (cu.l.n:Int)).setCell (w,1,7) vq).setCell (w,1,8) (.bool false))=lk:=⟨_,rfl⟩;rw[iL]at g9 lx;rw[iL];obtain⟨cF,cP,cQ,dd,ds,dm,dt,du,jy⟩:=vy g9;refine⟨rfl,_,(by simp[results,results113,go_sem,cF,cP,cQ,dd,ds,dm,dt,du,jy];rfl),?_⟩;have V7:jG aY (λx=>M x\/x=(w:Nat)+1) gP c Q aU ids:=⟨P,F,a,n,aQ,H1.out.ext c9.out,c9.out.aB dZ.out,fK.out.ext c9.out,gu.out,hh.out,j7.out⟩;obtain⟨f1,f2⟩:=V7.wb (hJ.of c9.out) cS.out J Qk fu.out lx;exact⟨⟨0,⟨0,0,0⟩,0,⟨none,0,0⟩,(cu.l.n:Int),vq,false⟩,_,_,rfl,⟨by show(cu.l.n:Int)=_;rw[CF.out],rfl⟩,f1,f2⟩
def aAP{Q P:Nat}(gn:w.cell? ⟨Q,0,none⟩=some (.pointer (some ⟨P,0,none⟩))):(method 529 136 (.pointer (some ⟨Q,0,none⟩)) "Crash").run prog w=.ok (12,.pointer (some ⟨P,0,none⟩)) w:=by
 have e:((prog.info? 136).bind (λi=>(i.methods.find? (·.name== "Crash")).map (λm=>(m.path.toList.map (λs=>(s.struct,s.index,s.deref)),m.func))))=some ([(138,0,true)],some (12,true)):=bV;rw[Option.bind_eq_some_iff]at e;obtain⟨i,ae,e⟩:=e;rw[Option.map_eq_some_iff]at e;obtain⟨m,ak,e⟩:=e;injection e with aM bn;have aAQ:m.path.toList= [⟨138,0,true⟩]:=by
  cases aV:m.path.toList with
  |nil=>rw[aV]at aM;cases aM
  |cons a l=>
   rw[aV]at aM;cases l with
   |nil=>simp at aM;obtain⟨e3,ju,oP⟩:=aM;cases a;simp at e3 ju oP;subst e3 ju oP;rfl
   |cons b l=>simp at aM
 have u1:=underlying138;have u2:=underlying26;rw[show(529:Nat)=528+1 from rfl,method];simp[typeInfo,ae,ak,aAQ,bn,follow,run_underlying u1,run_underlying u2,receiverAt,Place.get,loadVar,asAddr,fieldPlace,gn,go_sem,Addr.add]
def aAR{Q:Nat}(h:jG w M gP c Q aU ids)(ao:jL c)(o:r7)(br:w.heap[B]?=some (.cells #[.func (.methodOf 136 "Crash") #[] #[]] 206 (0,0))):
  aR 182 #[Q,o,B] w (Fv c Q w M gP (Hc c aU o.a) ids (λx=>x.z=0↔qZ c aU.bR o.a=true)):=by
 refine Hi ?_;intro cS iB fX cm mU kr fu;go_enter func182,ntmps182;refine JG ?_;intro _ _ _ bs hI;rw[hI]at cS iB fX cm mU;try rw[hI]
 obtain⟨P,F,a,n,_,H1,dZ,fK,gu,hh,j7⟩:=mU;have gn:=aI (o:=0) dZ rfl;replace cS:=I cS;replace iB:=I iB;replace fX:=I fX;replace cm:=I cm;replace kr:=I kr;replace fu:=I fu;replace H1:=I H1;replace dZ:=I dZ;replace fK:=I fK;replace gu:=I gu;replace hh:=I hh;replace j7:=I j7;have Z1:=aI (o:=0) (cS.aB br) rfl;obtain⟨-,_,_⟩:=iE fX;have hm:=aAP gn;go_wp2_with fail;refine(azu H1 ao o.a o.b).mono ?_;rintro e w1⟨z,aaX,_,_,rfl,gq,hq⟩;refine Q0 ?_;intro rK mf q0 hV dn c6;obtain⟨_,_,_,_,_,_,_,_,_,_⟩:=uX c6;replace aaX:=I aaX;go_wp2_with fail;have g9:=Fw c6 z ar au au ar aH ar ar (.bool false);have lx:=Fx (w:=w1) (R:=(w:Nat)+1) z ar au au ar aH ar ar (.bool false);obtain⟨lk,iL⟩:∃lk,(((((((((w1.setCell (w,1,0) z).setCell (w,1,1) ar).setCell (w,1,2) au).setCell (w,1,3) au).setCell (w,1,4) ar).setCell (w,1,5) aH).setCell (w,1,6) ar).setCell (w,1,7) ar).setCell (w,1,8) (.bool false))=lk:=⟨_,rfl⟩;rw[iL]at g9 lx;rw[iL];obtain⟨cF,cP,cQ,dd,ds,dm,dt,du,jy⟩:=vy g9;refine⟨rfl,_,(by simp[results,results182,go_sem,cF,cP,cQ,dd,ds,dm,dt,du,jy];rfl),?_⟩;obtain⟨f1,f2⟩:=mf.wb q0 cS J Qk fu lx;exact⟨⟨z,⟨0,0,0⟩,0,⟨none,0,0⟩,0,0,false⟩,_,_,rfl,aaX,f1,f2⟩
def vr{P:Program}{FG e:TypeId}(a6:P.underlying t=some (.map FG e))(hk:P.underlying FG=some (.int .i64)){W:aC}{aS:Array MapEntry}{c:Nat}(aa:W.heap[b]?=some (.map aS c))(k:Int)(v:Value)(bc:Instr.findNow (.int .i64) k aS.toList 0=some none):
  ∃u,(Instr.mapUpdate t (.map (some b)) k v).run P W=.ok () u/\u.heap[b]?=some (.map (aS.push {key:=.int .i64 k,val:=v,born:=c}) (c+1))/\aG (·=b) W u:=by
 have fM:=bT aa;refine⟨{W with heap:=W.heap.setIfInBounds b (.map (aS.push {key:=.int .i64 k,val:=v,born:=c}) (c+1))},by simp[Instr.mapUpdate,Rr a6,MapKept.run_getObj_map aa,MapKept.run_checkKey hk (k:=.int .i64 k) rfl,MapKept.run_findKey hk bc,MapKept.run_setObj_map _ aa,Result.andThen],?_,⟨rfl,rfl,rfl,by simp,λx U an=>?_⟩⟩
 ·simp[fM]
 ·simp[Wr,Ne.symm (show ¬x=b from an)]
def amz(nM:Value)(bo:∃fn cs ps,nM=.func fn cs ps):aR 102 #[nM] w λe w'=>∃B,e=.returned (.func (.func 181) #[] #[B])/\Z w w':=by
 obtain⟨_,_,_,rfl⟩:=bo;go_enter func102,ntmps102;go_wp2_with fail;go_ret;exact⟨_,rfl,X⟩
def Q1(nM:Value)(bo:∃fn cs ps,nM=.func fn cs ps):aR 103 #[nM] w λe w'=>∃B,e=.returned (.func (.func 182) #[] #[.pointer (some (B,0))])/\Z w w'/\(w:Nat)<=B/\w'.heap[B]?=some (.cells #[nM] 206 (0,0)):=by
 obtain⟨_,_,_,rfl⟩:=bo;go_enter func103,ntmps103;go_wp2_with fail;go_ret;exact⟨_,rfl,X,bA _,fi rfl⟩
def Hj(w:World)(dF:Nat)(k:Int)(v:Value):Prop:=∃aS c,w.heap[dF]?=some (.map aS c)/\∃n,Instr.findNow (.int .i64) (.int .i64 k) aS.toList 0=some (some (n,v))
def aAS:aR 65 #[] w λe w'=>∃dF B,e=.returned (.map (some dF))/\Z w w'/\(w:Nat)<=dF/\(w:Nat)<=B/\w'.heap[B]?=some (.cells #[.func (.methodOf 136 "Crash") #[] #[]] 206 (0,0))/\
  Hj w' dF 6 (.func (.func 182) #[] #[B])/\Hj w' dF 8 (.func (.func 104) #[] #[])/\Hj w' dF 9 (.func (.func 105) #[] #[])/\Hj w' dF 13 (.func (.func 106) #[] #[])/\
  Hj w' dF 10 (.func (.func 108) #[] #[])/\Hj w' dF 11 (.func (.func 109) #[] #[])/\Hj w' dF 16 (.func (.func 112) #[] #[])/\Hj w' dF 17 (.func (.func 113) #[] #[]):=by
 go_enter func65,ntmps65;have sd:=@run_makeMap prog;go_wp2_with fail;clear sd;have aa:(w.alloc (Obj.map #[] 0)).heap[(w:Nat)]?=some (.map #[] 0):=fi rfl;have U:Z w (w.alloc (Obj.map #[] 0)):=X;obtain⟨u0,Jx⟩:∃u0,w.alloc (Obj.map #[] 0)=u0:=⟨_,rfl⟩;rw[Jx]at aa U;rw[Jx];clear Jx;have cS:=I U;clear U;refine(amz _ ⟨_,_,_,rfl⟩).mono ?_;rintro e _⟨rn,rfl,U⟩;replace aa:=U.aB aa;obtain⟨_,_,aa,amA⟩:=vr (P:=prog) underlying139 underlying3 aa 1 (.func (.func 181) #[] #[rn]) bV;have bx:=I (amA.ext (λx e=>sT) (cS.out.trans U));clear U amA;go_wp2_with fail;refine(amz _ ⟨_,_,_,rfl⟩).mono ?_;rintro e _⟨wi,rfl,U⟩;replace aa:=U.aB aa;obtain⟨_,_,aa,rm⟩:=vr (P:=prog) underlying139 underlying3 aa 7 (.func (.func 181) #[] #[wi]) bV;have bz:=I (rm.ext (λx e=>sT) (bx.out.trans U));clear U rm;go_wp2_with fail;refine(Q1 _ ⟨_,_,_,rfl⟩).mono ?_;rintro e _⟨KD,rfl,U,br,ao⟩;replace aa:=U.aB aa;obtain⟨_,_,aa,Oi⟩:=vr (P:=prog) underlying139 underlying3 aa 2 (.func (.func 182) #[] #[KD]) bV;have c9:=I (Oi.ext (λx e=>sT) (bz.out.trans U));clear U br ao Oi;go_wp2_with fail;refine(Q1 _ ⟨_,_,_,rfl⟩).mono ?_;rintro e _⟨SU,rfl,U,br,ao⟩;replace aa:=U.aB aa;obtain⟨_,_,aa,amB⟩:=vr (P:=prog) underlying139 underlying3 aa 3 (.func (.func 182) #[] #[SU]) bV;have eX:=I (amB.ext (λx e=>sT) (c9.out.trans U));clear U br ao amB;go_wp2_with fail;refine(Q1 _ ⟨_,_,_,rfl⟩).mono ?_;rintro e _⟨KG,rfl,U,br,ao⟩;replace aa:=U.aB aa;obtain⟨_,_,aa,qT⟩:=vr (P:=prog) underlying139 underlying3 aa 4 (.func (.func 182) #[] #[KG]) bV;have ic:=I (qT.ext (λx e=>sT) (eX.out.trans U));clear U br ao qT;go_wp2_with fail;refine(Q1 _ ⟨_,_,_,rfl⟩).mono ?_;rintro e _⟨aAT,rfl,U,br,ao⟩;replace aa:=U.aB aa;obtain⟨_,_,aa,amC⟩:=vr (P:=prog) underlying139 underlying3 aa 5 (.func (.func 182) #[] #[aAT]) bV;have mc:=I (amC.ext (λx e=>sT) (ic.out.trans U));clear U br ao amC;go_wp2_with fail;refine(Q1 _ ⟨_,_,_,rfl⟩).mono ?_;rintro e df⟨qy,rfl,U,br,ao⟩;replace aa:=U.aB aa;have j4:=aa;obtain⟨u7,_,aa,aaY⟩:=vr (P:=prog) underlying139 underlying3 aa 6 (.func (.func 182) #[] #[qy]) bV;have BH:=I (aaY.ext (λx e=>sT) (mc.out.trans U));have aAU:=I (eh mc.out.size br);have aaZ:=I ((aaY.block qy (bT ao) (λe=>by have e:qy=(w:Nat):=e;rw[e]at ao;rw[show df.heap[(w:Nat)]? =_ from j4]at ao;cases ao)).trans ao);clear U br ao aaY;have Q2:=aa;obtain⟨u8,_,aa,Ku⟩:=vr (P:=prog) underlying139 underlying3 aa 8 (.func (.func 104) #[] #[]) bV;have n5:=I (Ku.ext (λx e=>sT) BH.out);have aa0:=I ((Ku.block qy (bT aaZ.out) (λe=>by have e:qy=(w:Nat):=e;have:=aaZ.out;rw[e]at this;rw[show u7.heap[(w:Nat)]? =_ from Q2]at this;cases this)).trans aaZ.out);have F3:=aa;clear Ku;obtain⟨u9,_,aa,lx⟩:=vr (P:=prog) underlying139 underlying3 aa 9 (.func (.func 105) #[] #[]) bV;have nE:=I (lx.ext (λx e=>sT) n5.out);have aa1:=I ((lx.block qy (bT aa0.out) (λe=>by have e:qy=(w:Nat):=e;have:=aa0.out;rw[e]at this;rw[show u8.heap[(w:Nat)]? =_ from F3]at this;cases this)).trans aa0.out);have amD:=aa;clear lx;obtain⟨u10,_,aa,aa2⟩:=vr (P:=prog) underlying139 underlying3 aa 13 (.func (.func 106) #[] #[]) bV;have aAV:=I (aa2.ext (λx e=>sT) nE.out);have aa3:=I ((aa2.block qy (bT aa1.out) (λe=>by have e:qy=(w:Nat):=e;have:=aa1.out;rw[e]at this;rw[show u9.heap[(w:Nat)]? =_ from amD]at this;cases this)).trans aa1.out);have amE:=aa;clear aa2;obtain⟨u11,_,aa,aa4⟩:=vr (P:=prog) underlying139 underlying3 aa 14 (.func (.func 107) #[] #[]) bV;have aAW:=I (aa4.ext (λx e=>sT) aAV.out);have aa5:=I ((aa4.block qy (bT aa3.out) (λe=>by have e:qy=(w:Nat):=e;have:=aa3.out;rw[e]at this;rw[show u10.heap[(w:Nat)]? =_ from amE]at this;cases this)).trans aa3.out);have amF:=aa;clear aa4;obtain⟨u12,_,aa,aa6⟩:=vr (P:=prog) underlying139 underlying3 aa 10 (.func (.func 108) #[] #[]) bV;have aAX:=I (aa6.ext (λx e=>sT) aAW.out);have aa7:=I ((aa6.block qy (bT aa5.out) (λe=>by have e:qy=(w:Nat):=e;have:=aa5.out;rw[e]at this;rw[show u11.heap[(w:Nat)]? =_ from amF]at this;cases this)).trans aa5.out);have amG:=aa;clear aa6;obtain⟨u13,_,aa,aa8⟩:=vr (P:=prog) underlying139 underlying3 aa 11 (.func (.func 109) #[] #[]) bV;have aAY:=I (aa8.ext (λx e=>sT) aAX.out);have aa9:=I ((aa8.block qy (bT aa7.out) (λe=>by have e:qy=(w:Nat):=e;have:=aa7.out;rw[e]at this;rw[show u12.heap[(w:Nat)]? =_ from amG]at this;cases this)).trans aa7.out);have amH:=aa;clear aa8;obtain⟨u14,_,aa,aba⟩:=vr (P:=prog) underlying139 underlying3 aa 12 (.func (.func 110) #[] #[]) bV;have G7:=I (aba.ext (λx e=>sT) aAY.out);have abb:=I ((aba.block qy (bT aa9.out) (λe=>by have e:qy=(w:Nat):=e;have:=aa9.out;rw[e]at this;rw[show u13.heap[(w:Nat)]? =_ from amH]at this;cases this)).trans aa9.out);have amI:=aa;clear aba;obtain⟨u15,_,aa,abc⟩:=vr (P:=prog) underlying139 underlying3 aa 15 (.func (.func 111) #[] #[]) bV;have aAZ:=I (abc.ext (λx e=>sT) G7.out);have abd:=I ((abc.block qy (bT abb.out) (λe=>by have e:qy=(w:Nat):=e;have:=abb.out;rw[e]at this;rw[show u14.heap[(w:Nat)]? =_ from amI]at this;cases this)).trans abb.out);have amJ:=aa;clear abc;obtain⟨u16,_,aa,abe⟩:=vr (P:=prog) underlying139 underlying3 aa 16 (.func (.func 112) #[] #[]) bV;have aA0:=I (abe.ext (λx e=>sT) aAZ.out);have abf:=I ((abe.block qy (bT abd.out) (λe=>by have e:qy=(w:Nat):=e;have:=abd.out;rw[e]at this;rw[show u15.heap[(w:Nat)]? =_ from amJ]at this;cases this)).trans abd.out);have amK:=aa;clear abe;obtain⟨_,_,aa,abg⟩:=vr (P:=prog) underlying139 underlying3 aa 17 (.func (.func 113) #[] #[]) bV;have aA1:=I (abg.ext (λx e=>sT) aA0.out);have aA2:=I ((abg.block qy (bT abf.out) (λe=>by have e:qy=(w:Nat):=e;have:=abf.out;rw[e]at this;rw[show u16.heap[(w:Nat)]? =_ from amK]at this;cases this)).trans abf.out);clear abg;change Hid _ at aa;have aA3:=I aA1.out;have ls:=I aA2.out;clear j4 Q2 F3 amD amE amF amG amH amI amJ amK;go_wp2_with fail;go_ret;exact⟨(w:Nat),qy,rfl,aA3.out,bA _,aAU.out,ls.out,⟨_,_,aa.out,6,by kernel_rfl⟩,⟨_,_,aa.out,7,by kernel_rfl⟩,⟨_,_,aa.out,8,by kernel_rfl⟩,⟨_,_,aa.out,9,by kernel_rfl⟩,⟨_,_,aa.out,11,by kernel_rfl⟩,⟨_,_,aa.out,12,by kernel_rfl⟩,⟨_,_,aa.out,15,by kernel_rfl⟩,⟨_,_,aa.out,16,by kernel_rfl⟩⟩
def oh:bt:=⟨[-1,0],[1],10000⟩
def Q3:cd:=⟨⟨#[112]⟩,1,5,⟨#[]⟩⟩
def a0:Int×aA×aZ:=aZ.new.call oh 0 (λb=>b.sub 0 1 [])
def cL:Int×aA×aZ:=a0.2.2.call oh 0 (λb=>b.pO 0)
def FA:aA:=uy cL.1 cL.2.1
def cE:Int×aZ:=cL.2.2.kG oh 0 FA (λb=>b.rl FA [Q3])
def a3:Int×aZ:=cE.2.kG oh 0 FA (λb=>b.tp FA)
def a4:aZ:=a3.2.round oh
def a5:aZ:=a4.round oh
def rG:aZ:=a5.round oh
def nA:List (List cd)×Int×aZ:=rG.o5 oh 0
def ra:aZ:=Hc oh nA.2.2 0
def uF:jL oh:=⟨⟨by decide+kernel,af⟩,af,λh b5=>by simp[oh]at b5;subst b5;decide,af⟩
def aA4:dy oh [] 0 aZ.new/\(∃l,dy oh l 1 a0.2.2)/\(∃l,dy oh l 2 cL.2.2)/\(∃l,dy oh l 2 cE.2)/\(∃l,dy oh l 2 a3.2)/\(∃l,dy oh l 2 a4)/\(∃l,dy oh l 2 a5)/\(∃l,dy oh l 2 rG)/\(∃l,dy oh l 2 nA.2.2)/\(∃l,dy oh l 2 ra):=by
 have aW:dy oh [] 0 aZ.new:=af4 uF (by decide+kernel);have ae:dy oh [] 1 a0.2.2:=afS uF aW J 0 (λb=>amf (u:=1) J (λt a6=>by cases a6) b);have ak:=YF uF ae J 0 (z:=cL.1) (i:=cL.2.1) (w':=cL.2.2) rfl;have aM:=YH uF ak 0 FA [Q3] (λt a6=>by obtain rfl:=List.mem_singleton.1 a6;show k8 5;unfold k8;omega) (z:=cE.1) (w':=cE.2) rfl;have bn:=YI uF aM 0 FA (z:=a3.1) (w':=a3.2) rfl;have cb:=Tb uF.toka bn;have ey:=Tb uF.toka cb;have iZ:=Tb uF.toka ey;obtain⟨Mp,fs⟩:∃l,dy oh l 2 nA.2.2:=⟨_,ame iZ 0⟩;have tQ:dy oh Mp 2 ra:=by
  unfold ra Hc;rw[bm af];exact asT fs af
 exact⟨aW,⟨_,ae⟩,⟨_,ak⟩,⟨_,aM⟩,⟨_,bn⟩,⟨_,cb⟩,⟨_,ey⟩,⟨_,iZ⟩,⟨_,fs⟩,⟨_,tQ⟩⟩
def aA5:∀k,rG.cur k<=1000000:=by
 have:rG.cur=aZ.new.cur:=by
  unfold rG a5 a4;rw[VU,VU,VU];show a3.2.cur=_;unfold a3;rw[Mx];unfold cE;rw[Mx];unfold cL;rw[QO];unfold a0;rw[QO]
 rw[this];exact λk=>hX _
def aA6:nA.1.length=1:=by
 have:(nA.1.length==1)=true:=by decide+kernel
 exact eq_of_beq this
def aA7:qZ oh nA.2.2.bR 0=true:=by decide+kernel
def aA8:(gZ ra 0).ag.length=2:=by
 have:((gZ ra 0).ag.length==2)=true:=by decide+kernel
 exact eq_of_beq this
def aA9:∃dk,ra.bR 0=.down dk:=by
 have h:(match ra.bR 0 with|.up _=>false|.down _=>true)=true:=by decide+kernel
 cases an:ra.bR 0 with
 |up b=>rw[an]at h;cases h
 |down dk=>exact⟨dk,rfl⟩
def jG.step{S:ff}{Q:Nat}(h:jG w M gP c Q aU ids)(al:aG S w w')(a8:∀x,S x->M x)(hF:∀x,gP x->¬S x)(bc:b4 w M M')(aT:∀x,M' x->x<(w':Nat)):jG w' M' gP c Q aU ids:=by
 obtain⟨P,F,a,n,aQ,ae,ak,aM,bn,cb,ey⟩:=h;exact⟨P,F,a,n,aQ,ae.step al a8 (λx k=>hF x (cb x (.inl k))) bc aT,(al.block _ (bT ak) (hF Q (cb Q (.inr (.inl rfl))))).trans ak,al.bI aM (λai aj=>hF _ (cb _ (.inr (.inr ⟨ai,aj,rfl⟩)))),λx U=>⟨bc.up x (bn x U).1,(bn x U).2⟩,cb,λx U=>bc.up x (ey x U)⟩
structure JI (w wr:World) (M gP:Nat->Prop) (Q dF B:Nat) (ME MF:Obj) (W:aZ) (mX:List aA) (aw:Option Addr) (n aQ:Nat) (xs:List h7):Prop where
 V8:jG wr M gP oh Q W mX
 ext:Z w wr
 cx:∀x,M x->w.heap.size<=x
 row:Own wr 0 83 9 h7.cs aw n aQ xs
 kY:∀ai,aw=some ai->M ai.block/\¬gP ai.block
 mp:wr.heap[dF]?=some ME/\¬M dF
 Qz:wr.heap[B]?=some MF/\¬M B
def JI.next{iD aN aY Hk bp:aC}{M2 oi:ff}{Q A g yD:Nat}{ME MF:Obj}{W W':aZ}{mX amL:List aA}{aw:bk}{xs:List h7}{x:h7}(h:JI w wr M gP Q dF B ME MF W mX aw n aQ xs)(bw:Z wr iD)(lY:(wr:Nat)<=A)(EY:A<(iD:Nat))(De:jG aN M2 oi oh Q W' amL)(pb:hJ iD (λy=>M y\/y=A) gP aN M2 oi)(h4:aG (·=A) aN aY)(fv:Z aY Hk)(bu:lH Hk bp aw g)(aK:Own bp 0 83 9 h7.cs (some (g,0)) (n+1) yD (xs++[x])):
  ∃kq,JI w bp kq oi Q dF B ME MF W' amL (some (g,0)) (n+1) yD (xs++[x]):=by
 have cU:=bw.size;have z2:=pb.dT.size;have z3:=h4.size;have z4:=fv.size;have abh:=h.V8.sub;have ho:=h.V8.cx;have aBa:¬gP A:=λk=>by have:=ho A (abh A k);omega
 have aBb:¬oi A:=λk=>(pb.f.new A k).elim aBa (λz=>by omega);have PG:∀y,y<(wr:Nat)->oi y->gP y:=λy hy k=>(pb.f.new y k).elim id (λz=>by omega);have rK:∀y,y<(wr:Nat)->M2 y->M y:=λy hy k=>(pb.m.new y k).elim (λz=>z.elim id (λe=>by omega)) (λz=>by omega);have Df:∀y,pP aw y->y<(wr:Nat)/\M y/\¬gP y:=λy ⟨ai,aj,e⟩=>e▸⟨(h.row.lt ai aj).2,h.kY ai aj⟩;have wR:pP aw g\/g=(Hk:Nat):=bu.at_.elim (λk=>.inl (let ⟨ai,aj,e⟩:=k;⟨ai,aj,e⟩)) .inr;have Q4:=(De.store (pb.m.up _ (.inr rfl)) aBb h4).ext fv;have GH:=(aK.lt _ rfl).2;have bc:b4 Hk M2 (λy=>M2 y\/y=g):=⟨λy k=>.inl k,λy k=>k.elim .inl (λe=>wR.elim (λz=>.inl (e▸pb.m.up _ (.inl (Df g z).2.1))) (λz=>.inr J))⟩;have aBc:=Q4.step (S:=pP aw) bu.dT (λy k=>pb.m.up y (.inl (Df y k).2.1)) (λy k z=>(Df y z).2.2 (PG y (Df y z).1 k)) bc (λy k=>k.elim (λz=>gw (Q4.cx y z) bu.dT.size) (λe=>e▸GH));have Td:∀{b:Nat}{o:Obj},wr.heap[b]?=some o->¬M b->bp.heap[b]?=some o/\¬(M2 b\/b=g):=λ{b o} aa an=>by
  have aT:=bT aa;have bd:=bw.aB aa;have hv:=(pb.dT.block _ (bT bd) (λk=>an (abh b k))).trans bd;have e6:=(h4.block _ (bT hv) (λe=>by have e:b=A:=e;omega)).trans hv;have e2:=fv.aB e6;refine⟨(bu.dT.block _ (bT e2) (λk=>an (Df b k).2.1)).trans e2,λk=>k.elim (λz=>an (rK b aT z)) (λe=>wR.elim (λz=>an (e▸(Df g z).2.1)) (λz=>by omega))⟩
 have hI:=h.ext.size;have bE:Z w aN:=pb.dT.ext (λy k=>h.cx y (abh y k)) (h.ext.trans bw);have eV:Z w aY:=h4.ext (λy e=>by have e:y=A:=e;omega) bE;have kD:Z w bp:=bu.dT.ext (λy k=>h.cx y (Df y k).2.1) (eV.trans fv);refine⟨λy=>M2 y\/y=g,aBc,kD,λy k=>?_,aK,λai aj=>?_,Td h.mp.1 h.mp.2,Td h.Qz.1 h.Qz.2⟩
 ·rcases k with k|k
  ·rcases pb.m.new y k with (z|z)|z
   ·exact h.cx y z
   ·omega
   ·omega
  ·rcases wR with z|z
   ·exact k▸h.cx g (Df g z).2.1
   ·omega
 ·cases aj;refine⟨.inr rfl,λk=>?_⟩;rcases wR with z|z
  ·exact(Df g z).2.2 (PG g (Df g z).1 k)
  ·have:=De.cx g (De.sub g k);have z:g=(Hk:Nat):=z;omega
def JI.aBd{iD aN aY Hk:aC}{M2 oi:ff}{Q A:Nat}{ME MF:Obj}{W:aZ}{mX:List aA}{aw:bk}{xs:List h7}(h:JI w wr M gP Q dF B ME MF W mX aw n aQ xs)(bw:Z wr iD)(lY:(wr:Nat)<=A)(pb:hJ iD (λy=>M y\/y=A) gP aN M2 oi)(h4:aG (·=A) aN aY)(fv:Z aY Hk):Own Hk 0 83 9 h7.cs aw n aQ xs:=
 (h4.bI (pb.dT.bI (h.row.ext bw) (λai aj=>(h.kY ai aj).2)) (λai aj e=>by have e:ai.block=A:=e;have:=(h.row.lt ai aj).2;omega)).ext fv
def r7.cs'(o:r7):List Value:= [.int .i64 o.k,.int .i64 o.a,.int .i64 o.b,.int .i64 o.n,.slice o.e.a o.e.n o.e.c,.slice o.f.a o.f.n o.f.c]
def r7.bH(o:r7):o.cs'.length=6:=rfl
def aBe{o:Nat}{x:r7}(h:r9 w b o x.cs'):
  w.cell? (b,o)=some ↑x.k/\w.cell? (b,o+1)=some ↑x.a/\w.cell? (b,o+2)=some ↑x.b/\w.cell? (b,o+3)=some ↑x.n/\w.cell? (b,o+4)=some ↑x.e/\w.cell? (b,o+5)=some ↑x.f:=
 ⟨h 0 _ rfl,h 1 _ rfl,h 2 _ rfl,h 3 _ rfl,h 4 _ rfl,h 5 _ rfl⟩
def aBf:(prog.info? 83).map (λi=>(i.zero,i.size,i.bytes))=some (some (.agg #[ar,ar,au,au,ar,aH,ar,ar,.bool false]),9,88):=bV
def abi(k a b n:Int)(e:iY):r7:=⟨k,a,b,n,e,⟨none,0,0⟩⟩
def wq(k a b n:Int):r7:=abi k a b n ⟨none,0,0⟩
def Q5(tn:iY):List r7:= [wq 13 0 1 0,wq 9 0 0 0,abi 10 0 0 1 tn,wq 11 0 0 1,wq 8 0 0 0,wq 8 0 0 0,wq 8 0 0 0,wq 16 0 0 0,wq 6 0 0 0,wq 17 0 0 0]
def abj:Nat->aZ
 |0=>aZ.new|1=>a0.2.2|2=>cL.2.2|3=>cE.2|4=>a3.2|5=>a4|6=>a5|7=>rG|8=>nA.2.2|_=>ra
def amM:Nat->List aA
 |0=> []|1=> [uy a0.1 a0.2.1]|_=> [uy a0.1 a0.2.1,FA]
structure wu (xs:List h7):Prop where
 nA:∀x,xs[7]?=some x->x.b.n=1
 ra:∀x,xs[8]?=some x->x.z=0
 a9:∀x,xs[9]?=some x->x.dk=2/\x.up=false
def wu.ri{xs:List h7}{x:h7}(h:wu xs)(hk:xs.length=k)(iZ:k=7->x.b.n=1)(fs:k=8->x.z=0)(tQ:k=9->x.dk=2/\x.up=false):wu (xs++[x]):=by
 have key:∀(j:Nat) (y:h7),(xs++[x])[j]?=some y->xs[j]?=some y\/j=k/\y=x:=λj y hy=>by
  rcases zz j xs.length with z|z
  ·rw[Hp z]at hy;exact .inl hy
  ·rw[JU z]at hy;have aJ:j - xs.length=0:=by
    have:=(vv.1 hy).1;simp at this;omega
   rw[aJ]at hy;cases hy;exact .inr ⟨J,rfl⟩
 exact⟨λy hy=>(key 7 y hy).elim (h.nA y) (λz=>z.2▸iZ z.1.symm),λy hy=>(key 8 y hy).elim (h.ra y) (λz=>z.2▸fs z.1.symm),λy hy=>(key 9 y hy).elim (h.a9 y) (λz=>z.2▸tQ z.1.symm)⟩
def aBg{fF:bk}{on fZ:Nat}{tn:iY}(cy:a1 w 1 dD cD eL fw [-1,0])(qD:a1 w 1 dD aj an ao [1])(ba:a1 w 6 r7.cs' fF on fZ (Q5 tn))(jI:a1 w 4 cd.cs tn.a tn.n tn.c [Q3]):
  aR 28 #[aq cD eL fw,aq aj an ao,bh 10000,aq fF on fZ] w λe w'=>∃a n c xs,e=.returned (.tuple #[aq a n c,ar])/\a1 w' 9 h7.cs a n c xs/\xs.length=10/\wu xs/\Z w w':=by
 obtain rfl:on=10:=ba.neq;obtain⟨ca,bJ,bF,bG,bK⟩:=info_parts aBf;replace bJ:=I bJ;replace bF:=I bF;replace bG:=I bG;replace bK:=I bK;replace cy:=I cy;replace qD:=I qD;replace ba:=I ba;replace jI:=I jI;obtain⟨Bz,⟨_,abk⟩,⟨_,w8⟩,⟨_,abl⟩,⟨_,wZ⟩,⟨_,CW⟩,⟨_,Ja⟩,⟨_,LO⟩,⟨_,WG⟩,⟨_,me⟩⟩:=aA4;obtain⟨_,abm⟩:=aA9;replace Bz:=I Bz;replace abk:=I abk;replace w8:=I w8;replace abl:=I abl;replace wZ:=I wZ;replace CW:=I CW;replace Ja:=I Ja;replace LO:=I LO;replace me:=I me;replace abm:=I abm;clear WG;go_enter func28,ntmps28;go_wp2_with fail;have JJ:=aaM (room:=10000) cy qD (by decide+kernel) af af af af;rw[show((10000:Nat):Int)=10000 from rfl]at JJ;refine JJ.mono ?_;clear JJ;rintro e w1⟨ae,_⟩;obtain⟨P,M,F,rfl,eZ,bx,yk⟩:=ae (by decide+kernel);replace eZ:=I eZ;replace bx:=I bx;replace yk:=I yk;clear ae;go_wp2_with fail;have cj:Z w1 (w1.alloc (.cells #[P,aH] 138)):=X;have ih:(w1.alloc (.cells #[P,aH] 138)).heap[(w1:Nat)]?=some (.cells #[P,aH] 138 (0,0)):=fi rfl;have pc:(w1.alloc (.cells #[P,aH] 138)).heap.size=(w1:Nat)+1:=by simp
 obtain⟨aN,pq⟩:∃aN,w1.alloc (.cells #[P,aH] 138)=aN:=⟨_,rfl⟩;rw[pq]at cj ih pc;rw[pq];clear pq;refine aAS.mono ?_;rintro e aY⟨dF,B,rfl,dE,zl,ZQ,br,⟨aS,dM,hm,_,abn⟩,⟨_,_,pb,_,abo⟩,⟨_,_,amN,_,Q6⟩,⟨_,_,OZ,_,abp⟩,⟨_,_,Lz,_,abq⟩,⟨_,_,amO,_,abr⟩,⟨_,_,Q2,_,abt⟩,⟨_,_,F3,_,abu⟩⟩;rw[hm]at pb amN OZ Lz amO Q2 F3;cases pb;cases amN;cases OZ;cases Lz;cases amO;cases Q2;cases F3;have amP:b4 w1 M (λx=>M x\/x=(w1:Nat)):=⟨λx k=>.inl k,λx k=>k.imp id (λe=>by omega)⟩;have V9:∀x,(M x\/x=(w1:Nat))->x<(aN:Nat):=λx k=>k.elim (λz=>by have:=eZ.cx x z;omega) (λe=>by omega)
 have V7:jG aN (λx=>M x\/x=(w1:Nat)) (λx=>F x\/x=(w1:Nat)) oh w1 aZ.new []:=
  ⟨P,F,none,0,0,eZ.step (S:=λ_=>False) (.of cj) (λ_ k=>k.elim) (λ_ _ k=>k) amP V9,ih,Own.nil _ _ _ aA.bH,λx k=>k.elim (λe=>⟨.inr e,λz=>by have:=eZ.cx x (eZ.sub x z);omega⟩) (fun⟨ai,aj,_⟩=>by cases aj),λx k=>k.elim .inl (λz=>z.elim .inr (fun⟨ai,aj,_⟩=>by cases aj)),λx k=>k.imp (eZ.sub x) id⟩
 have hB:JI w aY (λx=>M x\/x=(w1:Nat)) (λx=>F x\/x=(w1:Nat)) w1 dF B (.map aS dM) (.cells #[.func (.methodOf 136 "Crash") #[] #[]] 206 (0,0)) (abj 0) (amM 0) none 0 0 []:=
  ⟨V7.ext dE,bx.trans (cj.trans dE),λx k=>k.elim (yk x) (λe=>by have:=bx.size;omega),Own.nil _ _ _ h7.bH,λai aj=>(by cases aj),⟨hm,λk=>by have:=V9 dF k;omega⟩,⟨br,λk=>by have:=V9 B k;omega⟩⟩
 replace hB:=I hB;replace abn:=I abn;replace abo:=I abo;replace Q6:=I Q6;replace abq:=I abq;replace abr:=I abr;replace abp:=I abp;replace abt:=I abt;replace abu:=I abu;clear V7 V9 amP cj ih pc dE zl ZQ br hm eZ bx yk;obtain⟨Q,jz⟩:∃Q,(w1:Nat)=Q:=⟨_,rfl⟩;rw[jz]at hB;rw[jz];clear jz;go_wp2_with fail;go_loopg [14,16,17,18,19,39] (10) (λg e1 aC6 aC7 nM bv dN wr=>∃(k:Nat) (M gP:ff) (aw:bk) (aQ:Nat) (xs:List h7),g+k=10/\dN=.int .i64 (k:Int)/\e1=.slice aw k aQ/\Hid (JI w wr M gP Q dF B (.map aS dM) (.cells #[.func (.methodOf 136 "Crash") #[] #[]] 206 (0,0)) (abj k) (amM k) aw k aQ xs)/\Hid (xs.length=k)/\Hid (wu xs));case atStart=>exact⟨0,_,_,none,0,[],J,rfl,rfl,hB,rfl,(show wu []from⟨λx h=>(by cases h),λx h=>(by cases h),λx h=>(by cases h)⟩)⟩
 case round=>
  obtain⟨k,M,_,aw,aQ,xs,_,rfl,rfl,cR,mB,BS⟩:=hrel;by_cases hk:k<10
  ·have aBh:k<(Q5 tn).length:=by simpa[Q5]using hk
   obtain⟨b,o,rfl,ao⟩:=ba.get k aBh;obtain⟨jP,jo⟩:∃jP,(Q5 tn)[k]=jP:=⟨_,rfl⟩;rw[jo]at ao;obtain⟨cT,c1,c2,da,dJ,dw⟩:=aBe (w:=wr) (x:=jP) (λj v aJ=>cR.ext.ah (ao j v aJ));have b0:(0:Int)<=(k:Int):=J;have bd:(k:Int)<10:=J;have bx:Z wr ((wr.alloc jP).alloc (.cells #[bh 1,ar,au,au,ar,aH,ar,ar,.bool false] 83)):=X;have lS:((wr.alloc jP).alloc (.cells #[bh 1,ar,au,au,ar,aH,ar,ar,.bool false] 83)).heap[(wr:Nat)+1]?=some (.cells #[bh 1,ar,au,au,ar,aH,ar,ar,.bool false] 83):=hT;have sQ:((wr.alloc jP).alloc (.cells #[bh 1,ar,au,au,ar,aH,ar,ar,.bool false] 83)).heap[(wr:Nat)]?=some (jP:Obj):=hT;have n2:((wr.alloc jP).alloc (.cells #[bh 1,ar,au,au,ar,aH,ar,ar,.bool false] 83)).heap.size=(wr:Nat)+2:=by simp
   replace jo:=I jo;clear ao;go_upto_region 13 with (fail);obtain⟨iD,gq⟩:∃iD,(wr.alloc jP).alloc (.cells #[bh 1,ar,au,au,ar,aH,ar,ar,.bool false] 83)=iD:=⟨_,rfl⟩;rw[gq]at bx lS sQ n2;rw[gq];clear gq;have mf:=I (cR.V8.cell (R:=(wr:Nat)+1) bx J J);have aBi:=I (cR.V8.Fs (R:=(wr:Nat)+1) J);have vg:=I (bx.aB cR.mp.1);have cm:=I (bx.aB cR.Qz.1);obtain⟨gn,q1,dP,fp,iw,ov⟩:=Rp sQ;replace lS:=I lS;replace bx:=I bx;replace n2:=I n2;clear sQ cT c1 c2 da dJ dw;rcases (show k=0\/k=1\/k=2\/k=3\/k=4\/k=5\/k=6\/k=7\/k=8\/k=9 from by omega)with rfl|rfl|rfl|rfl|rfl|rfl|rfl|rfl|rfl|rfl
   ·
    have hG:Hid (jP=wq 13 0 1 0):=jo.symm;have q2:jP.k=13:=by rw[hG.out];rfl
    have c4:(Instr.lookup 139 (.map (some dF)) jP.k true).run prog iD=.ok (.tuple #[(.func (.func 106) #[] #[]),.bool true]) iD:=by rw[q2];exact nr (P:=prog) underlying139 underlying3 vg 13 abp
    clear q2;go_wp2_with fail;refine(aAI mf uF Bz J af jP (u:=1) (by rw[hG.out];rfl) J (ts:= []) (by rw[hG.out];exact a1.nil _ T.bH) af (λt a6=>by cases a6) (r:=a0) (by rw[hG.out];rfl)).mono ?_;refine Dg ?_;intro aN x M2 oi v0 v1 v2 v3 v4 v5 v6 gy iC pC tA l8 lM de;clear gn q1 dP fp iw ov c4;go_upto_region 16 with (fail);refine Dh ?_;clear v0 v1 v2 v3 v4 v5 v6 gy iC pC;intro aY cF cP cQ dd ds dm dt du jy eX pS iK;go_wp2_with (at_builtin;refine hf (ys:=xs) (c:=h7.cs) rfl (.tmp 56) (.tmp 58) 79 rfl ca _ 88 underlying79 bJ bF bG bK rfl af rfl pS x _ rfl (fc (cs:=h7.cs x) rfl) (h7.cN _) af af (hX _) ?_;intro g9 ie cG hb fq);go_roundg (gk - 1);case measure=>omega
    case rel=>
     refine Di ?_;intro kq jm;exact⟨0+1,kq,oi,_,ie,xs++[x],J,by go_num,by go_num,(by(try rw[hG.out]at jm);exact jm),(show(xs++[x]).length=0+1 by rw[cH,mB.out];rfl),wu.ri BS mB (λe=>by omega) (λe=>by omega) (λe=>by omega)⟩
   ·
    have hG:Hid (jP=wq 9 0 0 0):=jo.symm;have q2:jP.k=9:=by rw[hG.out];rfl
    have c4:(Instr.lookup 139 (.map (some dF)) jP.k true).run prog iD=.ok (.tuple #[(.func (.func 105) #[] #[]),.bool true]) iD:=by rw[q2];exact nr (P:=prog) underlying139 underlying3 vg 9 Q6
    clear q2;go_wp2_with fail;refine(aAH mf uF abk J af jP (r:=cL) (by rw[hG.out];rfl)).mono ?_;refine Dg ?_;intro aN x M2 oi v0 v1 v2 v3 v4 v5 v6 gy iC pC tA l8 lM de;clear gn q1 dP fp iw ov c4;go_upto_region 16 with (fail);refine Dh ?_;clear v0 v1 v2 v3 v4 v5 v6 gy iC pC;intro aY cF cP cQ dd ds dm dt du jy eX pS iK;go_wp2_with (at_builtin;refine hf (ys:=xs) (c:=h7.cs) rfl (.tmp 56) (.tmp 58) 79 rfl ca _ 88 underlying79 bJ bF bG bK rfl af rfl pS x _ rfl (fc (cs:=h7.cs x) rfl) (h7.cN _) af af (hX _) ?_;intro g9 ie cG hb fq);go_roundg (gk - 1);case measure=>omega
    case rel=>
     refine Di ?_;intro kq jm;exact⟨1+1,kq,oi,_,ie,xs++[x],J,by go_num,by go_num,(by(try rw[hG.out]at jm);exact jm),(show(xs++[x]).length=1+1 by rw[cH,mB.out];rfl),wu.ri BS mB (λe=>by omega) (λe=>by omega) (λe=>by omega)⟩
   ·
    have hG:Hid (jP=abi 10 0 0 1 tn):=jo.symm;have q2:jP.k=10:=by rw[hG.out];rfl
    have c4:(Instr.lookup 139 (.map (some dF)) jP.k true).run prog iD=.ok (.tuple #[(.func (.func 108) #[] #[]),.bool true]) iD:=by rw[q2];exact nr (P:=prog) underlying139 underlying3 vg 10 abq
    clear q2;go_wp2_with fail;refine(aAK mf uF w8 jP (k:=1) (i:=FA) rfl (by rw[hG.out];rfl) (xs:= [Q3]) (by rw[hG.out];exact jI.ext (cR.ext.trans bx)) (λy hy=>by obtain rfl:=List.mem_singleton.1 hy;show k8 5;unfold k8;omega) (r:=cE) (by rw[hG.out];rfl)).mono ?_;refine Dg ?_;intro aN x M2 oi v0 v1 v2 v3 v4 v5 v6 gy iC pC tA l8 lM de;clear gn q1 dP fp iw ov c4;go_upto_region 16 with (fail);refine Dh ?_;clear v0 v1 v2 v3 v4 v5 v6 gy iC pC;intro aY cF cP cQ dd ds dm dt du jy eX pS iK;go_wp2_with (at_builtin;refine hf (ys:=xs) (c:=h7.cs) rfl (.tmp 56) (.tmp 58) 79 rfl ca _ 88 underlying79 bJ bF bG bK rfl af rfl pS x _ rfl (fc (cs:=h7.cs x) rfl) (h7.cN _) af af (hX _) ?_;intro g9 ie cG hb fq);go_roundg (gk - 1);case measure=>omega
    case rel=>
     refine Di ?_;intro kq jm;exact⟨2+1,kq,oi,_,ie,xs++[x],J,by go_num,by go_num,(by(try rw[hG.out]at jm);exact jm),(show(xs++[x]).length=2+1 by rw[cH,mB.out];rfl),wu.ri BS mB (λe=>by omega) (λe=>by omega) (λe=>by omega)⟩
   ·
    have hG:Hid (jP=wq 11 0 0 1):=jo.symm;have q2:jP.k=11:=by rw[hG.out];rfl
    have c4:(Instr.lookup 139 (.map (some dF)) jP.k true).run prog iD=.ok (.tuple #[(.func (.func 109) #[] #[]),.bool true]) iD:=by rw[q2];exact nr (P:=prog) underlying139 underlying3 vg 11 abr
    clear q2;go_wp2_with fail;refine(aAL mf uF abl jP (k:=1) (i:=FA) rfl (by rw[hG.out];rfl) (r:=a3) (by rw[hG.out];rfl)).mono ?_;refine Dg ?_;intro aN x M2 oi v0 v1 v2 v3 v4 v5 v6 gy iC pC tA l8 lM de;clear gn q1 dP fp iw ov c4;go_upto_region 16 with (fail);refine Dh ?_;clear v0 v1 v2 v3 v4 v5 v6 gy iC pC;intro aY cF cP cQ dd ds dm dt du jy eX pS iK;go_wp2_with (at_builtin;refine hf (ys:=xs) (c:=h7.cs) rfl (.tmp 56) (.tmp 58) 79 rfl ca _ 88 underlying79 bJ bF bG bK rfl af rfl pS x _ rfl (fc (cs:=h7.cs x) rfl) (h7.cN _) af af (hX _) ?_;intro g9 ie cG hb fq);go_roundg (gk - 1);case measure=>omega
    case rel=>
     refine Di ?_;intro kq jm;exact⟨3+1,kq,oi,_,ie,xs++[x],J,by go_num,by go_num,(by(try rw[hG.out]at jm);exact jm),(show(xs++[x]).length=3+1 by rw[cH,mB.out];rfl),wu.ri BS mB (λe=>by omega) (λe=>by omega) (λe=>by omega)⟩
   ·
    refine abv ?_;intro hG c4;go_wp2_with fail;refine(aaT mf uF wZ af jP).mono ?_;refine Dg ?_;intro aN x M2 oi v0 v1 v2 v3 v4 v5 v6 gy iC pC tA l8 lM de;clear gn q1 dP fp iw ov c4;go_upto_region 16 with (fail);refine Dh ?_;clear v0 v1 v2 v3 v4 v5 v6 gy iC pC;intro aY cF cP cQ dd ds dm dt du jy eX pS iK;go_wp2_with (at_builtin;refine hf (ys:=xs) (c:=h7.cs) rfl (.tmp 56) (.tmp 58) 79 rfl ca _ 88 underlying79 bJ bF bG bK rfl af rfl pS x _ rfl (fc (cs:=h7.cs x) rfl) (h7.cN _) af af (hX _) ?_;intro g9 ie cG hb fq);go_roundg (gk - 1);case measure=>omega
    case rel=>
     refine Di ?_;intro kq jm;exact⟨4+1,kq,oi,_,ie,xs++[x],J,by go_num,by go_num,(by(try rw[hG.out]at jm);exact jm),(show(xs++[x]).length=4+1 by rw[cH,mB.out];rfl),wu.ri BS mB (λe=>by omega) (λe=>by omega) (λe=>by omega)⟩
   ·
    refine abv ?_;intro hG c4;go_wp2_with fail;refine(aaT mf uF CW af jP).mono ?_;refine Dg ?_;intro aN x M2 oi v0 v1 v2 v3 v4 v5 v6 gy iC pC tA l8 lM de;clear gn q1 dP fp iw ov c4;go_upto_region 16 with (fail);refine Dh ?_;clear v0 v1 v2 v3 v4 v5 v6 gy iC pC;intro aY cF cP cQ dd ds dm dt du jy eX pS iK;go_wp2_with (at_builtin;refine hf (ys:=xs) (c:=h7.cs) rfl (.tmp 56) (.tmp 58) 79 rfl ca _ 88 underlying79 bJ bF bG bK rfl af rfl pS x _ rfl (fc (cs:=h7.cs x) rfl) (h7.cN _) af af (hX _) ?_;intro g9 ie cG hb fq);go_roundg (gk - 1);case measure=>omega
    case rel=>
     refine Di ?_;intro kq jm;exact⟨5+1,kq,oi,_,ie,xs++[x],J,by go_num,by go_num,(by(try rw[hG.out]at jm);exact jm),(show(xs++[x]).length=5+1 by rw[cH,mB.out];rfl),wu.ri BS mB (λe=>by omega) (λe=>by omega) (λe=>by omega)⟩
   ·
    refine abv ?_;intro hG c4;go_wp2_with fail;refine(aaT mf uF Ja af jP).mono ?_;refine Dg ?_;intro aN x M2 oi v0 v1 v2 v3 v4 v5 v6 gy iC pC tA l8 lM de;clear gn q1 dP fp iw ov c4;go_upto_region 16 with (fail);refine Dh ?_;clear v0 v1 v2 v3 v4 v5 v6 gy iC pC;intro aY cF cP cQ dd ds dm dt du jy eX pS iK;go_wp2_with (at_builtin;refine hf (ys:=xs) (c:=h7.cs) rfl (.tmp 56) (.tmp 58) 79 rfl ca _ 88 underlying79 bJ bF bG bK rfl af rfl pS x _ rfl (fc (cs:=h7.cs x) rfl) (h7.cN _) af af (hX _) ?_;intro g9 ie cG hb fq);go_roundg (gk - 1);case measure=>omega
    case rel=>
     refine Di ?_;intro kq jm;exact⟨6+1,kq,oi,_,ie,xs++[x],J,by go_num,by go_num,(by(try rw[hG.out]at jm);exact jm),(show(xs++[x]).length=6+1 by rw[cH,mB.out];rfl),wu.ri BS mB (λe=>by omega) (λe=>by omega) (λe=>by omega)⟩
   ·
    have hG:Hid (jP=wq 16 0 0 0):=jo.symm;have q2:jP.k=16:=by rw[hG.out];rfl
    have c4:(Instr.lookup 139 (.map (some dF)) jP.k true).run prog iD=.ok (.tuple #[(.func (.func 112) #[] #[]),.bool true]) iD:=by rw[q2];exact nr (P:=prog) underlying139 underlying3 vg 16 abt
    clear q2;go_wp2_with fail;refine(aAM mf uF LO af aA5 jP (r:=nA) (by rw[hG.out];rfl)).mono ?_;refine Dg ?_;intro aN x M2 oi v0 v1 v2 v3 v4 v5 v6 gy iC pC tA l8 lM de;clear gn q1 dP fp iw ov c4;go_upto_region 16 with (fail);refine Dh ?_;clear v0 v1 v2 v3 v4 v5 v6 gy iC pC;intro aY cF cP cQ dd ds dm dt du jy eX pS iK;go_wp2_with (at_builtin;refine hf (ys:=xs) (c:=h7.cs) rfl (.tmp 56) (.tmp 58) 79 rfl ca _ 88 underlying79 bJ bF bG bK rfl af rfl pS x _ rfl (fc (cs:=h7.cs x) rfl) (h7.cN _) af af (hX _) ?_;intro g9 ie cG hb fq);go_roundg (gk - 1);case measure=>omega
    case rel=>
     refine Di ?_;intro kq jm;exact⟨7+1,kq,oi,_,ie,xs++[x],J,by go_num,by go_num,(by(try rw[hG.out]at jm);exact jm),(show(xs++[x]).length=7+1 by rw[cH,mB.out];rfl),wu.ri BS mB (λ_=>tA.trans aA6) (λe=>by omega) (λe=>by omega)⟩
   ·
    have hG:Hid (jP=wq 6 0 0 0):=jo.symm;have q2:jP.k=6:=by rw[hG.out];rfl
    have c4:(Instr.lookup 139 (.map (some dF)) jP.k true).run prog iD=.ok (.tuple #[(.func (.func 182) #[] #[B]),.bool true]) iD:=by rw[q2];exact nr (P:=prog) underlying139 underlying3 vg 6 abn
    clear q2;go_wp2_with fail;refine(aAR mf uF jP cm).mono ?_;refine Dg ?_;intro aN x M2 oi v0 v1 v2 v3 v4 v5 v6 gy iC pC tA l8 lM de;clear gn q1 dP fp iw ov c4;go_upto_region 16 with (fail);refine Dh ?_;clear v0 v1 v2 v3 v4 v5 v6 gy iC pC;intro aY cF cP cQ dd ds dm dt du jy eX pS iK;go_wp2_with (at_builtin;refine hf (ys:=xs) (c:=h7.cs) rfl (.tmp 56) (.tmp 58) 79 rfl ca _ 88 underlying79 bJ bF bG bK rfl af rfl pS x _ rfl (fc (cs:=h7.cs x) rfl) (h7.cN _) af af (hX _) ?_;intro g9 ie cG hb fq);go_roundg (gk - 1);case measure=>omega
    case rel=>
     refine Di ?_;intro kq jm;exact⟨8+1,kq,oi,_,ie,xs++[x],J,by go_num,by go_num,(by(try rw[hG.out]at jm);exact jm),(show(xs++[x]).length=8+1 by rw[cH,mB.out];rfl),wu.ri BS mB (λe=>by omega) (λ_=>tA.out.2 (by rw[hG.out];exact aA7)) (λe=>by omega)⟩
   ·
    have hG:Hid (jP=wq 17 0 0 0):=jo.symm;have q2:jP.k=17:=by rw[hG.out];rfl
    have c4:(Instr.lookup 139 (.map (some dF)) jP.k true).run prog iD=.ok (.tuple #[(.func (.func 113) #[] #[]),.bool true]) iD:=by rw[q2];exact nr (P:=prog) underlying139 underlying3 vg 17 abu
    clear q2;go_wp2_with fail;refine(aAO mf uF me af jP (n0:=0) af (by rw[hG.out];rfl) abm).mono ?_;refine Dg ?_;intro aN x M2 oi v0 v1 v2 v3 v4 v5 v6 gy iC pC tA l8 lM de;clear gn q1 dP fp iw ov c4;go_upto_region 16 with (fail);refine Dh ?_;clear v0 v1 v2 v3 v4 v5 v6 gy iC pC;intro aY cF cP cQ dd ds dm dt du jy eX pS iK;go_wp2_with (at_builtin;refine hf (ys:=xs) (c:=h7.cs) rfl (.tmp 56) (.tmp 58) 79 rfl ca _ 88 underlying79 bJ bF bG bK rfl af rfl pS x _ rfl (fc (cs:=h7.cs x) rfl) (h7.cN _) af af (hX _) ?_;intro _ ie _ hb fq);go_roundg (gk - 1);case measure=>omega
    case rel=>
     refine Di ?_;intro kq jm;exact⟨9+1,kq,oi,_,ie,xs++[x],J,by go_num,by go_num,(by(try rw[hG.out]at jm);exact jm),(show(xs++[x]).length=9+1 by rw[cH,mB.out];rfl),wu.ri BS mB (λe=>by omega) (λe=>by omega) (λ_=>⟨tA.out.1.trans (by rw[show(abj 9)=ra from rfl,aA8];rfl),tA.out.2⟩)⟩
  ·obtain rfl:k=10:=J;have pS:=I cR.row.aF;have QN:=I cR.ext;go_wp2_with fail;go_ret2;exact⟨aw,10,aQ,xs,rfl,pS,mB,BS,QN⟩
end Go.Proofs.YtfiiblnenhdlhaaGreat
