/- Part. -/
import Derived.Test.YtfiiblnenhdlhaaGreatG11
set_option linter.unusedVariables false
set_option linter.unusedSimpArgs false
set_option linter.defProp false
set_option maxRecDepth 100000
set_option maxHeartbeats 4000000
namespace Go.Proofs.YtfiiblnenhdlhaaGreat
open Go.RowKit Tryz
variable {ei sub:Bool}{cl:Int}{nk:List (List Nat)}{eB:List (Nat×dC)}{b base cap k n y:Nat}{α:Type}{w w':World}{i:aA}{d:bg}{c:bt}
def ajx(ag:List bg)(cl:List Int):∀(l:List bg) (h k:Nat),(vQ ag cl h l)[k]? =l[k]?.map (jU (j1 (ag.take (h+k))) cl)
 | [],h,k=>by simp[vQ]
 |d::l,h,0=>rfl
 |d::l,h,k+1=>by
  show(vQ ag cl (h+1) l)[k]? =l[k]?.map _
  rw[ajx ag cl l (h+1) k,Nat.add_right_comm h 1 k]
  rfl
def fO.ajy{aDn g:Nat}{ys:List bO}{x:b1}(h:fO w base x d)(ax:Own w aDn 66 8 bO.cs (some (g,0)) n cap ys)(al:aG (·=g) w w'):fO w' base x d:=by
 have hk:∀{β:Type}{bE:TypeId}{PF:Nat}{c2:β->List Value}{aw:bk}{cZ zj:Nat}{LB:List β},Own w base bE PF c2 aw cZ zj LB->bE≠66->Own w' base bE PF c2 aw cZ zj LB:=λo he=>
  al.bI o (λai aj k=>(o.gQ ax he) ai (g,0) aj rfl k)
 obtain⟨LB,bS,bE,eV⟩:=h.e;exact⟨h.k,h.id,h.c,h.u,hk h.f af,LB,bS,hk bE af,λy hy=>hk (eV y hy) af⟩
def fx.Tp{UX g:Nat}{ys:List bO}(h:fx w base (some (g,0)) n cap ys)(k:Nat)(hk:k<ys.length)(y:bO)(hy:fO w UX y.x y.d)(aa:base<=UX):
  fx ((((((((w.setCell ⟨g,k*8,.none⟩ y.x.k).setCell ⟨g,k*8+1,.none⟩ y.x.id.b).setCell ⟨g,k*8+2,.none⟩ (ad y.x.id.l)).setCell ⟨g,k*8+3,.none⟩ (ad y.x.id.s)).setCell ⟨g,k*8+4,.none⟩ y.x.c).setCell ⟨g,k*8+5,.none⟩ (ad y.x.u)).setCell ⟨g,k*8+6,.none⟩ y.x.f).setCell ⟨g,k*8+7,.none⟩ y.x.e) base (some (g,0)) n cap (ys.set k y):=by
 have al:=Tq (S:=(·=g)) (aG.refl _ w) (R:=g) (k*8) (.inl rfl) y.x.k y.x.id.b (ad y.x.id.l) (ad y.x.id.s) y.x.c (ad y.x.u) y.x.f y.x.e;refine⟨h.cg.Tp k hk y,λz bf=>?_⟩;rcases RL bf with ae|ae
 ·exact(h.ct z ae).ajy h.cg al
 ·rw[ae];exact(hy.mono aa).ajy h.cg al
def ajz{x:b1}(h:x.k=d.k/\x.id=d.id/\x.c=d.c/\x.u=d.u/\Own w' base 154 5 T.cs x.f.a x.f.n x.f.c d.ts/\∃ys:List eJ,ys.map (·.dH)=d.aS/\Own w' base 34 1 eJ.cs x.e.a x.e.n x.e.c ys/\∀y,y∈ys->Own w' base 77 4 cd.cs y.v.a y.v.n y.v.c y.dH):fO w' base x d:=
 let ⟨bQ,bY,ew,fm,iQ,ys,sH,alw,w0⟩:=h;⟨bQ,bY,ew,fm,iQ,ys,sH,alw,w0⟩
def ajA{R:Nat}{a:bk}{xs:List aA}(h:a1 w 3 aA.cs a n cap xs)(bC:w.heap[R]?=some (Jg:Obj))(al:aG (·=R) w w'):a1 w' 3 aA.cs a n cap xs:=
 ⟨h.neq,h.len,h.max,h.none,h.bH,λk x hk=>by
  obtain⟨b,o,aj,ao⟩:=h.at_ k x hk;refine⟨b,o,aj,λj v aJ=>al.cell (ao j v aJ) (λe=>?_)⟩;have e:b=R:=e;subst e;have aW:=ao 0 _ rfl;have ak:=ao 2 _ rfl;simp only[World.cell?,bC]at aW ak;generalize o+k*3=q at aW ak
  match q,aW,ak with
  |0,aW,ak=>simp at ak
  |1,aW,ak=>simp at aW
  |2,aW,ak=>simp at aW
  |3,aW,ak=>simp at aW
  |4,aW,ak=>simp at aW
  |5,aW,ak=>simp at aW
  |6,aW,ak=>simp at aW
  |7,aW,ak=>simp at aW
  |q+8,aW,ak=>simp at aW⟩
def axp{b:az}{dX:Nat}{gx:dC}{bo:Nat}{dF:List bg}{dK fF G0 oZ:bk}{eA ajB dM on fZ vW G1 o0 nB axq UX:Nat}{ys os:List bO}(ae:b.je dX=gx)(ak:min gx.h b.st.ag.length=bo)(aM:ys.map (·.d)=vQ b.st.ag (lP c dX) bo (qi b.st.ag bo))(bn:os.map (·.d)=(dF.take 16).map (jU (j1 b.st.ag) (lP c dX)))(cb:(if b.h5=true then b.cW else b.st.ps)=dF)(he:eA=ajB)(fQ:fx w axq dK eA dM ys)(iV:fx w UX fF on fZ os)(Am:a1 w 3 aA.cs G0 vW G1 (wI (b.st.ay++b.bl) (gx.c3.map (·.id))))(UY:a1 w 3 aA.cs oZ o0 nB (p6 (λi=>eD b.st.ag i||eD b.st.ps i||eD b.cW i) gx.vs)):
  tu w ⟨2,(bo:Int),⟨none,0,0⟩,⟨none,0,0⟩,⟨dK,ajB,dM⟩,⟨fF,on,fZ⟩,⟨G0,vW,G1⟩,⟨oZ,o0,nB⟩⟩ (b.alu c dX):=by
 subst ae ak cb he;exact⟨rfl,rfl,a1.nil _ V.bH,LA _,⟨ys,fQ.sj.aF,fQ.sj.ct,aM⟩,⟨os,iV.sj.aF,iV.sj.ct,bn⟩,Am,UY⟩
def axr{M D O:ff}{p q:Nat}{b:az}{v:tK}{l:List lz}{R:List aA}(H:dU w M D O c p q b v)(b8:gz c l R n b)(cn:jL c)(j3:∀j,j∈b.bl->dx j)(UW:b.bl.length<=1000000)(an:b.st.ag.length<=10000)(dX:Nat)(i7:dX<c.ps.length)(axs:gv (b.je dX).h):
  aR 153 #[p,(dX:Int)] w λe w'=>∃x:ky,e=.returned (.agg #[x.k,ad x.h,x.v,x.q,x.e,x.p,x.b,x.d])/\tu w' x (b.alu c dX)/\Z w w':=by
 have ny:c.ps.length<=16:=by
  have a6:=cn.rQ;unfold jn at a6;simp only[ke,jQ]at a6;exact a6.1.2
 obtain⟨_,lN,_,iF,Uj,cv,UZ⟩:=H.gx.get (k:=dX) J;obtain⟨ag,ps,fR⟩:=H.dQ.st;obtain⟨Us,lC,xc⟩:=H.dQ.cW.sj;have cj:Z w (w.alloc Jg):=X;have ef:=I (Uj.ext cj);have Bz:=I UZ.dQ;have oI:=I (CU (k:=(dX:Int)) (uk J J));have fP:Hid (∀d,d∈b.st.ag->hP d):=λd aD=>(b8.ez.Cv.ag d aD).ok;have axt:Hid (∀d,d∈b.st.ps->hP d):=λd aD=>(b8.ez.Cv.ps d aD).ok;have axu:Hid (∀d,d∈b.cW->hP d):=λd aD=>(b8.x0 d aD).1.ok;have gp:=I H.box;have wQ:=aI (o:=10) (cj.aB gp) rfl;have rF:v.s.l.n=b.st.ag.length:=by rw[fR.l.aF.neq,<-fR.j9,cr]
 obtain⟨gx,P4⟩:∃gx,b.je dX=gx:=⟨_,rfl⟩;have ajC:(b.e8 dX).getD S1=gx:=P4;rw[ajC]at Bz;rw[P4]at axs;change Hid _ at Bz;refine YQ ?_;intro ca bJ bF bG bK;replace H:=I H;replace b8:=I b8;replace cn:=I cn;replace j3:=I j3;replace cv:=I cv;replace fR:=I fR;replace lC:=I lC;replace xc:=I xc;replace rF:=I rF;replace P4:=I P4;clear Uj UZ ajC;go_enter func153,ntmps153;go_wp2_with (at_lookup;(refine Gw rfl (λK aL=>ahU _ _ rfl EP underlying157 _ (ail _) rfl rfl ef rfl oI ?_);rw[cv.out];refine aL _ _ ?_;clear aL K));have dE:Z w ((w.alloc Jg).alloc iF):=X;refine(avj (H.ext dE) cn dX i7).mono ?_;rintro e w1⟨vF,kB,kj,rfl,LJ,bx⟩;have ql:=I LJ.aF;have cM:=I (bx.aB (show((w.alloc Jg).alloc iF).heap[(w:Nat)+1]?=some (iF:Obj)from hT));have L0:=I (bx.aB (show((w.alloc Jg).alloc iF).heap[(w:Nat)]?=some (Jg:Obj)from hT));have i9:=I (dE.trans bx);have kD:=aI (o:=5) (i9.aB gp) rfl;have dr:w1.cell? (w,1,1)=some ↑(ad (gx.h:Int)):=by rw[<-Bz.h];exact aI cM rfl
 replace bx:=I bx;clear LJ cj dE wQ;obtain⟨bo,jp⟩:∃bo,min gx.h b.st.ag.length=bo:=⟨_,rfl⟩;have kw:bo<=b.st.ag.length:=J;have ld:min (gx.h:Int) (IntKind.u64.wrap (v.s.l.n:Int))=(bo:Int):=by
  have ae:=rF.out;have:IntKind.u64.wrap (v.s.l.n:Int)=(v.s.l.n:Int):=Gp _ ⟨J,J⟩;omega
 replace jp:=I jp;replace ld:=I ld;go_wp2_with fail;rw[ld.out];refine(apN v.s.l.a v.s.l.n v.s.l.c ag bo _ (fR.l.ext X) (Ly fR.j9 fP) (by rw[rF.out];omega)).mono ?_;rintro e _⟨dK,eA,dM,aS,rfl,U0,Tk,ajD,bz⟩;have Jh:aS.map (·.d)=qi b.st.ag bo:=by rw[ajD,OC,List.map_drop,fR.j9];rfl
 have q8:eA<=4:=by rw[U0.neq,<-List.length_map (f:=(·.d)),Jh];unfold qi;rw[List.length_take];omega
 have jI:=I (fx.mk U0 Tk);have U1:=U0.neq;have aCL:bo+eA<=b.st.ag.length:=by rw[U1,<-List.length_map (f:=(·.d)),Jh];unfold qi;rw[List.length_take,List.length_drop];omega
 replace bz:=I bz;replace Jh:=I Jh;clear U0 Tk ajD kD dr;go_wp2_with fail;go_loopg [46] eA (λg dN wr=>∃(k:Nat) (ys:List bO),g+k=eA/\dN=.int .i64 (k:Int)/\ys.length=eA/\Hid (fx wr w1 dK eA dM ys)/\Hid (∀j,j<eA->(ys[j]?).map (·.d)=if j<k then ((qi b.st.ag bo)[j]?).map (jU (j1 (b.st.ag.take (bo+j))) (lP c dX)) else (qi b.st.ag bo)[j]?)/\Hid (Z w1 wr));case atStart=>exact⟨0,aS,J,rfl,U1.symm,jI,λj aJ=>by rw[bj (Nat.not_lt_zero _),<-Jh.out,nu],bz⟩
 case round=>
  obtain⟨k,ys,bu,rfl,TM,ch,rL,U⟩:=hrel;by_cases hk:k<eA
  ·obtain⟨hd,rfl⟩:∃hd,dK=some ⟨hd,0,none⟩:=by
    rcases ch.cg.row.2 with ⟨bo,an⟩|⟨g,aQ,cur,bo,_⟩
    ·omega
    ·simp only[Value.slice.injEq]at bo;exact⟨g,bo.1⟩
   have CI:k<ys.length:=J;have Ap:(ys[k].d)=(qi b.st.ag bo)[k]'li:=by
    have ae:=rL.out k hk;rw[bj (Nat.lt_irrefl _),fz CI,fz li]at ae;exact wL ae
   have hs:=ch.cg.J7 k CI;obtain⟨cT,c1,c2,da,dJ,dw,eC,eK⟩:=pd (x:=ys[k].x) hs;have axv:=I (ch.ct _ (c7 CI));have E9:hP ys[k].d:=by rw[Ap];exact fP _ (HI (AO (c7 _)))
   have b0:(0:Int)<=(k:Int):=J;have bd:(k:Int)<(eA:Int):=J;have pR:Hid ((wr.alloc ys[k].x).heap[(wr:Nat)]?=some (ys[k].x:Obj)):=fi rfl;have US:IntKind.i64.wrap (bo:Int)=(bo:Int):=IntWalk.i64_in _ ⟨J,J⟩;have L7:IntKind.i64.wrap ((bo:Int)+(k:Int))=((bo+k:Nat):Int):=by rw[IntWalk.i64_in _ ⟨J,J⟩];rfl
   replace Ap:=I Ap;replace E9:=I E9;clear hs;go_wp2_with fail;refine Bh 12 (λw'=>Z (wr.alloc ys[k].x) w') (λa7=>?_);refine Pv ?_;refine gO 4 ?_;refine gO 5 ?_;refine gO 6 ?_;refine gO 8 ?_;refine lQ 9 (·.aB pR) ?_;refine kW 7 λK aL=>?_;go_simp;go_at_call 99;refine(ZX (H.ext X) fP an (bo+k) J).mono ?_;rintro e aY⟨sa,kU,nX,eg,rfl,jK,lD,c9⟩;have F8:kU<=10000:=by
    rw[jK.aF.neq,<-cr (f:=ck.d),lD];have:=Uk (b.st.ag.take (bo+k)) [];rw[nW,o9]at this;unfold j1;omega
   have eH:=I (show ∀s,s∈eg->s.ts.length<=10000 from λs hs=>by
    have ae:s.d∈j1 (b.st.ag.take (bo+k)):=by rw[<-lD];exact mJ hs
    have:s.d.ts.length<=100:=ZW fP (bo+k) s.d ae
    exact eh this J)
   replace c9:=I c9;replace jK:=I jK;replace lD:=I lD;refine EN ?_;intro hH a7;refine kW 10 λK aL=>?_;go_simp;go_at_call 226;refine(ac2 sa kU nX eg vF kB kj (lP c dX) ys[k].x ys[k].d _ ⟨jK.aF.ext X,λs hs=>(jK.ts s hs).ext X⟩ (ql.ext X) (axv.ct.ext X) eH F8 (eh E9.rH.ts J) (eh E9.rH.aS J) (λe he=>eh (E9.rH.dH e he) J)).mono ?_;rintro e b3⟨hM,rfl,qt,eX⟩;have UN:(w1:Nat)<=(aY:Nat):=Z.size X;have lm:=I ((ajz qt).mono (aDn:=(w1:Nat)) UN);replace eX:=I eX;clear qt UN;refine EN ?_;intro hH a7;refine gO 11 ?_;have Ji:=I (ch.ext (w':=b3) X);have hs:=I (Ji.cg.J7 k CI);obtain⟨lN,e3,ju,oP,uR,s4,uS,tP⟩:=pd (x:=ys[k].x) hs;have Ep:∀q,b3.frozen? ⟨hd,q,none⟩=false:=λq=>Ji.cg.free q;refine kW 12 λK aL=>?_;refine Bj ?_;intro _;have kz:=I (Ji.Tp k CI ⟨hM,jU (eg.map ck.d) (lP c dX) ys[k].d⟩ lm (bA _));have vK:(w1:Nat)<=hd:=(ch.cg.lt _ rfl).1;have axw:=I ((Tq (S:=(·=hd)) (aG.refl _ b3) (R:=hd) (k*8) (.inl rfl) hM.k hM.id.b (ad hM.id.l) (ad hM.id.s) hM.c (ad hM.u) hM.f hM.e).ext (W:=w1) (λb aa=>by have aa:b=hd:=aa;omega) X);clear lN e3 ju oP uR s4 uS tP;go_wp2_with fail;go_roundg (gk - 1);case measure=>omega
   case rel=>
    refine⟨k+1,ys.set k ⟨hM,jU (eg.map ck.d) (lP c dX) ys[k].d⟩,J,by go_num,by rw[Dz];exact TM,kz,λj aJ=>?_,axw⟩;rw[Gi];by_cases G2:k=j
    ·subst G2;rw[bm rfl,bm CI,bm (P5 _),lD.out,Ap.out,fz li];rfl
    ·rw[bj G2,rL.out j aJ];by_cases MT:j<k
     ·rw[bm MT,bm J]
     ·rw[bj MT,bj J]
  ·have SZ:k=eA:=J;subst SZ;have xK:(qi b.st.ag bo).length=k:=by rw[<-Jh.out,cr];exact U1.symm
   have ls:=I (show ys.map (·.d)=vQ b.st.ag (lP c dX) bo (qi b.st.ag bo) by
    apply K1;intro j;rw[ajx,nu];by_cases aJ:j<k
    ·rw[rL.out j aJ,bm aJ]
    ·rw[y8 J,y8 J];rfl)
   change Hid _ at ch;have ic:=I U;clear rL U xK;have iv:=(show Z w wr from X).aB gp;obtain⟨-,-,-,-,-,-,axx,-,-,-,-,-,-,ajE⟩:=anu iv;clear iv;obtain⟨dF,rW⟩:∃dF,(if b.h5=true then b.cW else b.st.ps)=dF:=⟨_,rfl⟩;replace rW:=I rW;go_wp2_with fail;refine(Ps (H.ext X)).mono ?_;rintro e bp⟨rfl,U2⟩;replace U2:=I U2;go_upto_if 70 with (fail);go_cut [12] (λu fD=>∃(Jc:bk) (Jd E6:Nat) (mp:List bO),u=.slice Jc Jd E6/\Hid (ja fD Jc Jd E6 mp)/\Hid (mp.map (·.d)=dF)/\Hid (Z bp fD));case first=>
    have aCM:=(show Z wr bp from X).ah ajE;cases BG:b.h5 with
    |true=>
     have zl:=rW.out;rw[bm BG]at zl;clear BG;go_wp2_with fail;go_meet;exact⟨_,_,_,Us,rfl,lC.ext X,I (xc.trans zl),X⟩
    |false=>
     have zl:=rW.out;rw[bj (by rw[BG];decide)]at zl;clear BG;go_wp2_with fail;go_meet;exact⟨_,_,_,ps,rfl,fR.p.ext X,I (fR.ma.trans zl),X⟩
   case rest=>
    obtain⟨_,_,E6,mp,rfl,P6,ajF,ajG⟩:=hcut;have ajH:Hid (b.st.ag.take b.st.ag.length=b.st.ag):=ir (bA _);have hle:=rF.out;clear axx ajE;go_wp2_with fail;rw[rF.out];refine(ZX (H.ext X) fP an b.st.ag.length (bA _)).mono ?_;rintro e cV⟨sa,kU,nX,eg,rfl,jK,lD,mc⟩;rw[ajH.out]at lD;have ud:∀d,d∈dF->hP d:=by
     rw[<-rW.out];split
     ·exact axu
     ·exact axt
    have P7:=P6.aF.neq;have Sd:=P6.aF.len;have vw:=P6.aF.max;have lw:mp.length=dF.length:=by rw[<-ajF.out,cr]
    unfold maxLen at vw;subst P7;obtain⟨w3,mt⟩:∃w3,min dF.length 16=w3:=⟨_,rfl⟩;have Th:min (dF.length:Int) 16=(w3:Int):=J;have m0:(0:Int)<=(w3:Int):=J;have m1:(w3:Int)<=(E6:Int):=J;have aCN:w3<=mp.length:=J;replace mt:=I mt;have F8:kU<=10000:=by
     rw[jK.aF.neq,<-cr (f:=ck.d),lD];have:=Uk b.st.ag [];rw[nW]at this;unfold j1;omega
    have eH:=I (show ∀s,s∈eg->s.ts.length<=10000 from λs hs=>by
     have ae:s.d∈j1 (b.st.ag.take b.st.ag.length):=by rw[ajH.out,<-lD];exact mJ hs
     have:s.d.ts.length<=100:=ZW fP _ s.d ae
     exact eh this J)
    replace mc:=I mc;replace jK:=I jK;replace lD:=I lD;replace ud:=I ud;clear hle;go_wp2_with fail;replace lw:=I lw;go_loopg [14,84] w3 (λg e1 dN wr=>∃(k:Nat) (fF:bk) (fZ:Nat) (os:List bO),g+k=w3/\dN=.int .i64 (k:Int)/\e1=.slice fF k fZ/\Hid (fx wr cV fF k fZ os)/\Hid (os.map (·.d)=(dF.take k).map (jU (j1 b.st.ag) (lP c dX)))/\Hid (Z cV wr));case atStart=>exact⟨0,none,0,[],J,rfl,rfl,⟨Own.nil _ _ _ bO.bH,λp aV=>by cases aV⟩,rfl,Z.refl _⟩
    case round=>
     obtain⟨k,fF,fZ,os,_,rfl,rfl,dO,ajI,U⟩:=hrel;by_cases hk:k<w3
     ·have zB:k<mp.length:=J;have uI:k<dF.length:=by rw[<-lw.out];exact zB
      obtain⟨fC,o,rfl,fW⟩:=P6.aF.get k zB;obtain⟨_,_,_,_,_,_,_,_⟩:=pd (w:=wr) (b:=fC) (o:=o+k*8) (x:=mp[k].x) (λj v aJ=>(mc.trans U).ah (fW j v aJ));have n3:=I (P6.ct _ (c7 zB));have k7:mp[k].d=dF[k]:=by
       have ae:(mp.map (·.d))[k]? =dF[k]? :=by rw[ajF.out]
       rw[nu,fz zB,fz uI]at ae;exact wL ae
      have E9:=I (show hP mp[k].d by rw[k7];exact ud _ (c7 uI))
      have hS:=I (show(dF.take (k+1)).map (jU (j1 b.st.ag) (lP c dX))=os.map (·.d)++[jU (eg.map ck.d) (lP c dX) mp[k].d] by
       rw[iX uI,gS,<-ajI.out,lD.out,k7];rfl)
      have b0:(0:Int)<=(k:Int):=J;have bd:(k:Int)<(w3:Int):=J;clear fW k7;go_wp2_with fail;refine(ac2 sa kU nX eg vF kB kj (lP c dX) mp[k].x mp[k].d _ ⟨jK.aF.ext X,λs hs=>(jK.ts s hs).ext X⟩ (ql.ext X) (n3.ext X) eH F8 (eh E9.rH.ts J) (eh E9.rH.aS J) (λe he=>eh (E9.rH.dH e he) J)).mono ?_;rintro e df⟨hM,rfl,qt,BH⟩;have ajJ:(cV:Nat)<=(wr.alloc mp[k].x).heap.size:=Z.size X;have lm:=I ((ajz qt).mono (aDn:=(cV:Nat)) ajJ);replace BH:=I BH;clear qt ajJ;go_wp2_with (at_builtin;refine hf (ys:=os) rfl (.tmp 88) (.tmp 93) 42 rfl ca _ 96 underlying42 bJ bF bG bK rfl af rfl (dO.cg.ext X) ⟨hM,jU (eg.map ck.d) (lP c dX) mp[k].d⟩ _ rfl (fc (cs:=bO.cs ⟨hM,jU (eg.map ck.d) (lP c dX) mp[k].d⟩) (by simp)) (bO.cN _) J af (Z.size X) ?_;intro _ ie cG hb fq);have m9:=dO.ext (w':=df.alloc hM) X;have jo:=I (m9.ri fq hb (lm.ext X));have nE:=I (fq.ext (W:=cV) m9.cg (bA _) X);clear hb fq m9;go_wp2_with fail;go_roundg (gk - 1);case measure=>omega
      case rel=>exact⟨k+1,_,ie,os++[⟨hM,jU (eg.map ck.d) (lP c dX) mp[k].d⟩],J,by go_num,rfl,jo,by rw[hS.out,gS];exact rfl,nE⟩
     ·have zB:k=w3:=J;subst zB
      have axy:=I (show os.map (·.d)=(dF.take 16).map (jU (j1 b.st.ag) (lP c dX)) by
       rw[ajI.out,List.take_eq_take_iff.2 (show min k dF.length=min 16 dF.length by have:=mt.out;omega)])
      have mB:Hid (Z w1 wr):=X;have ajK:=I ((i9.trans mB).aB gp);have ajL:=I (mB.aB cM);have axz:=I (mB.aB L0);have iL:(w:Nat)<(w1:Nat):=bT L0;go_wp2_with fail;refine Bh 19 (Z wr) (λa7=>?_);refine Pv ?_;refine gO 5 ?_;refine lQ 6 (·.aB ajL) ?_;refine gO 8 ?_;refine gO 9 ?_;refine gO 10 ?_;refine lQ 11 (·.aB ajK) ?_;refine gO 12 ?_;refine gO 13 ?_;refine gO 14 ?_;refine lQ 15 (·.aB ajK) ?_;refine lQ 16 (·.aB ajL) ?_;refine kW 4 λK aL=>?_;go_simp;go_at_call 228;refine(axo (H.ext X) b8 cn.room j3 UW).mono ?_;rintro e _⟨ha,h2,gG,rfl,PB,BH⟩;replace BH:=I BH;replace PB:=I PB;refine EN ?_;intro hH a7;obtain⟨c3,Up,Co⟩:=Bz.q.sj;refine kW 7 λK aL=>?_;go_simp;go_at_call 227;refine(apK ha h2 gG (b.st.ay++b.bl) _ _ _ (c3.map (·.x)) _ (PB.ext X) (Up.dz.ext X)).mono ?_;rw[ZM Up Co];rintro e _⟨G0,vW,G1,rfl,ne,n5⟩;replace n5:=I n5;replace ne:=I ne;refine EN ?_;intro hH a7;refine kW 17 λK aL=>?_;go_simp;go_at_call 229;refine(apt v.s (ag.map (·.x)) (ps.map (·.x)) (Us.map (·.x)) v.cW.a v.cW.n v.cW.c iF gx.vs _ (fR.l.dz.ext X) (fR.p.dz.ext X) (lC.dz.ext X) (Bz.v.ext X)).mono ?_;rw[auY fR.l fR.j9 fR.p fR.ma lC.out xc.out];rintro e cG⟨oZ,o0,nB,rfl,jY,nE⟩;replace nE:=I nE;replace jY:=I jY;refine EN ?_;intro hH a7;refine gO 18 ?_;have hG:Z wr cG:=X;replace hG:=I hG;have x9:=I (hG.aB axz);obtain⟨z0,cU,z2,z3,z4,z5,ga,fk⟩:cG.cell? (w,0)=some ↑ar/\cG.cell? (w,1)=some ↑au/\cG.cell? (w,2)=some ↑aH/\cG.cell? (w,3)=some ↑aH/\cG.cell? (w,4)=some ↑aH/\cG.cell? (w,5)=some ↑aH/\cG.cell? (w,6)=some ↑aH/\cG.cell? (w,7)=some ↑aH:=⟨aI x9 rfl,aI x9 rfl,aI x9 rfl,aI x9 rfl,aI x9 rfl,aI x9 rfl,aI x9 rfl,aI x9 rfl⟩;have mx:∀j,cG.frozen? ⟨(w:Nat),j,none⟩=false:=λj=>nS x9;refine kW 19 λK aL=>?_;refine Bj ?_;intro _;clear z0 cU z2 z3 z4 z5 ga fk;have iy:=AZ (S:=λx=>x=(w:Nat)) (aG.refl _ cG) (R:=(w:Nat)) (.inl rfl) (bh 2) (ad (bo:Int)) aH aH (aq dK aS.length dM) (aq fF k fZ) (aq G0 vW G1) (aq oZ o0 nB);have U3:=O4 x9 (bh 2) (ad (bo:Int)) aH aH (aq dK aS.length dM) (aq fF k fZ) (aq G0 vW G1) (aq oZ o0 nB);have U4:=iy.ext (W:=w) (λb aa=>by subst aa;exact bA _) (i9.trans (mB.trans hG));have fQ:=I ((ch.ext (U2.trans (ajG.trans (mc.trans (U.trans hG))))).gA iy (λx e=>by omega));have iV:=I ((dO.ext hG).gA iy (λx e=>by have:=Z.size (ic.trans (U2.trans (ajG.trans mc)));omega));have Am:=I (ajA (ne.ext nE) x9 iy);have UY:=I (ajA jY x9 iy);replace U4:=I U4;clear iy;generalize ((((((((cG.setCell (w,0) (bh 2)).setCell (w,1) (ad (bo:Int))).setCell (w,2) aH).setCell (w,3) aH).setCell (w,4) (aq dK aS.length dM)).setCell (w,5) (aq fF k fZ)).setCell (w,6) (aq G0 vW G1)).setCell (w,7) (aq oZ o0 nB))=UM at U3 U4 fQ iV Am UY ⊢;obtain⟨z0,cU,z2,z3,z4,z5,ga,fk⟩:=lI U3;replace U3:=I U3;go_wp2;refine bodyPost_ret (v:=.agg #[bh 2,ad (bo:Int),aH,aH,aq dK aS.length dM,aq fF k fZ,aq G0 vW G1,aq oZ o0 nB]) (by simp[results,results153,go_sem,z0,cU,z2,z3,z4,z5,ga,fk]) rfl ?_;exact⟨⟨2,(bo:Int),⟨none,0,0⟩,⟨none,0,0⟩,⟨dK,aS.length,dM⟩,⟨fF,k,fZ⟩,⟨G0,vW,G1⟩,⟨oZ,o0,nB⟩⟩,rfl,axp P4 jp ls axy rW U1 fQ iV Am UY,U4⟩
structure vl where
 t:Nat
 s:iY
 m:dC
def vl.cs(o:vl):List Value:= [.int .i64 (o.t:Int),.slice o.s.a o.s.n o.s.c]
def vl.bH(o:vl):o.cs.length=2:=rfl
def vl.cN(o:vl):∀u∈o.cs,u.oneCell'=true:=by
 intro u al;simp only[vl.cs,nK,sW,tJ]at al;rcases al with rfl|rfl<;>rfl
def axA:(prog.info? 183).map (λi=>(i.zero,i.size,i.bytes))=some (some (.agg #[ar,aH]),2,32):=bV
structure Aq (w:World) (base:Nat) (a:Option Addr) (n c:Nat) (os:List vl):Prop where
 cg:Own w base 183 2 vl.cs a n c os
 ct:∀o,o∈os->Own w base 5 1 cp o.s.a o.s.n o.s.c (ui o.m)
def Aq.ext{a:bk}{c:Nat}{os:List vl}(h:Aq w base a n c os)(U:Z w w'):Aq w' base a n c os:=⟨h.cg.ext U,λo aK=>(h.ct o aK).ext U⟩
def ajM(ob:Nat)(a:Option Addr):Nat->Prop:=λx=>x=ob\/E0 a x
def ajN{ob:Nat}{fF:bk}{on fZ:Nat}{os:List vl}(im:w.heap[ob]?=some (.cells #[aq fF on fZ] 180))(ba:Aq w base fF on fZ os)(jZ:base<=(w:Nat))(xz:on<=1000)(x:ky)(m:dC)(bM:tu w x m)(I8:ue m)(BF:Nat):
  aR 146 #[(BF:Int),x,ob] w λe w'=>e=.returned (.tuple #[])/\aG (ajM ob fF) w w'/\
   ∃px rq s,w'.heap[ob]?=some (.cells #[.slice px (on+1) rq] 180)/\Aq w' base px (on+1) rq (os++[⟨BF,s,m⟩]):=by
 obtain⟨ca,bJ,bF,bG,bK⟩:=info_parts axA;change Hid _ at bJ bF bG bK im ba bM I8;have iG:(w.alloc x).heap[(w:Nat)]?=some (x:Obj):=fi rfl;obtain⟨z0,cU,z2,z3,z4,z5,ga,fk⟩:=lI iG;have cS:Hid (Z w (w.alloc x)):=X;go_enter func146,ntmps146;go_wp2_with fail;refine(aud x m _ (bM.ext cS) I8).mono ?_;rintro e w1⟨sa,kU,nX,rfl,jK,bw⟩;have bx:=I (cS.trans bw);have g0:=aI (o:=0) (bx.aB im) rfl;have aCO:(w:Nat)<(w1:Nat):=by have:=bw.size;simp at this;omega
 change Hid _ at jK;clear iG z0 cU z2 z3 z4 z5 ga fk bw;have Z4:=I (ba.cg.eQ im af);go_wp2_with (at_builtin;refine hf (ys:=os) rfl (.tmp 14) (.tmp 18) 180 rfl ca _ 32 underlying180 bJ bF bG bK rfl af rfl (ba.cg.ext (w':=w1.alloc (.cells #[(BF:Int),aq sa kU nX] 183)) X) ⟨BF,⟨sa,kU,nX⟩,m⟩ _ rfl (fc (cs:=vl.cs ⟨BF,⟨sa,kU,nX⟩,m⟩) rfl) (vl.cN _) J af (by simp;omega) ?_;intro g9 ie cG hb fq;have pT:=fq.aB (((Z.refl w1).alloc (.cells #[(BF:Int),aq sa kU nX] 183)).aB (bx.aB im)) Z4;have z0:=aI (o:=0) pT rfl;have mx:∀j,cG.frozen? ⟨ob,j,none⟩=false:=(λj=>nS pT));change Hid _ at hb;have LF:Hid (aG (E0 fF) _ cG):=fq.dT.mono (λ_ _ k=>k);have axB:=I ((aG.of (show Z w (w1.alloc (.cells #[(BF:Int),aq sa kU nX] 183))from X)).trans LF);change Hid _ at pT;clear fq z0 mx g0;go_wp2;go_end0;have eW:aG (·=ob) cG (cG.setCell (ob,0) (.slice (some (g9,0)) (on+1) ie)):=(aG.refl (·=ob) cG).setCell (ob,0) (.inl rfl) _;have gI:aG (ajM ob fF) w (cG.setCell (ob,0) (.slice (some (g9,0)) (on+1) ie)):=(axB.mono (λ_ _ k=>.inr k)).trans (eW.mono (λ_ _ k=>.inl k));refine⟨rfl,gI,some ⟨g9,0,none⟩,ie,⟨sa,kU,nX⟩,er pT 0 _,eW.bI hb (hb.eQ pT af),λo aK=>?_⟩;rcases iR.1 aK with aK|aK
 ·refine gI.bI (ba.ct o aK) (λai aj k=>k.elim ((ba.ct o aK).eQ im af ai aj) (fun⟨nw,bS,bE⟩=>(ba.ct o aK).gQ ba.cg af ai nw aj bS bE.symm))
 ·obtain rfl:=iH.1 aK;have bQ:=jK.ext (w':=w1.alloc (.cells #[(BF:Int),aq sa kU nX] 183)) X;have bY:=LF.bI bQ (λai aj ⟨nw,bS,bE⟩=>by have q1:=(ba.cg.lt nw bS).2;have dP:=(bQ.lt ai aj).1;simp at dP;omega);have ew:=eW.bI bY (λai aj e=>by have e:ai.block=ob:=e;have q1:=bT im;have dP:=(bQ.lt ai aj).1;simp at dP;omega);exact ew.mono (by simp;omega)
structure FZZ where
 ag:Nat
 e9:Nat
 aw:Nat
 rh:Nat
 rv:Nat
 c0:Nat
 e0:Bool
 mh:Bool
def c8(m k:Nat):Bool:=Nat.testBit m k
def pZ(m k:Nat)(v:Bool):Nat:=if v=true then m|||(1 <<< k) else (m|||(1 <<< k)) ^^^ (1 <<< k)
def vm(m k j:Nat)(v:Bool):c8 (pZ m k v) j=if j=k then v else c8 m j:=by
 unfold c8 pZ;by_cases h:j=k
 ·subst h;cases v<;>simp[Nat.testBit_or,Nat.testBit_xor,Nat.testBit_shiftLeft]
 ·have ak:(1 <<< k).testBit j=false:=by
   rw[Nat.testBit_shiftLeft];by_cases hk:k<=j
   ·have:j - k≠0:=J;simp;cases aJ:j - k with
    |zero=>omega
    |succ z=>simp[Nat.testBit_succ]
   ·simp[hk]
  rw[bj h];cases v<;>simp[Nat.testBit_or,Nat.testBit_xor,ak]
def P8(k:Nat):c8 0 k=false:=Nat.zero_testBit k
def ajO(ps:List Nat)(n:Nat):List Nat:=(List.range ps.length).filter (λk=>decide (0<k/\ps.getD k 0=n))
def L8(dI:List Nat)(m:Nat):Bool:=dI.all (c8 m)
def G3(dI:List Nat)(m:Nat):Bool:=dI.any (c8 m)
def zs(sub:Bool)(dI:List Nat)(s:FZZ):FZZ:=
 if c8 s.ag 0=true then {s with mh:=s.mh||s.e0}
 else if sub=true then
  (if (c8 s.aw 0||G3 dI s.c0)=true then {s with ag:=pZ s.ag 0 true,aw:=pZ s.aw 0 false,mh:=s.mh||s.e0} else {s with mh:=s.mh||s.e0})
 else if (s.e0||(c8 s.aw 0||G3 dI s.c0))=true then
  (if L8 dI s.rv=true then {s with ag:=pZ s.ag 0 true,aw:=pZ s.aw 0 false,e0:=false} else {s with e0:=true})
 else s
def BI(ei eL:Bool)(k:Nat)(s:FZZ):FZZ:=
 let nl:=ei&& !c8 s.rh k&& !c8 s.ag k;let c4:=c8 s.ag k||nl;let kf:=c8 s.e9 k&& !nl
 {s with ag:=pZ s.ag k c4,e9:=pZ s.e9 k (kf||(eL&& !c4)),aw:=pZ s.aw k (c8 s.aw k&& !nl),mh:=s.mh||(c8 s.rv k&& !(ei||eL))}
def C0(sub:Bool)(nk:List (List Nat))(p n:Nat)(s:FZZ):FZZ:=
 let e3:={s with rh:=pZ s.rh n (c8 s.ag n),rv:=pZ s.rv n (c8 s.e9 n&&L8 (nk.getD n []) s.rv),c0:=pZ s.c0 n ((c8 s.aw n||G3 (nk.getD n []) s.c0)&& !c8 s.ag n)}
 if p=0 then zs sub (nk.getD 0 []) e3 else e3
def yp(sub:Bool)(ps:List Nat)(nk:List (List Nat))(s:FZZ)(n:Nat):FZZ:=
 let e3:=if n=0 then zs sub (nk.getD 0 []) s else s;let ei:=c8 e3.ag n;let eL:=if n=0 then e3.e0 else c8 e3.e9 n;let ju:=if n=0 then e3 else C0 sub nk (ps.getD n 0) n e3;(nk.getD n []).foldl (λs k=>BI ei eL k s) ju
def yq(sub:Bool)(ps:List Nat)(nk:List (List Nat))(s:FZZ):FZZ:=(Ed ps.length).foldl (yp sub ps nk) s
def Jj(ps:List Nat):List (List Nat):=(List.range ps.length).map (ajO ps)
def C1(h:Nat):FZZ:=⟨0,0,1 <<< h,0,0,0,false,false⟩
def L9(n:Nat):Nat:=(1 <<< n) - 1
def U5(n:Nat)(s:FZZ):Bool:=s.ag==L9 n&&s.e9==0&&s.aw==0&&s.rh==L9 n - 1&&s.rv==0&&s.c0==0&& !s.e0&& !s.mh
def U6(s:FZZ):Bool:=s.ag==0&&s.e9==0&&s.aw==0&&s.rh==0&&s.rv==0&&s.c0==0&& !s.e0&& !s.mh
def Ma:Nat->List (List Nat)
 |0=> [[]]
 |1=> [[0]]
 |n+1=>(Ma n).flatMap (λt=>(List.range n).map (λp=>t++[p]))
def G4(n:Nat)(f:Nat->α):α:=match n with
 |0=>f 0
 |m+1=>f (m+1)
def Jk(n:Nat)(f:Nat->α):G4 n f=f n:=by cases n<;>rfl
def G5(b:Bool)(f:Bool->α):α:=match b with
 |true=>f true
 |false=>f false
def no(b:Bool)(f:Bool->α):G5 b f=f b:=by cases b<;>rfl
def P9{α:Type}:List Nat->(List Nat->α)->α
 | [],f=>f []
 |x::l,f=>G4 x λx=>P9 l λl=>f (x::l)
def ol{α:Type}:∀(l:List Nat) (f:List Nat->α),P9 l f=f l
 | [],f=>rfl
 |x::l,f=>by unfold P9;rw[Jk,ol l]
def U7{α:Type}:List (List Nat)->(List (List Nat)->α)->α
 | [],f=>f []
 |x::l,f=>P9 x λx=>U7 l λl=>f (x::l)
def ajP{α:Type}:∀(l:List (List Nat)) (f:List (List Nat)->α),U7 l f=f l
 | [],f=>rfl
 |x::l,f=>by unfold U7;rw[ol,ajP l]
def Fa(s:FZZ)(f:FZZ->α):α:=G4 s.ag λa=>G4 s.e9 λb=>G4 s.aw λc=>G4 s.rh λd=>G4 s.rv λe=>G4 s.c0 λg=>G5 s.e0 λh=>G5 s.mh λi=>f ⟨a,b,c,d,e,g,h,i⟩
def ajQ(s:FZZ)(f:FZZ->α):Fa s f=f s:=by unfold Fa;rw[Jk,Jk,Jk,Jk,Jk,Jk,no,no]
def ph(sub:Bool)(ps:List Nat)(nk:List (List Nat))(s:FZZ)(n:Nat):FZZ:=
 Fa s λs=>Fa (if n=0 then zs sub (nk.getD 0 []) s else s) λe3=>G5 (c8 e3.ag n) λei=>G5 (if n=0 then e3.e0 else c8 e3.e9 n) λeL=>
  Fa (if n=0 then e3 else C0 sub nk (ps.getD n 0) n e3) λju=>(nk.getD n []).foldl (λs k=>Fa s (BI ei eL k)) ju
def axC:ph=yp:=by
 funext sub ps nk s n;unfold ph yp;simp only[ajQ,no]
def Mb(sub:Bool)(ps:List Nat)(nk:List (List Nat))(s:FZZ):FZZ:=(Ed ps.length).foldl (ph sub ps nk) s
def axD:Mb=yq:=by unfold Mb yq;rw[axC]
def ajR(n:Nat)(ps:List Nat):Bool:=P9 ps λps=>U7 (Jj ps) λnk=> [true,false].all λsub=>
 (U6 (Mb sub ps nk ⟨0,0,0,0,0,0,false,false⟩))&&(List.range n).all λh=>Fa (Mb sub ps nk (C1 h)) λs=>Fa (Mb sub ps nk s) λs=>Fa (Mb sub ps nk s) (U5 n)
def pi(n:Nat):Bool:=(Ma n).all (ajR n)
def axE:((List.range 6).all pi)=true:=by decide+kernel
def axF:pi 6=true:=by decide+kernel
def jN(B:Nat->az)(cur:Nat->Nat):aZ:=⟨λn=>.up (B n),λ_ _=> [],cur⟩
def j8(B:Nat->az)(n:Nat)(b:az):Nat->az:=λk=>if k=n then b else B k
def Fb(B:Nat->az)(n:Nat)(b:az):j8 B n b n=b:=bm rfl
def U8(B:Nat->az)(b:az)(h:k≠n):j8 B n b k=B k:=bj h
def Fc(c:bt)(n:Nat)(B:Nat->az)(o:Nat×dC):Nat->az:=j8 B o.1 ((B o.1).A8 c n o.2)
def Jl(c:bt)(B:Nat->az)(n:Nat):Nat->az:=(((B n).fU c).eB c).foldl (Fc c n) (j8 B n ((B n).fU c))
def jr(B:Nat->az)(cur:Nat->Nat)(n:Nat)(eB:List (Nat×dC)):aZ:=⟨λn=>.up (B n),λx y=>if x=n then (eB.filter (λo=>decide (o.1=y))).map (·.2) else [],cur⟩
def Jm(B:Nat->az)(cur:Nat->Nat)(n:Nat):jr B cur n []=jN B cur:=by
 unfold jr jN;congr 1;funext x y;simp
def Qa(B:Nat->az)(cur:Nat->Nat)(n:Nat)(eB:List (Nat×dC))(k:Nat)(b:az):(jr B cur n eB).hc k (.up b)=jr (j8 B k b) cur n eB:=by
 unfold jr aZ.hc j8;congr 1;funext j;dsimp only;split<;>rfl
def Jn(h:y∉eB.map (·.1)):eB.filter (λo=>decide (o.1=y))= []:=
 Jo.2 (λo aK=>by simpa using λe=>h (kN.2 ⟨o,aK,e⟩))
def axG(c:bt)(B:Nat->az)(cur:Nat->Nat)(n:Nat)(cC:List (Nat×dC))(o:Nat×dC)(hw:mR c n o.1=true)(an:o.1∉cC.map (·.1)):(jr B cur n cC).send c n o.1 o.2=jr B cur n (cC++[o]):=by
 have aT:(jr B cur n cC).iz n o.1= []:=by unfold jr;simp[Jn an]
 unfold aZ.send;rw[bm ⟨hw,by rw[aT];simp⟩,aT];unfold aZ.vU jr;congr 1;funext x y;dsimp only;rw[zC];by_cases U:x=n
 ·by_cases hy:y=o.1
  ·subst U hy;simp[Jn an]
  ·have:¬o.1=y:=λe=>hy e.symm;subst U;simp[hy,this]
 ·simp[U]
def ajS(c:bt)(B:Nat->az)(cur:Nat->Nat)(n:Nat):∀(eB cC:List (Nat×dC)),(∀o,o∈eB->mR c n o.1=true)->((cC++eB).map (·.1)).Nodup->(jr B cur n cC).xV c n eB=jr B cur n (cC++eB)
 | [],cC,_,_=>by rw[mH];rfl
 |o::l,cC,hw,an=>by
  have ae:o.1∉cC.map (·.1):=λk=>by
   rw[gS,Ow]at an
   exact an.2.2 _ k o.1 (by simp) rfl
  have ak:=ajS c B cur n l (cC++[o]) (λp aV=>hw p (kA _ aV)) (by rw[iI];exact an)
  unfold aZ.xV at ak ⊢
  rw[mM,axG c B cur n cC o (hw o kh) ae,ak,iI]
  rfl
def ajT(an:(eB.map (·.1)).Nodup):(y∉eB.map (·.1))\/∃m,(y,m)∈eB/\eB.filter (λo=>decide (o.1=y))= [(y,m)]:=by
 induction eB with
 |nil=>exact .inl (by simp)
 |cons o l cI=>
  rw[tj,Gf]at an;by_cases aK:o.1=y
  ·refine .inr ⟨o.2,by subst aK;exact kh,?_⟩;rw[Ip (by simpa using aK),Jn (by rw[<-aK];exact an.1)];subst aK;rfl
  ·rcases cI an.2 with h|⟨m,ae,ak⟩
   ·exact .inl (by rw[tj,nK];exact λe=>e.elim (λe=>aK e.symm) h)
   ·exact .inr ⟨m,kA _ ae,by rw[Eo (by simpa using aK)];exact ak⟩
def Fe(eB:List (Nat×dC))(y:Nat):List (Nat×dC):=eB.filter (λo=>decide (o.1≠y))
def ajU(h:y∉eB.map (·.1)):Fe eB y=eB:=
 DE.2 (λo aK=>by simpa using λe=>h (kN.2 ⟨o,aK,e⟩))
def axH(B:Nat->az)(cur:Nat->Nat)(n:Nat)(eB:List (Nat×dC))(y:Nat):(jr B cur n eB).vU n y []=jr B cur n (Fe eB y):=by
 unfold aZ.vU jr Fe;congr 1;funext a b;dsimp only;rw[U9];by_cases aj:a=n
 ·by_cases aa:b=y
  ·subst aj aa;rw[bm ⟨rfl,rfl⟩,bm rfl,Jo.2 (λo _=>by simp),ID]
  ·subst aj;rw[bj (λk=>aa k.2),bm rfl,bm rfl];congr 1;refine DH (λo _=>?_);by_cases aK:o.1=b
   ·simp[aK,aa]
   ·simp[aK]
 ·rw[bj (λk=>aj k.1),bj aj,bj aj]
def ajV(c:bt)(f:Nat)(w:aZ)(a b:Nat)(h:w.iz a b= []):aZ.drain c f w a b=w:=by
 cases f with
 |zero=>rfl
 |succ f=>unfold aZ.drain;rw[if_pos (by rw[h];rfl)]
def axI(c:bt)(B:Nat->az)(cur:Nat->Nat)(n y:Nat)(eB:List (Nat×dC))(an:(eB.map (·.1)).Nodup):
  aZ.drain c 9 (jr B cur n eB) n y=match eB.filter (λo=>decide (o.1=y))with| []=>jr B cur n eB|o::_=>jr (Fc c n B o) cur n (Fe eB y):=by
 rcases ajT (y:=y) an with h|⟨m,ae,ak⟩
 ·rw[Jn h];exact ajV c 9 _ n y (by unfold jr;simp[Jn h])
 ·rw[ak];have aT:(jr B cur n eB).iz n y= [m]:=by unfold jr;simp[ak]
  have aD:(jr B cur n eB).vV c n y=jr (Fc c n B (y,m)) cur n (Fe eB y):=by
   unfold aZ.vV;rw[aT];dsimp only;rw[axH];unfold aZ.Ec;exact Qa B cur n (Fe eB y) y _
  unfold aZ.drain;rw[bj (by rw[aT];simp),aD];refine ajV c 8 _ n y ?_;unfold jr Fe;dsimp only;rw[bm rfl,U9,Jo.2 (λo _=>by simp),ID]
def ajW(c:bt)(n:Nat)(cur:Nat->Nat):∀(N:Nat) (eB:List (Nat×dC)) (B:Nat->az),(eB.map (·.1)).Pairwise (·<·)->n∉eB.map (·.1)->
  (List.range N).foldl (λw dst=>if dst=n then w else aZ.drain c 9 w n dst) (jr B cur n eB)=jr ((eB.filter (λo=>decide (o.1<N))).foldl (Fc c n) B) cur n (eB.filter (λo=>decide (N<=o.1)))
 |0,eB,B,_,_=>by
  rw[Jo.2 (λo _=>by simp),DE.2 (λo _=>by simp)];rfl
 |N+1,eB,B,aV,an=>by
  have alv:(eB.map (·.1)).Nodup:=aV.imp (λh=>sv h);rw[Kq,CV,ajW c n cur N eB B aV an,mM,List.foldl_nil];have axJ:((eB.filter (λo=>decide (N<=o.1))).map (·.1)).Nodup:=alv.sublist (List.filter_sublist.map _);have Yq:∀l:List (Nat×dC),(l.map (·.1)).Pairwise (·<·)->l.filter (λo=>decide (o.1<N+1))=l.filter (λo=>decide (o.1<N))++l.filter (λo=>decide (o.1=N)):=by
   intro l;induction l with
   |nil=>intro _;rfl
   |cons x l cI=>
    intro h;rw[tj,List.pairwise_cons]at h;by_cases ae:x.1<N
    ·rw[Ip (by simpa using Nat.lt_succ_of_lt ae),Ip (by simpa using ae),Eo (by simpa using sv ae),cI h.2];rfl
    ·have aW:∀k,N<=k->k<=x.1->l.filter (λo=>decide (o.1<k))= []:=λk _ aM=>Jo.2 (λo aK=>by have:=h.1 o.1 (mJ aK);simp;omega);by_cases ak:x.1=N
     ·rw[Ip (by simp;omega),Eo (by simpa using ae),Ip (by simpa using ak),aW N (bA _) J,lq];congr 1;refine DH (λo aK=>?_);have:=h.1 o.1 (mJ aK);rw[lo J,lo J]
     ·rw[Eo (by simp;omega),Eo (by simpa using ae),Eo (by simpa using ak),cI h.2]
  have axK:eB.filter (λo=>decide (N+1<=o.1))=Fe (eB.filter (λo=>decide (N<=o.1))) N:=by
   unfold Fe;rw[U9];refine DH (λo _=>?_);by_cases h:o.1=N
   ·rw[h];simp
   ·by_cases ak:N<=o.1
    ·have:N+1<=o.1:=J;simp[h,ak,this]
    ·have:¬N+1<=o.1:=J;simp[ak,this]
  have Z7:(eB.filter (λo=>decide (N<=o.1))).filter (λo=>decide (o.1=N))=eB.filter (λo=>decide (o.1=N)):=by
   rw[U9];refine DH (λo _=>?_);by_cases h:o.1=N
   ·rw[h];simp
   ·simp[h]
  rw[Yq eB aV,CV,axK];by_cases dG:N=n
  ·rw[bm dG]
   rw[Jn (by rw[dG];exact an),ajU (λk=>by
    obtain⟨o,aK,e⟩:=kN.1 k
    exact an (kN.2 ⟨o,(mI.1 aK).1,e.trans dG⟩))]
   rfl
  ·rw[bj dG,axI c _ cur n N _ axJ,Z7];rcases ajT (y:=N) alv with h|⟨m,ae,ak⟩
   ·rw[Jn h,ajU (λk=>by
     obtain⟨o,aK,e⟩:=kN.1 k
     exact h (kN.2 ⟨o,(mI.1 aK).1,e⟩))]
    rfl
   ·rw[ak];rfl
def axL(c:bt)(B:Nat->az)(cur:Nat->Nat)(n:Nat)(aV:((((B n).fU c).eB c).map (·.1)).Pairwise (·<·))(an:n∉(((B n).fU c).eB c).map (·.1))(hw:∀o,o∈((B n).fU c).eB c->mR c n o.1=true/\o.1<c.ps.length):
  (jN B cur).kF c n=jN (Jl c B n) cur:=by
 have a6:(jN B cur).tick c n=jr (j8 B n ((B n).fU c)) cur n (((B n).fU c).eB c):=by
  unfold aZ.tick;show((jN B cur).hc n (.up ((B n).fU c))).xV c n (((B n).fU c).eB c)=_;rw[<-Jm B cur n,Qa,ajS c _ cur n _ [] (λo aK=>(hw o aK).1) (by rw[lq];exact aV.imp (λh=>sv h))];rfl
 unfold aZ.kF;show((jN B cur).tick c n).Oq c n=_;rw[a6];unfold aZ.Oq;rw[ajW c n cur _ _ _ aV an,DE.2 (λo aK=>by simpa using (hw o aK).2),Jo.2 (λo aK=>by have:=(hw o aK).2;simp;omega),Jm];rfl
section
structure Ff where
 L:List bg
 E:bg
 aa:Nat
 kB:Nat->Nat
structure kJ (c:bt) (x:Ff):Prop where
 E2:ka c
 room:40000<=c.room
 new:x.E.id∉dY x.L
 Qb:gY x.E
 qn:∀d,d∈x.L->gY d
 kind:x.E.k=1\/x.E.k=2
 ajX:x.L.length<=5
 aa:x.aa<c.ps.length
 axM:∀k,k<c.ps.length->qO c.ps k x.aa=true->jU (j1 x.L) (lP c k) x.E=x.E
def kJ.rQ{c:bt}{x:Ff}(h:kJ c x):jn c.ps=true:=h.E2.rQ
def eE(p:Bool)(a:α):List α:=if p=true then [a] else []
def ajY(a:α):eE false a= []:=rfl
structure iO (c:bt) (x:Ff) (n:Nat) (ag e9 aw e0:Bool) (rh rv c0:Nat->Bool) (b:az):Prop where
 b6:b.b6=n
 ids:dY b.st.ag=dY x.L++eE ag x.E.id
 zt:qO c.ps n x.aa=true->b.st.ag=x.L++eE ag x.E
 ps:dY b.st.ps=eE e9 x.E.id
 C2:∀d,d∈b.st.ag->gY d
 Fg:∀d,d∈b.st.ps->gY d
 ay:b.st.ay= []
 cO:b.st.l=1
 ev:b.ev=x.kB n
 bl:b.bl= []
 eN:b.eN= []
 tx:b.tx=eE aw ⟨x.E,true⟩
 gx:∀k,k∈b.cc c->(b.je k).h=x.L.length+(if rh k=true then 1 else 0)/\(b.je k).vs=eE (rv k) ⟨x.E.id,true⟩/\(b.je k).c3=eE (c0 k) x.E
 cW:b.cW=eE e0 x.E
 ez:nZ b.ez<=100+3200*(2*x.L.length+(if ag=true then 2 else if e9=true then 1 else 0))
section
variable {c:bt}{x:Ff}{n:Nat}{ag e9 aw e0:Bool}{rh rv c0:Nat->Bool}{b:az}
def Mc(i:aA):cf i i=true:=by rw[AF];simp
def iO.len(h:iO c x n ag e9 aw e0 rh rv c0 b):b.st.ag.length=x.L.length+(if ag=true then 1 else 0):=by
 have:=eP List.length h.ids;unfold dY at this;rw[cr,cH,cr]at this;rw[this];cases ag<;>rfl
def iO.has(h:iO c x n ag e9 aw e0 rh rv c0 b)(U:kJ c x):eD b.st.ag x.E.id=ag:=by
 cases ag with
 |true=>rw[KQ,h.ids];simp[eE]
 |false=>rw[Cu,h.ids];simp[eE,U.new]
def iO.pm(h:iO c x n ag e9 aw e0 rh rv c0 b):eD b.st.ps x.E.id=e9:=by
 cases e9 with
 |true=>rw[KQ,h.ps];simp[eE]
 |false=>rw[Cu,h.ps];simp[eE]
def iO.ab(h:iO c x n ag e9 aw e0 rh rv c0 b)(i:aA):b.wU i=false:=by unfold az.wU;rw[h.bl,h.ay];rfl
def ajZ{b:az}{E:bg}(hk:(eD b.st.ag E.id||b.wU E.id)=false):∀l:List bg,(∀d,d∈l->d=E)->l.foldl (nC b) [E]= [E]
 | [],_=>rfl
 |d::l,h=>by
  have e:=h d kh
  subst e
  rw[mM]
  have bS:nC b [d] d= [d]:=by unfold nC;rw[if_pos (.inl (by simp[eD,Mc]))]
  rw[bS]
  exact ajZ hk l (λz bf=>h z (kA _ bf))
def axN{b:az}{E:bg}(l:List bg)(h:∀d,d∈l->d=E):l.foldl (nC b) []=eE (!(eD b.st.ag E.id||b.wU E.id)&& !l.isEmpty) E:=by
 cases hk:(eD b.st.ag E.id||b.wU E.id)with
 |true=>
  have an:∀l:List bg,(∀d,d∈l->d=E)->l.foldl (nC b) []= []:=λl=>by
   induction l with
   |nil=>intro _;rfl
   |cons d l cI=>
    intro h;have e:=h d kh;subst e;rw[mM];have bS:nC b [] d= []:=by unfold nC;rw[if_pos (.inl (by rw[hk,Bool.or_true]))]
    rw[bS];exact cI (λz bf=>h z (kA _ bf))
  rw[an l h];rfl
 |false=>
  cases l with
  |nil=>rfl
  |cons d l=>
   have e:=h d kh;subst e;rw[mM];have bS:nC b [] d= [d]:=by unfold nC;rw[if_neg (by rw[hk];simp[eD])];rfl
   rw[bS,ajZ hk l (λz bf=>h z (kA _ bf))];rfl
def iO.c3(h:iO c x n ag e9 aw e0 rh rv c0 b)(U:kJ c x):b.nH c=eE (!ag&&(aw||(b.cc c).any c0)) x.E:=by
 have e:b.nH c=(rj b.tx++(b.mz c).flatMap (·.c3)).foldl (nC b) []:=by rw[CV];rfl
 have aj:rj b.tx=eE aw x.E:=by rw[h.tx];cases aw<;>rfl
 have bq:(b.mz c).flatMap (·.c3)=(b.cc c).flatMap (λk=>eE (c0 k) x.E):=by
  unfold az.mz;rw[List.flatMap_map];simp only[List.flatMap_def];exact eP _ (List.map_congr_left (λk hk=>(h.gx k hk).2.2))
 rw[e,aj,bq,axN (E:=x.E) _ (λd aD=>by
  rcases iR.1 aD with aD|aD
  ·cases aw<;>simp[eE]at aD;exact aD
  ·obtain⟨k,_,hk⟩:=Kn.1 aD
   cases ax:c0 k<;>simp[eE,ax]at hk;exact hk),h.has U,h.ab,Bool.or_false]
 congr 2;cases aw with
 |true=>rfl
 |false=>
  rw[ajY,lq,K7];generalize b.cc c=l;induction l with
  |nil=>rfl
  |cons k l cI=>
   rw[nI,Nu];cases ax:c0 k with
   |true=>rfl
   |false=>rw[ajY,lq,K7];exact cI
def aj0(p:Bool)(i:aA)(y:Bool):q5 (eE p ⟨i,true⟩) i y=(p&&y):=by
 cases p<;>cases y<;>simp[q5,eE,vC,Mc]
def iO.aj1(h:iO c x n ag e9 aw e0 rh rv c0 b):aCW (b.mz c) x.E.id=if (b.cc c).all rv=true then 1 else 0:=by
 unfold aCW az.mz;rw[xm,List.all_map];have bS:(b.cc c).any ((λm:dC=>q5 m.vs x.E.id false)∘b.je)=false:=by
  rw[JS];intro k hk;show ¬q5 (b.je k).vs x.E.id false=true;rw[(h.gx k hk).2.1,aj0,FH];decide
 have bE:(b.cc c).all ((λm:dC=>q5 m.vs x.E.id true)∘b.je)=(b.cc c).all rv:=by
  rw[vt,uL,uL];refine forall_congr' (λk=>forall_congr' (λhk=>?_));show q5 (b.je k).vs x.E.id true=true↔_;rw[(h.gx k hk).2.1,aj0,Bool.and_true]
 rw[bS,bj af,bE]
def aj2(h:gY d){r:gJ}(ax:(∃n,r=hR n d)\/r=jx d):xR r<=3200:=by
 have ae:∀n,(cJ n).length<=9:=hg;have ak:∀l:dR,l.length<=3000->(gi l).length<=3010:=λl aT=>by unfold gi;rw[List.length_append];have:=ae l.length;omega
 have aM:=ak _ h.sz;unfold xR gl;rcases ax with ⟨n,rfl⟩|rfl
 ·rw[bm (.inl rfl),cH,cH];have:=ae (hR n d).k.toNat;have:=ae (hR n d).n;have e:(hR n d).e=d:=rfl;rw[e];omega
 ·rw[bm (.inr rfl),cH,cH];have:=ae (jx d).k.toNat;have:=ae (jx d).n;have e:(jx d).e=d:=rfl;rw[e];omega
def aj3{c:bt}{b:az}{r:gJ}{s:eR}(h:eT b.st r=some s)(bc:nZ b.ez+xR r<=c.room):b.note c r=({b with st:=s,ez:=b.ez++[r],tx:=if r.k=2 then th b.tx r.e.id else b.tx},true):=by unfold az.note;rw[h];exact if_pos bc
def axO(aw:Bool)(E:bg):th (eE aw (⟨E,true⟩:gN)) E.id= []:=by
 cases aw with
 |false=>rfl
 |true=>
  unfold th hD eE;simp[Mc]
def iO.pp(h:iO c x n false e9 aw e0 rh rv c0 b)(U:kJ c x)(I:d.id=x.E.id)(aD:gY d)(bc:qO c.ps n x.aa=true->d=x.E):
  ∃b',b.note c (hR b.st.ag.length d)=(b',true)/\iO c x n true false false e0 rh rv c0 b':=by
 have eO:eD b.st.ag d.id=false:=by rw[I];exact h.has U
 have UK:rN b.st.ps d.id= []:=by
  rw[I];refine List.eq_nil_iff_forall_not_mem.2 (λz bf=>?_);obtain⟨ae,ak⟩:=afh.1 bf;have aM:z.id∈dY b.st.ps:=mJ ae;rw[h.ps]at aM;cases e9<;>simp[eE]at aM;exact ak aM
 have xz:eT b.st (hR b.st.ag.length d)=some {b.st with ag:=b.st.ag++[d],ps:= []}:=by
  unfold eT
  rw[bj (show ¬(hR b.st.ag.length d).k=1 from by show ¬(2:Int)=1;decide),bm (show(hR b.st.ag.length d).k=2 from rfl),bj (by
   rintro (k|k|k)
   ·exact k rfl
   ·rw[show(hR b.st.ag.length d).e=d from rfl,eO]at k;cases k
   ·rw[h.ay]at k;cases k)]
  show some {b.st with ag:=b.st.ag++[d],ps:=rN b.st.ps d.id}=_;rw[UK]
 have hlen:=aj2 aD (.inl ⟨b.st.ag.length,rfl⟩);have Bx:=h.ez;have axP:=U.ajX;have sy:=U.room;rw[bj af]at Bx;have ox:nZ b.ez<=100+3200*(2*x.L.length+1):=eh Bx (by cases e9<;>simp<;>omega);refine⟨_,aj3 xz J,h.b6,?_,λal=>?_,rfl,λz bf=>?_,(λz bf=>by cases bf),h.ay,h.cO,h.ev,h.bl,h.eN,?_,h.gx,h.cW,?_⟩
 ·show dY (b.st.ag++[d])=_;rw[S2,h.ids,I];simp[eE]
 ·show b.st.ag++[d]=_;rw[h.zt al,bc al];simp[eE]
 ·rcases rO.1 bf with bf|rfl
  ·exact h.C2 z bf
  ·exact aD
 ·show(if (2:Int)=2 then th b.tx d.id else b.tx)=_;rw[bm rfl,h.tx,I,axO];rfl
 ·show nZ (b.ez++[hR b.st.ag.length d])<=_;rw[Yt,Ox,bm rfl];omega
def iO.alx(h:iO c x n false false aw e0 rh rv c0 b)(U:kJ c x)(I:d.id=x.E.id)(aD:gY d):
  ∃b',b.note c (jx d)=(b',true)/\iO c x n false true aw e0 rh rv c0 b':=by
 have eO:eD b.st.ag d.id=false:=by rw[I];exact h.has U
 have It:eD b.st.ps d.id=false:=by rw[I];exact h.pm
 have xz:eT b.st (jx d)=some {b.st with ps:=b.st.ps++[d]}:=by
  unfold eT
  rw[bj (show ¬(jx d).k=1 from by show ¬(3:Int)=1;decide),bj (show ¬(jx d).k=2 from by show ¬(3:Int)=2;decide),bm (show(jx d).k=3 from rfl),bj (by
   rintro (k|k|k)
   ·rw[show(jx d).e=d from rfl,eO]at k;cases k
   ·rw[show(jx d).e=d from rfl,It]at k;cases k
   ·rw[h.ay]at k;cases k)]
  rfl
 have hlen:=aj2 aD (.inr rfl);have Bx:=h.ez;have axP:=U.ajX;have sy:=U.room;rw[bj af,bj af]at Bx;refine⟨_,aj3 xz J,h.b6,h.ids,h.zt,?_,h.C2,λz bf=>?_,h.ay,h.cO,h.ev,h.bl,h.eN,?_,h.gx,h.cW,?_⟩
 ·show dY (b.st.ps++[d])=_;rw[S2,h.ps,I];simp[eE]
 ·rcases rO.1 bf with bf|rfl
  ·exact h.Fg z bf
  ·exact aD
 ·show(if (3:Int)=2 then th b.tx d.id else b.tx)=_;rw[bj af];exact h.tx
 ·show nZ (b.ez++[jx d])<=_;rw[Yt,Ox,bj af,bm rfl];omega
end
end
section
section
variable {c:bt}{x:Ff}{n:Nat}{ag e9 aw e0:Bool}{rh rv c0 aj4 aj5 aj6:Nat->Bool}{b:az}
def iO.Md(h:iO c x n ag e9 aw e0 rh rv c0 b)(p:Bool):iO c x n ag e9 aw p rh rv c0 {b with cW:=eE p x.E}:=
 ⟨h.b6,h.ids,h.zt,h.ps,h.C2,h.Fg,h.ay,h.cO,h.ev,h.bl,h.eN,h.tx,h.gx,rfl,h.ez⟩
def iO.aj7(h:iO c x n ag e9 aw e0 rh rv c0 b)(he:∀k,k∈kE c.ps n->aj4 k=rh k/\aj5 k=rv k/\aj6 k=c0 k):iO c x n ag e9 aw e0 aj4 aj5 aj6 b:=
 ⟨h.b6,h.ids,h.zt,h.ps,h.C2,h.Fg,h.ay,h.cO,h.ev,h.bl,h.eN,h.tx,λk hk=>by
  obtain⟨bS,bE,eV⟩:=he k (by unfold az.cc at hk;rw[h.b6]at hk;exact hk)
  rw[bS,bE,eV];exact h.gx k hk,h.cW,h.ez⟩
def iO.dj(h:iO c x n ag e9 aw e0 rh rv c0 b)(U:kJ c x):b.dj x.E.id=ag:=by unfold az.dj;rw[h.has U,h.ay];cases ag<;>rfl
def iO.h5(h:iO c x 0 ag false aw e0 rh rv c0 b)(U:kJ c x)(hs:ag=true->e0=false)(hk:x.E.k=2->e0=false):
  iO c x 0 (ag||(if x.E.k=2 then (aw||(b.cc c).any c0) else ((e0||(aw||(b.cc c).any c0))&&(b.cc c).all rv))) false
   (aw&& !(!ag&&(if x.E.k=2 then (aw||(b.cc c).any c0) else ((e0||(aw||(b.cc c).any c0))&&(b.cc c).all rv))))
   (!ag&& !decide (x.E.k=2)&&(e0||(aw||(b.cc c).any c0))&& !(b.cc c).all rv) rh rv c0 (b.fU c):=by
 have xb:b.h5=true:=by unfold az.h5;rw[h.b6];rfl
 have kC:=h.dj U;have axQ:=h.c3 U;have aj8:=h.aj1;have I3:b.ti c=s5 b.dj (eE e0 x.E) (eE (!ag&&(aw||(b.cc c).any c0)) x.E):=by unfold az.ti;rw[h.cW,axQ]
 generalize bq:(aw||(b.cc c).any c0)=q at I3 ⊢;generalize vX:(b.cc c).all rv=WE at aj8 ⊢;have hw:b.fU c={((qP c b (b.ti c).2).zY c (b.ti c).1 (aCW (b.mz c))).1 with cW:=((qP c b (b.ti c).2).zY c (b.ti c).1 (aCW (b.mz c))).2}:=by unfold az.fU;rw[if_neg (by rw[xb];decide)]
 rw[hw,I3];cases ag with
 |true=>
  obtain rfl:=hs rfl;have bS:s5 b.dj (eE false x.E) (eE (!true&&q) x.E)=([],[]):=rfl;rw[bS];have:=h.Md false;simpa[qP,az.zY,eE]using this
 |false=>
  rcases U.kind with bQ|bY
  ·have bY:¬x.E.k=2:=J;have bS:s5 b.dj (eE e0 x.E) (eE (!false&&q) x.E)=(eE (e0||q) x.E,[]):=by
    cases q with
    |false=>cases e0<;>rfl
    |true=>
     show pg b.dj (eE e0 x.E,[]) x.E=_;unfold pg;cases e0 with
     |true=>rw[bm (by simp[eE,Mc])];rfl
     |false=>rw[bj (by rw[kC];simp[eE]),bm bQ,bm (by simp[eE])];rfl
   rw[bS];simp only[bj bY,K7,Bool.not_false,IW,lo bY];have bE:qP c b []=b:=rfl;try dsimp only
   rw[bE];cases A2:(e0||q)with
   |false=>
    have:=h.Md false;simpa[az.zY,eE]using this
   |true=>
    have eV:b.zY c (eE true x.E) (aCW (b.mz c))=wV c (aCW (b.mz c)) (b,[]) x.E:=rfl;rw[eV];unfold wV;rw[aj8];cases WE with
    |true=>
     obtain⟨b',aa,an⟩:=h.pp U rfl U.Qb (λ_=>rfl);have gU:b.vP c x.E=(b',true):=aa;rw[bm rfl,bm rfl];try dsimp only
     rw[gU,bm rfl];have:=an.Md false;simpa[eE]using this
    |false=>
     rw[bj af,bj af];have:=h.Md true;simpa[eE]using this
  ·obtain rfl:=hk bY;have bQ:¬x.E.k=1:=J;simp only[bm bY,K7,Bool.not_false,IW,mS bY,Bool.not_true,Gz];cases q with
   |false=>
    have bS:s5 b.dj (eE false x.E) (eE false x.E)=([],[]):=rfl;rw[bS];have:=h.Md false;simpa[qP,az.zY,eE]using this
   |true=>
    have bS:s5 b.dj (eE false x.E) (eE true x.E)=([],[x.E]):=by
     show pg b.dj ([],[]) x.E=_;unfold pg;rw[bj (by rw[kC];simp),bj bQ];rfl
    rw[bS];obtain⟨b',aa,an⟩:=h.pp U rfl U.Qb (λ_=>rfl);have gU:(b.vP c x.E).1=b':=by unfold az.vP;rw[aa]
    have bE:qP c b [x.E]=b':=gU;try dsimp only
    rw[bE];have:=an.Md false;simpa[az.zY,eE]using this
def iO.sF(h:iO c x n ag e9 aw e0 rh rv c0 b)(U:kJ c x):
  b.sF c=⟨1,x.L.length+(if ag=true then 1 else 0),eE (e9&&(b.cc c).all rv) ⟨x.E.id,true⟩,eE (!ag&&(aw||(b.cc c).any c0)) x.E,[],[],[],[]⟩:=by
 have a6:Gd (b.mz c) b.st.ps b.eN=eE (e9&&(b.cc c).all rv) ⟨x.E.id,true⟩:=by
  unfold Gd;rw[h.eN,List.foldl_nil];have e:b.st.ps.foldl (λout d=>xT (b.mz c) out d.id) []=(dY b.st.ps).foldl (xT (b.mz c)) []:=by unfold dY;rw[List.foldl_map]
  rw[e,h.ps];cases e9 with
  |false=>rfl
  |true=>
   show xT (b.mz c) [] x.E.id=_;unfold xT;rw[h.aj1];cases (b.cc c).all rv with
   |true=>rfl
   |false=>rfl
 unfold az.sF;rw[a6,h.c3 U,h.len]
def iO.ii(h:iO c x n ag e9 aw e0 rh rv c0 b)(k:Nat)(l p q:Bool):
  iO c x n ag e9 aw e0 (λj=>if j=k then l else rh j) (λj=>if j=k then p else rv j) (λj=>if j=k then q else c0 j)
   {b with e8:=λj=>if j=k then some ⟨1,x.L.length+(if l=true then 1 else 0),eE p ⟨x.E.id,true⟩,eE q x.E,[],[],[],[]⟩ else b.e8 j}:=
 ⟨h.b6,h.ids,h.zt,h.ps,h.C2,h.Fg,h.ay,h.cO,h.ev,h.bl,h.eN,h.tx,λj aJ=>by
  unfold az.je;by_cases e:j=k
  ·simp only[bm e];exact⟨rfl,rfl,rfl⟩
  ·simp only[bj e]
   exact h.gx j aJ,h.cW,h.ez⟩
structure Va (c:bt) (x:Ff) (dX:Nat) (ei eL wj:Bool) (m:dC):Prop where
 k:m.k=2
 h:(ei&& !wj)=true->m.h=x.L.length
 aS:dY m.aS=eE (ei&& !wj) x.E.id
 Qb:∀d,d∈m.aS->gY d
 zt:qO c.ps dX x.aa=true->m.aS=eE (ei&& !wj) x.E
 ps:dY m.ps=eE eL x.E.id
 axR:∀d,d∈m.ps->gY d
 ay:m.ay= []
 aX:m.aX= []
def axS(l:List aA):wI [] l= []:=by
 have h:∀l:List aA,l.foldl (wH []) []= []:=λl=>by
  induction l with
  |nil=>rfl
  |cons i l cI=>
           rw[List.foldl_cons];have e:wH [] [] i= []:=by unfold wH;rw[if_neg (by rintro ⟨_,h,_⟩;cases h)]
           rw[e];exact cI
 exact h l
def aj9(p:Bool)(a:α)(m:Nat)(hm:1<=m):(eE p a).take m=eE p a:=ir (by cases p<;>simp[eE]<;>omega)
def axT(l:List lX)(cl:List Int)(d:bg):(jU l cl d).id=d.id:=by unfold jU;split<;>rfl
def iO.alu(h:iO c x n ag e9 aw e0 rh rv c0 b)(U:kJ c x)(aCP:0<n->e0=false)(aCQ:n=0->e9=false){dX:Nat}(i7:dX∈b.cc c)(qg:qO c.ps dX x.aa=true->qO c.ps n x.aa=true)(hk:dX<c.ps.length)(bo:rv dX=true->(ag||(if n=0 then e0 else e9))=true):Va c x dX ag (if n=0 then e0 else e9) (rh dX) (b.alu c dX):=by
 have ax:=h.gx dX i7;have hlen:=h.len;obtain⟨yr,Qc⟩:∃yr,min (b.je dX).h b.st.ag.length=yr:=⟨_,rfl⟩;have Vb:yr=x.L.length+(if (rh dX&&ag)=true then 1 else 0):=by
  rw[<-Qc,ax.1,hlen];cases rh dX<;>cases ag<;>simp
 have axU:(dY b.st.ag).drop yr=eE (ag&& !rh dX) x.E.id:=by
  rw[h.ids,Vb];have aT:(dY x.L).length=x.L.length:=by unfold dY;rw[List.length_map]
  cases rh dX<;>cases ag<;>simp[eE,aT,List.drop_append]
 have x8:dY (qi b.st.ag yr)=eE (ag&& !rh dX) x.E.id:=by
  unfold qi dY;rw[OC,List.map_drop];show((dY b.st.ag).drop yr).take 4=_;rw[axU,aj9 _ _ _ J]
 have xb:b.h5=decide (n=0):=by unfold az.h5;rw[h.b6]
 have ym:∀d,d∈qi b.st.ag yr->gY d:=λd aD=>h.C2 d (HI (AO aD));obtain⟨_,c2,da⟩:=afA b.st.ag (lP c dX) (qi b.st.ag yr) yr ym;have zS:dY (if b.h5=true then b.cW else b.st.ps)=eE (if n=0 then e0 else e9) x.E.id:=by
  rw[xb];by_cases e:n=0
  ·rw[bm (by simp[e]),bm e,h.cW];cases e0<;>rfl
  ·rw[bj (by simp[e]),bj e,h.ps]
 have axV:∀d,d∈(if b.h5=true then b.cW else b.st.ps)->gY d:=by
  intro d aD;split at aD
  ·rw[h.cW]at aD;cases e0<;>simp[eE]at aD;rw[aD];exact U.Qb
  ·exact h.Fg d aD
 refine⟨rfl,λe=>?_,?_,?_,λal=>?_,?_,λd aD=>?_,?_,?_⟩
 ·show min (b.je dX).h b.st.ag.length=_;rw[Qc,Vb];cases aka:rh dX<;>cases ag<;>simp_all
 ·show dY (vQ b.st.ag (lP c dX) (min (b.je dX).h b.st.ag.length) (qi b.st.ag (min (b.je dX).h b.st.ag.length)))=_;rw[Qc,da,x8]
 ·show ∀d,d∈vQ b.st.ag (lP c dX) (min (b.je dX).h b.st.ag.length) (qi b.st.ag (min (b.je dX).h b.st.ag.length))->gY d;rw[Qc];exact c2
 ·show vQ b.st.ag (lP c dX) (min (b.je dX).h b.st.ag.length) (qi b.st.ag (min (b.je dX).h b.st.ag.length))=_;rw[Qc];have bc:=h.zt (qg al);cases zL:(ag&& !rh dX)with
  |false=>
   rw[zL]at x8;have:qi b.st.ag yr= []:=by
    have:=eP List.length x8;unfold dY at this;rw[cr]at this;exact xj this
   rw[this];rfl
  |true=>
   obtain⟨rfl,aka⟩:ag=true/\rh dX=false:=by simpa using zL
   rw[aka]at Vb;have dV:yr=x.L.length:=by simpa using Vb
   have bS:qi b.st.ag yr= [x.E]:=by unfold qi;rw[bc,dV];simp[eE]
   rw[bS];show [jU (j1 (b.st.ag.take yr)) (lP c dX) x.E]=_;have bE:b.st.ag.take yr=x.L:=by rw[bc,dV];simp
   rw[bE,U.axM dX hk al];rfl
 ·show dY (((if b.h5=true then b.cW else b.st.ps).take 16).map (jU (j1 b.st.ag) (lP c dX)))=_;unfold dY at zS ⊢;rw[FN];have e:(λd:bg=>d.id)∘jU (j1 b.st.ag) (lP c dX)=λd=>d.id:=funext (λd=>axT _ _ d);rw[e,OC,zS,aj9 _ _ _ J]
 ·obtain⟨d0,GC,rfl⟩:=kN.1 (show d∈((if b.h5=true then b.cW else b.st.ps).take 16).map (jU (j1 b.st.ag) (lP c dX))from aD);exact Yu _ _ (axV d0 (AO GC))
 ·show wI (b.st.ay++b.bl) _= [];rw[h.ay,h.bl];exact axS _
 ·show p6 (λi=>eD b.st.ag i||eD b.st.ps i||eD b.cW i) (b.je dX).vs= [];rw[ax.2.1];cases akb:rv dX with
  |false=>rfl
  |true=>
   have b5:=bo akb;rw[show p6 (λi=>eD b.st.ag i||eD b.st.ps i||eD b.cW i) (eE true (⟨x.E.id,true⟩:V))=tO (λi=>eD b.st.ag i||eD b.st.ps i||eD b.cW i) [] ⟨x.E.id,true⟩ from rfl];unfold tO;rw[bj (by simp),bm];dsimp only;rw[h.has U,h.pm];have hw:eD b.cW x.E.id=e0:=by rw[h.cW];cases e0<;>simp[eE,eD,Mc]
   rw[hw];by_cases e:n=0
   ·rw[bm e]at b5;cases ag<;>cases e9<;>cases e0<;>simp_all
   ·rw[bj e]at b5;cases ag<;>cases e9<;>cases e0<;>simp_all
def iO.axW(h:iO c x n ag e9 aw false rh rv c0 b)(U:kJ c x){eL wj:Bool}{m:dC}(hm:Va c x n ei eL wj m):
  iO c x n (ag||(ei&& !wj&& !ag)) ((e9&& !(ei&& !wj&& !ag))||(eL&& !(ag||(ei&& !wj&& !ag)))) (aw&& !(ei&& !wj&& !ag)) false rh rv c0 (b.vT c m):=by
 have aK:b.vT c m=(az.take c m.h m.aS b).ua c m.ps:=by unfold az.vT;rw[hm.ay,hm.aX];rfl
 rw[aK];have xe:iO c x n (ag||(ei&& !wj&& !ag)) (e9&& !(ei&& !wj&& !ag)) (aw&& !(ei&& !wj&& !ag)) false rh rv c0 (az.take c m.h m.aS b):=by
  cases aT:(ei&& !wj)with
  |false=>
   have e:=hm.aS;rw[aT]at e;have bE:m.aS= []:=by
    have:=eP List.length e;unfold dY at this;rw[cr]at this;exact xj this
   rw[bE];simpa[az.take]using h
  |true=>
   have e:=hm.aS;rw[aT]at e;obtain⟨d,aD,I⟩:∃d,m.aS= [d]/\d.id=x.E.id:=by
    unfold dY at e
    match uo:m.aS,e with
    | [d],e=>exact⟨d,rfl,by simpa[eE]using e⟩
    | [],e=>simp[eE]at e
    |_::_::_,e=>simp[eE]at e
   have b5:=hm.h aT;have hlen:=h.len;have q8:=hm.Qb d (by rw[aD];exact kh);have axX:qO c.ps n x.aa=true->d=x.E:=λal=>by
    have:=hm.zt al;rw[aT,aD]at this;simpa[eE]using this
   rw[aD,b5];cases ag with
   |true=>
    have eV:az.take c x.L.length [d] b=b:=by
     show(if _ then _ else _)=_;rw[bm (by rw[hlen];simp)];rfl
    rw[eV];simpa using h
   |false=>
    obtain⟨b',aa,an⟩:=h.pp U I q8 axX;have eV:az.take c x.L.length [d] b=b':=by
     have Ab:b.st.ag.length=x.L.length:=by rw[hlen];simp
     show(if _ then _ else _)=_;rw[bj (by rw[Ab];simp)];rw[Ab]at aa;rw[aa,bm rfl];rfl
    rw[eV];simpa using an
 generalize fg:az.take c m.h m.aS b=bd at xe;generalize (ag||(ei&& !wj&& !ag))=uO at xe ⊢;generalize (e9&& !(ei&& !wj&& !ag))=kf at xe ⊢;generalize (aw&& !(ei&& !wj&& !ag))=cL at xe ⊢;have Kb:m.ps.filter (λd=> !ik bd.bl d.id)=m.ps:=by rw[xe.bl];exact DE.2 (λ_ _=>rfl)
 have axY:m.ps.filter (λd=>ik bd.bl d.id)= []:=by rw[xe.bl];exact Jo.2 (λ_ _=>by simp[ik])
 have pu:∀hv:az,hv.eN= []->{hv with eN:= []}=hv:=λhv e=>by cases hv;simp at e;simp[e]
 unfold az.ua az.Om az.alx;rw[Kb,axY];have e:=hm.ps;cases eL with
 |false=>
  have bE:m.ps= []:=by
   have:=eP List.length e;unfold dY at this;rw[cr]at this;exact xj this
  rw[bE];show iO c x n uO (kf||(false&& !uO)) cL false rh rv c0 {bd with eN:= []};rw[pu bd xe.eN,Gz,Bool.or_false];exact xe
 |true=>
  obtain⟨d,aD,I⟩:∃d,m.ps= [d]/\d.id=x.E.id:=by
   unfold dY at e
   match uo:m.ps,e with
   | [d],e=>exact⟨d,rfl,by simpa[eE]using e⟩
   | [],e=>simp[eE]at e
   |_::_::_,e=>simp[eE]at e
  have q8:=hm.axR d (by rw[aD];exact kh);rw[aD];have kC:(eD bd.st.ag d.id||eD bd.st.ps d.id||ik bd.st.ay d.id)=(uO||kf):=by rw[I,xe.has U,xe.pm,xe.ay];simp[ik]
  have tq:kf=false->bd.st.ps.length=0:=λe=>by
   have:=eP List.length xe.ps;unfold dY at this;rw[cr,e]at this;exact this
  cases T7:(uO||kf)with
  |true=>
   have bS:pe (λi=>eD bd.st.ag i||eD bd.st.ps i||ik bd.st.ay i) bd.st.ps.length [d]=([],[]):=by
    rw[show pe (λi=>eD bd.st.ag i||eD bd.st.ps i||ik bd.st.ay i) bd.st.ps.length [d]=nx (λi=>eD bd.st.ag i||eD bd.st.ps i||ik bd.st.ay i) bd.st.ps.length ([],[]) d from rfl];unfold nx;rw[if_pos (by dsimp only;rw[kC,T7];rfl)]
   rw[bS];show iO c x n uO (kf||(true&& !uO)) cL false rh rv c0 {bd with eN:= []};rw[pu bd xe.eN];have:(kf||(true&& !uO))=kf:=by cases uO<;>cases kf<;>simp_all
   rw[this];exact xe
  |false=>
   obtain⟨rfl,rfl⟩:uO=false/\kf=false:=by simpa using T7
   have bS:pe (λi=>eD bd.st.ag i||eD bd.st.ps i||ik bd.st.ay i) bd.st.ps.length [d]=([d],[]):=by
    rw[show pe (λi=>eD bd.st.ag i||eD bd.st.ps i||ik bd.st.ay i) bd.st.ps.length [d]=nx (λi=>eD bd.st.ag i||eD bd.st.ps i||ik bd.st.ay i) bd.st.ps.length ([],[]) d from rfl];unfold nx;rw[if_neg (by dsimp only;rw[kC];simp),if_pos (by rw[tq rfl];simp)];rfl
   rw[bS];obtain⟨b',aa,an⟩:=xe.alx U I q8;have bE: [d].foldl (vR c) (bd,List.map (λd:bg=>d.id) []++[])=(b',[]):=by
    show vR c (bd,[]) d=_;unfold vR;rw[aa,bm rfl]
   dsimp only;rw[bE];show iO c x n false (false||(true&& !false)) cL false rh rv c0 {b' with eN:= []};rw[pu b' an.eN];exact an
end
end
section
def Qd{ps:List Int}(h:jn ps=true):ps.getD 0 0=-1/\∀k,1<=k->k<ps.length->0<=ps.getD k 0/\ps.getD k 0<(k:Int):=ah4
def hr(c:bt)(x:Ff)(s:FZZ)(B:Nat->az):Prop:=
 (∀n,n<c.ps.length->iO c x n (c8 s.ag n) (c8 s.e9 n) (c8 s.aw n) (decide (n=0)&&s.e0) (c8 s.rh) (c8 s.rv) (c8 s.c0) (B n))/\c8 s.e9 0=false
section
variable {c:bt}{x:Ff}{s:FZZ}{B:Nat->az}{n:Nat}
def Me{ps:List Int}{n:Nat}(h:k∈kE ps n):k<ps.length:=qI.1 (mI.1 h).1
def Qe{ps:List Int}{n:Nat}(h:k∈kE ps n):ps.getD k 0=(n:Int):=by simpa using (mI.1 h).2
def Mf(U:kJ c x){n:Nat}(h:k∈kE c.ps n):n<k/\0<k:=by
 obtain⟨aW,ae⟩:=Qd U.rQ;have hk:=Me h;have aV:=Qe h;have eI:0<k:=by
  rcases yO k with e|e
  ·subst e;rw[aW]at aV;omega
  ·exact e
 have:=ae k eI hk;omega
def Vc{ps:List Int}{a f:Nat}{b:Int}(aW:0<=b)(di:(a:Int)≠b):y3 ps a (f+1) b=y3 ps a f (ps.getD b.toNat 0):=by
 show(if b<0 then false else if (a:Int)=b then true else y3 ps a f (ps.getD b.toNat 0))=_;rw[bj J,bj di]
def Vd{ps:List Int}{a f:Nat}:y3 ps a (f+1) (a:Int)=true:=by
 show(if (a:Int)<0 then false else if (a:Int)=(a:Int) then true else y3 ps a f (ps.getD (a:Int).toNat 0))=_;rw[bj J,bm rfl]
def akc(U:kJ c x){n k:Nat}(hk:k∈kE c.ps n):∀(m b f g:Nat),b<=m->b<c.ps.length->b<g->y3 c.ps k f (b:Int)=true->y3 c.ps n g (b:Int)=true
 |m,b,f,g,hm,aa,bu,h=>by
  obtain⟨_,_⟩:=Mf U hk
  obtain⟨t0,t1⟩:=Qd U.rQ
  obtain⟨g,rfl⟩:∃q,g=q+1:=⟨g - 1,J⟩
  cases f with
  |zero=>cases h
  |succ f=>
   by_cases e:k=b
   ·subst e
    rw[Vc J J]
    have:=Qe hk
    rw[show((k:Int).toNat)=k from rfl,this]
    obtain⟨g,rfl⟩:∃q,g=q+1:=⟨g - 1,J⟩
    exact Vd
   ·rw[Vc J J]at h
    by_cases bE:n=b
    ·subst bE;exact Vd
    ·rw[Vc J J]
     rw[show((b:Int).toNat)=b from rfl]at h ⊢
     rcases yO b with z|z
     ·subst z
      rw[t0]at h
      cases f with
      |zero=>cases h
      |succ f=>cases h
     ·obtain⟨_,_⟩:=t1 b z aa
      obtain⟨p,aV⟩:∃p:Nat,c.ps.getD b 0=(p:Int):=⟨(c.ps.getD b 0).toNat,J⟩
      rw[aV]at h ⊢
      match m,hm with
      |0,hm=>omega
      |m+1,hm=>exact akc U hk m p f g J J J h
def akd(U:kJ c x):∀(m b g:Nat),b<=m->b<c.ps.length->b<g->y3 c.ps 0 g (b:Int)=true
 |m,b,g,hm,aa,bu=>by
  obtain⟨_,t1⟩:=Qd U.rQ
  obtain⟨g,rfl⟩:∃q,g=q+1:=⟨g - 1,J⟩
  rcases yO b with z|z
  ·subst z;exact Vd
  ·rw[Vc J J,show((b:Int).toNat)=b from rfl]
   obtain⟨_,_⟩:=t1 b z aa
   obtain⟨p,aV⟩:∃p:Nat,c.ps.getD b 0=(p:Int):=⟨(c.ps.getD b 0).toNat,J⟩
   rw[aV]
   match m,hm with
   |0,hm=>omega
   |m+1,hm=>exact akd U m p g J J J
def ake(U:kJ c x){n:Nat}(h:k∈kE c.ps n)(al:qO c.ps k x.aa=true):qO c.ps n x.aa=true:=
 akc U h x.aa x.aa _ _ (bA _) U.aa (by have:=U.aa;omega) al
def axZ(U:kJ c x)(aa:b<c.ps.length):qO c.ps 0 b=true:=akd U b b _ (bA _) aa J
def qr{b:az}(h:b.b6≠0):b.fU c=b:=by
 unfold az.fU az.h5;rw[bm (by simp[h])]
def akf(dI:List Nat)(m:Nat):L8 dI m=dI.all (c8 m):=rfl
def akg(dI:List Nat)(m:Nat):G3 dI m=dI.any (c8 m):=rfl
def hr.h5(h:hr c x s B)(U:kJ c x)(dG:0<c.ps.length)(aa:(zs (decide (x.E.k=2)) (kE c.ps 0) s).mh=false):
  hr c x (zs (decide (x.E.k=2)) (kE c.ps 0) s) (j8 B 0 ((B 0).fU c)):=by
 have aW:=h.1 0 dG;have hk:(B 0).cc c=kE c.ps 0:=by unfold az.cc;rw[aW.b6]
 rw[h.2]at aW;have dV:(decide (0=0)&&s.e0)=s.e0:=by simp
 rw[dV]at aW;have rY:(c8 s.ag 0=true->s.e0=false)/\(x.E.k=2->s.e0=false):=by
  unfold zs at aa;constructor
  ·intro e;rw[bm e]at aa;simp at aa;exact aa.2
  ·intro e;by_cases aT:c8 s.ag 0=true
   ·rw[bm aT]at aa;simp at aa;exact aa.2
   ·rw[bj aT,bm (by simpa using e)]at aa;split at aa<;>(simp at aa;exact aa.2)
 have ax:=aW.h5 U rY.1 rY.2;rw[hk]at ax;rw[<-akf,<-akg]at ax
 have akh:∀(s':FZZ),(∀j,j≠0->c8 s'.ag j=c8 s.ag j)->(∀j,j≠0->c8 s'.aw j=c8 s.aw j)->s'.e9=s.e9->s'.rh=s.rh->s'.rv=s.rv->s'.c0=s.c0->
   iO c x 0 (c8 s'.ag 0) false (c8 s'.aw 0) s'.e0 (c8 s.rh) (c8 s.rv) (c8 s.c0) ((B 0).fU c)->hr c x s' (j8 B 0 ((B 0).fU c)):=by
  intro _ bQ bY ew fm iQ sH alw;refine⟨λn an=>?_,by rw[ew];exact h.2⟩;by_cases e:n=0
  ·subst e;rw[Fb,ew,h.2,fm,iQ,sH];simpa using alw
  ·rw[U8 _ _ e,bQ n e,bY n e,ew,fm,iQ,sH];have:=h.1 n an;simpa[e]using this
 unfold zs at aa ⊢;cases aT:c8 s.ag 0 with
 |true=>
  rw[aT]at ax;rw[bm aT]at aa;rw[bm rfl];have hw:=rY.1 aT;refine Ve ?_;rw[aT,hw];simpa using ax
 |false=>
  rw[aT]at ax;rw[bj (by rw[aT];decide)]at aa;rw[bj af];rcases U.kind with bQ|bY
  ·have bY:¬x.E.k=2:=J;simp only[bj bY,lo bY]at ax aa ⊢;rw[bj af]at aa ⊢;cases bq:(s.e0||(c8 s.aw 0||G3 (kE c.ps 0) s.c0))with
   |true=>
    rw[bq]at ax aa;rw[bm rfl]at aa ⊢;cases aj:L8 (kE c.ps 0) s.rv with
    |true=>
     rw[aj]at ax;refine aki ?_
     ·show iO c x 0 (c8 (pZ s.ag 0 true) 0) false (c8 (pZ s.aw 0 false) 0) false _ _ _ _;rw[vm,bm rfl,vm,bm rfl];simpa using ax
    |false=>
     rw[aj]at ax;rw[bj af];refine Ve ?_;show iO c x 0 (c8 s.ag 0) false (c8 s.aw 0) true _ _ _ _;rw[aT];simpa using ax
   |false=>
    rw[bq]at ax;rw[bj af];refine Ve ?_;have hw:s.e0=false:=by cases bf:s.e0<;>simp_all
    rw[aT,hw];simpa using ax
  ·simp only[bm bY,mS bY]at ax aa ⊢;rw[bm trivial]at aa ⊢;have hw:=rY.2 bY;cases bq:(c8 s.aw 0||G3 (kE c.ps 0) s.c0)with
   |true=>
    rw[bq]at ax;refine aki ?_
    ·show iO c x 0 (c8 (pZ s.ag 0 true) 0) false (c8 (pZ s.aw 0 false) 0) s.e0 _ _ _ _;rw[vm,bm rfl,vm,bm rfl,hw];simpa using ax
   |false=>
    rw[bq]at ax;rw[bj af];refine Ve ?_;show iO c x 0 (c8 s.ag 0) false (c8 s.aw 0) s.e0 _ _ _ _;rw[aT,hw];simpa using ax
def hr.je(h:hr c x s B)(U:kJ c x)(an:n<c.ps.length)(aW:0<n)(sx:nk.getD 0 []=kE c.ps 0)(kC:nk.getD n []=kE c.ps n)(aa:(C0 (decide (x.E.k=2)) nk (jf c n) n s).mh=false):hr c x (C0 (decide (x.E.k=2)) nk (jf c n) n s) (Fc c n B (jf c n,(B n).sF c)):=by
 obtain⟨_,L3⟩:=ka.Ef U.E2 an aW;have tq:jf c n<c.ps.length:=J;have dG:=h.1 n an;have kz:=h.1 (jf c n) tq;have Vf:(B n).cc c=kE c.ps n:=by unfold az.cc;rw[dG.b6]
 have Pq:=dG.sF U;rw[Vf,<-akf,<-akg]at Pq;have yH:n∈(B (jf c n)).cc c:=by
  unfold az.cc;rw[kz.b6];exact mI.2 ⟨qI.2 an,by simpa using L3⟩
 have py:=kz.ii n (c8 s.ag n) (c8 s.e9 n&&L8 (kE c.ps n) s.rv) (!c8 s.ag n&&(c8 s.aw n||G3 (kE c.ps n) s.c0));rw[<-Pq]at py;have rc:(B (jf c n)).A8 c n ((B n).sF c)=az.fU c {B (jf c n)with e8:=λj=>if j=n then some ((B n).sF c) else (B (jf c n)).e8 j}:=by
  unfold az.A8;rw[if_pos ⟨by unfold az.On;exact List.contains_iff_mem.2 yH,by rw[Pq]⟩]
 unfold C0 at aa ⊢;rw[kC]at aa ⊢;obtain⟨e3,YT⟩:∃e3,e3=({s with rh:=pZ s.rh n (c8 s.ag n),rv:=pZ s.rv n (c8 s.e9 n&&L8 (kE c.ps n) s.rv),c0:=pZ s.c0 n ((c8 s.aw n||G3 (kE c.ps n) s.c0)&& !c8 s.ag n)}:FZZ):=⟨_,rfl⟩;have a8:hr c x e3 (j8 B (jf c n) {B (jf c n)with e8:=λj=>if j=n then some ((B n).sF c) else (B (jf c n)).e8 j}):=by
  subst YT;refine⟨λk hk=>?_,h.2⟩;by_cases e:k=jf c n
  ·subst e;rw[Fb];refine py.aj7 (λj _=>⟨?_,?_,?_⟩)
   ·show c8 (pZ _ _ _) j=_;rw[vm]
   ·show c8 (pZ _ _ _) j=_;rw[vm]
   ·show c8 (pZ _ _ _) j=_;rw[vm,Bool.and_comm]
  ·rw[U8 _ _ e];refine(h.1 k hk).aj7 (λj aJ=>?_);have ax0:j≠n:=by
    rintro rfl;have:=Qe aJ;rw[L3]at this;exact e (PZ this).symm
   refine⟨?_,?_,?_⟩;exact rd;exact rd;exact rd
 rw[<-YT]at aa ⊢;unfold Fc;dsimp only at aa ⊢;rw[rc];by_cases e:jf c n=0
 ·rw[bm e]at aa ⊢;rw[sx]at aa ⊢;rw[e]at a8 ⊢;have:=a8.h5 U J aa;rw[Fb]at this;have bE:j8 (j8 B 0 {B 0 with e8:=λj=>if j=n then some ((B n).sF c) else (B 0).e8 j}) 0 (az.fU c {B 0 with e8:=λj=>if j=n then some ((B n).sF c) else (B 0).e8 j})=j8 B 0 (az.fU c {B 0 with e8:=λj=>if j=n then some ((B n).sF c) else (B 0).e8 j}):=by
   funext k;unfold j8;split<;>rfl
  rw[bE]at this;exact this
 ·rw[bj e];rw[qr (by show(B (jf c n)).b6≠0;rw[kz.b6];exact e)];exact a8
def hr.vT{eL:Bool}{m:dC}(h:hr c x s B)(U:kJ c x)(hk:k∈kE c.ps n)(hm:Va c x k ei eL (c8 s.rh k) m):hr c x (BI ei eL k s) (Fc c n B (k,m)):=by
 have qa:=Me hk;obtain⟨_,_⟩:=Mf U hk;have aL:=h.1 k qa;have dV:(decide (k=0)&&s.e0)=false:=by rw[lo J];rfl
 rw[dV]at aL;have aK:=aL.axW U hm;have rc:(B k).A8 c n m=(B k).vT c m:=by
  unfold az.A8;rw[bj (by rintro ⟨_,e⟩;rw[hm.k]at e;cases e),bm];refine⟨?_,hm.k⟩;unfold az.Eb az.h5;rw[aL.b6,Qe hk];simp;omega
 unfold Fc;dsimp only;rw[rc];refine⟨λj aJ=>?_,?_⟩
 ·by_cases e:j=k
  ·subst e;rw[Fb];unfold BI;simp only[vm,bm];have bS:(decide (j=0)&&s.e0)=false:=dV;rw[bS];exact aK
  ·rw[U8 _ _ e];unfold BI;simp only[vm,bj e];exact h.1 j aJ
 ·unfold BI;simp only[vm];rw[bj J];exact h.2
def akj{eL:Bool}(h:(BI ei eL k s).mh=false):s.mh=false/\(c8 s.rv k=true->(ei||eL)=true):=by
 unfold BI at h;simp only[JP,Bool.and_eq_false_iff]at h;refine⟨h.1,λe=>?_⟩;rcases h.2 with ak|ak
 ·rw[e]at ak;cases ak
 ·cases ei<;>simp_all
def Mg{ei eL:Bool}:∀(l:List Nat) (s:FZZ),(l.foldl (λs k=>BI ei eL k s) s).mh=false->s.mh=false
 | [],_,h=>h
 |k::l,s,h=>(akj (Mg l _ h)).1
def akk{dI:List Nat}(h:(zs sub dI s).mh=false):s.mh=false:=by
 unfold zs at h;repeat (first|exact h|(split at h)|(simp at h;first|exact h|exact h.1))
def ax1{p:Nat}(h:(C0 sub nk p n s).mh=false):s.mh=false:=by
 unfold C0 at h;dsimp only at h;split at h
 ·have:=akk h;exact this
 ·exact h
def hr.ro{ei eL:Bool}{UP:Nat->dC}(U:kJ c x)(an:n<c.ps.length){rh rv:Nat->Bool}(ao:∀k,k∈kE c.ps n->(rv k=true->(ei||eL)=true)->Va c x k ei eL (rh k) (UP k)):∀(l:List Nat) (s:FZZ) (B:Nat->az),(∀k,k∈l->k∈kE c.ps n)->(∀k,k∈l->c8 s.rh k=rh k/\c8 s.rv k=rv k)->hr c x s B->
   (l.foldl (λs k=>BI ei eL k s) s).mh=false->hr c x (l.foldl (λs k=>BI ei eL k s) s) ((l.map (λk=>(k,UP k))).foldl (Fc c n) B)
 | [],_,_,_,_,h,_=>h
 |k::l,s,B,aT,ax,h,aa=>by
  rw[mM]at aa ⊢;rw[tj,mM];have ae:=akj (Mg l _ aa);have ak:=ax k kh;have aM:=ao k (aT k kh) (by rw[<-ak.2];exact ae.2);rw[<-ak.1]at aM;exact hr.ro U an ao l _ _ (λj aJ=>aT j (kA _ aJ)) (λj aJ=>ax j (kA _ aJ)) (h.vT U (aT k kh) aM) aa
def tG(c:bt):List Nat:=(List.range c.ps.length).map (jf c)
def uA(c:bt):List (List Nat):=(List.range c.ps.length).map (kE c.ps)
def Qf{n:Nat}(h:n<c.ps.length):(uA c).getD n []=kE c.ps n:=by unfold uA;simp[List.getD_eq_getElem?_getD,h]
def akl{n:Nat}(h:n<c.ps.length):(tG c).getD n 0=jf c n:=by unfold tG;simp[List.getD_eq_getElem?_getD,h]
def hr.kF(h:hr c x s B)(U:kJ c x)(an:n<c.ps.length)(aa:(yp (decide (x.E.k=2)) (tG c) (uA c) s n).mh=false):hr c x (yp (decide (x.E.k=2)) (tG c) (uA c) s n) (Jl c B n):=by
 unfold yp at aa ⊢;dsimp only at aa ⊢;rw[Qf an,Qf J,akl an]at aa ⊢;have dG:=h.1 n an;have Vf:(B n).cc c=kE c.ps n:=by unfold az.cc;rw[dG.b6]
 unfold Jl;by_cases e:n=0
 ·subst e;simp only[bm]at aa ⊢;have fg:=Mg _ _ aa;have a8:=h.h5 U an fg;generalize zs (decide (x.E.k=2)) (kE c.ps 0) s=e3 at aa fg a8 ⊢;have fa:=a8.1 0 an;rw[Fb]at fa;have xb:((B 0).fU c).h5=true:=by unfold az.h5;rw[fa.b6];rfl
  have k3:((B 0).fU c).cc c=kE c.ps 0:=by unfold az.cc;rw[fa.b6]
  have aK:((B 0).fU c).eB c=(kE c.ps 0).map (λk=>(k,((B 0).fU c).alu c k)):=by unfold az.eB;rw[xb,if_pos rfl,k3];rfl
  rw[aK];refine hr.ro U an (rh:=c8 e3.rh) (rv:=c8 e3.rv) (λk hk bo=>?_) _ _ _ (λ_ k=>k) (λ_ _=>⟨rfl,rfl⟩) a8 aa;have:=fa.alu U (λe=>absurd e J) (λ_=>a8.2) (dX:=k) (by rw[k3];exact hk) (ake U hk) (Me hk);simp only[bm,decide_true,IW]at this;exact this bo
 ·simp only[bj e]at aa ⊢;have uo:(B n).b6≠0:=by rw[dG.b6];exact e
  have hw:=qr (c:=c) uo;rw[hw];have br:j8 B n (B n)=B:=by funext k;unfold j8;split<;>simp_all
  rw[br];have xb:(B n).h5=false:=by unfold az.h5;simp[uo]
  have aK:(B n).eB c=(jf c n,(B n).sF c)::(kE c.ps n).map (λk=>(k,(B n).alu c k)):=by
   unfold az.eB;rw[xb,if_neg af,Vf,dG.b6];rfl
  rw[aK,mM];have fg:=Mg _ _ aa;have a8:=h.je U an J (Qf J) (Qf an) fg;have ax2:∀k,k∈kE c.ps n->c8 (C0 (decide (x.E.k=2)) (uA c) (jf c n) n s).rh k=c8 s.rh k/\c8 (C0 (decide (x.E.k=2)) (uA c) (jf c n) n s).rv k=c8 s.rv k:=by
   intro k hk;have kC:k≠n:=by have:=(Mf U hk).1;omega
   have xb:∀(sub:Bool) (dI:List Nat) (s:FZZ),(zs sub dI s).rh=s.rh/\(zs sub dI s).rv=s.rv:=by
    intro _ _ s;unfold zs;repeat (first|split|exact⟨rfl,rfl⟩)
   unfold C0;dsimp only;split
   ·rw[(xb _ _ _).1,(xb _ _ _).2];dsimp only;rw[vm,bj kC,vm,bj kC];exact⟨rfl,rfl⟩
   ·dsimp only;rw[vm,bj kC,vm,bj kC];exact⟨rfl,rfl⟩
  refine hr.ro U an (rh:=c8 s.rh) (rv:=c8 s.rv) (λk hk bo=>?_) _ _ _ (λ_ k=>k) (λk hk=>ax2 k hk) a8 aa;have:=dG.alu U (λ_=>by rw[lo e];rfl) (λq=>absurd q e) (dX:=k) (by rw[Vf];exact hk) (ake U hk) (Me hk);simp only[bj e]at this;exact this bo
def ax3{ps:List Nat}(h:(yp sub ps nk s n).mh=false):s.mh=false:=by
 unfold yp at h;dsimp only at h;have ae:=Mg _ _ h;by_cases e:n=0
 ·subst e;simp only[bm]at ae;exact akk ae
 ·simp only[bj e]at ae;exact ax1 ae
def Vg{sub:Bool}{ps:List Nat}{nk:List (List Nat)}:∀(l:List Nat) (s:FZZ),(l.foldl (yp sub ps nk) s).mh=false->s.mh=false
 | [],_,h=>h
 |n::l,s,h=>ax3 (Vg l _ h)
def hr.akm(U:kJ c x):∀(l:List Nat) (s:FZZ) (B:Nat->az),(∀n,n∈l->n<c.ps.length)->hr c x s B->(l.foldl (yp (decide (x.E.k=2)) (tG c) (uA c)) s).mh=false->
  hr c x (l.foldl (yp (decide (x.E.k=2)) (tG c) (uA c)) s) (l.foldl (Jl c) B)
 | [],_,_,_,h,_=>h
 |n::l,s,B,aT,h,aa=>by
  rw[mM]at aa ⊢;rw[mM];exact hr.akm U l _ _ (λk hk=>aT k (kA _ hk)) (h.kF U (aT n kh) (Vg l _ aa)) aa
end
end
section
section
variable {c:bt}{x:Ff}{s:FZZ}{B:Nat->az}{n:Nat}{cur:Nat->Nat}
def ax4{b:az}(h:b.b6=n):(b.eB c).map (·.1)=(if n=0 then [] else [jf c n])++kE c.ps n:=by
 unfold az.eB az.cc az.h5;rw[gS,FN,h];congr 1
 ·by_cases e:n=0<;>simp[e]
 ·exact List.map_id' _
def ax5(ps:List Int)(m:Nat):(kE ps m).Pairwise (·<·):=List.pairwise_lt_range.filter _
def hr.ax6(h:hr c x s B)(U:kJ c x)(an:n<c.ps.length)(aa:(yp (decide (x.E.k=2)) (tG c) (uA c) s n).mh=false):(jN B cur).kF c n=jN (Jl c B n) cur:=by
 have uo:((B n).fU c).b6=n:=by
  by_cases e:n=0
  ·subst e;unfold yp at aa;dsimp only at aa;rw[Qf an]at aa;simp only[bm]at aa;have:=(h.h5 U an (Mg _ _ aa)).1 0 an;rw[Fb]at this;exact this.b6
  ·have hm:=(h.1 n an).b6;rw[qr (by rw[hm];exact e)];exact hm
 have hk:=ax4 (c:=c) uo;have z1:0<n->jf c n<n/\c.ps.getD n 0=(jf c n:Int):=λaW=>ka.Ef U.E2 an aW;have ym:∀k,k∈(((B n).fU c).eB c).map (·.1)->(n≠0/\k=jf c n)\/k∈kE c.ps n:=by
  intro k b9;rw[hk]at b9;rcases iR.1 b9 with q|q
  ·by_cases e:n=0
   ·rw[bm e]at q;cases q
   ·rw[bj e]at q;exact .inl ⟨e,iH.1 q⟩
  ·exact .inr q
 refine axL c B cur n ?_ (λq=>?_) (λo aK=>?_)
 ·rw[hk];refine List.pairwise_append.2 ⟨?_,ax5 _ _,λa aj b C3=>?_⟩
  ·by_cases e:n=0<;>simp[e]
  ·by_cases e:n=0
   ·rw[bm e]at aj;cases aj
   ·rw[bj e]at aj;obtain rfl:=iH.1 aj;have:=(z1 J).1;have:=(Mf U C3).1;omega
 ·rcases ym n q with ⟨e,q⟩|q
  ·have:=(z1 J).1;omega
  ·have:=(Mf U q).1;omega
 ·have hm:o.1∈(((B n).fU c).eB c).map (·.1):=mJ aK;rcases ym _ hm with ⟨e,q⟩|q
  ·obtain⟨_,mT⟩:=z1 J;refine⟨?_,J⟩;unfold mR;rw[q,mT];simp;omega
  ·have:=Me q;refine⟨?_,this⟩;unfold mR;rw[Qe q];simp;omega
def rt(c:bt)(B:Nat->az):Nat->az:=(Ed c.ps.length).foldl (Jl c) B
def hr.akn(U:kJ c x):∀(l:List Nat) (s:FZZ) (B:Nat->az),(∀n,n∈l->n<c.ps.length)->hr c x s B->(l.foldl (yp (decide (x.E.k=2)) (tG c) (uA c)) s).mh=false->
  l.foldl (aZ.kF c) (jN B cur)=jN (l.foldl (Jl c) B) cur
 | [],_,_,_,_,_=>rfl
 |n::l,s,B,aT,h,aa=>by
  rw[mM]at aa ⊢;have fg:=Vg l _ aa;rw[mM,h.ax6 U (aT n kh) fg];exact hr.akn U l _ _ (λk hk=>aT k (kA _ hk)) (h.kF U (aT n kh) fg) aa
def ako{N n:Nat}(h:n∈Ed N):n<N:=by
 unfold Ed at h;rcases iR.1 h with h|h
 ·exact qI.1 (List.mem_reverse.1 h)
 ·exact qI.1 h
def s1:(tG c).length=c.ps.length:=by unfold tG;simp
def hr.round(h:hr c x s B)(U:kJ c x)(aa:(yq (decide (x.E.k=2)) (tG c) (uA c) s).mh=false):
  (jN B cur).round c=jN (rt c B) cur/\hr c x (yq (decide (x.E.k=2)) (tG c) (uA c) s) (rt c B):=by
 unfold yq at aa ⊢;rw[s1]at aa ⊢;exact⟨hr.akn U _ _ _ (λ_ k=>ako k) h aa,hr.akm U _ _ _ (λ_ k=>ako k) h aa⟩
def s2(U:kJ c x):∀m,1<=m->m<=c.ps.length->(List.range m).map (jf c)∈Ma m
 |0,h,_=>absurd h J
 |1,_,_=>by
  have aW:=(Qd U.rQ).1
  have:jf c 0=0:=by unfold jf;rw[aW];rfl
  simp[Ma,this]
 |m+2,_,aT=>by
  have cI:=s2 U (m+1) J J
  have aV:=(ka.Ef U.E2 (n:=m+1) J J).1
  rw[Kq,gS]
  show _∈(Ma (m+1)).flatMap (λt=>(List.range (m+1)).map (λp=>t++[p]))
  exact Kn.2 ⟨_,cI,kN.2 ⟨_,qI.2 aV,rfl⟩⟩
def akp(U:kJ c x):Jj (tG c)=uA c:=by
 unfold Jj uA;rw[s1];refine List.map_congr_left (λn an=>?_);unfold ajO kE;rw[s1];refine DH (λk hk=>?_);have hk:=qI.1 hk;rw[akl hk];by_cases e:k=0
 ·subst e;rw[(Qd U.rQ).1];exact FI.2 J
 ·have:=(ka.Ef U.E2 hk J).2;rw[this];exact FI.2 J
def akq{n:Nat}(an:n<=6){ps:List Nat}(h:ps∈Ma n)(sub:Bool):U6 (yq sub ps (Jj ps) ⟨0,0,0,0,0,0,false,false⟩)=true/\
  ∀a,a<n->U5 n (yq sub ps (Jj ps) (yq sub ps (Jj ps) (yq sub ps (Jj ps) (C1 a))))=true:=by
 have ao:pi n=true:=by
  rcases zz n 6 with k|k
  ·exact uL.1 axE n (qI.2 k)
  ·obtain rfl:n=6:=J;exact axF
 have aV:=uL.1 ao ps h;unfold ajR at aV;simp only[ol,ajP,ajQ,axD]at aV;have hs:=uL.1 aV sub (by cases sub<;>simp);rw[ke]at hs;exact⟨hs.1,λa aj=>uL.1 hs.2 a (qI.2 aj)⟩
def o4:FZZ:=⟨0,0,0,0,0,0,false,false⟩
def Mh(n:Nat):FZZ:=⟨L9 n,0,0,L9 n - 1,0,0,false,false⟩
def ax7{s:FZZ}(h:U6 s=true):s=o4:=by
 cases s;unfold U6 at h;exact akr
def ax8{n:Nat}{s:FZZ}(h:U5 n s=true):s=Mh n:=by
 cases s;unfold U5 at h;exact akr
def rounds(c:bt):Nat->aZ->aZ
 |0,w=>w
 |k+1,w=>rounds c k (w.round c)
def aks{ps:List Nat}(h:(yq sub ps nk s).mh=false):s.mh=false:=Vg _ _ h
def hr.akt(U:kJ c x)(ey:c.ps.length<=6):∀(k:Nat) (B:Nat->az),hr c x o4 B->∃Jp,rounds c k (jN B cur)=jN Jp cur/\hr c x o4 Jp
 |0,B,h=>⟨B,rfl,h⟩
 |k+1,B,h=>by
  have ao:=(akq ey (s2 U _ (ka.n0 U.E2) (bA _)) (decide (x.E.k=2))).1
  rw[show(List.range c.ps.length).map (jf c)=tG c from rfl,akp U]at ao
  have e:=ax7 ao
  have e:yq (decide (x.E.k=2)) (tG c) (uA c) o4=o4:=e
  obtain⟨dr,eF⟩:=h.round (cur:=cur) U (by rw[e];rfl)
  rw[e]at eF
  obtain⟨Jp,ae,ak⟩:=hr.akt U ey k (rt c B) eF
  exact⟨Jp,by rw[rounds,dr];exact ae,ak⟩
def hr.ax9(U:kJ c x)(ey:c.ps.length<=6){a:Nat}(aj:a<c.ps.length)(h:hr c x (C1 a) B):∃Jp,rounds c 3 (jN B cur)=jN Jp cur/\hr c x (Mh c.ps.length) Jp:=by
 have ao:=(akq ey (s2 U _ (ka.n0 U.E2) (bA _)) (decide (x.E.k=2))).2 a aj;rw[show(List.range c.ps.length).map (jf c)=tG c from rfl,akp U]at ao;have e:=ax8 ao;have e6:(yq (decide (x.E.k=2)) (tG c) (uA c) (yq (decide (x.E.k=2)) (tG c) (uA c) (yq (decide (x.E.k=2)) (tG c) (uA c) (C1 a)))).mh=false:=by rw[e];rfl
 have hv:=aks e6;have bd:=aks hv;obtain⟨dr,eF⟩:=h.round (cur:=cur) U bd;obtain⟨fN,hx⟩:=eF.round (cur:=cur) U hv;obtain⟨kx,nO⟩:=hx.round (cur:=cur) U e6;rw[e]at nO;exact⟨_,by rw[rounds,dr,rounds,fN,rounds,kx];rfl,nO⟩
def aku:∀n,n<7->∀k,k<n->c8 (L9 n) k=true/\(0<k->c8 (L9 n - 1) k=true):=af
def aya:∀a,a<7->∀k,k<7->c8 (C1 a).aw k=decide (k=a):=af
def hr.next(U:kJ c x)(ey:c.ps.length<=6)(h:hr c x (Mh c.ps.length) B)(E:bg):hr c ⟨x.L++[x.E],E,x.aa,x.kB⟩ o4 B:=by
 refine⟨λn an=>?_,Nat.zero_testBit 0⟩;have dG:=h.1 n an;obtain⟨f1,_⟩:=aku _ J n an;have bS:c8 (Mh c.ps.length).ag n=true:=f1;have bE:(decide (n=0)&&(Mh c.ps.length).e0)=false:=FH _;have eV:(decide (n=0)&&o4.e0)=false:=FH _;rw[bS,bE]at dG;rw[eV];have z:∀k,c8 0 k=false:=P8;have sN:=dG.ps;have OE:=dG.tx;have Bx:=dG.ez;refine⟨dG.b6,?_,λal=>?_,?_,dG.C2,dG.Fg,dG.ay,dG.cO,dG.ev,dG.bl,dG.eN,?_,λk hk=>?_,?_,?_⟩
 ·rw[dG.ids];show _=dY (x.L++[x.E])++eE (c8 0 n) E.id;rw[z,S2];simp[eE]
 ·rw[dG.zt al];show _=(x.L++[x.E])++eE (c8 0 n) E;rw[z];simp[eE]
 ·rw[sN];show eE (c8 0 n) _=eE (c8 0 n) _;rw[z];rfl
 ·rw[OE];show eE (c8 0 n) _=eE (c8 0 n) _;rw[z];rfl
 ·have oK:k∈kE c.ps n:=by unfold az.cc at hk;rw[dG.b6]at hk;exact hk
  obtain⟨_,g2⟩:=aku _ J k (Me oK);obtain⟨dr,eF,fN⟩:=dG.gx k hk;have gU:c8 (Mh c.ps.length).rh k=true:=g2 (Mf U oK).2;rw[gU]at dr;refine⟨?_,?_,?_⟩
  ·rw[dr];show _=(x.L++[x.E]).length+(if c8 0 k=true then 1 else 0);rw[z,cH];rfl
  ·rw[eF];show eE (c8 0 k) _=eE (c8 0 k) _;rw[z];rfl
  ·rw[fN];show eE (c8 0 k) _=eE (c8 0 k) _;rw[z];rfl
 ·rw[dG.cW];rfl
 ·show nZ (B n).ez<=100+3200*(2*(x.L++[x.E]).length+(if c8 0 n=true then 2 else if c8 0 n=true then 1 else 0));rw[z,bj af,bj af,cH,KS];rw[bm rfl]at Bx;omega
end
end
def aZ.wk(c:bt)(w:aZ)(cl:Int)(i:aA):Int×Int:=
 match mb c cl with
 |none=>(0,1)
 |some n=>
  match w.bR n with
  |.down _=>(0,210)
  |.up b=>if i.b≠(n:Int) then (0,1) else (b.status i,0)
def aZ.o5(c:bt)(w:aZ)(cl:Int):List (List cd)×Int×aZ:=
 match mb c cl with
 |none=>([],1,w)
 |some n=>
  match w.bR n with
  |.down _=>([],210,w)
  |.up b=>if b.st.ag.length<w.cur cl.toNat then ([],1,w) else ((b.KP cl (w.cur cl.toNat)).1,0,w.Oo cl.toNat (b.KP cl (w.cur cl.toNat)).2)
section
section
variable {c:bt}{B:Nat->az}{n:Nat}{cur:Nat->Nat}{L:List bg}{E Mi:bg}{aa h:Nat}{kB ry:Nat->Nat}
def hr.ayb(a8:hr c ⟨L,E,aa,kB⟩ o4 B)(Mi:bg):hr c ⟨L,Mi,aa,kB⟩ o4 B:=by
 refine⟨λn an=>?_,a8.2⟩;have dG:=a8.1 n an;have z:∀k,c8 0 k=false:=P8;refine t6 ?_;intro bS bE eV gU;rw[bS,bE,eV,gU]at dG ⊢
 exact⟨dG.b6,dG.ids,dG.zt,dG.ps,dG.C2,dG.Fg,dG.ay,dG.cO,dG.ev,dG.bl,dG.eN,dG.tx,λk hk=>by
  obtain⟨dr,eF,fN⟩:=dG.gx k hk;have f1:c8 o4.rv k=false:=z k;have f2:c8 o4.c0 k=false:=z k;rw[f1]at eF ⊢;rw[f2]at fN ⊢
  exact⟨dr,eF,fN⟩,dG.cW,dG.ez⟩
def hr.ayc(a8:hr c ⟨L,E,aa,kB⟩ o4 B)(ey:c.ps.length<=6)(b5:h<c.ps.length)(Jq:∀k,k≠h->ry k=kB k):
  hr c ⟨L,E,aa,ry⟩ (C1 h) (j8 B h {B h with tx:= [⟨E,true⟩],ev:=ry h}):=by
 refine⟨λn an=>?_,Nat.zero_testBit 0⟩;have dG:=a8.1 n an;have z:∀k,c8 0 k=false:=P8;refine t6 ?_;intro bS bE eV gU;rw[bS,bE,eV,gU]at dG;have g1:c8 (C1 h).ag n=false:=z n;have g2:c8 (C1 h).e9 n=false:=z n;have g3:c8 (C1 h).aw n=decide (n=h):=aya h J n J;have g4:(decide (n=0)&&(C1 h).e0)=false:=FH _;rw[g1,g2,g3,g4];by_cases e:n=h
 ·subst e;rw[Fb,mS rfl];exact⟨dG.b6,dG.ids,dG.zt,dG.ps,dG.C2,dG.Fg,dG.ay,dG.cO,rfl,dG.bl,dG.eN,rfl,dG.gx,dG.cW,dG.ez⟩
 ·rw[U8 _ _ e,lo e];exact⟨dG.b6,dG.ids,dG.zt,dG.ps,dG.C2,dG.Fg,dG.ay,dG.cO,dG.ev.trans (Jq n e).symm,dG.bl,dG.eN,dG.tx,dG.gx,dG.cW,dG.ez⟩
def t7(c:bt):∀(i j:Nat) (w:aZ),rounds c (i+j) w=rounds c j (rounds c i w)
 |0,j,w=>by rw[om];rfl
 |i+1,j,w=>by rw[Nat.add_right_comm];exact t7 c i j (w.round c)
def phase(U:kJ c ⟨L,E,aa,ry⟩)(cj:kJ c ⟨L++[E],Mi,aa,ry⟩)(ey:c.ps.length<=6)(b5:h<c.ps.length)(Jq:∀k,k≠h->ry k=kB k)(a8:∀E,hr c ⟨L,E,aa,kB⟩ o4 B):
  ∃wi,rounds c (c.ps.length+3) (jN (j8 B h {B h with tx:= [⟨E,true⟩],ev:=ry h}) cur)=jN wi cur/\∀fQ,hr c ⟨L++[E],fQ,aa,ry⟩ o4 wi:=by
 obtain⟨rn,dr,eF⟩:=hr.ax9 (cur:=cur) U ey b5 ((a8 E).ayc ey b5 Jq);obtain⟨wi,fN,hx⟩:=hr.akt (cur:=cur) cj ey c.ps.length rn (eF.next U ey Mi);refine⟨wi,?_,λfQ=>hx.ayb fQ⟩;rw[Nat.add_comm,t7,dr,fN]
def akv{f:az->Int×az}(b5:mb c cl=some h):(jN B cur).call c cl f=if (f (B h)).1=0 then (0,(B h).gX,jN (j8 B h (f (B h)).2) cur) else ((f (B h)).1,xH,jN (j8 B h (B h)) cur):=by
 unfold aZ.call;rw[b5];show(if (f (B h)).1=0 then (0,(B h).gX,(jN B cur).hc h (.up (f (B h)).2)) else ((f (B h)).1,xH,(jN B cur).hc h (.up (B h))))=_;rw[<-Jm B cur 0,Qa,Qa,Jm,Jm]
def akw{f:az->Int×az}(b5:mb c cl=some h)(aO:i.b=(h:Int)):(jN B cur).kG c cl i f=((f (B h)).1,jN (j8 B h (f (B h)).2) cur):=by
 unfold aZ.kG;rw[b5];show(if i.b≠(h:Int) then (1,jN B cur) else ((f (B h)).1,(jN B cur).hc h (.up (f (B h)).2)))=_;rw[bj (by simp[aO]),<-Jm B cur 0,Qa,Jm]
def akx(B:Nat->az)(n:Nat)(b b':az):j8 (j8 B n b) n b'=j8 B n b':=by funext k;unfold j8;split<;>rfl
def aky(t:gN):hD [t] t.e.id=0:=by unfold hD;simp[Mc]
def akz(i:aA):hD [] i=0:=rfl
def nG(E:bg)(x:List cd):Int×bg:=if so x=false then (40,E) else if sD {E with aS:=E.aS++[x]}=true then (172,E) else (0,{E with aS:=E.aS++[x]})
def ayd{b:az}{E:bg}(a6:b.tx= [⟨E,false⟩])(fs:E.aS.length<8)(x:List cd):b.rl E.id x=((nG E x).1,{b with tx:= [⟨(nG E x).2,false⟩]}):=by
 have hs:hD [(⟨E,false⟩:gN)] E.id=0:=aky ⟨E,false⟩;have aa:{b with tx:= [⟨E,false⟩]}=b:=by rw[<-a6]
 have aK:sE [(⟨E,false⟩:gN)] E.id=some ⟨E,false⟩:=by unfold sE;rw[hs];rfl
 have aV:Cs [(⟨E,false⟩:gN)] E.id x=((nG E x).1,[⟨(nG E x).2,false⟩]):=by
  unfold Cs nG;rw[aK];dsimp only;by_cases ae:so x=false
  ·rw[bm ae,bm ae]
  ·rw[bj ae,bj ae,bj J];by_cases ak:sD {E with aS:=E.aS++[x]}=true
   ·rw[bm ak,bm ak]
   ·rw[bj ak,bj ak,hs];rfl
 have bf:(nG E x).1≠0->(nG E x).2=E:=by
  unfold nG;split
  ·intro _;rfl
  ·split
   ·intro _;rfl
   ·intro k;exact absurd rfl k
 unfold az.rl az.ah;rw[a6,aV];dsimp only;by_cases aW:(nG E x).1=0
 ·rw[bm aW,aW]
 ·rw[bj aW,bf aW,aa]
def aye{b:az}{E:bg}(a6:b.tx= [⟨E,false⟩]):b.tp E.id=(0,{b with tx:= [⟨E,true⟩]}):=by
 have hs:hD [(⟨E,false⟩:gN)] E.id=0:=aky ⟨E,false⟩;have aK:sE [(⟨E,false⟩:gN)] E.id=some ⟨E,false⟩:=by unfold sE;rw[hs];rfl
 unfold az.tp az.ah;rw[a6];unfold Ea;rw[aK];dsimp only;rw[bm rfl,hs];rfl
def ayf{b:az}(a6:b.tx= [])(cl:Int)(K2:sD ⟨1,b.gX,cl,0,[],[]⟩=false):b.pO cl=(0,{b with tx:= [⟨⟨1,b.gX,cl,0,[],[]⟩,false⟩],ev:=b.ev+1}):=by
 unfold az.pO az.qk qh;rw[a6];simp[akz,K2]
def ayg{b:az}(a6:b.tx= [])(cl:Int)(n:Nat)(K2:sD ⟨2,b.gX,cl,n,[],[]⟩=false):b.sub cl n []=(0,{b with tx:= [⟨⟨2,b.gX,cl,n,[],[]⟩,true⟩],ev:=b.ev+1}):=by
 unfold az.sub az.qk D9 qh;rw[a6];have:mY []=true:=rfl;simp[akz,K2,this]
end
end
def akA(aO:dx i):gY ⟨2,i,1,1,[],[]⟩:=by
 refine⟨⟨aO,(show(0:Int)<=1/\(1:Int)<32 from by decide),(show kP (1:Int)from by unfold kP;omega),.inr (.inl ⟨rfl,rfl,rfl,λt h=>by cases h⟩)⟩,?_⟩;have ae:=AW i;have ak:∀n,(cJ n).length<=9:=hg;have aM:(gi (xD [])).length<=20:=by
  unfold gi xD;rw[cH,cH];have:=ak (List.length ([]:List T));have:=ak ((cJ (List.length ([]:List T))).length+(List.flatMap tS []).length);simp only[N1,nW]at*;omega
 have e:hA ⟨2,i,1,1,[],[]⟩=cJ 2++(ia i++(cJ 1++(cJ 1++gi (xD [])))):=rfl;rw[e,cH,cH,cH,cH];have:=ak 2;have:=ak 1;omega
def akB{i:aA}{cl:Int}:(hA ⟨1,i,cl,0,[],[]⟩).length<=100:=by
 have ae:=AW i;have ak:∀n,(cJ n).length<=9:=hg;have e:hA ⟨1,i,cl,0,[],[]⟩=cJ 1++(ia i++(cJ cl.toNat++(cJ 0++(cJ 0++[])))):=rfl;rw[e,cH,cH,cH,cH,cH,nW];have:=ak 1;have:=ak 0;have:=ak cl.toNat;omega
def ayh:sD ⟨1,i,cl,0,[],[]⟩=false:=by
 unfold sD;have:=@akB i cl;exact lo J
def akC(aO:dx i)(gV:0<=cl/\cl<32)(x:List cd)(U:∀a,a∈x->k8 a.n):gY (nG ⟨1,i,cl,0,[],[]⟩ x).2/\(nG ⟨1,i,cl,0,[],[]⟩ x).2.id=i/\(nG ⟨1,i,cl,0,[],[]⟩ x).2.k=1/\
  (nG ⟨1,i,cl,0,[],[]⟩ x).2.aS=if (nG ⟨1,i,cl,0,[],[]⟩ x).1=0 then [x] else []:=by
 have aW:gY ⟨1,i,cl,0,[],[]⟩:=⟨⟨aO,gV,(show kP (0:Int)from by unfold kP;omega),.inl ⟨rfl,rfl,rfl,by simp,λe he=>by cases he⟩⟩,by have:=@akB i cl;omega⟩;unfold nG;by_cases ae:so x=false
 ·rw[bm ae];exact⟨aW,rfl,rfl,by rw[bj (show ¬(40:Int)=0 from by decide)]⟩
 ·rw[bj ae];by_cases ak:sD ⟨1,i,cl,0,[],[]++[x]⟩=true
  ·rw[bm ak];exact⟨aW,rfl,rfl,by rw[bj (show ¬(172:Int)=0 from by decide)]⟩
  ·rw[bj ak];refine⟨⟨⟨aO,gV,(show kP (0:Int)from by unfold kP;omega),.inl ⟨rfl,rfl,rfl,by simp,λe he=>?_⟩⟩,?_⟩,rfl,rfl,by rw[if_pos rfl];rfl⟩
   ·have he:e∈ [x]:=he;obtain rfl:=iH.1 he;exact⟨by simpa using ae,U⟩
   ·unfold sD at ak;have:¬3000<(hA ⟨1,i,cl,0,[],[]++[x]⟩).length:=by simpa using ak
    show(hA ⟨1,i,cl,0,[],[]++[x]⟩).length<=3000;omega
def ayi:AG [⟨1,1,[]⟩] [1]= [[]]:=by simp[AG]
def akD(aS:List (List cd)):AH [[]] aS=aS:=DE.2 (λe _=>by simp[sX])
def akE(h:d.k=1):pa [⟨1,1,[]⟩] 1 d=d.aS:=by unfold pa;rw[if_pos h,ayi,akD]
def ayj{l:List lX}{c:Int}(h:d.k≠1):pa l c d= []:=by unfold pa;rw[if_neg h]
def akF{l:List lX}(h:d.k=1):tZ l d=l:=by unfold tZ;rw[if_pos h]
def ayk{cl:List Int}(h:(1:Int)∈cl):J4 [⟨1,1,[]⟩] cl= [[]]:=by
 have e:AG [⟨1,1,[]⟩] cl= [[]]:=by unfold AG;simp[h]
 unfold J4;rw[e];rfl
def ayl{cl:List Int}(h:(1:Int)∈cl)(d:bg):jU [⟨1,1,[]⟩] cl d=d:=by
 unfold jU;split
 ·rw[ayk h,akD]
 ·rfl
def aym{ps:List Int}{a:Nat}{room:Nat}(h:qO ps k b=true):(1:Int)∈lP ⟨ps,[a,b],room⟩ k:=by
 unfold lP;exact kN.2 ⟨1,mI.2 ⟨by simp,h⟩,rfl⟩
def qu(b:Nat):bg:=⟨2,⟨b,1,1⟩,1,1,[],[]⟩
def Vh(h:n<16)(k:Nat)(hk:k<100):dx ⟨n,1,k⟩:=⟨(show(0:Int)<=(n:Int)/\(n:Int)<16 from by omega),(show kP (1:Int)from by unfold kP;omega),(show kP (k:Int)from by unfold kP;omega)⟩
def ayn{E:bg}{aa:Nat}:hr c ⟨[],E,aa,λ_=>0⟩ o4 (λn=>qj n j0):=by
 have z:∀k,c8 0 k=false:=P8;refine⟨λn an=>?_,z 0⟩;refine t6 ?_;intro bS bE eV gU;rw[bS,bE,eV,gU];refine⟨rfl,rfl,λ_=>rfl,rfl,(λd aD=>by cases aD),(λd aD=>by cases aD),rfl,rfl,rfl,rfl,rfl,rfl,λk hk=>?_,rfl,?_⟩
 ·have f0:c8 o4.rh k=false:=z k;have f1:c8 o4.rv k=false:=z k;have f2:c8 o4.c0 k=false:=z k;rw[f0,f1,f2];exact⟨rfl,rfl,rfl⟩
 ·show nZ [my 1]<=_;have:nZ [my 1]<=100:=by
   rw[Ox];unfold xR gl;have ak:∀n,(cJ n).length<=9:=hg;have:=ak (my 1).k.toNat;have:=ak (my 1).n;rw[cH,cH];have e:(if (my 1).k=2\/(my 1).k=3 then gi (hA (my 1).e) else if (my 1).k=4\/(my 1).k=5 then ia (my 1).id else [])= []:=rfl;rw[e,nW];omega
  omega
def akG{B:Nat->az}{cur:Nat->Nat}{h:Nat}(b5:mb c cl=some h)(aO:i.b=(h:Int))(aT:eD (B h).st.ag i=true):(jN B cur).wk c cl i=(3,0):=by
 unfold aZ.wk;rw[b5];show(if i.b≠(h:Int) then (0,1) else ((B h).status i,0))=((3:Int),(0:Int));rw[bj (by simp[aO])];unfold az.status;rw[bm aT]
def akH{B:Nat->az}{cur:Nat->Nat}{h:Nat}{l:List bg}(b5:mb c cl=some h)(aT:(B h).st.ag=l)(ao:cur cl.toNat<=l.length):
  (jN B cur).o5 c cl=((mA cl (cur cl.toNat) (j1 (l.take (cur cl.toNat))) (l.drop (cur cl.toNat))).1,0,jN B (λk=>if k=cl.toNat then (mA cl (cur cl.toNat) (j1 (l.take (cur cl.toNat))) (l.drop (cur cl.toNat))).2 else cur k)):=by
 subst aT;unfold aZ.o5;rw[b5];show(if (B h).st.ag.length<cur cl.toNat then _ else _)=_;rw[bj J];rfl
def t8{s:List lX}{r:List bg}(h:pa s cl d= []):mA cl n s (d::r)=mA cl (n+1) (tZ s d) r:=by
 show(if pa s cl d= [] then _ else _)=_;rw[bm h]
def akI{s:List lX}{r:List bg}{e:List (List cd)}(h:pa s cl d=e)(di:e≠ []):mA cl n s (d::r)=(e,n+1):=by
 show(if pa s cl d= [] then _ else _)=_;rw[bj (by rw[h];exact di),h]
section
section
variable {c:bt}{B:Nat->az}{cur:Nat->Nat}{L:List bg}{E Mi:bg}{aa h:Nat}{kB ry:Nat->Nat}{cl:Int}
def Vi(ao:ka c)(ax:40000<=c.room)(py:E.id∉dY L)(he:gY E)(aT:∀d,d∈L->gY d)(hk:E.k=2\/(E.k=1/\j1 L= [⟨1,1,[]⟩]))(gV:∀k,qO c.ps k aa=true->(1:Int)∈lP c k)(bc:L.length<=5)(ayo:aa<c.ps.length):kJ c ⟨L,E,aa,kB⟩:=
 ⟨ao,ax,py,he,aT,hk.elim .inr (λk=>.inl k.1),bc,ayo,λk _ al=>by
  rcases hk with bY|⟨_,e5⟩
  ·show jU (j1 L) (lP c k) E=E;unfold jU;rw[if_neg J]
  ·show jU (j1 L) (lP c k) E=E
   rw[e5];exact ayl (gV k al) E⟩
def Qg(a8:hr c ⟨L,E,aa,kB⟩ o4 B)(b5:h<c.ps.length):(B h).b6=h/\(B h).st.l=1/\(B h).ev=kB h/\(B h).tx= []/\(qO c.ps h aa=true->(B h).st.ag=L)/\dY (B h).st.ag=dY L:=by
 have dG:=a8.1 h b5;have z:∀k,c8 0 k=false:=P8;have bS:c8 o4.ag h=false:=z h;have eV:c8 o4.aw h=false:=z h;have ae:=dG.tx;have ak:=dG.zt;have aM:=dG.ids;rw[eV]at ae;rw[bS]at ak aM;exact⟨dG.b6,dG.cO,dG.ev,ae,λal=>by rw[ak al];exact mH _,by rw[aM];exact mH _⟩
def akJ(b5:mb c cl=some h)(a8:∀E,hr c ⟨L,E,aa,kB⟩ o4 B)(ey:c.ps.length<=6)(kw:h<c.ps.length)(x:List cd)(aO:i=⟨h,1,(kB h+1:Nat)⟩)(ch:E=(nG ⟨1,i,cl,0,[],[]⟩ x).2)(I:E.id=i)(Jq:ry=λk=>if k=h then kB h+1 else kB k)(ayp:kJ c ⟨L,E,aa,ry⟩)(ayq:kJ c ⟨L++[E],Mi,aa,ry⟩):
  ∃aY b3 bp wi,(jN B cur).call c cl (λk=>k.pO cl)=(0,i,aY)/\aY.kG c cl i (λk=>k.rl i x)=((nG ⟨1,i,cl,0,[],[]⟩ x).1,b3)/\b3.kG c cl i (λk=>k.tp i)=(0,bp)/\rounds c (c.ps.length+3) bp=jN wi cur/\
   ∀fQ,hr c ⟨L++[E],fQ,aa,ry⟩ o4 wi:=by
 obtain⟨dv,cZ,gF,pF,_,_⟩:=Qg (a8 E) kw;have py:(B h).gX=i:=by unfold az.gX;rw[dv,cZ,gF,aO];rfl
 have pA:i.b=(h:Int):=by rw[aO]
 have wh:=ayf pF cl (by rw[py];exact ayh);rw[py]at wh;obtain⟨e6,jV⟩:∃e6:az,e6={B h with tx:= [⟨⟨1,i,cl,0,[],[]⟩,false⟩],ev:=(B h).ev+1}:=⟨_,rfl⟩;rw[<-jV]at wh;have Qh:=ayd (b:=e6) (E:=⟨1,i,cl,0,[],[]⟩) (by rw[jV]) (by simp) x;rw[<-ch]at Qh;obtain⟨e2,oT⟩:∃e2:az,e2={e6 with tx:= [⟨E,false⟩]}:=⟨_,rfl⟩;rw[<-oT]at Qh;have akK:=aye (b:=e2) (E:=E) (by rw[oT]);rw[I]at akK;obtain⟨wi,kf,mT⟩:=phase (cur:=cur) ayp ayq ey kw (λk hk=>by rw[Jq];exact bj hk) a8;refine⟨jN (j8 B h e6) cur,jN (j8 B h e2) cur,jN (j8 B h {B h with tx:= [⟨E,true⟩],ev:=ry h}) cur,wi,?_,?_,?_,kf,mT⟩
 ·rw[akv b5];try dsimp only
  rw[wh,py,bm rfl]
 ·rw[akw b5 pA];try dsimp only
  rw[Fb];have Qh:e6.rl i x=_:=Qh;rw[Qh,akx]
 ·rw[akw b5 pA];try dsimp only
  rw[Fb,akK,akx];have e:({e2 with tx:= [⟨E,true⟩]}:az)={B h with tx:= [⟨E,true⟩],ev:=ry h}:=by
   rw[oT,jV,Jq];dsimp only;rw[bm rfl,gF]
  rw[e]
end
def ayr{ps:List Int}{a:Nat}(a6:jn ps=true)(ey:ps.length<=6)(aj:a<ps.length)(aa:b<ps.length)(x y:List cd)(U:∀t,t∈x->k8 t.n)(hy:∀t,t∈y->k8 t.n){c:bt}(ao:c=⟨ps,[(a:Int),(b:Int)],60000⟩):
  ∃(s f g:aA) (kf mT bE:Int) (xf aN aY b3 bp cV df eb cG wm jr w7:aZ) (dr eF:List (List cd)),
   aZ.new.call c 1 (λk=>k.sub 1 1 [])=(0,s,xf)/\rounds c (ps.length+3) xf=aN/\aN.wk c 1 s=(3,0)/\
   aN.call c 0 (λk=>k.pO 0)=(0,f,aY)/\aY.kG c 0 f (λk=>k.rl f x)=(kf,b3)/\b3.kG c 0 f (λk=>k.tp f)=(0,bp)/\rounds c (ps.length+3) bp=cV/\cV.wk c 0 f=(3,0)/\
   cV.call c 1 (λk=>k.pO 1)=(0,g,df)/\df.kG c 1 g (λk=>k.rl g y)=(mT,eb)/\eb.kG c 1 g (λk=>k.tp g)=(0,cG)/\rounds c (ps.length+3) cG=wm/\
   (∃d0 jX ij,(gZ wm 0).ag= [d0,jX,ij]/\jX.id=f/\ij.id=g)/\wm.o5 c 1=(dr,0,jr)/\jr.o5 c 1=(eF,bE,w7)/\
   (kf=0->dr= [x]/\(mT=0->eF= [y])/\(mT≠0->eF= []))/\(kf≠0->(mT=0->dr= [y])/\(mT≠0->dr= [])):=by
 have oY:ka c:=⟨by rw[ao];exact a6,by rw[ao];show(60000:Nat)<=1048576;omega⟩;have sy:40000<=c.room:=by rw[ao];show(40000:Nat)<=60000;omega
 have sN:c.ps=ps:=by rw[ao]
 have Ar:mb c 1=some b:=by rw[ao];rfl
 have BJ:mb c 0=some a:=by rw[ao];rfl
 have gV:∀k,qO c.ps k b=true->(1:Int)∈lP c k:=λk al=>by rw[ao]at al ⊢;exact aym al
 have jZ:b<c.ps.length:=by rw[sN];exact aa
 have IH:a<c.ps.length:=by rw[sN];exact aj
 have ul:c.ps.length<=6:=by rw[sN];exact ey
 obtain⟨BK,Vj⟩:∃f:Nat->Nat,f=λk=>if k=b then 1 else 0:=⟨_,rfl⟩;obtain⟨Jr,akL⟩:∃f:Nat->Nat,f=λk=>if k=a then BK a+1 else BK k:=⟨_,rfl⟩;obtain⟨un,ays⟩:∃f:Nat->Nat,f=λk=>if k=b then Jr b+1 else Jr k:=⟨_,rfl⟩;have q1:BK a=if a=b then 1 else 0:=by rw[Vj]
 have dP:Jr b=if b=a then BK a+1 else 1:=by rw[akL,Vj];simp
 obtain⟨i1,BL⟩:∃i:aA,i=⟨a,1,(BK a+1:Nat)⟩:=⟨_,rfl⟩;obtain⟨ht,IX⟩:∃i:aA,i=⟨b,1,(Jr b+1:Nat)⟩:=⟨_,rfl⟩;have bQ:BK a+1<100:=by rw[q1];split<;>omega
 have bY:Jr b+1<100:=by rw[dP,q1];split<;>(try split)<;>omega
 have ayt:dx i1:=by rw[BL];exact Vh J _ bQ
 have ayu:dx ht:=by rw[IX];exact Vh J _ bY
 obtain⟨fQ,Un⟩:∃E,E=(nG ⟨1,i1,0,0,[],[]⟩ x).2:=⟨_,rfl⟩;obtain⟨iV,Ek⟩:∃E,E=(nG ⟨1,ht,1,0,[],[]⟩ y).2:=⟨_,rfl⟩;obtain⟨cL,cE,a3,a4⟩:=akC ayt (cl:=0) af x U;obtain⟨bd,hv,e6,e2⟩:=akC ayu (cl:=1) af y hy;rw[<-Un]at cL cE a3 a4;rw[<-Ek]at bd hv e6 e2;have Qi:gY (qu b):=akA (Vh J 1 J);have dv:i1≠(qu b).id:=λe=>by
  have e:i1=⟨b,1,1⟩:=e;rw[BL]at e;injection e with bS _ bE;rw[q1]at bE;have:a=b:=J;rw[bm this]at bE;omega
 have cZ:ht≠(qu b).id:=λe=>by
  have e:ht=⟨b,1,1⟩:=e;rw[IX]at e;injection e with _ _ bE;rw[dP]at bE;split at bE<;>omega
 have gF:ht≠i1:=λe=>by
  rw[IX,BL]at e;injection e with bS _ bE;have bS:b=a:=J;rw[dP,bm bS]at bE;omega
 obtain⟨Am,Gb⟩:∃E:bg,E=⟨2,⟨b,1,(50:Nat)⟩,1,1,[],[]⟩:=⟨_,rfl⟩;have ayv:gY Am:=by rw[Gb];exact akA (Vh J 50 J)
 have m1:Am.id∉dY [qu b,fQ,iV]:=by
  rw[Gb];simp only[dY,tj,ID,nK,sW,tJ,cE,hv];rintro (e|e|e)
  ·have e:(⟨b,1,(50:Nat)⟩:aA)=⟨b,1,1⟩:=e;injection e with _ _ bE;omega
  ·rw[BL]at e;injection e with _ _ bE;rw[q1]at bE;split at bE<;>omega
  ·rw[IX]at e;injection e with _ _ bE;rw[dP,q1]at bE;split at bE<;>(try split at bE)<;>omega
 have e3:j1 [qu b]= [⟨1,1,[]⟩]:=rfl;have ju:j1 [qu b,fQ]= [⟨1,1,[]⟩]:=by
  show tZ [⟨1,1,[]⟩] fQ=_;exact akF a3
 have c1:∀kB,kJ c ⟨[],qu b,b,kB⟩:=λkB=>Vi oY sy (by simp[dY]) Qi (λd aD=>by cases aD) (.inl rfl) gV (by simp) jZ;have c2:∀kB,kJ c ⟨[qu b],fQ,b,kB⟩:=λkB=>Vi oY sy (by simp[dY,cE,dv]) cL (λd aD=>by rw[iH.1 aD];exact Qi) (.inr ⟨a3,e3⟩) gV (by simp) jZ;have da:∀kB,kJ c ⟨[qu b,fQ],iV,b,kB⟩:=λkB=>Vi oY sy (by simp[dY,cE,hv,cZ,gF]) bd (λd aD=>by simp at aD;rcases aD with rfl|rfl<;>first|exact Qi|exact cL) (.inr ⟨e6,ju⟩) gV (by simp) jZ;have dJ:∀kB,kJ c ⟨[qu b,fQ,iV],Am,b,kB⟩:=λkB=>Vi oY sy m1 ayv (λd aD=>by simp at aD;rcases aD with rfl|rfl|rfl<;>first|exact Qi|exact cL|exact bd) (.inl (by rw[Gb])) gV (by simp) jZ;obtain⟨_,dr,zR⟩:=phase (cur:=λ_=>0) (h:=b) (kB:=λ_=>0) (ry:=BK) (c1 BK) (c2 BK) ul jZ (λk hk=>by rw[Vj];exact bj hk) (B:=λn=>qj n j0) (λE=>ayn);have ut:aZ.new.call c 1 (λk=>k.sub 1 1 [])=(0,(qu b).id,jN (j8 (λn=>qj n j0) b {qj b j0 with tx:= [⟨qu b,true⟩],ev:=BK b}) (λ_=>0)):=by
  have e:aZ.new=jN (λn=>qj n j0) (λ_=>0):=rfl
  have hs:=ayg (b:=qj b j0) rfl 1 1 (by
   unfold sD;have:=Qi.sz
   exact lo (by show ¬3000<(hA (qu b)).length;omega))
  rw[e,akv Ar];dsimp only;rw[hs,bm rfl];have bE:BK b=1:=by rw[Vj];exact bm rfl
  rw[bE];rfl
 obtain⟨_,_,_,_,_,m7⟩:=Qg (zR fQ) jZ;obtain⟨aY,b3,bp,_,t1,t2,t3,t4,Vk⟩:=akJ (cur:=λ_=>0) BJ zR ul IH x BL Un cE akL (c2 Jr) (da Jr);obtain⟨_,_,_,_,_,u7⟩:=Qg (Vk iV) IH;obtain⟨df,eb,cG,Fh,v1,v2,v3,v4,akM⟩:=akJ (cur:=λ_=>0) Ar Vk ul jZ y IX Ek hv ays (da un) (dJ un);obtain⟨_,_,_,_,z5,_⟩:=Qg (akM Am) jZ;obtain⟨_,_,_,_,dm,_⟩:=Qg (akM Am) (ka.n0 oY);have Y8:(Fh b).st.ag= [qu b,fQ,iV]:=z5 Vd;have OX:(Fh 0).st.ag= [qu b,fQ,iV]:=dm (axZ (dJ un) jZ);rw[sN]at dr t4 v4;have ayw:pa [] 1 (qu b)= []:=ayj (show ¬(2:Int)=1 from by decide);have fg:pa [⟨1,1,[]⟩] 1 fQ=fQ.aS:=akE a3;have ih:pa [⟨1,1,[]⟩] 1 iV=iV.aS:=akE e6;have ayx:tZ [⟨1,1,[]⟩] fQ= [⟨1,1,[]⟩]:=akF a3;have ayy:mA 1 0 (j1 []) [qu b,fQ,iV]=mA 1 1 [⟨1,1,[]⟩] [fQ,iV]:=t8 ayw;have akN:∀n s,mA 1 n s []=([],n):=λ_ _=>rfl;have GO:∀s,s= [⟨1,1,[]⟩]->(iV.aS= [y]->mA 1 2 s [iV]=([y],3))/\(iV.aS= []->mA 1 2 s [iV]=([],3)):=by
  rintro s rfl;exact⟨λe=>akI (ih.trans e) (by simp),λe=>by rw[t8 (ih.trans e)];rfl⟩
 have LV:(fQ.aS= [x]->mA 1 1 [⟨1,1,[]⟩] [fQ,iV]=([x],2))/\(fQ.aS= []->mA 1 1 [⟨1,1,[]⟩] [fQ,iV]=mA 1 2 [⟨1,1,[]⟩] [iV]):=
  ⟨λe=>akI (fg.trans e) (by simp),λe=>by rw[t8 (fg.trans e),ayx]⟩
 have aDu:∀r n,mA 1 1 [⟨1,1,[]⟩] [fQ,iV]=(r,n)->(jN Fh (λ_=>0)).o5 c 1=(r,0,jN Fh (λk=>if k=1 then n else 0)):=λr n e=>by
  have:=akH (c:=c) (B:=Fh) (cur:=λ_=>0) (cl:=1) Ar Y8 (by simp);have dV:mA 1 ((λ_=>0:Nat->Nat) (1:Int).toNat) (j1 ([qu b,fQ,iV].take ((λ_=>0:Nat->Nat) (1:Int).toNat))) ([qu b,fQ,iV].drop ((λ_=>0:Nat->Nat) (1:Int).toNat))=(r,n):=ayy.trans e;rw[dV]at this;exact this
 have Vl:∀n r m,n<=3->mA 1 n (j1 ([qu b,fQ,iV].take n)) ([qu b,fQ,iV].drop n)=(r,m)->(jN Fh (λk=>if k=1 then n else 0)).o5 c 1=(r,0,jN Fh (λk=>if k=1 then m else if k=1 then n else 0)):=λn r m an e=>by
  have:=akH (c:=c) (B:=Fh) (cur:=λk=>if k=1 then n else 0) (cl:=1) Ar Y8 (by simpa using an);have dV:mA 1 ((λk=>if k=1 then n else 0:Nat->Nat) (1:Int).toNat) (j1 ([qu b,fQ,iV].take ((λk=>if k=1 then n else 0:Nat->Nat) (1:Int).toNat))) ([qu b,fQ,iV].drop ((λk=>if k=1 then n else 0:Nat->Nat) (1:Int).toNat))=(r,m):=e;rw[dV]at this;exact this
 have main:∃dr eF jr w7,(jN Fh (λ_=>0)).o5 c 1=(dr,0,jr)/\jr.o5 c 1=(eF,0,w7)/\((nG ⟨1,i1,0,0,[],[]⟩ x).1=0->dr= [x]/\((nG ⟨1,ht,1,0,[],[]⟩ y).1=0->eF= [y])/\((nG ⟨1,ht,1,0,[],[]⟩ y).1≠0->eF= []))/\
   ((nG ⟨1,i1,0,0,[],[]⟩ x).1≠0->((nG ⟨1,ht,1,0,[],[]⟩ y).1=0->dr= [y])/\((nG ⟨1,ht,1,0,[],[]⟩ y).1≠0->dr= [])):=by
  by_cases ae:(nG ⟨1,i1,0,0,[],[]⟩ x).1=0
  ·rw[bm ae]at a4;have f1:=aDu _ _ (LV.1 a4);by_cases ak:(nG ⟨1,ht,1,0,[],[]⟩ y).1=0
   ·rw[bm ak]at e2;exact⟨_,_,_,_,f1,Vl 2 _ _ J ((GO _ ju).1 e2),λ_=>⟨rfl,λ_=>rfl,λk=>absurd ak k⟩,λk=>absurd ae k⟩
   ·rw[bj ak]at e2;exact⟨_,_,_,_,f1,Vl 2 _ _ J ((GO _ ju).2 e2),λ_=>⟨rfl,λk=>absurd k ak,λ_=>rfl⟩,λk=>absurd ae k⟩
  ·rw[bj ae]at a4;have f1:=LV.2 a4;by_cases ak:(nG ⟨1,ht,1,0,[],[]⟩ y).1=0
   ·rw[bm ak]at e2;exact⟨_,_,_,_,aDu _ _ (f1.trans ((GO _ rfl).1 e2)),Vl 3 _ _ J (akN 3 _),λk=>absurd k ae,λ_=>⟨λ_=>rfl,λk=>absurd ak k⟩⟩
   ·rw[bj ak]at e2;exact⟨_,_,_,_,aDu _ _ (f1.trans ((GO _ rfl).2 e2)),Vl 3 _ _ J (akN 3 _),λk=>absurd k ae,λ_=>⟨λk=>absurd k ak,λ_=>rfl⟩⟩
 obtain⟨g1,g2,jr,w7,iu,gR,ji,k0⟩:=main;refine⟨_,i1,ht,(nG ⟨1,i1,0,0,[],[]⟩ x).1,(nG ⟨1,ht,1,0,[],[]⟩ y).1,0,_,_,aY,b3,bp,_,df,eb,cG,_,jr,w7,g1,g2,ut,dr,?_,t1,t2,t3,t4,?_,v1,v2,v3,v4,⟨qu b,fQ,iV,?_,cE,hv⟩,iu,gR,ji,k0⟩
 ·exact akG Ar rfl (by rw[KQ,m7];simp[dY])
 ·exact akG BJ (by rw[BL]) (by rw[KQ,u7];simp[dY,cE])
 ·exact OX
end
end Go.Proofs.YtfiiblnenhdlhaaGreat
