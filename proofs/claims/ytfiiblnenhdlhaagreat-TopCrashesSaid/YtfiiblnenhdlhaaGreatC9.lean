/- Part. -/
import Derived.Test.YtfiiblnenhdlhaaGreatC8
set_option linter.unusedVariables false
set_option linter.unusedSimpArgs false
set_option linter.defProp false
set_option maxRecDepth 100000
set_option maxHeartbeats 4000000
namespace Go.Proofs.YtfiiblnenhdlhaaGreat
open Go.RowKit Tryz
variable {cl:Int}{hs:List Int}{ids:List ax}{l:List hE}{B K N P aR b base gJ k n n0 q:Nat}{F M O gS:Nat->Prop}{bN:Nat->oa}{fr:Nat×Nat}{a:Option Addr}{α:Type}{e t:TypeId}{u:Value}{w w':World}{i:ax}{c:bK}{aQ:ba}{d:bb}{s:ew}{v:gB}
def qC.cp{cp:List e9}(h:qC c cp s)(az:c.room<=1048576)(a1:s.l<255):ML c cp s {s with l:=s.l+1}:=by
 obtain⟨af,an,aO,bt⟩:=ce h az;exact⟨an,af,h.zA,aO,bt,rfl,J,aeW h a1,az⟩
def Cu(c:bK)(w:ba)(n:Int):ba:=if 0<=n/\n<(c.ps.length:Int) then w.sU n.toNat else w
def ai0{T:Nat}(h:h0 w M F c P aQ)(al:im c)(aK:cM c l T aQ)(hY:T<200)(n:Int):
  aS 14 #[P,n] w λe w'=>∃z:Int,((0<=n/\n<(c.ps.length:Int))/\mH c aQ.bN n=false->z=0)/\uP c P w M F z (Cu c aQ n) e w':=by
 obtain⟨v,bW,g,p,q,D,O,W,h,hF⟩:=h;have n1:=DW al.tolZ;have H:=I h;have cg:=I al;have jZ:=I hF;obtain⟨u,aj⟩:∃u,mH c aQ.bN n=u:=⟨_,rfl⟩;by_cases aZ:0<=n/\n<(c.ps.length:Int)
 ·obtain⟨k,rfl⟩:∃k:Nat,n=(k:Int):=⟨n.toNat,J⟩;have hk:k<c.ps.length:=J;refine f9 ?_;intro cJ;have kd:=I (show Cu c aQ (k:Int)=aQ.sU k from by unfold Cu;rw[bc aZ];rfl);have iH:=I aj;cases cy:aQ.bN k with
  |up b=>
   have Cs:u=true:=by rw[<-aj];unfold mH;rw[kN,cy,jf aZ];rfl
   have jK:=I (kd.trans (show aQ.sU k=aQ from by unfold ba.sU;rw[cy]));subst Cs;clear h al hF aZ cy aj aK;go_enter func14,ntmps14;refine Wb ?_;intro _ w1 bG _ _ _ _ _ _;rintro e aN⟨rfl,bq⟩;rw[iH.out];replace bq:=I bq;go_wp2;go_ret;refine⟨210,λk=>(by have:=iH.symm.trans k.2;exact absurd this ah),M,F,rfl,?_,.of U⟩;exact ge
  |down cp=>
   have Cs:u=false:=by rw[<-aj];unfold mH;rw[kN,cy,wV]
   have jK:=I (kd.trans (show aQ.sU k=aQ.hz k (.up (p8 k (vh cp)))from by unfold ba.sU;rw[cy]));have Dw:=aK.cX k hk;have dh:et aQ k=vh cp:=by unfold et;rw[cy];rfl
   rw[dh]at Dw;have HH:=I ((aK.down k cp hk cy).cp al.tolZ.room J);change aa _ at cy;subst Cs;clear h al hF aZ aj aK dh Dw;go_enter func14,ntmps14;refine Wb ?_;intro _ w1 bG _ _ _ _ _ _;rintro e aN⟨rfl,X⟩;rw[iH.out];have bq:aa (Z w aN):=bG.trans X;clear X;go_wp2_with fail;refine(awN (M:=M) (F:=F) ⟨v,bW,g,p,q,D,O,W,H.ext bq,jZ⟩ cg hk cy HH).mono ?_;rintro e _⟨M',eF,rfl,dW,hm⟩;replace dW:=I dW;have bF:=I (hm.cN bq);clear hm;go_wp2;go_ret;refine⟨0,λ_=>rfl,M',eF,rfl,?_,bF⟩;rw[jK.out];exact dW
 ·refine V0 ?_;intro cJ;have kd:=I (show Cu c aQ n=aQ from by unfold Cu;rw[aV aZ]);clear h al hF aZ aj aK;go_enter func14,ntmps14;go_wp2_with fail;refine(DV (H.dn.ext U) n).mono ?_;rintro e w1⟨rfl,bG⟩;rw[cJ.out];replace bG:=I bG;go_wp2;go_ret;refine⟨1,λk=>(by have:=cJ.symm.trans (jf k.1);exact absurd this ah),M,F,rfl,?_,.of U⟩;exact ii
section
section
variable {w w1 w' ey:World}{M M' F eF:Nat->Prop}{c:bK}{P R:Nat}{aQ:ba}
def h0.cell(h:h0 w M F c P aQ)(X:Z w w1)(bB:(w:Nat)<=R)(a1:R<(w1:Nat)):h0 w1 (λx=>M x\/x=R) F c P aQ:=
 h.step (S:=λ_=>False) (.of X) (λ_ k=>k.elim) (λ_ _ k=>k) ⟨λ_ k=>.inl k,λx k=>k.imp id (λe=>by rw[e];exact bB)⟩ (λx k=>k.elim (λz=>fQ (h.b5 x z) X.size) (λe=>by rw[e];exact a1))
def h0.DZ(h:h0 w M F c P aQ)(bB:(w:Nat)<=R):¬F R:=λk=>by have:=h.b5 R (h.sub R k);omega
def hj.cell(h:hj w1 (λx=>M x\/x=R) F w' M' eF)(X:Z w w1)(bB:(w:Nat)<=R)(aj:aI (·=R) w' ey):hj w M F ey M' eF:=by
 have bp:=X.size;refine⟨(((aI.of (S:=λx=>F x\/x=R) X).trans (h.ee.mono (λx _ k=>.inl k))).trans (aj.mono (λx _ k=>.inr k))).mono (λx X k=>k.elim id (λe=>by have e:x=R:=e;omega)),⟨h.f.up,λx k=>(h.f.new x k).imp id (λz=>by omega)⟩,⟨λx k=>h.m.up x (.inl k),λx k=>(h.m.new x k).elim (λz=>z.imp id (λe=>by omega)) (λz=>.inr J)⟩⟩
def h0.store(h:h0 w' M' eF c P aQ)(hm:M' R)(hF:¬eF R)(aj:aI (·=R) w' ey):h0 ey M' eF c P aQ:=
 h.step aj (λx e=>by rw[show x=R from e];exact hm) (λx k e=>hF (by rw[<-show x=R from e];exact k)) (b4.ep _ _) (λx k=>fQ (h.b5 x k) aj.size)
end
def Wh(c:bK)(P:Nat)(w:World)(M F:Nat->Prop)(r:Int×ax×ba):Ending->World->Prop:=uP c P w M F (.tuple #[r.2.1,r.1]) r.2.2
def ol{c:bK}{aQ:ba}{b:aT}{f:aT->Int×aT}(c6:pM c cl=some n)(cy:aQ.bN n=.up b)(bk:(f b).1≠0->(f b).2=b):aQ.call c cl f=((f b).1,tX (f b).1 b.gQ,aQ.hz n (.up (f b).2)):=by
 unfold ba.call;rw[c6];dsimp only;rw[cy];dsimp only;by_cases aZ:(f b).1=0
 ·rw[bc aZ,aZ];rfl
 ·rw[aV aZ,bk aZ];unfold tX;rw[aV aZ];rfl
def ph{b:aT}{r:Int×List gy}(h:(b.pL r).1≠0):(b.pL r).2=b:=by
 unfold aT.pL at h ⊢;split
 ·rename_i k;rw[bc k]at h;exact absurd rfl h
 ·rfl
def pi{c:bK}{T:Nat}{aQ:ba}{b:aT}(al:im c)(aK:cM c l T aQ)(c6:pM c cl=some n)(cy:aQ.bN n=.up b):n<c.ps.length/\(0<=cl/\cl<32)/\b.xl c cl=true:=by
 obtain⟨bH,b1,dJ,eG⟩:=al.at_ c6;refine⟨bH,⟨b1,dJ⟩,?_⟩;have a1:cl<(c.hs.length:Int):=by
  unfold pM at c6;split at c6
  ·rename_i k;exact k.2
  ·cases c6
 unfold aT.xl;rw[jf ⟨b1,a1⟩,eG,(aK.up n b bH cy).1.dd];simp
def ai1{w:aC}{M F:eZ}{c:bK}{P:Nat}{aQ:ba}{T:Nat}(bG:h0 w M F c P aQ)(cg:im c)(a8:cM c l T aQ)(hY:T<=1000)(cl:Int):
  aS 22 #[P,cl] w (Wh c P w M F (aQ.call c cl (λb=>b.uy cl))):=by
 refine pm ?_;intro dD hS iN bp pk jj oU fL;have bp:=I bp;obtain⟨v,bW,g,p,q,D,O,W,dG,jZ⟩:=jj;replace dG:=I dG;replace jZ:=I jZ;replace a8:=I a8;replace cg:=I cg;replace bG:=I bG;replace hS:=I hS;replace iN:=I iN;replace oU:=I oU;go_enter func22,ntmps22;go_wp2_with fail;clear pk;refine(QL dG.dn cg cl).mono ?_;refine Q5 ?_;intro w1 ad bz;cases c6:pM c cl with
 |none=>
  have az:qN c aQ.bN p cl=(none,1):=by unfold qN;rw[c6]
  have dW:=I (show aQ.call c cl (λb=>b.uy cl)=(1,xW,aQ)from by unfold ba.call;rw[c6]);rw[az];obtain⟨u1,u2,u3,vn⟩:=qu ad;change aa _ at ad;clear az c6;go_wp2_with fail;refine MW ?_;intro c4 f0 lI z0 cZ z2;refine pp ?_;exact MX
 |some n=>
  cases cy:aQ.bN n with
  |down cp=>
   refine Wi ?_;intro az;have dW:=I (show aQ.call c cl (λb=>b.uy cl)=(210,xW,aQ)from by unfold ba.call;rw[c6];dsimp only;rw[cy]);rw[az];obtain⟨u1,u2,u3,vn⟩:=qu ad;change aa _ at ad;clear az c6;go_wp2_with fail;refine MW ?_;intro c4 f0 lI z0 cZ z2;refine pp ?_;exact MX
  |up b=>
   refine pu ?_;intro az aq hv uR oc Hx kZ FL j7;have r9:gZ (yj b.gQ cl):=⟨O9 cg.tolZ a8 aq cy hY,hv,⟨by simp[yj],by simp[yj]⟩,.inl ⟨rfl,rfl,rfl,by simp[yj],λe he=>by cases he⟩⟩;have nb:=auB j7 oc cl uR J r9;have dW:=ol (f:=λb=>b.uy cl) c6 cy (λk=>ph k);generalize b.uy cl=r at nb dW;replace dW:=I dW;replace nb:=I nb;replace kZ:=I kZ;change aa _ at ad cy;clear az c6 r9 uR oc Hx j7;go_wp2_with fail;refine qr ?_;intro dc iS hW mZ jb u1 u2 u3 vn Cv Bc;go_wp2_with fail;refine rc ?_;intro l6 l5 c4 f0 lI z0 cZ z2;refine pp ?_;exact rd
end
def ai2{u:Nat}(h:u<2 ^ 64):nO (u:Int):=by unfold nO;omega
def ai3{Cw:Nat}(bG:h0 w M F c P aQ)(cg:im c)(a8:cM c l Cw aQ)(hY:Cw<=1000)(cl:Int)(u:Nat)(aj:u<2 ^ 64)(eS:bl)(fn eT:Nat)(jY:List T)(hF:a7 w 5 T.cs eS fn eT jY)(BK:jY.length<=100)(ro:∀t,t∈jY->lx t.n):
  aS 19 #[P,cl,ae (u:Int),ao eS fn eT] w (Wh c P w M F (aQ.call c cl (λb=>b.sub cl u jY))):=by
 refine pm ?_;intro dD hS iN bp pk jj oU fL;have bp:=I bp;obtain⟨v,bW,g,p,q,D,O,W,dG,jZ⟩:=jj;replace dG:=I dG;replace jZ:=I jZ;replace a8:=I a8;replace cg:=I cg;replace bG:=I bG;replace hS:=I hS;replace iN:=I iN;replace oU:=I oU;go_enter func19,ntmps19;go_wp2_with fail;clear pk;refine(QL dG.dn cg cl).mono ?_;refine Q5 ?_;intro w1 ad bz;cases c6:pM c cl with
 |none=>
  have az:qN c aQ.bN p cl=(none,1):=by unfold qN;rw[c6]
  have dW:=I (show aQ.call c cl (λb=>b.sub cl u jY)=(1,xW,aQ)from by unfold ba.call;rw[c6]);rw[az];obtain⟨u1,u2,u3,vn⟩:=qu ad;change aa _ at ad;clear az c6;go_wp2_with fail;refine MW ?_;intro c4 f0 lI z0 cZ z2;refine rt ?_;exact MX
 |some n=>
  cases cy:aQ.bN n with
  |down cp=>
   refine Wi ?_;intro az;have dW:=I (show aQ.call c cl (λb=>b.sub cl u jY)=(210,xW,aQ)from by unfold ba.call;rw[c6];dsimp only;rw[cy]);rw[az];obtain⟨u1,u2,u3,vn⟩:=qu ad;change aa _ at ad;clear az c6;go_wp2_with fail;refine MW ?_;intro c4 f0 lI z0 cZ z2;refine rt ?_;exact MX
  |up b=>
   refine pu ?_;intro az aq hv uR oc Hx kZ FL j7;have Q6:=O9 cg.tolZ a8 aq cy hY;have r9:nE jY=true->gZ (⟨2,b.gQ,cl,(u:Int),jY,[]⟩:bb):=λhk=>⟨Q6,hv,ai2 aj,.inr (.inl ⟨rfl,rfl,⟨hk,ro⟩⟩)⟩;have nb:=auS j7 oc cl u eS fn eT jY ((hF.ext hS).ext bz) BK uR J Q6 hv r9;have dW:=ol (f:=λb=>b.sub cl u jY) c6 cy (λk=>ph k);generalize b.sub cl u jY=r at nb dW;replace dW:=I dW;replace nb:=I nb;replace kZ:=I kZ;change aa _ at ad cy;clear az c6 r9 uR oc Hx j7;go_wp2_with fail;refine qr ?_;intro dc iS hW mZ jb u1 u2 u3 vn Cv Bc;go_wp2_with fail;refine rc ?_;intro l6 l5 c4 f0 lI z0 cZ z2;refine rt ?_;exact rd
def awO{Cw:Nat}(bG:h0 w M F c P aQ)(cg:im c)(a8:cM c l Cw aQ)(hY:Cw<=1000)(cl:Int)(u:Nat)(aj:u<2 ^ 64):
  aS 67 #[P,cl,ae (u:Int)] w (Wh c P w M F (aQ.call c cl (λb=>b.zv cl u))):=by
 refine pm ?_;intro dD hS iN bp pk jj oU fL;have bp:=I bp;obtain⟨v,bW,g,p,q,D,O,W,dG,jZ⟩:=jj;replace dG:=I dG;replace jZ:=I jZ;replace a8:=I a8;replace cg:=I cg;replace bG:=I bG;replace hS:=I hS;replace iN:=I iN;replace oU:=I oU;go_enter func67,ntmps67;go_wp2_with fail;clear pk;refine(QL dG.dn cg cl).mono ?_;refine Q5 ?_;intro w1 ad bz;cases c6:pM c cl with
 |none=>
  have az:qN c aQ.bN p cl=(none,1):=by unfold qN;rw[c6]
  have dW:=I (show aQ.call c cl (λb=>b.zv cl u)=(1,xW,aQ)from by unfold ba.call;rw[c6]);rw[az];obtain⟨u1,u2,u3,vn⟩:=qu ad;change aa _ at ad;clear az c6;go_wp2_with fail;refine MW ?_;intro c4 f0 lI z0 cZ z2;refine s1 ?_;exact MX
 |some n=>
  cases cy:aQ.bN n with
  |down cp=>
   refine Wi ?_;intro az;have dW:=I (show aQ.call c cl (λb=>b.zv cl u)=(210,xW,aQ)from by unfold ba.call;rw[c6];dsimp only;rw[cy]);rw[az];obtain⟨u1,u2,u3,vn⟩:=qu ad;change aa _ at ad;clear az c6;go_wp2_with fail;refine MW ?_;intro c4 f0 lI z0 cZ z2;refine s1 ?_;exact MX
  |up b=>
   refine pu ?_;intro az aq hv uR oc Hx kZ FL j7;have Q6:=O9 cg.tolZ a8 aq cy hY;have r9:gZ (⟨3,b.gQ,cl,(u:Int),[],[]⟩:bb):=⟨Q6,hv,ai2 aj,.inr (.inr ⟨rfl,rfl,rfl⟩)⟩;have nb:=auU j7 oc cl u uR J Q6 hv r9;have dW:=ol (f:=λb=>b.zv cl u) c6 cy (λk=>ph k);generalize b.zv cl u=r at nb dW;replace dW:=I dW;replace nb:=I nb;replace kZ:=I kZ;change aa _ at ad cy;clear az c6 r9 uR oc Hx j7;go_wp2_with fail;refine qr ?_;intro dc iS hW mZ jb u1 u2 u3 vn Cv Bc;go_wp2_with fail;refine rc ?_;intro l6 l5 c4 f0 lI z0 cZ z2;refine s1 ?_;exact rd
section
def wJ(c:bK)(bN:Nat->oa)(p:Nat->Nat)(cl:Int)(i:ax):Option Addr×Int:=
 match pM c cl with
 |none=>(none,1)
 |some n=>match bN n with
  |.up _=>if i.b≠(n:Int) then (none,1) else (some ⟨p n,0,none⟩,0)
  |.down _=>(none,210)
section
variable {w:World}{M:Nat->Prop}{c:bK}{P:Nat}{bN:Nat->oa}{cur:Nat->Nat}{v:qL}{p q:Nat->Nat}{D O:Nat->Nat->Prop}{W:Nat->Prop}
def awP(H:lJ w M c P bN cur v p q D O W)(cg:im c)(cl:Int)(i:ax):
  aS 55 #[P,cl,i] w (cU (.tuple #[.pointer (wJ c bN p cl i).1,bo (wJ c bN p cl i).2]) w):=by
 refine ai4 ?_;intro dD hS iN pk;replace hS:=I hS;replace iN:=I iN;replace H:=I H;replace cg:=I cg;go_enter func55,ntmps55;go_wp2_with fail;clear pk;refine(QL (H.ext hS) cg cl).mono ?_;refine Q5 ?_;intro w1 ad bz;cases c6:pM c cl with
 |none=>
  have az:qN c bN p cl=(none,1):=by unfold qN;rw[c6]
  have bu:=I (show wJ c bN p cl i=(none,1)from by unfold wJ;rw[c6]);rw[az];clear az c6 ad;go_wp2;go_ret2;rw[bu.out];exact⟨rfl,U⟩
 |some n=>
  cases cy:bN n with
  |down cp=>
   have az:qN c bN p cl=(none,210):=by unfold qN;rw[c6];dsimp only;rw[cy]
   have bu:=I (show wJ c bN p cl i=(none,210)from by unfold wJ;rw[c6];dsimp only;rw[cy]);rw[az];clear az c6 cy ad;go_wp2;go_ret2;rw[bu.out];exact⟨rfl,U⟩
  |up b=>
   have az:qN c bN p cl=(some ⟨p n,0,none⟩,0):=by unfold qN;rw[c6];dsimp only;rw[cy]
   have bu:=I (show wJ c bN p cl i=if i.b≠(n:Int) then (none,1) else (some ⟨p n,0,none⟩,0)from by unfold wJ;rw[c6];dsimp only;rw[cy]);rw[az];obtain⟨cE,ch,a3,a4⟩:=cg.at_ c6;have hv:cl<(c.hs.length:Int):=by
    unfold pM at c6;split at c6
    ·rename_i k;exact k.2
    ·cases c6
   obtain⟨k,rfl⟩:∃k:Nat,cl=(k:Int):=⟨cl.toNat,J⟩;have hk:k<c.hs.length:=J;have hC:=H.ext (hS.trans bz);obtain⟨_,o,rW,fR⟩:=hC.l3.c8.2.1.get k hk;have k4:=Bo (x:=c.hs[k]) fR;rw[jd]at k4;have nz:c.hs[k]=(n:Int):=by rw[kN,xk,eK hk]at a4;simpa using a4
   rw[nz]at k4;have l8:=hC.l3.c8.2.1.neq;have bH:=aL (o:=1) hC.box rfl;rw[show(#[v.cL,v.ak,v.kp,v.aU,.map (some v.dr),v.fM,v.go]:Array Value)[1]=Value.slice v.ak.a v.ak.n v.ak.c from rfl,rW]at bH;have ct:=aL (o:=0) ad rfl;have b0:(0:Int)<=(k:Int):=J;have bf:(k:Int)<(v.ak.n:Int):=J;clear az c6 cy rW fR hC nz a4 ad hv ch a3;go_wp2_with fail;go_region;by_cases wF:i.b=(n:Int)
   ·have bs:(i.b !=(n:Int))=false:=by simp[wF]
    have s2:aa (¬i.b≠(n:Int)):=λz=>z wF;rw[bs];clear wF bs;go_wp2;go_ret2;rw[bu.out,aV s2.out];exact⟨rfl,U⟩
   ·have bs:(i.b !=(n:Int))=true:=by simp[wF]
    have s2:aa (i.b≠(n:Int)):=wF;rw[bs];clear wF bs;go_wp2;go_ret2;rw[bu.out,bc s2.out];exact⟨rfl,U⟩
end
end
def t6{T:Nat}(h:h0 w M F c P aQ)(cg:im c)(a8:cM c l T aQ)(cl:Int)(i:ax)(fn:Nat)(aR:Array Value)(f:aT->Int×aT)(bk:∀args w,(callFunc fn args).run prog w=.ok (.enter fn args) w)(b8:∀(n:Nat) (b:aT) (p q:Nat) (D O:eZ) (w':aC),n<c.ps.length->aQ.bN n=.up b->Z w w'->sn w' M D O c p q b->aS fn (#[.pointer (some (p,0)),.agg #[i.b,ae i.l,ae i.s]]++aR) w' (xv c p q w' M D O (.int .i64 (f b).1) (f b).2)):
  aS 58 #[P,cl,i,.func (.func fn) #[] aR] w (uP c P w M F (.int .i64 (aQ.ka c cl i f).1) (aQ.ka c cl i f).2):=by
 obtain⟨v,bW,g,p,q,D,O,W,dG,jZ⟩:=h;refine ai4 ?_;intro dD hS iN pk;obtain⟨dK,hT,eU⟩:=jm iN;replace dG:=I dG;replace jZ:=I jZ;replace cg:=I cg;replace a8:=I a8;replace b8:=I b8;replace hS:=I hS;replace iN:=I iN;go_enter func58,ntmps58;go_wp2_with fail;clear pk;refine(awP (dG.ext hS).dn cg cl i).mono ?_;refine Q5 ?_;intro w1 ad bz;clear dK hT eU;have Cx:∀z:Int,aQ.ka c cl i f=(z,aQ)->∀aN,Z w aN->uP c P w M F (.int .i64 (aQ.ka c cl i f).1) (aQ.ka c cl i f).2 (.returned z) aN:=λz bp aN cn=>by
  rw[bp];exact⟨M,F,rfl,⟨v,bW,g,p,q,D,O,W,dG.ext cn,jZ⟩,.of cn⟩
 replace Cx:=I Cx;cases c6:pM c cl with
 |none=>
  have az:wJ c aQ.bN p cl i=(none,1):=by unfold wJ;rw[c6]
  have dW:=I (show aQ.ka c cl i f=(1,aQ)from by unfold ba.ka;rw[c6]);rw[az];clear az c6 ad bk;go_wp2;go_ret;exact Cx 1 dW _ U
 |some n=>
  cases cy:aQ.bN n with
  |down cp=>
   have az:wJ c aQ.bN p cl i=(none,210):=by unfold wJ;rw[c6];dsimp only;rw[cy]
   have dW:=I (show aQ.ka c cl i f=(210,aQ)from by unfold ba.ka;rw[c6];dsimp only;rw[cy]);rw[az];clear az c6 ad bk cy;go_wp2;go_ret;exact Cx 210 dW _ U
  |up b=>
   obtain⟨aq,hv,uR⟩:=pi cg a8 c6 cy;by_cases wF:i.b=(n:Int)
   ·have az:wJ c aQ.bN p cl i=(some ⟨p n,0,none⟩,0):=by unfold wJ;rw[c6];dsimp only;rw[cy];dsimp only;rw[aV (λz=>z wF)]
    have dW:=I (show aQ.ka c cl i f=((f b).1,aQ.hz n (.up (f b).2))from by unfold ba.ka;rw[c6];dsimp only;rw[cy];dsimp only;rw[aV (λz=>z wF)]);rw[az];have kZ:=dG.ext (hS.trans bz);have j7:sn w1 M (D n) (O n) c (p n) (q n) b:=by have:=kZ.dn.ri n aq;rw[cy]at this;exact this
    have nb:=b8.out n b (p n) (q n) (D n) (O n) w1 aq cy (hS.trans bz) j7;generalize f b=r at nb dW;change aa _ at cy;obtain⟨_,_,_⟩:=jm ad;replace nb:=I nb;replace kZ:=I kZ;clear ad az c6 uR j7 wF hv;go_wp2_with fail;refine nb.mono ?_;rintro e _⟨iS,_,_,rfl,Hs,jB⟩;have Bc:=I (kZ.FK aq cy jB Hs);have Cv:=I ((hj.FK jZ aq jB).cN (hS.trans bz));clear Hs jB;go_wp2;go_ret;rw[dW.out];exact⟨iS,_,rfl,⟨v,bW,g,p,q,_,_,W,Bc,λ_=>Iff.rfl⟩,Cv⟩
   ·have az:wJ c aQ.bN p cl i=(none,1):=by unfold wJ;rw[c6];dsimp only;rw[cy];dsimp only;rw[bc wF]
    have dW:=I (show aQ.ka c cl i f=(1,aQ)from by unfold ba.ka;rw[c6];dsimp only;rw[cy];dsimp only;rw[bc wF]);rw[az];clear az c6 ad bk cy wF uR hv;go_wp2;go_ret;exact Cx 1 dW _ U
def ai5{T:Nat}(H:h0 w M F c P aQ)(al:im c)(a8:cM c l T aQ)(cl:Int)(i:ax):
  aS 24 #[P,cl,i] w (uP c P w M F (.int .i64 (aQ.ka c cl i (λb=>aT.yc b i)).1) (aQ.ka c cl i (λb=>aT.yc b i)).2):=by
 refine t8 ?_;intro dD sI hS pk dK hT eU;change aa _ at hS;have nb:=I (t6 (H.ext hS) al a8 cl i 61 #[] (λb=>aT.yc b i) (λ_ _=>by kernel_rfl) (λn b p q D O w' aq aj X bx=>let ⟨FL,j7⟩:=bx;aum j7 (a8.up n b aq aj).1 i));change aa _ at H a8;clear al sI;go_enter func24,ntmps24;exact ul
def awQ{T:Nat}(H:h0 w M F c P aQ)(al:im c)(a8:cM c l T aQ)(cl:Int)(i:ax):
  aS 71 #[P,cl,i] w (uP c P w M F (.int .i64 (aQ.ka c cl i (λb=>aT.rJ b i)).1) (aQ.ka c cl i (λb=>aT.rJ b i)).2):=by
 refine t8 ?_;intro dD sI hS pk dK hT eU;change aa _ at hS;have nb:=I (t6 (H.ext hS) al a8 cl i 121 #[] (λb=>aT.rJ b i) (λ_ _=>by kernel_rfl) (λn b p q D O w' aq aj X bx=>let ⟨FL,j7⟩:=bx;aun j7 (a8.up n b aq aj).1 i));change aa _ at H a8;clear al sI;go_enter func71,ntmps71;exact ul
def awR{D:eZ}{p:Nat}{b:aT}{R:List ax}(h:sn w M D O c p q b)(hk:gu c l R n b)(i:ax)(B:Nat)(dL:bl)(eC dO:Nat)(xs:List cI)(bx:w.heap[B]?=some (.cells #[ao dL eC dO] 34 (0,0)))(sJ:a7 w 4 cI.cs dL eC dO xs)(AT:∀y,y∈xs->lx y.n):
  aS 59 #[p,i,B] w (xv c p q w M D O (.int .i64 (b.wo i xs).1) (b.wo i xs).2):=by
 obtain⟨v,ad⟩:=h;refine t8 ?_;intro dD sI hS pk dK hT eU;have dU:=aL (o:=0) (hS.ay bx) rfl;change aa _ at hS;have nb:=I (auo (ad.ext hS) hk i dL eC dO xs (sJ.ext hS) AT);clear ad hk sI bx sJ AT;go_enter func59,ntmps59;go_wp2_with fail;clear pk;refine nb.mono ?_;rintro e _⟨iS,hW,mZ,rfl,jb,jB⟩;change aa _ at jb;have lG:=I ((ik.of hS).trans jB);clear jB;go_wp2;go_ret;exact⟨iS,hW,mZ,rfl,jb,lG⟩
def ai6{T:Nat}(h:h0 w M F c P aQ)(al:im c)(a8:cM c l T aQ)(cl:Int)(i:ax)(dL:bl)(eC dO:Nat)(xs:List cI)(sJ:a7 w 4 cI.cs dL eC dO xs)(AT:∀y,y∈xs->lx y.n):
  aS 23 #[P,cl,i,ao dL eC dO] w (uP c P w M F (.int .i64 (aQ.ka c cl i (λb=>b.wo i xs)).1) (aQ.ka c cl i (λb=>b.wo i xs)).2):=by
 have hS:Z w ((w.alloc i).alloc (.cells #[ao dL eC dO] 34)):=U;have sI:((w.alloc i).alloc (.cells #[ao dL eC dO] 34)).heap[(w:Nat)]?=some (i:Obj):=gA;have xT:((w.alloc i).alloc (.cells #[ao dL eC dO] 34)).heap[(w:Nat)+1]?=some (.cells #[ao dL eC dO] 34):=gA;obtain⟨dD,pk⟩:∃dD,((w.alloc i).alloc (.cells #[ao dL eC dO] 34))=dD:=⟨_,rfl⟩;rw[pk]at hS sI xT;obtain⟨_,_,_⟩:=jm sI;change aa _ at hS;have nb:=I (t6 (h.ext hS) al a8 cl i 59 #[.pointer (some ⟨w.heap.size+1,0,none⟩)] (λb=>b.wo i xs) (λ_ _=>by kernel_rfl) (λn b p q D O w' aq aj X bx=>awR bx (a8.up n b aq aj).1 i (w.heap.size+1) dL eC dO xs (X.ay xT) ((sJ.ext hS).ext X) AT));change aa _ at a8;clear h al sI xT sJ AT;go_enter func23,ntmps23;exact ul
def awS(a:bl)(n cap:Nat)(xs:List eu)(w:aC)(ar:vO w a n cap xs)(aq:n<=200000)(bg:∀x,x∈xs->x.dt.length<=200000):
  aS 63 #[ao a n cap] w λe w'=>∃a n c,e=.returned (ao a n c)/\Z w w':=by
 obtain⟨ct,bO,bL,bM,bP⟩:=fB NM;obtain⟨dK,eY,e5,e6,e7⟩:=fB Ic;obtain rfl:=ar.aF.neq;change aa _ at ar bg bO bL bM bP eY e5 e6 e7;go_enter func63,ntmps63;go_wp2_with fail;go_loopg [3,5,8] (xs.length) (λg e4 tI dS wr=>∃(k:Nat) (ab:bl) (m c:Nat) (ys:List eu),g+k=xs.length/\dS=.int .i64 (k:Int)/\e4=.slice ab m c/\k=m/\aa (aH wr w 34 1 eu.cs ab m c ys)/\aa (Z w wr));case atStart=>exact⟨0,none,0,0,[],J,rfl,rfl,rfl,aH.nil _ _ _ eu.bI,U⟩
 case round=>
  obtain⟨k,ab,m,c,ys,_,rfl,rfl,ho,aJ,X⟩:=hrel;subst ho;by_cases hk:k<xs.length
  ·obtain⟨b,o,rfl,al⟩:=ar.aF.get k hk;have d0:wr.cell? (b,o+k*1)=some ↑xs[k].v:=X.ag (al 0 _ rfl);rw[jd]at d0;have J5:=(ar.dt xs[k] (cT hk)).ext X;have Bp:=bg.out xs[k] (cT hk);rw[<-J5.neq]at Bp;change aa _ at J5;clear al;refine jU ?_;intro b0 bf;go_wp2_with (first|(at_builtin;refine tf rfl λoz mx=>?_;refine te (c:=cI.cs) (ys0:= []) (ys:=xs[k].dt) _ _ 34 77 rfl ct _ 48 KJ bO bL bM bP rfl ah rfl wr U (aH.nil _ _ _ cI.bI) rfl (J5.ext U) cI.cQ J ah ?_;intro cP _ qR _ hA jc ic py;rw[ow]at hA;subst hA;refine mx _ _ ?_;have c7:=I jc;have jr:=I ic;clear jc ic py mx)|(at_builtin;refine hc (ys:=ys) rfl (.tmp 12) (.tmp 15) 64 rfl dK _ 24 F9 eY e5 e6 e7 rfl ah rfl (aJ.ext U) ⟨⟨cP,xs[k].v.n,qR⟩,xs[k].dt⟩ _ rfl (fi (cs:=eu.cs ⟨⟨cP,xs[k].v.n,qR⟩,xs[k].dt⟩) rfl) (eu.cQ _) J ah (Z.size U) ?_;intro _ ij _ ha fy;have jA:=I ha;have pn:=I (fy.ext (aJ.ext U) (bJ _) U);clear ha fy));go_roundg (gk - 1);case measure=>omega
   case rel=>exact⟨k+1,_,k+1,ij,_,J,by go_num,rfl,rfl,jA,pn⟩
  ·have pZ:¬((k:Int)<(xs.length:Int)):=J;go_wp2;go_ret;exact⟨⟨ab,k,c,rfl⟩,X⟩
def awT{D:eZ}{p:Nat}{b:aT}(H:ea w M D O c p q b v)(fK:∀d,d∈b.st.au->gZ d)(MD:b.st.au.length<=10000)(cl:Int)(Hv:b.xl c cl=true)(fr:Nat)(oU:b.st.au.length<fr)(aAT:fr<=1000000):
  aS 62 #[.pointer (some (p,0)),.int .i64 cl,.int .i64 (fr:Int)] w λe w'=>∃t,e=.returned (.tuple #[.slice none 0 0,.int .i64 t,.int .i64 1])/\Z w w':=by
 refine ahG ?_;intro au ps dh p2 sd er vu lc hv hm FE bg gD bF;have d0:¬(fr:Int)<=(au.length:Int):=J;have lP:(0:Int)<=(fr:Int):=J;replace p2:=I p2;replace MD:=I MD;replace oU:=I oU;replace H:=I H;replace gD:=I gD;replace bg:=I bg;replace fK:=I fK;replace Hv:=I Hv;clear dh vu FE sd;go_enter func62,ntmps62;go_wp2_with fail;refine(A' (H.ext U) cl).mono ?_;rintro e _⟨rfl,b3⟩;rw[Hv.out];have kB:=aL (o:=5) (b3.ay gD) rfl;replace b3:=I b3;go_wp2_with fail;refine⟨rfl,_,(by simp[results,results62,go_sem]),0,rfl,b3⟩
section
def MY(c:bK)(cur:Nat->Nat)(cl:Int):Int:=if 0<=cl/\cl<(c.hs.length:Int) then (cur cl.toNat:Int) else 0
section
variable {w:World}{M:Nat->Prop}{c:bK}{P:Nat}{bN:Nat->oa}{cur:Nat->Nat}{v:qL}{p q:Nat->Nat}{D O:Nat->Nat->Prop}{W:Nat->Prop}
def awU(H:lJ w M c P bN cur v p q D O W)(cl:Int):
  aS 185 #[P,cl] w (cU (.int .i64 (MY c cur cl)) w):=by
 change aa _ at H;go_enter func185,ntmps185;go_wp2_with fail;refine qQ (es (H.ext U) cl) λw1 bz=>?_;by_cases aZ:0<=cl/\cl<(c.hs.length:Int)
 ·rw[jf aZ];obtain⟨k,rfl⟩:∃k:Nat,cl=(k:Int):=⟨cl.toNat,J⟩;have cw:=I (show MY c cur (k:Int)=(cur k:Int)from by unfold MY;rw[bc aZ];rfl);have hk:k<c.hs.length:=J;have hC:=H.ext bz;have l8:=hC.fM.neq;rw[cx,JE]at l8;obtain⟨_,o,rW,fR⟩:=hC.fM.aF.get k (by simpa using hk);have k4:=Bo fR;rw[jd,E6,QX]at k4;have h4:=aL (o:=5) hC.box rfl;rw[show(#[v.cL,v.ak,v.kp,v.aU,.map (some v.dr),v.fM,v.go]:Array Value)[5]=Value.slice v.fM.a v.fM.n v.fM.c from rfl,rW]at h4;have b0:(0:Int)<=(k:Int):=J;have bf:(k:Int)<(v.fM.n:Int):=J;clear aZ rW fR hC hk;go_wp2;go_ret;rw[cw.out];exact⟨rfl,U⟩
 ·rw[je aZ];have cw:=I (show MY c cur cl=0 from by unfold MY;rw[aV aZ]);clear aZ;go_wp2;go_ret;rw[cw.out];exact⟨rfl,U⟩
end
end
section
section
variable {w:World}{M:Nat->Prop}{c:bK}{P bW:Nat}{bN:Nat->oa}{cur:Nat->Nat}{aQ:ba}{v:qL}{g:Nat->Nat->Nat}{p q:Nat->Nat}{D O:Nat->Nat->Prop}{W:Nat->Prop}
def rX.ai7{W:eZ}{s:iF}(h:rX w W s N cur)(aj:aI (·=B) w w'){cs:Array Value}(ad:w.heap[B]?=some (.cells cs 3 fr)):rX w' W s N cur:=by
 obtain⟨⟨gs,af,an,aO,bt⟩,cC⟩:=h;exact⟨⟨gs,aj.bS af (λai ak=>af.eW ad ah ai ak),an,λy hy=>let ⟨ys,bH,b1⟩:=aO y hy;⟨ys,aj.bS bH (λai ak=>bH.eW ad ah ai ak),b1⟩,bt⟩,cC⟩
def rX.le{W:eZ}{s:iF}{aBx:Nat->Nat}(h:rX w W s N cur)(al:∀k,cur k<=aBx k):rX w W s N aBx:=by
 obtain⟨⟨gs,af,an,aO,bt,fV⟩,cC⟩:=h;exact⟨⟨gs,af,an,aO,bt,λk y hk=>ek (fV k y hk) (al k)⟩,cC⟩
def lJ.HI{x:Nat}(h:lJ w M c P bN cur v p q D O W)(hk:k<c.hs.length)(X:cur k<=x)(bx:v.fM.a=some ⟨B,0,none⟩):
  lJ (w.setCell (B,k) (x:Int)) M c P bN (λj=>if j=k then x else cur j) v p q D O W/\aI (·=B) w (w.setCell (B,k) (x:Int))/\rX (w.setCell (B,k) (x:Int)) W v.go c.hs.length cur:=by
 have fq:W B:=h.bS.2.2 _ bx;have aj:aI (·=B) w (w.setCell (B,k) (x:Int)):=(aI.refl (λy=>y=B) w).setCell (B,k) (.inl rfl) _;have js:=h.fM;rw[bx]at js;obtain⟨_,bC,_,_,_,_,_⟩:=js.ay;have MZ:=js.set k (cur k:Int) (x:Int) (by simp[hk]) 0 ah (x:Int) rfl;rw[jd,uo]at MZ;have a1:((List.range c.hs.length).map (λj=>(cur j:Int))).set k (x:Int)=(List.range c.hs.length).map (λj=>((if j=k then x else cur j:Nat):Int)):=by
  apply LD;intro j;simp only[GY,cx,JE,nd];by_cases e:k=j
  ·subst e;simp[hk]
  ·have cq:¬j=k:=λz=>e z.symm;simp only[aV e];rcases Bh j c.hs.length with z|z
   ·simp[List.getElem?_range z,cq]
   ·simp[z]
 rw[a1]at MZ;have bj:∀y,y=B->M y:=λy e=>e▸h.qM _ fq;refine⟨⟨(aj.block _ (bZ h.box) (λe=>?_)).trans h.box,h.l3.step (aj.sub bj) (b4.ep _ _),h.dr.ay (aj.block _ h.dr.lt (λe=>?_)),λn aq=>(h.ri n aq).step aj bj (λy hy e=>h.uO n aq y hy (by rw[show y=B from e];exact fq)) (b4.ep _ _) (λy hy=>fQ (h.b5 y hy) aj.size),by rw[bx];exact MZ,(h.go.ai7 aj bC).le (λj=>by by_cases e:j=k<;>simp[e,X]),h.bS,h.qM,h.sub,h.uO,h.gL,h.HC,λy hy=>fQ (h.b5 y hy) aj.size⟩,aj,h.go.ai7 aj bC⟩
 ·exact js.eW h.box ah _ rfl (show B=P from(show P=B from e).symm)
 ·obtain⟨s,f,_,hm,_⟩:=h.dr;exact js.DX hm.HF _ rfl (show B=v.dr from(show v.dr=B from e).symm)
def pV.HI{x:Nat}(h:pV w M c P aQ v bW g p q D O W)(hk:k<c.hs.length)(X:aQ.cur k<=x)(bx:v.fM.a=some ⟨B,0,none⟩):
  pV (w.setCell (B,k) (x:Int)) M c P (aQ.O2 k x) v bW g p q D O W:=by
 obtain⟨af,aj,_⟩:=h.dn.HI (x:=x) hk X bx;have fq:W B:=h.dn.bS.2.2 _ bx;exact⟨af,h.qZ,h.kp.HD aj (λy e=>by rw[show y=B from e];exact h.dn.qM _ fq) (λy hy e=>h.z6 y hy (by rw[show y=B from e];exact fq)) (b4.ep _ _),h.z6,h.A9,h.bT⟩
def hj.HI{x:Nat}(h:pV w M c P aQ v bW g p q D O W)(hF:∀x,F x↔ub c g D O W x)(hk:k<c.hs.length)(X:aQ.cur k<=x)(bx:v.fM.a=some ⟨B,0,none⟩):
  hj w M F (w.setCell (B,k) (x:Int)) M F:=
 ⟨(h.dn.HI (x:=x) hk X bx).2.1.mono (λy _ e=>by rw[show y=B from e];exact(hF B).2 (.inl (h.dn.bS.2.2 _ bx))),b4.ep _ _,b4.ep _ _⟩
end
end
section
def awV{ei:List nY}(h:gZ d):(wZ ei cl d).length<=8/\∀e,e∈wZ ei cl d->e.length<=16:=by
 unfold wZ;split
 ·rename_i hk;have fG:d.aX.length<=8/\∀e,e∈d.aX->Au e:=by
   rcases h.k with ⟨_,_,_,a,b⟩|⟨a,_,_⟩|⟨a,_,_⟩
   ·exact⟨a,b⟩
   ·omega
   ·omega
  unfold CS;exact⟨ek (vP _ _) fG.1,λe he=>(fG.2 e (pA.1 he).1).len.2⟩
 ·exact⟨gz _,λe he=>by cases he⟩
def ai8{cl:Int}:∀(l:List bb) (n:Nat) (ei:List nY),(∀d,d∈l->gZ d)->(wi cl n ei l).1.length<=8/\∀e,e∈(wi cl n ei l).1->e.length<=16
 | [],_,_,_=>⟨gz _,λe he=>by cases he⟩
 |d::r,n,ei,h=>by
  unfold wi
  split
  ·exact ai8 r _ _ (λx X=>h x (ni _ X))
  ·exact awV (h d o1)
def yK(W:Nat->Prop)(b:Nat):Nat->Prop:=λx=>W x\/x=b
def rX.put{w dD:aC}{W:eZ}{hb fS pY:Nat}{cur aBx:Nat->Nat}{s:iF}{gs:List mG}{y:mG}{ys cz:List mG}(hs:s.a=some ⟨B,0,none⟩)(bx:W B)(af:aH w 0 133 1 mG.cs s.a s.n s.c gs)(an:gs.length=N)(aO:∀y,y∈gs->∃ys:List mG,aH w 0 64 1 mG.cs y.s.a y.s.n y.s.c ys/\∀ai,y.s.a=some ai->W ai.block)(bt:∀(i j:Nat) (y z:mG) (ai nJ:Addr),gs[i]?=some y->gs[j]?=some z->y.s.a=some ai->z.s.a=some nJ->ai.block=nJ.block->i=j)(fV:∀k y,gs[k]?=some y->y.s.n<=cur k)(al:∀j,cur j<=aBx j)(A5:fS<=aBx k)(hk:gs[k]?=some y)(hy:aH w 0 64 1 mG.cs y.s.a y.s.n y.s.c ys)(bC:lL w dD y.s.a hb)(aq:aH dD 0 64 1 mG.cs (some (hb,0)) fS pY cz)(gW:∀x,W x->x<(w:Nat)):
  rX (dD.setCell (B,k) (.slice (some (hb,0)) fS pY)) (yK W hb) s N aBx:=by
 have s4:aH dD 0 133 1 mG.cs s.a s.n s.c gs:=bC.bS af (hy.gT af ah);rw[hs]at s4;have MZ:=s4.set k y ⟨⟨some (hb,0),fS,pY⟩⟩ hk 0 ah (.slice (some (hb,0)) fS pY) rfl;rw[jd,uo]at MZ;have aj:aI (·=B) dD (dD.setCell (B,k) (.slice (some (hb,0)) fS pY)):=(aI.refl (λy=>y=B) dD).setCell (B,k) (.inl rfl) _;obtain⟨_,sx,_⟩:=s4.ay;have rE:=(ud.1 hk).1;have ai9:∀(j:Nat) (z:mG) (ai:Addr),j≠k->gs[j]?=some z->z.s.a=some ai->ai.block≠hb:=λj z ai aD bp ak e=>by
  rcases bC.at_ with ⟨nJ,p5,HA⟩|HA
  ·exact aD (bt j k z y ai nJ bp hk ak p5 (e.trans HA.symm))
  ·obtain⟨_,_,hw⟩:=aO z (AL bp);have:=gW _ (hw ai ak);omega
 refine⟨⟨gs.set k ⟨⟨some (hb,0),fS,pY⟩⟩,by rw[hs];exact MZ,by rw[CT];exact an,λz bp=>?_,λi j z UI ai nJ aK aD ak p5 rY=>?_,λj z aD=>?_⟩,λai ak=>by rw[hs]at ak;cases ak;exact .inl bx⟩
 ·obtain⟨j,aD⟩:=Pb.1 bp;rw[GY]at aD;by_cases e:k=j
  ·rw[bc e,bc rE]at aD;cases aD;exact⟨cz,aj.bS aq (λai ak=>aq.eW sx ah ai ak),λai ak=>by cases ak;exact .inr rfl⟩
  ·rw[aV e]at aD;obtain⟨us,awW,hw⟩:=aO z (AL aD);have aG:ox y.s.a z.s.a:=λx cH X cG cq=>e (bt k j y z x cH hk aD X cG cq);have aja:=bC.bS awW aG;exact⟨us,aj.bS aja (λai ak=>aja.eW sx ah ai ak),λai ak=>.inl (hw ai ak)⟩
 ·rw[GY]at aK aD;by_cases e:k=i
  ·by_cases cq:k=j
   ·exact e.symm.trans cq
   ·rw[bc e,bc rE]at aK;rw[aV cq]at aD;cases aK;cases ak;exact absurd rY.symm (ai9 j UI nJ (λz=>cq z.symm) aD p5)
  ·rw[aV e]at aK;by_cases cq:k=j
   ·rw[bc cq,bc rE]at aD;cases aD;cases p5;exact absurd rY (ai9 i z ai (λz=>e z.symm) aK ak)
   ·rw[aV cq]at aD;exact bt i j z UI ai nJ aK aD ak p5 rY
 ·rw[GY]at aD;by_cases e:k=j
  ·rw[bc e,bc rE]at aD;cases aD;exact e▸A5
  ·rw[aV e]at aD;exact ek (fV j z aD) (al j)
def un{cl:Int}:∀(l:List bb) (n:Nat) (ei:List nY),n<=(wi cl n ei l).2/\((wi cl n ei l).1≠ []->n+1<=(wi cl n ei l).2)
 | [],n,_=>⟨bJ _,λh=>absurd rfl h⟩
 |d::r,n,ei=>by
  unfold wi
  split
  ·have:=un (cl:=cl) r (n+1) (zs ei d)
   exact⟨J,λh=>by have:=this.2 h;omega⟩
  ·exact⟨by dsimp only;omega,λ_=>by dsimp only;omega⟩
section
variable {w w':World}{M S W:Nat->Prop}{c:bK}{P bW hb:Nat}{aQ:ba}{v:qL}{g:Nat->Nat->Nat}{p q:Nat->Nat}{D O:Nat->Nat->Prop}
def pV.ut(h:pV w M c P aQ v bW g p q D O W)(aj:aI S w w')(bj:∀x,S x->W x)(lX:¬S P)(ad:¬S v.dr)(js:∀ai,v.fM.a=some ai->¬S ai.block)(wa:W hb\/(w:Nat)<=hb)(DQ:hb<(w':Nat))(awX:rX w' (yK W hb) v.go c.hs.length aQ.cur):
  pV w' (yK M hb) c P aQ v bW g p q D O (yK W hb):=by
 have aBp:∀x,S x->M x:=λx X=>h.dn.qM x (bj x X);have bk:b4 w M (yK M hb):=⟨λx k=>.inl k,λx k=>k.elim .inl (λe=>wa.elim (λz=>.inl (e▸h.dn.qM _ z)) (λz=>.inr (e▸z)))⟩;have a1:∀x,yK M hb x->x<(w':Nat):=λx k=>k.elim (λz=>fQ (h.dn.b5 x z) aj.size) (λe=>e▸DQ);have aG:∀n,n<c.ps.length->∀x,D n x\/O n x->¬S x:=λn aq x X k=>h.dn.uO n aq x X (bj x k);have mV:∀x,x<(w:Nat)->¬W x->¬yK W hb x:=λx X aq k=>k.elim aq (λe=>wa.elim (λz=>aq (e▸z)) (λz=>by omega))
 exact⟨⟨(aj.block _ (bZ h.dn.box) lX).trans h.dn.box,h.dn.l3.step (aj.sub aBp) bk,h.dn.dr.ay (aj.block _ h.dn.dr.lt ad),λn aq=>(h.dn.ri n aq).step aj aBp (aG n aq) bk a1,aj.bS h.dn.fM js,awX,⟨.inl h.dn.bS.1,.inl h.dn.bS.2.1,λai ak=>.inl (h.dn.bS.2.2 ai ak)⟩,λx k=>k.imp (h.dn.qM x) id,λn aq x X=>.inl (h.dn.sub n aq x X),λn aq x X=>mV x (h.dn.b5 x (h.dn.sub n aq x X)) (h.dn.uO n aq x X),h.dn.gL,h.dn.HC,a1⟩,
  h.qZ,h.kp.HD aj aBp (λx X k=>h.z6 x X (bj x k)) bk,λx X=>mV x (h.kp.lt x X) (h.z6 x X),h.A9,h.bT⟩
def hj.ut(h:pV w M c P aQ v bW g p q D O W)(hF:∀x,F x↔ub c g D O W x)(aj:aI S w w')(bj:∀x,S x->W x)(wa:W hb\/(w:Nat)<=hb):hj w M F w' (yK M hb) (ub c g D O (yK W hb)):=
 ⟨aj.mono (λx _ k=>(hF x).2 (.inl (bj x k))),⟨λx k=>((hF x).1 k).elim (λz=>.inl (.inl z)) .inr,λx k=>k.elim (λz=>z.elim (λy=>.inl ((hF x).2 (.inl y))) (λe=>wa.elim (λy=>.inl ((hF x).2 (.inl (e▸y)))) (λy=>.inr (e▸y)))) (λz=>.inl ((hF x).2 (.inr z)))⟩,
  ⟨λx k=>.inl k,λx k=>k.elim .inl (λe=>wa.elim (λz=>.inl (e▸h.dn.qM _ z)) (λz=>.inr (e▸z)))⟩⟩
end
end
def awY:(prog.info? 64).map (λi=>(i.zero,i.size,i.bytes))=some (some ↑aP,1,24):=bQ
def awZ{a:Nat}{cs aU:Array Value}{u:TypeId}{f g:Nat×Nat}(h:w.heap[a]?=some (.cells cs t f))(k:w.heap[b]?=some (.cells aU u g))(dj:t≠u):a≠b:=λe=>by
 subst e;rw[h]at k;injection k with k;injection k with _ k _;exact dj k
def mG.cQ(y:mG):∀u∈y.cs,u.oneCell'=true:=by
 intro u aj;simp only[mG.cs,oy,tb,ue]at aj;subst aj;rfl
def aH.ajb{sz:Nat}{c:α->List Value}{o cap:Nat}{ys:List α}(h:aH w base e sz c (some (b,o)) n cap ys):o=0/\∃cs,w.heap[b]?=some (.cells cs e (0,0)):=by
 rcases h.row.2 with ⟨bw,_⟩|⟨g,aR,cur,bw,_,bC,_⟩
 ·cases bw
 ·injection bw with af;injection af with af;injection af with af an;subst af;exact⟨an,cur,bC⟩
def ajc(c:bK)(P:Nat)(w:World)(M F:Nat->Prop)(r:List (List cI)×Int×ba)(e:Ending)(w':World):Prop:=
 ∃a n aR ys M' eF,e=.returned (.tuple #[ao a n aR,r.2.1])/\aH w' w.heap.size 34 1 eu.cs a n aR ys/\(∀y,y∈ys->aH w' w.heap.size 77 4 cI.cs y.v.a y.v.n y.v.c y.dt)/\ys.map (·.dt)=r.1/\h0 w' M' eF c P r.2.2/\hj w M F w' M' eF/\∀x,eF x->x<w.heap.size\/∀ai:Addr,(a=some ai\/∃y,y∈ys/\y.v.a=some ai)->ai.block≠x
def ajd{T:Nat}(h:h0 w M F c P aQ)(cg:im c)(a8:cM c l T aQ)(pt:c.room<=60000)(js:∀k,aQ.cur k<=1000000)(cl:Int):
  aS 25 #[P,cl] w (ajc c P w M F (aQ.tZ c cl)):=by
 obtain⟨v,bW,g,p,q,D,O,W,dG,jZ⟩:=h;replace dG:=I dG;replace jZ:=I jZ;replace cg:=I cg;replace a8:=I a8;go_enter func25,ntmps25;go_wp2_with fail;refine(QL (dG.ext U).dn cg cl).mono ?_;rintro e w1⟨rfl,bz⟩;replace bz:=I bz;have Cx:∀z:Int,aQ.tZ c cl=([],z,aQ)->∀aN,Z w aN->ajc c P w M F (aQ.tZ c cl) (.returned (.tuple #[aP,z])) aN:=λz bp aN cn=>by
  rw[bp];exact⟨none,0,0,[],M,F,rfl,aH.nil _ _ _ eu.bI,(λy hy=>by cases hy),rfl,⟨v,bW,g,p,q,D,O,W,dG.ext cn,jZ⟩,.of cn,λx X=>.inl (dG.dn.b5 x (dG.VW x ((jZ x).1 X)))⟩
 replace Cx:=I Cx;cases c6:pM c cl with
 |none=>
  have az:qN c aQ.bN p cl=(none,1):=by unfold qN;rw[c6]
  have dW:=I (show aQ.tZ c cl=([],1,aQ)from by unfold ba.tZ;rw[c6]);rw[az];clear az c6;go_wp2;go_ret2;exact Cx 1 dW _ U
 |some n=>
  cases cy:aQ.bN n with
  |down cp=>
   refine Wi ?_;intro az;have dW:=I (show aQ.tZ c cl=([],210,aQ)from by unfold ba.tZ;rw[c6];dsimp only;rw[cy]);rw[az];clear az c6 cy;go_wp2;go_ret2;exact Cx 210 dW _ U
  |up b=>
   have az:qN c aQ.bN p cl=(some ⟨p n,0,none⟩,0):=by unfold qN;rw[c6];dsimp only;rw[cy]
   rw[az];obtain⟨aq,hv,uR⟩:=pi cg a8 c6 cy;have oc:=(a8.up n b aq cy).1;have BX:=oc.fz.aBr pt;have e3:∀d,d∈b.st.au->gZ d:=λd aG=>(oc.fz.BR.au d aG).ok;have rE:cl<(c.hs.length:Int):=by
    have wd:=c6;unfold pM at wd;split at wd
    ·rename_i z;exact z.2
    ·cases wd
   obtain⟨k,rfl⟩:∃k:Nat,cl=(k:Int):=⟨cl.toNat,J⟩;have b6:k<c.hs.length:=J;have hC:=dG.ext bz;obtain⟨_,j7⟩:sn w1 M (D n) (O n) c (p n) (q n) b:=by have:=hC.dn.ri n aq;rw[cy]at this;exact this
   have l8:=hC.dn.fM.neq;rw[cx,JE]at l8;obtain⟨fb,o,FQ,fR⟩:=hC.dn.fM.aF.get k (by simpa using b6);have j1:=hC.dn.fM;rw[FQ]at j1;obtain⟨rfl,_,Bd⟩:=j1.ajb;have rh:=Bo fR;rw[jd,E6,QX,ow]at rh;have Wj:=aL (o:=5) hC.dn.box rfl;rw[show(#[v.cL,v.ak,v.kp,v.aU,.map (some v.dr),v.fM,v.go]:Array Value)[5]=Value.slice v.fM.a v.fM.n v.fM.c from rfl,FQ]at Wj;have b0:(0:Int)<=(k:Int):=J;have bf:(k:Int)<(v.fM.n:Int):=J;have Q7:=js k;by_cases yp:b.st.au.length<aQ.cur k
   ·have dW:=I (show aQ.tZ c (k:Int)=([],1,aQ)from by unfold ba.tZ;rw[c6];dsimp only;rw[cy];dsimp only;rw[kN,bc yp]);have nb:=I (awT j7 e3 BX (k:Int) uR (aQ.cur k) yp Q7);clear az c6 cy FQ fR j1 Bd hC b6 j7 yp e3 BX oc uR rE hv Q7 js;go_wp2_with fail;refine nb.mono ?_;rintro e aN⟨t,rfl,bq⟩;replace bq:=I bq;go_wp2;go_ret2;exact Cx 1 dW _ U
   ·obtain⟨iO,Cf⟩:∃iO,b.Lr (k:Int) (aQ.cur k)=iO:=⟨_,rfl⟩;have dW:=I (show aQ.tZ c (k:Int)=(iO.1,0,aQ.O2 k iO.2)from by unfold ba.tZ;rw[c6];dsimp only;rw[cy];dsimp only;rw[kN,aV yp,Cf]);have aje:aa (iO.1.length<=8/\∀e,e∈iO.1->e.length<=16):=Cf▸ai8 _ _ _ (λd aG=>e3 d (KX aG));have FN:=I (show aQ.cur k<=iO.2 from by rw[<-Cf];exact(un _ _ _).1);have B9:=I (show iO.1≠ []->aQ.cur k+1<=iO.2 from by rw[<-Cf];exact(un _ _ _).2);have nb:=auI j7 e3 BX (k:Int) uR (aQ.cur k) (Nat.le_of_not_lt yp);rw[Cf]at nb;replace nb:=I nb;replace FQ:=I FQ;replace Bd:=I Bd;replace b6:=I b6;replace Q7:=I Q7;clear az c6 cy fR hC j7 yp j1 e3 BX oc uR rE hv js Cf;go_wp2_with fail;refine nb.mono ?_;rintro e aN⟨ch,cF,c2,ys,rfl,cd,BJ,lg,bq⟩;have aw0:=bq.ag Wj;have ajf:=bq.ag rh;have vn:∀j,aN.frozen? ⟨fb,j,none⟩=false:=λj=>nM (bq.ay Bd);replace bq:=I bq;replace cd:=I cd;replace BJ:=I BJ;replace lg:=I lg;replace Wj:=I Wj;replace rh:=I rh;have mV:=bZ Bd;have lj:=(dG.ext (bz.trans bq)).HI (x:=iO.2) b6 FN FQ;have kc:hj w M F (aN.setCell (fb,k) (iO.2:Int)) M F:=(hj.of (bz.trans bq)).trans (hj.HI (dG.ext (bz.trans bq)) jZ b6 FN FQ);have h8:=((dG.ext (bz.trans bq)).dn.HI (x:=iO.2) b6 FN FQ).2.1;have ajg:=I ((dG.ext (bz.trans bq)).dn.HI (x:=iO.2) b6 FN FQ).2.2;have cK:=(cd.gE h8 (λx e=>by rw[show x=fb from e];exact mV)).mono bz.size;have Ka:∀y,y∈ys->aH (aN.setCell (fb,k) (iO.2:Int)) w 77 4 cI.cs y.v.a y.v.n y.v.c y.dt:=λy hy=>((BJ y hy).gE h8 (λx e=>by rw[show x=fb from e];exact mV)).mono bz.size;replace lj:=I lj;replace kc:=I kc;replace cK:=I cK;replace Ka:=I Ka;clear h8;by_cases an:0<cF
    ·obtain⟨a6,vq⟩:∃a6,aN.setCell (fb,k) (iO.2:Int)=a6:=⟨_,rfl⟩;rw[vq]at lj kc cK Ka ajg;obtain⟨⟨gs,xz,vr,Wk,wn,Q8⟩,ws⟩:=ajg;obtain⟨y,A7⟩:∃y,gs[k]?=some y:=⟨gs[k]'(by rw[vr];exact b6),eK _⟩;obtain⟨B,o,HJ,T9⟩:=xz.aF.at_ k y A7;rw[HJ]at xz;obtain⟨rfl,_,qG⟩:=xz.ajb;have Q9:=T9 0 _ rfl;rw[jd,ow,uo]at Q9;have Ae:v.go.n=c.hs.length:=xz.neq.trans vr;have wt:=aL (o:=6) lj.dn.box rfl;rw[show(#[v.cL,v.ak,v.kp,v.aU,.map (some v.dr),v.fM,v.go]:Array Value)[6]=Value.slice v.go.a v.go.n v.go.c from rfl,HJ,Ae]at wt;have dA:(k:Int)<(c.hs.length:Int):=by have:=b6.out;omega
     have aw1:=I Ae;have FI:=I lj.dn.box;obtain⟨I_,D1,Ra⟩:=Wk y (AL A7);obtain⟨ct,bO,bL,bM,bP⟩:=fB awY;replace bO:=I bO;replace bL:=I bL;replace bM:=I bM;replace bP:=I bP;replace qG:=I qG;replace D1:=I D1;replace Ra:=I Ra;replace A7:=I A7;replace Q9:=I Q9;replace wt:=I wt;replace HJ:=I HJ;replace xz:=I xz;replace vr:=I vr;replace Wk:=I Wk;replace wn:=I wn;replace ws:=I ws;replace Q8:=I Q8;clear T9;go_wp2_with fail;clear vq aw0 ajf vn;refine rN 17 (λw'=>w'.heap[P]?=some (.cells #[v.cL,v.ak,v.kp,v.aU,.map (some v.dr),v.fM,v.go] 90 (0,0))/\w'.cell? (B,k)=some ↑y.s) (λbd=>?_) ww;refine tS ?_;refine dC 3 ?_ (hy:=λw fh=>ajh);refine dC 4 ?_;refine dC 5 ?_;refine dC 6 ?_;refine dC 7 ?_;refine dC 8 ?_ (hy:=λw fh=>ajh);refine dC 9 ?_;refine dC 10 ?_;refine AO 11 (·.2) ?_;refine dC 12 ?_;refine jz 13 λK aE=>?_;go_simp;go_at_call 63;refine(awS ch cF c2 ys _ ⟨cK.aF.ext U,λy hy=>(Ka y hy).aF.ext U⟩ (by have af:=aje.out.1;have aO:=cK.neq;have bt:=eH List.length lg;rw[cx]at bt;omega) (λy hy=>by have:=aje.out.2 y.dt (lg.out▸nH hy);omega)).mono ?_;rintro e cB⟨a5,hM,dH,rfl,ez⟩;have hi:aa (Z a6 cB):=Z.trans U ez;clear ez;refine aE _ _ (λ_ _=>ww) λhH=>ej ?_;have bd:=hH rfl ah;refine jz 14 λK aE=>?_;go_simp;refine aE _ _ (λ_ _=>ww) λhH=>ej ?_;have bd:=hH rfl ah;refine jz 15 λK aE=>?_;have j0:Z a6 (cB.alloc (.cells #[ao a5 hM dH] 64)):=U;refine tq (ys:=I_) (c:=mG.cs) rfl (.tmp 57) (.tmp 60) 133 rfl ct _ 24 underlying133 bO bL bM bP rfl ah rfl (D1.ext j0) ⟨⟨a5,hM,dH⟩⟩ _ rfl (fi (cs:=mG.cs ⟨⟨a5,hM,dH⟩⟩) rfl) (mG.cQ _) (by have:=Q8.out k y A7;have:=Q7.out;omega) ah (gz _) ?_;intro g6 eJ c4 k5 FR;have qj:=FR.ay (j0.ay FI) (λai ak=>(D1.ext j0).eW (j0.ay FI) ah ai ak);have Wl:=FR.ay (j0.ay qG) (λai ak=>(D1.ext j0).eW (j0.ay qG) ah ai ak);have OB:=FR.cell (j0.ag Q9) (λai ak=>(D1.ext j0).eW (j0.ay qG) ah ai ak);have aAU:∀j,c4.frozen? ⟨B,j,none⟩=false:=λj=>nM Wl;replace j0:=I j0;replace k5:=I k5;replace FR:=I FR;replace qj:=I qj;replace Wl:=I Wl;refine aE _ _ (λ_ _=>(by(try dsimp only);exact⟨qj,OB⟩)) λhH=>ej ?_;have bd:=hH rfl ah;refine dC 16 ?_;refine jz 17 λK aE=>?_;go_simp;obtain⟨dR,xB⟩:∃dR,c4.setCell (B,k) (.slice (some (g6,0)) (y.s.n+1) eJ)=dR:=⟨_,rfl⟩;have Hn:∀x,W x->x<(w:Nat):=λx X=>dG.dn.b5 x (dG.dn.qM x X);have aw2:=j0.size;have AB:(w:Nat)<=(a6:Nat):=kc.ee.size;have At:W B:=ws.out _ HJ;have aji:∀x,qb y.s.a x->W x:=λx ⟨ai,ak,e⟩=>e▸Ra.out ai ak;have Rb:aI (λx=>x=B\/qb y.s.a x) a6 dR:=by
      subst xB;exact((aI.of j0).trans (FR.ee.mono (λx _ e=>.inr e))).setCell (B,k) (.inl (.inl rfl)) _
     have dj:iO.1≠ []:=λe=>by
      have aO:=cd.neq;have bt:ys.length=iO.1.length:=by rw[<-lg.out,cx]
      have cC:iO.1.length=0:=by rw[e];rfl
      omega
     have ajj:rX dR (yK W g6) v.go c.hs.length (aQ.O2 k iO.2).cur:=by
      subst xB;refine rX.put (cur:=aQ.cur) HJ At (by rw[HJ.out];exact xz.ext j0) vr (λz bp=>let ⟨cz,bH,b1⟩:=Wk z bp;⟨cz,bH.ext j0,b1⟩) wn Q8 (λj=>?_) ?_ A7 (D1.ext j0) FR k5 (λx X=>by have:=Hn x X;omega)
      ·show aQ.cur j<=if j=k then iO.2 else aQ.cur j;split
       ·rename_i e;rw[e];exact FN
       ·exact bJ _
      ·show y.s.n+1<=if k=k then iO.2 else aQ.cur k;rw[bc rfl];have af:=B9.out dj;have an:=Q8.out k y A7;omega
     have bj:∀x,(x=B\/qb y.s.a x)->W x:=λx X=>X.elim (λe=>e▸At) (aji x);have wa:W g6\/(a6:Nat)<=g6:=FR.at_.elim (λk=>.inl (let ⟨ai,ak,e⟩:=k;e▸Ra.out ai ak)) (λe=>.inr J);have AC:∃aX kk,a6.heap[v.dr]?=some (.map aX kk):=by
      obtain⟨_,_,_,vQ,_⟩:=lj.dn.dr;exact vQ.HF
     have ajk:=xz.out
     have Do:=lj.ut Rb bj (λX=>X.elim (λe=>awZ qG lj.dn.box ah (show P=B from e).symm) (fun⟨ai,ak,e⟩=>D1.eW lj.dn.box ah ai ak e)) (λX=>X.elim (λe=>ajk.DX AC _ rfl (show v.dr=B from e).symm) (fun⟨ai,ak,e⟩=>D1.DX AC ai ak e))
      (λai ak X=>X.elim (λe=>lj.dn.fM.eW qG ah ai ak e) (fun⟨nJ,p5,e⟩=>(D1.gT lj.dn.fM ah) nJ ai p5 ak e)) wa (by subst xB;exact(k5.lY Wl ah (.slice (some (g6,0)) (y.s.n+1) eJ) (j:=k)).lt _ rfl|>.2) ajj
     have iu:=hj.ut lj jZ Rb bj wa;have ly:=I (cK.gE Rb (λx X=>Hn x (bj x X)));have K9:aa (∀y,y∈ys->aH dR w 77 4 cI.cs y.v.a y.v.n y.v.c y.dt):=λz bp=>(Ka z bp).gE Rb (λx X=>Hn x (bj x X))
     have aw3:=I (show ∀x,ub c g D O (yK W g6) x->x<(w:Nat)\/∀ai:Addr,(ch=some ai\/∃y,y∈ys/\y.v.a=some ai)->ai.block≠x from λx X=>by
      have oM:∀x,ub c g D O W x->x<(w:Nat):=λx k=>dG.dn.b5 x (dG.VW x k);rcases X with (k|k)|k
      ·exact .inl (oM x (.inl k))
      ·rcases FR.at_ with z|z
       ·obtain⟨ai,ak,e⟩:=z;exact .inl (oM x (.inl (by rw[show x=g6 from k,<-e];exact Ra ai ak)))
       ·refine .inr (λai Ow e=>?_);have o5:ai.block<(a6:Nat):=Ow.elim (λak=>(cK.lt ai ak).2) (fun⟨r3,uZ,ak⟩=>((Ka r3 uZ).lt ai ak).2);have k:x=g6:=k;omega
      ·exact .inl (oM x (.inr k)))
     rw[xB];replace Do:=I Do;replace iu:=I iu;clear xB Hn aw2 AB At aji Rb dj ajj bj wa AC ajk;refine J0 ?_;intro _;go_wp2;go_ret2;rw[dW.out];exact⟨ch,cF,c2,ys,yK M g6,ub c g D O (yK W g6),rfl,ly,K9,lg,⟨v,bW,g,p,q,D,O,yK W g6,Do,λ_=>Iff.rfl⟩,kc.trans iu,aw3⟩
    ·go_wp2;go_ret2;rw[dW.out];exact⟨ch,cF,c2,ys,M,F,rfl,cK,Ka,lg,⟨v,bW,g,p,q,D,O,W,lj,jZ⟩,kc,λx X=>.inl (dG.dn.b5 x (dG.VW x ((jZ x).1 X)))⟩
def HK{T:Nat}(h:h0 w M F c P aQ)(al:im c)(aK:cM c l T aQ)(pt:c.room<=60000)(aq:n<c.ps.length):
  aS 10 #[P,(n:Int)] w (Zu (et aQ n) w):=by
 obtain⟨v,_,g,p,q,D,O,W,h,hF⟩:=h;have n1:=DW al.tolZ;obtain⟨s,f,a,FM,bk,ak,hs⟩:=h.dn.dr.get (n:=n) aq;have cJ:aa (decide (0<=(n:Int)/\(n:Int)<(c.ps.length:Int))=true):=jf ⟨J,J⟩;have eh:=I FM;have b9:=I bk;have oh:=I (DP (k:=(n:Int)) (uG J J));have H:=I h;have eG:=aL (o:=4) h.dn.box rfl;have nV:Z w (w.alloc lD):=U;have jt:(w.alloc lD).heap[(w:Nat)]?=some (lD:Obj):=e2 rfl;have fZ:=I jt;cases cy:aQ.bN n with
 |up b=>
  have np:mq aQ.bN p n=some (p n):=by unfold mq;rw[cy]
  have ar:=I (show(f (.int .i64 (n:Int))).isSome=true from by rw[hs,np];rfl);have dG:=I (show a=some ⟨p n,0,none⟩ from by rw[ak,np];rfl);have dh:et aQ n=b.st:=wm cy;have yd:sn w M (D n) (O n) c (p n) (q n) b:=by have:=h.dn.ri n aq;rw[cy]at this;exact this
  obtain⟨_,ve⟩:=yd;have fK:=I ((aK.up n b aq cy).1.fz.DM al.tolZ.room);rw[dh];replace ve:=I ve;clear h hF al aK FM bk ak hs np dh cy;go_enter func10,ntmps10;go_wp2_with fail;obtain⟨bh,eX⟩:∃bh,w.alloc lD=bh:=⟨_,rfl⟩;have fa:bh.heap.size=w.heap.size+1:=by subst eX;simp
  rw[eX]at nV jt fZ ⊢;have b3:=I nV;clear eX nV jt;refine(DV (H.dn.ext b3) (n:Int)).mono ?_;rintro e w1⟨rfl,bG⟩;rw[cJ.out];have VZ:=(b3.trans bG).ag eG;replace bG:=I bG;clear eG;go_wp2_with (at_lookup;(refine ajl ?_));refine(auC (ve.ext (b3.trans bG)) fK).mono ?_;rintro e aN⟨cf,au,ps,rfl,HL,bq⟩;have Cy:=bq.ay (bG.ay fZ);replace bq:=I bq;replace HL:=I HL;obtain⟨u0,u1,u2,u3,vn⟩:=C8 Cy;replace Cy:=I Cy;go_wp2;obtain⟨lh,iZ⟩:∃lh,((((aN.setCell (w,0) (ae cf.cX)).setCell (w,1) cf.l).setCell (w,2) cf.p).setCell (w,3) cf.b)=lh:=⟨_,rfl⟩;have g0:=en (en (en (en Cy 0 (ae cf.cX)) 1 cf.l) 2 cf.p) 3 cf.b;have lI:=((((aI.refl (λx=>x=(w:Nat)) aN).setCell (w,0) (.inl rfl) (ae cf.cX)).setCell (w,1) (.inl rfl) cf.l).setCell (w,2) (.inl rfl) cf.p).setCell (w,3) (.inl rfl) cf.b;rw[iZ]at g0 lI;rw[iZ];clear iZ;obtain⟨z0,cZ,z2,z3⟩:=oX g0;refine⟨rfl,_,(by simp[results,results10,go_sem,z0,cZ,z2,z3];rfl),?_⟩;exact⟨cf,au,ps,rfl,((HL.mono (by have:=(b3.trans bG).size;omega)).E4 Cy lI),lI.ext (λx e=>s9) (b3.trans (bG.trans bq))⟩
 |down cp=>
  have np:mq aQ.bN p n=none:=by unfold mq;rw[cy]
  have ar:=I (show(f (.int .i64 (n:Int))).isSome=false from by rw[hs,np];rfl);have dG:=I (show a=none from by rw[ak,np];rfl);have dh:et aQ n=vh cp:=by unfold et;rw[cy];rfl
  have yd:lB w (D n) (q n) (gj (cp.map gi)) (gj (cp.map gi)).length c.room/\IN (cp.map gi):=by have:=h.dn.ri n aq;rw[cy]at this;exact this
  have HH:=aK.down n cp aq cy;obtain⟨di,dI,jF,ib⟩:=ce HH al.tolZ.room;have mt:=I yd.1;have Es:0<(gj (cp.map gi)).length:=by
   have af:=Le (cp.map gi);rw[cx]at af;have an:cp≠ []:=λe=>by
    have aO:=HH.cX;have bt:=HH.zA;rw[e]at bt;have cC:vh cp=kU:=by
     have:nT kU []=some kU:=rfl;rw[this]at bt;rw[e];exact(w9 bt).symm
    rw[cC]at aO;exact absurd aO ah
   have:=List.length_pos_iff.2 an;omega
  have uv:(gj (cp.map gi)).length<=60000:=by have:=yd.1.p3;omega
  have fH:n<v.aU.n:=by rw[h.dn.l3.c8.2.2.neq];simp;omega
  obtain⟨_,o,rW,fR⟩:=h.dn.l3.c8.2.2.get n (by simpa using aq);have rh:=fR 0 _ rfl;rw[jd,E6,QX]at rh;simp only[uo]at rh;have b0:(0:Int)<=(n:Int):=J;have bf:(n:Int)<(v.aU.n:Int):=J;have Bb:=aL (o:=3) h.dn.box rfl;rw[show(#[v.cL,v.ak,v.kp,v.aU,.map (some v.dr),v.fM,v.go]:Array Value)[3]=Value.slice v.aU.a v.aU.n v.aU.c from rfl,rW]at Bb;rw[dh];replace HH:=I HH;replace di:=I di;replace dI:=I dI;replace jF:=I jF;replace rh:=I rh;replace Bb:=I Bb;clear h hF al aK FM bk ak hs np dh cy yd rW fR;go_enter func10,ntmps10;go_wp2_with fail;obtain⟨bh,eX⟩:∃bh,w.alloc lD=bh:=⟨_,rfl⟩;have fa:bh.heap.size=w.heap.size+1:=by subst eX;simp
  rw[eX]at nV jt fZ ⊢;have b3:=I nV;clear eX nV jt;refine(DV (H.dn.ext b3) (n:Int)).mono ?_;rintro e w1⟨rfl,bG⟩;rw[cJ.out];have VZ:=(b3.trans bG).ag eG;have fj:=bG.size;replace bG:=I bG;clear eG;go_wp2_with (at_lookup;(refine ajl ?_));have Qj:=adN 1048576 w1 J;rw[show((1048576:Nat):Int)=1048576 from rfl]at Qj;refine Qj.mono ?_;clear Qj;rintro e _⟨rfl,hQ,bq⟩;have aAV:=(b3.trans (bG.trans bq)).ag Bb;have ajf:=(b3.trans (bG.trans bq)).ag rh;replace bq:=I bq;replace hQ:=I hQ;go_wp2_with fail;refine(adO (D n) (q n) _ _ _ _ (mt.ext (b3.trans (bG.trans bq)))).mono ?_;rintro e a6⟨a3,_,cV,rfl,cK,c0⟩;replace c0:=I c0;replace cK:=I cK;have Tp:=I cK.neq;go_wp2_with fail;refine(adP (λb=>b=(w1:Nat)) (w1:Nat) [] (gj (cp.map gi)) 0 1048576 a3 _ cV a6 (hQ.ext c0) cK.aF (by rw[Tp.out];exact Es) (by have:=Tp.out;rw[pH];omega)).mono ?_;rintro e cB⟨rfl,JY,k8,n3,ajm⟩;have eA:=I (n3.ext (W:=bh) (λx e=>by rw[show x=(w1:Nat)from e];omega) (bG.trans (bq.trans c0)));replace k8:=I k8;have ed:aa (∀x,JY x->(bh:Nat)<=x):=λx k=>(ajm.new x k).elim (λe=>by rw[show x=(w1:Nat)from e];omega) (λz=>by have:=(bq.trans c0).size;omega);clear n3 ajm;go_wp2_with fail;refine(adT JY JY w1 (cp.map gi) 0 1048576 cB k8 dI (λ_ k=>k) k8.b5).mono ?_;rintro e _⟨_,rfl,_,_,vB,o8,aw4⟩;have hi:=I (o8.ext (W:=bh) (λx k=>ed x k) eA);replace vB:=I vB;clear o8 aw4;go_wp2_with fail;refine(adS _ _ _ _ _ _ _ _ _ vB).mono ?_;rintro e c4⟨r7,n6,eJ,aw5,rfl,qj,Mz,jr⟩;replace jr:=I jr;replace qj:=I qj;replace Mz:=I Mz;go_wp2_with fail;refine(afC r7 n6 eJ aw5 cp (vh cp) c4 qj.v Mz di HH.zA jF ib).mono ?_;rintro e dR⟨cf,au,ps,rfl,DA,s8⟩;replace s8:=I s8;replace DA:=I DA;have l2:Z bh (dR.alloc cf):=(hi.trans (jr.trans s8)).alloc _;have Cy:=l2.ay fZ;obtain⟨_,_,_,_,_⟩:=C8 Cy;replace Cy:=I Cy;replace l2:=I l2;go_wp2_with fail;obtain⟨lh,iZ⟩:∃lh,(((((dR.alloc cf).setCell (w,0) (ae cf.cX)).setCell (w,1) cf.l).setCell (w,2) cf.p).setCell (w,3) cf.b)=lh:=⟨_,rfl⟩;have g0:=en (en (en (en Cy 0 (ae cf.cX)) 1 cf.l) 2 cf.p) 3 cf.b;have lI:=((((aI.refl (λx=>x=(w:Nat)) (dR.alloc cf)).setCell (w,0) (.inl rfl) (ae cf.cX)).setCell (w,1) (.inl rfl) cf.l).setCell (w,2) (.inl rfl) cf.p).setCell (w,3) (.inl rfl) cf.b;rw[iZ]at g0 lI;rw[iZ];clear iZ;obtain⟨z0,cZ,z2,z3⟩:=oX g0;refine⟨rfl,_,(by simp[results,results10,go_sem,z0,cZ,z2,z3];rfl),?_⟩;have w5:(w:Nat)<=(c4:Nat):=by have:=(b3.trans (hi.trans jr)).size;exact this
  have DB:=b3.trans l2;exact⟨cf,au,ps,rfl,((DA.ext ((Z.refl dR).alloc _)).mono w5).E4 Cy lI,lI.ext (λx e=>s9) DB⟩
def aw6{T:Nat}(h:h0 w M F c P aQ)(al:im c)(aK:cM c l T aQ)(pt:c.room<=60000)(aq:n<c.ps.length){cp:List e9}(cy:aQ.bN n=.down cp):
  aS 186 #[P,(n:Int)] w (cU (.int .i64 ((et aQ n).ps.length:Nat)) w):=by
 have nb:=I (HK h al aK pt aq);obtain⟨v,_,g,p,q,D,O,W,h,hF⟩:=h;have np:mH c aQ.bN (n:Int)=false:=by
  unfold mH;rw[kN,cy,wV]
 have n1:=DW al.tolZ;change aa _ at h np;clear hF al aK cy;go_enter func186,ntmps186;go_wp2_with fail;refine nb.out.mono ?_;rintro e _⟨cf,_,_,rfl,dh,br⟩;have Du:=I dh.ck.h6;change aa _ at br;have EQ:∀w:aC,(Instr.field 44 (.agg #[ae cf.cX,cf.l,cf.p,cf.b]) 2).run prog w=.ok (.slice cf.p.a cf.p.n cf.p.c) w:=λ_=>by kernel_rfl
 clear dh;go_wp2_with fail;refine(VY (h.out.dn.ext br.out) J (n:Int)).mono ?_;rintro e _⟨rfl,cn⟩;rw[np.out];change aa _ at cn;go_wp2;go_ret;exact⟨by rw[<-Du.out];rfl,U⟩
section
structure wK where
 k:Int
 a:Int
 b:Int
 e:List cI
 f:List T
structure Kb (x:wK):Prop where
 e:∀t,t∈x.e->lx t.n
 f:∀t,t∈x.f->lx t.n
 RZ:x.f.length<=100
 dD:(Lit.int .i64 x.a).wf=true
 dZ:(Lit.int .i64 x.b).wf=true
def D2(x:Int):Nat:=(x % 18446744073709551616).toNat
def Wm(x:Int):D2 x<2 ^ 64:=by unfold D2;omega
def Rc(x:wK):Bool:=decide (x.k=9\/x.k=13\/x.k=14)
def Be(c:bK)(w:ba)(x:wK):Int×ax×ba:=
 if x.k=9 then w.call c x.a (λb=>b.uy x.a) else if x.k=13 then w.call c x.a (λb=>b.sub x.a (D2 x.b) x.f) else w.call c x.a (λb=>b.zv x.a (D2 x.b))
def rj(c:bK)(w:ba)(x:wK)(i:ax):ba:=
 if x.k=1 then Cq c w x.a else if x.k=2 then yF c w x.a x.b
 else if x.k=3 then (if ja c x.a x.b=true then w.drop x.a.toNat x.b.toNat else w)
 else if x.k=4 then (if ja c x.a x.b=true then w.Dm x.a.toNat x.b.toNat else w)
 else if x.k=5 then (if ja c x.a x.b=true then w.Ls x.a.toNat x.b.toNat else w)
 else if x.k=6 then yH c w x.a else if x.k=7 then Cu c w x.a else if x.k=8 then w.round c
 else if x.k=10 then (w.ka c x.a i (λb=>b.wo i x.e)).2
 else if x.k=11 then (w.ka c x.a i (λb=>b.yc i)).2 else if x.k=12 then (w.ka c x.a i (λb=>b.rJ i)).2
 else if x.k=15 then (w.tZ c x.a).2.2 else w
def vE(c:bK)(w:ba)(x:wK)(i:ax):Int:=
 if x.k=10 then (w.ka c x.a i (λb=>b.wo i x.e)).1 else if x.k=11 then (w.ka c x.a i (λb=>b.yc i)).1 else (w.ka c x.a i (λb=>b.rJ i)).1
def rZ(c:bK)(w:ba)(x:wK)(i:ax)(l:List hE):List hE:=
 if x.k=10 then vk l (vE c w x i) i (λd=> {d with aX:=d.aX++[x.e]}) else if x.k=11 then vk l (vE c w x i) i (λd=> {d with vi:=true})
 else if x.k=12 then vk l (vE c w x i) i (λd=> {d with AJ:=true}) else l
def M0(ids:List ax)(b:Int):ax:=if 0<ids.length/\0<=b then ids.getD (b.toNat % ids.length) ⟨0,0,0⟩ else ⟨0,0,0⟩
structure rk where
 w:ba
 l:List hE
 ids:List ax
def rk.step(c:bK)(p:rk)(x:wK):rk:=
 if Rc x=true then ⟨(Be c p.w x).2.2,if x.k=9/\(Be c p.w x).1=0 then p.l++[⟨(Be c p.w x).2.1,x.a,[],false,false⟩] else p.l,p.ids++[(Be c p.w x).2.1]⟩
 else ⟨rj c p.w x (M0 p.ids x.b),rZ c p.w x (M0 p.ids x.b) p.l,p.ids⟩
section
variable {c:bK}{l:List hE}{K:Nat}{w:ba}
def cM.dp{lC:Nat}(h:cM c l K w)(hY:K<=lC):cM c l lC w:=
 ⟨λn b aq aj=>⟨(h.up n b aq aj).1,by have:=(h.up n b aq aj).2;omega⟩,h.down,λn aq=>by have:=h.cX n aq;omega,h.cN,h.aB,h.lf,h.x8,h.len,h.wk,h.zB⟩
def aw7(h:cM c l K w)(k n:Nat):cM c l K (w.O2 k n):=⟨h.up,h.down,h.cX,h.cN,h.aB,h.lf,h.x8,h.len,h.wk,h.zB⟩
def ajn(h:cM c l K w)(cl:Int):cM c l K (w.tZ c cl).2.2:=by
 unfold ba.tZ;split
 ·exact h
 ·split
  ·exact h
  ·split
   ·exact h
   ·exact aw7 h _ _
def aw8{a b:Int}(h:ja c a b=true):b.toNat<c.ps.length:=by
 unfold ja nr at h;simp only[jS,jT]at h;omega
def ajo{u:Nat}(aj:u<2 ^ 64){f:List T}(bk:∀t,t∈f->lx t.n)(b:aT):(∃t:gy,t.a=true/\t.e.k≠1/\t.e.id=b.gQ/\(dY b.gQ->0<=cl/\cl<32->gZ t.e)/\b.sub cl u f=b.pL (oN b.tx t))\/(b.sub cl u f).1≠0:=by
 unfold aT.sub GF;by_cases af:jJ b.tx b.gQ<b.tx.length
 ·right;rw[bc af];unfold aT.pL;simp
 ·rw[aV af];cases al:nE f with
  |false=>
   right;rw[bc rfl];unfold aT.pL;simp
  |true=>
   left;rw[aV ah];refine⟨_,rfl,?_,rfl,λaK hv=>⟨aK,hv,?_,.inr (.inl ⟨rfl,rfl,⟨al,bk⟩⟩)⟩,rfl⟩
   ·show(2:Int)≠1;decide
   ·show nO (u:Nat);unfold nO;omega
def aw9{u:Nat}(aj:u<2 ^ 64)(b:aT):(∃t:gy,t.a=true/\t.e.k≠1/\t.e.id=b.gQ/\(dY b.gQ->0<=cl/\cl<32->gZ t.e)/\b.zv cl u=b.pL (oN b.tx t))\/(b.zv cl u).1≠0:=by
 left;refine⟨_,rfl,?_,rfl,λaK hv=>⟨aK,hv,?_,.inr (.inr ⟨rfl,rfl,rfl⟩)⟩,rfl⟩
 ·show(3:Int)≠1;decide
 ·show nO (u:Nat);unfold nO;omega
def axa(al:im c)(h:cM c l K w)(hY:K<200)(x:wK)(X:Kb x):cM c (if x.k=9/\(Be c w x).1=0 then l++[⟨(Be c w x).2.1,x.a,[],false,false⟩] else l) (K+1) (Be c w x).2.2:=by
 unfold Be;by_cases o5:x.k=9
 ·simp only[o5,if_true,true_and];exact aeD al h J x.a rfl
 ·simp only[o5,if_false,false_and];split
  ·exact Zj al h J x.a (λb=>ajo (Wm _) X.f b)
  ·exact Zj al h J x.a (λb=>aw9 (Wm _) b)
def axb(al:im c)(h:cM c l K w)(hY:K<200)(x:wK)(X:Kb x)(i:ax):cM c (rZ c w x i l) (K+1) (rj c w x i):=by
 have hm:∀{l:List hE}{w:ba},cM c l K w->cM c l (K+1) w:=λh=>h.dp J;by_cases uM:x.k=10
 ·unfold rZ rj vE;simp only[uM];simp;exact hm (aeQ al h x.a i x.e X.e rfl)
 by_cases D3:x.k=11
 ·unfold rZ rj vE;simp only[D3];simp;exact hm (aeS al h x.a i rfl)
 by_cases FT:x.k=12
 ·unfold rZ rj vE;simp only[FT];simp;exact hm (aqE al h x.a i rfl)
 rw[show rZ c w x i l=l from by unfold rZ;rw[aV uM,aV D3,aV FT]];unfold rj;rw[aV uM,aV D3,aV FT];split
 ·unfold Cq;split
  ·rename_i k;exact hm (Zf al.tolZ h J)
  ·exact hm h
 split
 ·unfold yF;split
  ·rename_i k;exact hm (Zh al.tolZ h _ (aw8 k))
  ·exact hm h
 split
 ·split
  ·exact hm (aqo h _ _)
  ·exact hm h
 split
 ·split
  ·exact hm (aqq h _ _)
  ·exact hm h
 split
 ·split
  ·exact hm (aqp h _ _)
  ·exact hm h
 split
 ·unfold yH;split
  ·rename_i k;exact hm (Zn h J)
  ·exact hm h
 split
 ·unfold Cu;split
  ·rename_i k;exact aeX al.tolZ h J hY
  ·exact hm h
 split
 ·exact hm (TW al.tolZ h)
 split
 ·exact hm (ajn h _)
 ·exact hm h
def rk.axc{p:rk}(al:im c)(h:cM c p.l K p.w)(hY:K<200)(x:wK)(X:Kb x):cM c (p.step c x).l (K+1) (p.step c x).w:=by
 unfold rk.step;split
 ·exact axa al h hY x X
 ·exact axb al h hY x X _
end
section
variable {c:bK}{w:ba}
def Fd{β:Type}{f:ba->β->ba}(bk:∀w x,(f w x).cur=w.cur)(l:List β):∀w:ba,(l.foldl f w).cur=w.cur:=by
 induction l with
 |nil=>intro w;rfl
 |cons x l cY=>intro w;rw[ry,cY,bk]
def axd(a b:Nat)(m:dv):(w.send c a b m).cur=w.cur:=by unfold ba.send;split<;>rfl
def ajp(n:Nat):(w.tick c n).cur=w.cur:=by
 unfold ba.tick;split
 ·rfl
 ·unfold ba.BP;rw[Fd (λw o=>axd _ _ _)];rfl
def axe(a b:Nat)(m:dv):(w.EZ c a b m).cur=w.cur:=by unfold ba.EZ;split<;>rfl
def ajq(a b:Nat):(w.xm c a b).cur=w.cur:=by
 unfold ba.xm;split
 ·rfl
 ·rw[axe];rfl
def ajr(a b:Nat):∀(f:Nat) (w:ba),(ba.drain c f w a b).cur=w.cur
 |0,_=>rfl
 |f+1,w=>by
  rw[ba.drain]
  split
  ·rfl
  ·rw[ajr a b f,ajq]
def axf(n:Nat):(w.mW c n).cur=w.cur:=by
 unfold ba.mW;split
 ·rfl
 ·unfold ba.Y3;rw[Fd (λw d=>by split;rfl;exact ajr _ _ _ _),ajp]
def Wn:(w.round c).cur=w.cur:=by unfold ba.round;exact Fd (λw d=>axf d) _ _
def axg(n:Nat):(w.pe n).cur=w.cur:=by unfold ba.pe;split<;>rfl
def axh(n:Nat):(w.sU n).cur=w.cur:=by unfold ba.sU;split<;>rfl
def axi(a b:Nat):(w.Dm a b).cur=w.cur:=by unfold ba.Dm;split<;>rfl
def Wo(cl:Int)(f:aT->Int×aT):(w.call c cl f).2.2.cur=w.cur:=by
 unfold ba.call;split
 ·rfl
 ·split
  ·rfl
  ·split<;>rfl
def Re(cl:Int)(i:ax)(f:aT->Int×aT):(w.ka c cl i f).2.cur=w.cur:=by
 unfold ba.ka;split
 ·rfl
 ·split
  ·rfl
  ·split<;>rfl
def ajs{cl:Int}:∀(l:List bb) (n:Nat) (ei:List nY),(wi cl n ei l).2<=n+l.length
 | [],n,_=>bJ _
 |d::r,n,ei=>by
  unfold wi
  split
  ·have:=ajs (cl:=cl) r (n+1) (zs ei d)
   rw[me];omega
  ·rw[me];show n+1<=_;omega
def axj{l:List hE}{K:Nat}(al:im c)(h:cM c l K w)(pt:c.room<=60000)(js:∀k,w.cur k<=1000000)(cl:Int):∀k,(w.tZ c cl).2.2.cur k<=1000000:=by
 intro k;unfold ba.tZ;split
 ·exact js k
 ·rename_i n aq;split
  ·exact js k
  ·rename_i b ad;split
   ·exact js k
   ·rename_i hle;have af:=ajs (cl:=cl) (b.st.au.drop (w.cur cl.toNat)) (w.cur cl.toNat) (pK (b.st.au.take (w.cur cl.toNat)));have an:=((h.up n b (al.at_ aq).1 ad).1.fz).aBr pt;rw[CM]at af;show(if k=cl.toNat then _ else _)<=_;split
    ·unfold aT.Lr;omega
    ·exact js k
def rk.cur{p:rk}{l:List hE}{K:Nat}(al:im c)(h:cM c l K p.w)(pt:c.room<=60000)(js:∀k,p.w.cur k<=1000000)(x:wK):∀k,(p.step c x).w.cur k<=1000000:=by
 unfold rk.step;split
 ·show ∀k,(Be c p.w x).2.2.cur k<=_;unfold Be;split
  ·rw[Wo];exact js
  ·split<;>(rw[Wo];exact js)
 ·show ∀k,(rj c p.w x _).cur k<=_;unfold rj;by_cases bH:x.k=1
  ·rw[bc bH];unfold Cq;split
   ·rw[ajp];exact js
   ·exact js
  rw[aV bH];by_cases b1:x.k=2
  ·rw[bc b1];unfold yF;split
   ·rw[ajq];exact js
   ·exact js
  rw[aV b1];by_cases dJ:x.k=3
  ·rw[bc dJ];split<;>exact js
  rw[aV dJ];by_cases eG:x.k=4
  ·rw[bc eG];split
   ·rw[axi];exact js
   ·exact js
  rw[aV eG];by_cases h4:x.k=5
  ·rw[bc h4];split<;>exact js
  rw[aV h4];by_cases pN:x.k=6
  ·rw[bc pN];unfold yH;split
   ·rw[axg];exact js
   ·exact js
  rw[aV pN];by_cases qE:x.k=7
  ·rw[bc qE];unfold Cu;split
   ·rw[axh];exact js
   ·exact js
  rw[aV qE];by_cases qF:x.k=8
  ·rw[bc qF];rw[Wn];exact js
  rw[aV qF];by_cases qz:x.k=10
  ·rw[bc qz];rw[Re];exact js
  rw[aV qz];by_cases wv:x.k=11
  ·rw[bc wv];rw[Re];exact js
  rw[aV wv];by_cases xo:x.k=12
  ·rw[bc xo];rw[Re];exact js
  rw[aV xo];by_cases HM:x.k=15
  ·rw[bc HM];exact axj al h pt js _
  ·rw[aV HM];exact js
end
end
def ajt{l:List α}{p:α->Prop}(hk:k<l.length)(h:∀(j:Nat) (aD:j<l.length),j<k->p l[j])(aY:p l[k]):∀(j:Nat) (aD:j<l.length),j<k+1->p l[j]:=λj aD af=>by
 rcases Bh j k with z|z
 ·exact h j aD z
 ·obtain rfl:j=k:=J;exact aY
def axk(cE ch:bl)(da cF c1 c2:Nat)(xs ys:List eu)(w:aC)(bG:vO w cE da c1 xs)(rB:vO w ch cF c2 ys)(HN:xs.map (·.dt)=ys.map (·.dt)):
  aS 26 #[ao cE da c1,ao ch cF c2] w (cU (.bool true) w):=by
 have Af:xs.length=ys.length:=by rw[<-cx (f:=(·.dt)),HN,cx]
 have an:=rB.aF.neq;obtain rfl:=bG.aF.neq;rw[<-Af]at an;subst an;have hm:=bG.aF.max;have a1:=bG.aF.len;unfold maxLen at hm;replace bG:=I bG;replace rB:=I rB;replace HN:=I HN;replace Af:=I Af;go_enter func26,ntmps26;go_wp2_with fail;go_loopg [5] (xs.length) (λg st wr=>∃k:Nat,g+k=xs.length/\st=.int .i64 k/\aa (Z w wr));case atStart=>exact⟨0,J,rfl,Z.refl _⟩
 case round=>
  obtain⟨k,_,rfl,X⟩:=hrel;by_cases hk:k<xs.length
  ·have jV:k<ys.length:=by rw[<-Af.out];exact hk
   obtain⟨b,o,rfl,al⟩:=bG.aF.get k hk;have d0:=Ep (w:=wr) (b:=b) (o:=o+k*1) (x:=xs[k]) (λj v aD=>X.ag (al j v aD));obtain⟨b',ll,rfl,qS⟩:=rB.aF.get k jV;have lP:=Ep (w:=wr) (b:=b') (o:=ll+k*1) (x:=ys[k]) (λj v aD=>X.ag (qS j v aD));rw[jd]at d0 lP;clear al qS;refine jU ?_;intro b0 bf
   have hf:=I (show xs[k].dt=ys[k].dt by
    have af:(xs.map (·.dt))[k]? =(ys.map (·.dt))[k]? :=by rw[HN.out]
    exact aju)
   go_wp2_with fail;go_region_held3 (λw'=>w'.cell? (b,o+k)=some ↑xs[k].v/\w'.cell? (b',ll+k)=some ↑ys[k].v) (first|(go_split_ands;refine⟨?_,?_⟩<;>exact(Hid.out hy).ag (by assumption))|go_keep) (first|(go_at_call 64;refine(abv _ _ _ _ _ _ xs[k].dt _ ((bG.dt xs[k] (cT hk)).ext U) (by rw[hf.out];exact(rB.dt ys[k] (cT jV)).ext U)).mono ?_;rintro e _⟨rfl,hy⟩;replace hy:=I hy));exact Ia
  ·go_wp2;go_ret;exact⟨rfl,U⟩
def Wp(cE ch:bl)(da cF c1 c2:Nat)(xs ys:List bU)(w:aC)(bG:iG w cE da c1 xs)(rB:iG w ch cF c2 ys)(HN:xs.map (·.d)=ys.map (·.d)):
  aS 15 #[ao cE da c1,ao ch cF c2] w (cU (.bool true) w):=by
 have Af:xs.length=ys.length:=by rw[<-cx (f:=(·.d)),HN,cx]
 have an:=rB.aF.neq;obtain rfl:=bG.aF.neq;rw[<-Af]at an;subst an;have hm:=bG.aF.max;have a1:=bG.aF.len;unfold maxLen at hm;change aa _ at bG rB HN Af;go_enter func15,ntmps15;go_wp2_with fail;go_loopg [5,6] (xs.length) (λg st _ wr=>∃k:Nat,g+k=xs.length/\st=.int .i64 k/\aa (Z w wr));case atStart=>exact⟨0,J,rfl,Z.refl _⟩
 case round=>
  obtain⟨k,_,rfl,X⟩:=hrel;by_cases hk:k<xs.length
  ·have jV:k<ys.length:=by rw[<-Af.out];exact hk
   obtain⟨b,o,rfl,al⟩:=bG.aF.get k hk;obtain⟨b',ll,rfl,qS⟩:=rB.aF.get k jV;have M1:=nh (w:=wr) (b:=b) (o:=o+k*8) (x:=xs[k].x) (λj v aD=>X.ag (al j v aD));have kj:=nh (w:=wr) (b:=b') (o:=ll+k*8) (x:=ys[k].x) (λj v aD=>X.ag (qS j v aD));change aa _ at M1 kj;clear al qS;refine jU ?_;intro b0 bf
   have hf:=I (show xs[k].d=ys[k].d by
    have af:(xs.map (·.d))[k]? =(ys.map (·.d))[k]? :=by rw[HN.out]
    exact aju)
   go_wp2_with fail;refine sX (Z wr) (λbd=>?_);refine AU ?_;refine de 3 ?_ (hy:=λw fh=>by(try dsimp only at fh);(obtain⟨dV,q1,dk,eP,gV,mO,vV,Br⟩:=M1;have z0:=fh.ag dV;have cZ:=fh.ag q1;have z2:=fh.ag dk;have z3:=fh.ag eP;have z4:=fh.ag gV;have z5:=fh.ag mO;have gx:=fh.ag vV;have fE:=fh.ag Br);exact A2);refine Jr ?_;refine de 7 ?_ (hy:=λw fh=>by(try dsimp only at fh);(obtain⟨dV,q1,dk,eP,gV,mO,vV,Br⟩:=kj;have z0:=fh.ag dV;have cZ:=fh.ag q1;have z2:=fh.ag dk;have z3:=fh.ag eP;have z4:=fh.ag gV;have z5:=fh.ag mO;have gx:=fh.ag vV;have fE:=fh.ag Br);exact A2);refine h9 8 λK aE=>?_;go_simp;go_at_call 47;refine(al6 xs[k].x ys[k].x xs[k].d _ ((bG.ck xs[k] (cT hk)).ext U) (by rw[hf.out];exact(rB.ck ys[k] (cT jV)).ext U)).mono ?_;rintro e w1⟨rfl,ad⟩;have hy:aa (Z wr w1):=Z.trans U ad;clear ad;refine aE _ _ AM λbd=>ej ?_;refine de 9 ?_;refine og bQ ?_ _;exact Ia
  ·go_wp2;go_ret;exact⟨rfl,U⟩
def ajv(a b:bl)(n m cap dE:Nat)(xs:List ax)(w:aC)(ar:a7 w 3 ax.cs a n cap xs)(cw:a7 w 3 ax.cs b m dE xs):
  aS 16 #[ao a n cap,ao b m dE] w (cU (.bool true) w):=by
 obtain rfl:=ar.neq;obtain rfl:=cw.neq;refine td ?_;intro hm a1;change aa _ at ar cw;go_enter func16,ntmps16;go_wp2_with fail;go_loopg [5] (xs.length) (λg st wr=>∃k:Nat,g+k=xs.length/\st=.int .i64 k/\aa (Z w wr));case atStart=>exact⟨0,J,rfl,Z.refl _⟩
 case round=>
  obtain⟨k,_,rfl,X⟩:=hrel;by_cases hk:k<xs.length
  ·obtain⟨bf,ug,rfl,al⟩:=ar.get k hk;obtain⟨dA,o2,rfl,qS⟩:=cw.get k hk;have af:=Aj (w:=wr) (b:=bf) (o:=ug+k*3) (x:=xs[k]) (λj v aD=>X.ag (al j v aD));have an:=Aj (w:=wr) (b:=dA) (o:=o2+k*3) (x:=xs[k]) (λj v aD=>X.ag (qS j v aD));clear al qS;refine jU ?_;intro b0 bf;have heq:=al3 xs[k].b xs[k].l xs[k].s;obtain⟨_,_,_⟩:=af;obtain⟨_,_,_⟩:=an;go_wp2_with fail;go_quiet (fail);exact Ia
  ·go_wp2;go_ret;exact⟨rfl,U⟩
def axl{s t:iJ}{d e:ew}{au ps oR ns:List bU}(H1:q6 w s d au ps)(dg:q6 w t e oR ns)(a1:d.au=e.au)(aY:d.ps=e.ps)(bn:d.aB=e.aB)(eV:d.l=e.l):
  aS 13 #[s,t] w λr w'=>r=.returned (.bool true)/\Z w w':=by
 have axm:=I (show s.cX=t.cX by rw[H1.cX,dg.cX,eV]);have bg:=I (H1.jI.trans (a1.trans dg.jI.symm));have b8:=I (H1.kV.trans (aY.trans dg.kV.symm));have b3:Z w ((w.alloc s).alloc t):=U;have l4:=I (show((w.alloc s).alloc t).heap[(w:Nat)]?=some (s:Obj)from gA);have qD:=I (show((w.alloc s).alloc t).heap[(w:Nat)+1]?=some (t:Obj)from gA);replace b3:=I b3;replace H1:=I H1;replace dg:=I dg;replace bn:=I bn;clear a1 aY eV;go_enter func13,ntmps13;go_wp2_with fail;obtain⟨bh,eX⟩:∃bh,(w.alloc s).alloc t=bh:=⟨_,rfl⟩;rw[eX]at b3 l4 qD;try rw[eX]
 clear eX;obtain⟨-,cE,ch,a3⟩:=oX l4;have a0:=aL (o:=0) l4 rfl;obtain⟨-,c1,c2,cV⟩:=oX qD;have cO:=aL (o:=0) qD rfl;refine(Wp _ _ _ _ _ _ au oR _ (H1.l.ext b3) (dg.l.ext b3) bg).mono ?_;rintro r _⟨rfl,bz⟩;replace bz:=I bz;replace a0:=bz.ag a0;replace cE:=bz.ag cE;replace ch:=bz.ag ch;replace a3:=bz.ag a3;replace cO:=bz.ag cO;replace c1:=bz.ag c1;replace c2:=bz.ag c2;replace cV:=bz.ag cV;go_wp2_with fail;refine(Wp _ _ _ _ _ _ ps ns _ (H1.p.ext (b3.trans bz)) (dg.p.ext (b3.trans bz)) b8).mono ?_;rintro r _⟨rfl,bq⟩;replace bq:=I bq;replace a0:=bq.ag a0;replace cE:=bq.ag cE;replace ch:=bq.ag ch;replace a3:=bq.ag a3;replace cO:=bq.ag cO;replace c1:=bq.ag c1;replace c2:=bq.ag c2;replace cV:=bq.ag cV;go_wp2_with fail;refine(ajv _ _ _ _ _ _ d.aB _ (H1.b.ext (b3.trans (bz.trans bq))) (by rw[bn.out];exact dg.b.ext (b3.trans (bz.trans bq)))).mono ?_;rintro r _⟨rfl,c0⟩;replace c0:=I c0;replace a0:=c0.ag a0;replace cE:=c0.ag cE;replace ch:=c0.ag ch;replace a3:=c0.ag a3;replace cO:=c0.ag cO;replace c1:=c0.ag c1;replace c2:=c0.ag c2;replace cV:=c0.ag cV;rw[axm.out]at a0;go_wp2;go_ret;exact⟨rfl,U⟩
def Cz(n:Nat)(hs:List Int):Bool:=decide (1<=hs.length/\hs.length<=32)&&hs.all (λh=>decide (0<=h/\h<(n:Int)))
def axn{dd fv aq al:Nat}{cL ak:bl}{ps:List Int}(xA:a7 w 1 dP cL gJ fv ps)(MS:a7 w 1 dP ak aq al hs)(yL:j8 ps=true)(zM:ps.length<=16)(Cd:dd<ps.length)(We:hs.length<=32)(ajw:Cz ps.length hs=false):
  aS 66 #[(dd:Int),ao cL gJ fv,ao ak aq al,q] w (cU (.tuple #[.pointer none,bo 1]) w):=by
 obtain rfl:=xA.neq;obtain rfl:=MS.neq;have ve:hs.length=0\/¬∀(k:Nat) (hk:k<hs.length),0<=hs[k]/\hs[k]<(ps.length:Int):=by
  rcases C7 hs.length with z|z
  ·exact .inl z
  ·refine .inr (λwu=>?_);have:Cz ps.length hs=true:=by
    unfold Cz;rw[jS,Ad];refine⟨jf ⟨z,We⟩,λx X=>?_⟩;obtain⟨k,hk,rfl⟩:=T6.1 X;exact jf (wu k hk)
   rw[ajw]at this;cases this
 replace ve:=I ve;replace xA:=I xA;replace MS:=I MS;replace yL:=I yL;clear ajw;go_enter func66,ntmps66;go_wp2_with fail;have b3:Z w (w.alloc (.cells #[ao cL ps.length fv] 22)):=U;have fZ:(w.alloc (.cells #[ao cL ps.length fv] 22)).heap[(w:Nat)]?=some (.cells #[ao cL ps.length fv] 22):=e2 rfl;obtain⟨bh,eX⟩:∃bh,w.alloc (.cells #[ao cL ps.length fv] 22)=bh:=⟨_,rfl⟩;have fa:(bh:Nat)=(w:Nat)+1:=by subst eX;simp
 rw[eX]at b3 fZ ⊢;replace b3:=I b3;replace fZ:=I fZ;clear eX fa;refine(Li cL ps.length fv ps _ (xA.ext b3)).mono ?_;rintro e _⟨rfl,bz⟩;rw[yL.out];have DI:Dj true=0:=rfl;rw[DI];replace bz:=I bz;clear DI;go_wp2_with fail;refine(Wc (dd:Int) ((bz.ay fZ)) J).mono ?_;rintro e _⟨rfl,cn⟩;rw[show decide ((0:Int)<=dd/\(dd:Int)<ps.length)=true from jf ⟨J,J⟩];have bq:=I (bz.trans cn);clear cn;by_cases bp:hs.length=0
 ·go_wp2_with fail;all_goals (first|(exfalso;omega)|skip)
  go_ret2;exact⟨rfl,U⟩
 ·go_wp2_with fail;go_loopg [13,43] (hs.length) (λg bw dS wr=>∃k:Nat,g+k=hs.length/\dS=.int .i64 (k:Int)/\aa (∀(j:Nat) (aD:j<hs.length),j<k->0<=hs[j]/\hs[j]<(ps.length:Int))/\aa (Z bh wr));case atStart=>exact⟨0,J,rfl,(λj aD h=>absurd h J),bq⟩
  case round=>
   obtain⟨k,_,rfl,wu,X⟩:=hrel;by_cases hk:k<hs.length
   ·obtain⟨_,o,rfl,fR⟩:=MS.get k hk;have d0:=Bo (x:=hs[k]) fR;rw[jd]at d0;replace d0:=(b3.trans X).ag d0;have b0:(0:Int)<=(k:Int):=J;have bf:(k:Int)<(hs.length:Int):=J;clear fR;go_wp2_with fail;refine(Wc hs[k] (X.ay fZ) J).mono ?_;rintro e _⟨rfl,eA⟩;replace eA:=I eA;by_cases nz:(0:Int)<=hs[k]/\hs[k]<(ps.length:Int)
    ·rw[jf nz];go_wp2;go_roundg (gk - 1);case measure=>omega
     case rel=>exact⟨k+1,J,by go_num,(show ∀(j:Nat) (aD:j<hs.length),j<k+1->0<=hs[j]/\hs[j]<(ps.length:Int)from ajt (p:=λx=>0<=x/\x<(ps.length:Int)) hk wu nz),X.trans eA⟩
    ·rw[je nz];go_wp2;go_ret2;exact⟨rfl,U⟩
   ·exact absurd (ve.resolve_left bp) (λh=>h (λj aD=>wu j aD J))
section
section
variable {P:Program}{ops:Array Oper}{Q:Exit->Act->World->Prop}{md:Region.Mode}{S:World->Prop}
def ajx(n:Nat)(m:Array Bool->Nat)(k0:Array Bool->Act->aC->Prop)(hs:∀l a w,k0 l a w->m l≠0->Region.ready md ops l≠ []/\∀i∈Region.ready md ops l,wpOp P ops Q i (λga w'=>S w'/\k0 (l.setIfInBounds i true) ga w'/\m (l.setIfInBounds i true)+1=m l) a w)(he:∀l a w,k0 l a w->m l=0->wpAnyH P md ops Q S n l a w):
  ∀(k:Nat) (l:Array Bool) (a:Act) (w:aC),m l=k->k0 l a w->wpAnyH P md ops Q S (n+k) l a w
 |0,l,a,w,hm,h=>he l a w h hm
 |k+1,l,a,w,hm,h=>by
  obtain⟨af,an⟩:=hs l a w h J;exact⟨λe=>absurd e af,λi aK=>wpOp_mono (λga w' q=>⟨q.1,ajx n m k0 hs he k _ ga w' J q.2.1⟩) (an i aK)⟩
end
end
section
def axo(v:Value)(n:Nat):(madeCells #[v] n).toList=List.replicate n v:=by
 apply Sf
 ·rw[Array.length_toList,size_madeCells,List.length_replicate]
 ·intro i af _;rw[Array.getElem_toList,List.getElem_replicate];simp[madeCells,Nat.mod_one]
def axp{c:α->List Value}{y:α}{v:Value}(hy:c y= [v])(n:Nat):(List.replicate n y).flatMap c=List.replicate n v:=by
 induction n with
 |zero=>rfl
 |succ n cY=>rw[List.replicate_succ,ny,cY,hy,List.replicate_succ];rfl
def ajy{c:α->List Value}{P:Program}{w:aC}{o:Oper}{a:Act}{K:Act->aC->Prop}{Q:Exit->Act->aC->Prop}(l:Operand)(t e:TypeId)(aM:o.op=.makeSlice t l l){i:TypeInfo}{z:Value}{bytes:Nat}(bm:P.underlying t=some (.slice e))(aK:P.info? e=some i)(bp:i.zero=some z)(hs:i.size=1)(wS:i.bytes=bytes)(axq:z.cells=#[z])(a1:a.eval l=.int .i64 (n:Int))(aq:n<=1000)(ad:bytes<=1000)(y:α)(hy:c y= [z])(hw:∀y,(c y).length=1)(h:∀g w',aH w' w.heap.size e 1 c (some ⟨g,0,none⟩) n n (List.replicate n y)->Z w w'->K (a.put o.dst (.slice (some ⟨g,0,none⟩) n n)) w'):Oper.wp P o a w K Q:=by
 have G7:i.bytes*n<=1000*1000:=by rw[wS];exact Nat.mul_le_mul ad aq
 obtain⟨w',az,p6,bC⟩:=run_makeSlice_full (P:=P) w w t e i z 1 bm aK bp hs .i64 .i64 n J J Ix (bJ _);rw[jd,axq,axo,<-axp hy]at p6;unfold Oper.wp;simp[execOp,aM,a1,az,Result.andThen];exact h _ w' ⟨p6,by simp,hw⟩ ((Z.refl w).grown bC (λk e=>by cases e))
def axr{P:Program}{ops:Array Oper}{Q:Exit->Act->aC->Prop}{md:Region.Mode}{S:ye}(n k:Nat)(m:Array Bool->Nat)(k0:Act->Array Bool->Act->aC->Prop){f:Nat}{l:Array Bool}{a:Act}{w:aC}(bk:f=n+k)(hm:m l=k)(aZ:k0 a l a w)(hs:∀l' ga w',k0 a l' ga w'->m l'≠0->Region.ready md ops l'≠ []/\∀i∈Region.ready md ops l',wpOp P ops Q i (λaxs ey=>S ey/\k0 a (l'.setIfInBounds i true) axs ey/\m (l'.setIfInBounds i true)+1=m l') ga w')(he:∀l' ga w',k0 a l' ga w'->m l'=0->wpAnyH P md ops Q S n l' ga w'):wpAnyH P md ops Q S f l a w:=by
 rw[bk];exact ajx n m (k0 a) hs he k l a w hm aZ
def vF(w:World)(base:Nat)(e:TypeId)(c:α->List Value)(xs:List α)(u:Value):Prop:=∃aA n k,u=.slice aA n k/\aH w base e 1 c aA n k xs
def vF.ext{w w':aC}{c:α->List Value}{xs:List α}(h:vF w base e c xs u)(X:Z w w'):vF w' base e c xs u:=let ⟨aA,n,k,af,an⟩:=h;⟨aA,n,k,af,an.ext X⟩
def M3(u v:Value):Prop:=∀(a b:Addr) (n k m j:Nat),u=.slice (some a) n k->v=.slice (some b) m j->a.block≠b.block
def vF.gL{β:Type}{w w':aC}{tc:TypeId}{c:α->List Value}{pY:β->List Value}{xs:List α}{ys:List β}{v:Value}(h:vF w base e c xs u)(k:vF w' w tc pY ys v):M3 u v:=λa b n j m i aj bw=>by
 obtain⟨_,_,_,rfl,an⟩:=h;obtain⟨_,_,_,rfl,dJ⟩:=k;cases aj;cases bw;have:=(an.lt _ rfl).2;have:=(dJ.lt _ rfl).1;omega
def M3.symm{v:Value}(h:M3 u v):M3 v u:=λa b n k m j aj bw e=>h b a m j n k bw aj e.symm
def Rf(l:Array Bool):Nat:=(if l.getD 1 true then 0 else 1)+(if l.getD 3 true then 0 else 1)+(if l.getD 4 true then 0 else 1)+(if l.getD 7 true then 0 else 1)+(if l.getD 10 true then 0 else 1)
def Rg(bf gh gm hG ji:Bool):Array Bool:=#[true,bf,true,gh,gm,true,true,hG,true,true,ji,false,false,false]
structure uc (bh w:World) (ps hs:List Int) (bf gh gm hG ji:Bool) (u22 u24 u25 u28 u31:Value):Prop where
 ext:Z bh w
 p:bf=true->vF w bh.heap.size 3 dP ps u22
 h:gh=true->vF w bh.heap.size 3 dP hs u24
 m:gm=true->∃dr,u25=.map (some dr)/\bh.heap.size<=dr/\fp w prog 3 dr 0 0 (λ_=>none)
 fM:hG=true->vF w bh.heap.size 3 dP (List.replicate hs.length 0) u28
 go:ji=true->vF w bh.heap.size 133 mG.cs (List.replicate hs.length ⟨⟨none,0,0⟩⟩) u31
 lP:bf=true->hG=true->M3 u22 u28
 jE:gh=true->hG=true->M3 u24 u28
section
variable {bh w w':World}{ps hs:List Int}{bf gh gm hG ji:Bool}{u22 u24 u25 u28 u31:Value}
def vF.mono{aBw:Nat}{c:α->List Value}{xs:List α}(h:vF w base e c xs u)(ad:aBw<=base):vF w aBw e c xs u:=let ⟨aA,n,k,af,an⟩:=h;⟨aA,n,k,af,an.mono ad⟩
def uc.dp(h:uc bh w ps hs bf gh gm hG ji u22 u24 u25 u28 u31)(X:Z w w'):uc bh w' ps hs bf gh gm hG ji u22 u24 u25 u28 u31:=
 ⟨h.ext.trans X,λe=>(h.p e).ext X,λe=>(h.h e).ext X,λe=>let ⟨dr,bH,b1,dJ⟩:=h.m e;⟨dr,bH,b1,dJ.ext X⟩,λe=>(h.fM e).ext X,λe=>(h.go e).ext X,h.lP,h.jE⟩
def uc.gM(h:uc bh w ps hs bf gh gm hG ji u22 u24 u25 u28 u31)(X:Z w w')(k:vF w' w 3 dP ps u):uc bh w' ps hs true gh gm hG ji u u24 u25 u28 u31:=
 let m:=h.dp X;⟨m.ext,λ_=>k.mono h.ext.size,m.h,m.m,m.fM,m.go,λ_ e=>((h.fM e).gL k).symm,m.jE⟩
def uc.oG(h:uc bh w ps hs bf gh gm hG ji u22 u24 u25 u28 u31)(X:Z w w')(k:vF w' w 3 dP hs u):uc bh w' ps hs bf true gm hG ji u22 u u25 u28 u31:=
 let m:=h.dp X;⟨m.ext,m.p,λ_=>k.mono h.ext.size,m.m,m.fM,m.go,m.lP,λ_ e=>((h.fM e).gL k).symm⟩
def uc.aBs(h:uc bh w ps hs bf gh gm hG ji u22 u24 u25 u28 u31)(X:Z w w'){dr:Nat}(k:fp w' prog 3 dr 0 0 (λ_=>none))(ad:(w:Nat)<=dr):uc bh w' ps hs bf gh true hG ji u22 u24 (.map (some dr)) u28 u31:=
 let m:=h.dp X;⟨m.ext,m.p,m.h,λ_=>⟨dr,rfl,ek h.ext.size ad,k⟩,m.fM,m.go,m.lP,m.jE⟩
def uc.vW(h:uc bh w ps hs bf gh gm hG ji u22 u24 u25 u28 u31)(X:Z w w')(k:vF w' w 3 dP (List.replicate hs.length 0) u):uc bh w' ps hs bf gh gm true ji u22 u24 u25 u u31:=
 let m:=h.dp X;⟨m.ext,m.p,m.h,m.m,λ_=>k.mono h.ext.size,m.go,λe _=>(h.p e).gL k,λe _=>(h.h e).gL k⟩
def uc.axt(h:uc bh w ps hs bf gh gm hG ji u22 u24 u25 u28 u31)(X:Z w w')(k:vF w' w 133 mG.cs (List.replicate hs.length ⟨⟨none,0,0⟩⟩) u):uc bh w' ps hs bf gh gm hG true u22 u24 u25 u28 u:=
 let m:=h.dp X;⟨m.ext,m.p,m.h,m.m,m.fM,λ_=>k.mono h.ext.size,m.lP,m.jE⟩
end
def Fn(rs:List Nat)(bf gh gm hG ji:Bool):Bool:=(bf&&gh&&gm&&hG&&ji)||(!rs.isEmpty&&rs.all (λi=>(i==1&& !bf)||(i==3&&bf&& !gh)||(i==4&& !gm)||(i==7&& !hG)||(i==10&& !ji)))
def axu{rs:List Nat}{bf gh gm hG ji:Bool}(h:Fn rs bf gh gm hG ji=true)(aq:Rf (Rg bf gh gm hG ji)≠0):rs≠ []/\∀i,i∈rs->(i=1/\bf=false)\/(i=3/\bf=true/\gh=false)\/(i=4/\gm=false)\/(i=7/\hG=false)\/(i=10/\ji=false):=by
 unfold Fn at h;rw[vK]at h;rcases h with h|h
 ·simp only[jS]at h;obtain⟨⟨⟨⟨rfl,rfl⟩,rfl⟩,rfl⟩,rfl⟩:=h;exact absurd rfl aq
 ·rw[jS,Ad]at h;refine⟨λe=>by rw[e]at h;simp at h,λi aK=>?_⟩;have:=h.2 i aK;simp only[vK,jS,F1,Eo]at this;rcases this with (((⟨a,b⟩|⟨⟨a,b⟩,d⟩)|⟨a,b⟩)|⟨a,b⟩)|⟨a,b⟩
  ·exact .inl ⟨a,b⟩
  ·exact .inr (.inl ⟨a,b,d⟩)
  ·exact .inr (.inr (.inl ⟨a,b⟩))
  ·exact .inr (.inr (.inr (.inl ⟨a,b⟩)))
  ·exact .inr (.inr (.inr (.inr ⟨a,b⟩)))
def axv{rs:List Nat}{p:eZ}(bf gh gm hG ji:Bool)(h:Fn rs bf gh gm hG ji=true)(aq:Rf (Rg bf gh gm hG ji)≠0)(af:bf=false->p 1)(aO:bf=true->gh=false->p 3)(bt:gm=false->p 4)(kv:hG=false->p 7)(uM:ji=false->p 10):rs≠ []/\∀i∈rs,p i:=by
 obtain⟨bH,b1⟩:=axu h aq;refine⟨bH,λi aK=>?_⟩;rcases b1 i aK with ⟨rfl,a⟩|⟨rfl,a,b⟩|⟨rfl,a⟩|⟨rfl,a⟩|⟨rfl,a⟩
 ·exact af a
 ·exact aO a b
 ·exact bt a
 ·exact kv a
 ·exact uM a
def axw{bf gh gm hG ji:Bool}(h:Rf (Rg bf gh gm hG ji)=0):bf=true/\gh=true/\gm=true/\hG=true/\ji=true:=by
 revert h;cases bf<;>cases gh<;>cases gm<;>cases hG<;>cases ji<;>simp[Rf,Rg]
end
def axx{v:qL}{ps:List Int}{dq:List Nat}(ad:w.heap[P]?=some (.cells #[v.cL,v.ak,v.kp,v.aU,.map (some v.dr),v.fM,v.go] 90 (0,0)))(b8:a7 w 1 dP v.cL.a v.cL.n v.cL.c ps)(oA:a7 w 1 dP v.ak.a v.ak.n v.ak.c hs)(aG:a7 w 1 zZ v.aU.a v.aU.n v.aU.c dq)(db:j8 ps=true)(zM:ps.length<=16)(aq:n<ps.length)(bs:n<dq.length)(We:hs.length<=32)(Rh:Cz ps.length hs=false):
  aS 31 #[P,(n:Int)] w (cU (bo 1) w):=by
 have fH:n<v.aU.n:=by rw[aG.neq];exact bs
 obtain⟨_,o,rW,fR⟩:=aG.get n bs;have rh:=fR 0 _ rfl;rw[jd]at rh;simp only[uo]at rh;have b0:(0:Int)<=(n:Int):=J;have bf:(n:Int)<(v.aU.n:Int):=J;have aiX:=I (aL (o:=0) ad rfl);have tY:=I (aL (o:=1) ad rfl);have Bb:=aL (o:=3) ad rfl;rw[show(#[v.cL,v.ak,v.kp,v.aU,.map (some v.dr),v.fM,v.go]:Array Value)[3]=Value.slice v.aU.a v.aU.n v.aU.c from rfl,rW]at Bb;change aa _ at Bb b8 oA db Rh rh;clear aG rW fR ad;go_enter func31,ntmps31;go_wp2_with fail;refine rN 16 (Z w) (λbd=>?_);refine tS ?_;refine aiY ?_;intro K aE;refine(axn (b8.ext U) (oA.ext U) db zM aq We Rh).mono ?_;rintro e cB⟨rfl,eQ⟩;have eA:aa (Z w cB):=Z.trans U eQ;clear eQ;refine HE ?_;intro _ bd;refine de 17 ?_;refine de 18 ?_;refine de 19 ?_;refine de 20 ?_;refine de 21 ?_;refine og bQ ?_ _;go_wp2;go_ret;exact⟨rfl,U⟩
section
structure Bf (bh w:World) (P:Nat) (v:qL) (ps hs:List Int) (room:Nat) (dq:List Nat):Prop where
 ext:Z bh w
 lX:bh.heap.size<=P
 box:w.heap[P]?=some (.cells #[v.cL,v.ak,v.kp,v.aU,.map (some v.dr),v.fM,v.go] 90 (0,0))
 p:aH w bh.heap.size 3 1 dP v.cL.a v.cL.n v.cL.c ps
 h:aH w bh.heap.size 3 1 dP v.ak.a v.ak.n v.ak.c hs
 fM:aH w bh.heap.size 3 1 dP v.fM.a v.fM.n v.fM.c (List.replicate hs.length 0)
 go:aH w bh.heap.size 133 1 mG.cs v.go.a v.go.n v.go.c (List.replicate hs.length ⟨⟨none,0,0⟩⟩)
 m:fp w prog 3 v.dr 0 0 (λ_=>none)
 b5:bh.heap.size<=v.dr
 lP:ox v.cL.a v.fM.a
 jE:ox v.ak.a v.fM.a
 aU:aH w bh.heap.size 91 1 zZ v.aU.a v.aU.n v.aU.c dq
 kH:∀q,q∈dq->bh.heap.size<=q/\lB w (λb=>b=q) q [] 0 room
 ri:dq.Nodup
section
variable {bh w dD dZ wc:World}{P q g n aR room:Nat}{v:qL}{ps hs:List Int}{dq:List Nat}
def lB.Fr{q:Nat}{aB:eg}{fF room:Nat}(h:lB w O q aB fF room):∃cs,w.heap[q]?=some (.cells cs 144 (0,0)):=let ⟨_,_,_,af,_⟩:=h.ck;⟨_,af⟩
def ajz{a:Nat}{cs aU:Array Value}{u:TypeId}{f g:Nat×Nat}(h:w.heap[a]?=some (.cells cs t f))(k:w.heap[b]?=some (.cells aU u g))(dj:t≠u):a≠b:=λe=>by
 subst e;rw[h]at k;injection k with k;injection k with _ k _;exact dj k
def Bf.dp(h:Bf bh w P v ps hs room dq)(X:Z w dD):Bf bh dD P v ps hs room dq:=
 ⟨h.ext.trans X,h.lX,X.ay h.box,h.p.ext X,h.h.ext X,h.fM.ext X,h.go.ext X,h.m.ext X,h.b5,h.lP,h.jE,h.aU.ext X,λq bs=>⟨(h.kH q bs).1,(h.kH q bs).2.ext X⟩,h.ri⟩
def Bf.AE(h:Bf bh w P v ps hs room dq)(X:Z w dD)(aG:lB dD (λb=>b=q) q [] 0 room)(bs:(w:Nat)<=q)(qq:Z dD dZ)(bC:lL dZ wc v.aU.a g)(aM:aH wc bh 91 1 zZ (some (g,0)) n aR (dq++[q])):
  Bf bh (wc.setCell (P,3) (.slice (some (g,0)) n aR)) P {v with aU:=⟨some (g,0),n,aR⟩} ps hs room (dq++[q]):=by
 have k:=h.dp (X.trans qq);have M4:=bC.ay k.box (λai ak=>k.aU.eW k.box ah ai ak);have eo:aI (λx=>x=P\/qb v.aU.a x) dZ (wc.setCell (P,3) (.slice (some (g,0)) n aR)):=(bC.ee.mono (λx _ e=>.inr e)).setCell (P,3) (.inl (.inl rfl)) _;have dj:∀{α:Type}{e:TypeId}{sz:Nat}{c:α->List Value}{aA:bl}{n cap base:Nat}{ys:List α},aH dZ base e sz c aA n cap ys->e≠90->91≠e->∀ai,aA=some ai->¬(ai.block=P\/qb v.aU.a ai.block):=λaM af an ai ak hk=>hk.elim (aM.eW k.box af ai ak) (fun⟨nJ,p5,HA⟩=>(k.aU.gT aM an) nJ ai p5 ak HA);have k7:∀D4,lB dZ (λb=>b=D4) D4 [] 0 room->lB (wc.setCell (P,3) (.slice (some (g,0)) n aR)) (λb=>b=D4) D4 [] 0 room:=λD4 Vp=>by
  obtain⟨_,sx⟩:=Vp.Fr
  exact Vp.ee eo (λb e hk=>by
   have e:b=D4:=e;subst e
   exact hk.elim (ajz sx k.box ah) (fun⟨nJ,p5,HA⟩=>k.aU.eW sx ah nJ p5 HA))
 have kF:=k.m.HF
 refine⟨eo.ext (λx X=>X.elim (λe=>e▸h.lX) (fun⟨ai,ak,e⟩=>e▸(k.aU.lt ai ak).1)) k.ext,h.lX,en M4 3 _,eo.bS k.p (dj k.p ah ah),eo.bS k.h (dj k.h ah ah),eo.bS k.fM (dj k.fM ah ah),eo.bS k.go (dj k.go ah ah),
  k.m.ay (eo.block _ k.m.lt (λhk=>hk.elim (λe=>?_) (fun⟨ai,ak,e⟩=>k.aU.DX kF ai ak e))),h.b5,h.lP,h.jE,aM.lY M4 ah _,λD4 axy=>?_,?_⟩
 ·obtain⟨_,_,hm⟩:=kF;have e:v.dr=P:=e;rw[e,k.box]at hm;cases hm
 ·rcases ie.1 axy with z|z
  ·exact⟨(h.kH D4 z).1,k7 D4 (k.kH D4 z).2⟩
  ·obtain rfl:=jg.1 z;exact⟨ek h.ext.size bs,k7 _ (aG.ext qq)⟩
 ·rw[TM];refine⟨h.ri,by simp,λa ak b ad e=>?_⟩;obtain rfl:=jg.1 ad;subst e;have:=(h.kH a ak).2.b5 a rfl;omega
end
def D5(k:Nat):Nat->oa:=λj=>if j<k then .up (p8 j kU) else .down []
def M5(P:Nat)(v:qL):Nat->Prop:=λx=>x=P\/x=v.dr\/qb v.fM.a x\/qb v.go.a x
def axz{dq:List Nat}{n:Nat}(h:dq.length=n):(List.range n).map (λk=>dq.getD k 0)=dq:=by
 apply LD;intro j;rw[nd];rcases Bh j n with z|z
 ·rw[List.getElem?_range z];simp[eK (show j<dq.length by omega)]
 ·rw[zy (by simpa using z),zy J];rfl
def axA{dq:List Nat}(h:k<dq.length):dq.getD k 0∈dq:=by
 rw[xk,eK h];exact cT h
def axB{dq:List Nat}(aq:dq.Nodup){j:Nat}(aD:j<dq.length)(hk:k<dq.length)(h:dq.getD j 0=dq.getD k 0):j=k:=by
 rw[xk,xk,eK aD,eK hk]at h;exact(List.getElem_inj aq).1 h
def Bf.dn{bh w:aC}{P:Nat}{v:qL}{dq:List Nat}(h:Bf bh w P v c.ps c.hs c.room dq)(bs:dq.length=c.ps.length):
  lJ w (λx=>M5 P v x\/x∈dq) c P (D5 0) (λ_=>0) v (λ_=>0) (λk=>dq.getD k 0) (λk x=>x=dq.getD k 0) (λ_ _=>False) (M5 P v):=by
 have kF:=h.m.HF;have axC:∀q,q∈dq->¬M5 P v q:=λq axD hk=>by
  obtain⟨cs,sx⟩:=(h.kH q axD).2.Fr;rcases hk with e|e|⟨ai,ak,e⟩|⟨ai,ak,e⟩
  ·exact ajz sx h.box ah e
  ·obtain⟨_,_,hm⟩:=kF;rw[<-e,sx]at hm;cases hm
  ·exact h.fM.eW sx ah ai ak e
  ·exact h.go.eW sx ah ai ak e
 have eO:∀{α:Type}{e:TypeId}{sz:Nat}{h7:α->List Value}{aA:bl}{n cap base:Nat}{ys:List α},aH w base e sz h7 aA n cap ys->e≠90->e≠144->133≠e->ox aA v.fM.a->∀ai,aA=some ai->¬(M5 P v ai.block\/ai.block∈dq):=λaM af an aO aG ai ak hk=>by
  rcases hk with (e|e|⟨nJ,p5,e⟩|⟨nJ,p5,e⟩)|e
  ·exact aM.eW h.box af ai ak e
  ·exact aM.DX kF ai ak e
  ·exact aG ai nJ ak p5 e.symm
  ·exact(h.go.gT aM aO) nJ ai p5 ak e
  ·obtain⟨_,sx⟩:=(h.kH _ e).2.Fr;exact aM.eW sx an ai ak rfl
 have QD:∀n,n<c.ps.length->dq.getD n 0∈dq:=λn aq=>axA J
 refine⟨h.box,(((h.p.kS (eO h.p ah ah ah h.lP)).and ((h.h.kS (eO h.h ah ah ah h.jE)).and (h.aU.kS (eO h.aU ah ah ah (h.aU.gT h.fM ah))))).mono (λw k=>⟨k.1.aF,k.2.1.aF,by rw[axz bs];exact k.2.2.aF⟩)),
  ⟨0,_,[],h.m,⟨tG,λk hk=>(by cases hk)⟩,rfl,λk hk=>?_⟩,λn aq=>?_,?_,⟨⟨_,h.go.mono (gz _),List.length_replicate,λy hy=>?_,λi j y z ai nJ aK aD ak p5=>?_,λk y hk=>?_⟩,λai ak=>.inr (.inr (.inr ⟨ai,ak,rfl⟩))⟩,⟨.inl rfl,.inr (.inl rfl),λai ak=>.inr (.inr (.inl ⟨ai,ak,rfl⟩))⟩,λx X=>.inl X,λn aq x X=>X.elim (λe=>.inr ((show x=dq.getD n 0 from e)▸QD n aq)) (λe=>e.elim),λn aq x X=>X.elim (λe=>(show x=dq.getD n 0 from e)▸axC _ (QD n aq)) (λe=>e.elim),λn k aq hk pF x X hy=>?_,λn aq x _ hy=>hy,λx X=>?_⟩
 ·have e:mq (D5 0) (λ_=>0) k=none:=rfl;rw[e];exact⟨λhk=>(by cases hk),rfl⟩
 ·exact⟨(h.kH _ (QD n aq)).2,λx X=>(by cases X)⟩
 ·have e:(List.range c.hs.length).map (λk=>(((λ_=>0:Nat->Nat) k:Nat):Int))=List.replicate c.hs.length 0:=by
   apply Sf
   ·simp
   ·intro i af _;simp
  rw[e];exact h.fM.mono (gz _)
 ·have:=(List.mem_replicate.1 hy).2;subst this;exact⟨[],aH.nil _ _ _ mG.bI,λai ak=>(by cases ak)⟩
 ·have:=(List.mem_replicate.1 (AL aK)).2;subst this;cases ak
 ·have:=(List.mem_replicate.1 (AL hk)).2;subst this;exact gz _
 ·rcases X with X|X
  ·rcases hy with hy|hy
   ·have cm:x=dq.getD n 0:=X;have cq:x=dq.getD k 0:=hy;exact pF (axB h.ri J J (cq.symm.trans cm))
   ·exact hy
  ·exact X
 ·rcases X with (e|e|⟨ai,ak,e⟩|⟨ai,ak,e⟩)|e
  ·exact e▸bZ h.box
  ·exact e▸h.m.lt
  ·exact e▸(h.fM.lt ai ak).2
  ·exact e▸(h.go.lt ai ak).2
  ·exact(h.kH x e).2.b5 x rfl
def Bf.axE{bh w:aC}{P:Nat}{v:qL}{ps hs:List Int}{room:Nat}{dq:List Nat}(h:Bf bh w P v ps hs room dq):∀x,(M5 P v x\/x∈dq)->(bh:Nat)<=x:=λx X=>by
 rcases X with (e|e|⟨ai,ak,e⟩|⟨ai,ak,e⟩)|e
 ·exact e▸h.lX
 ·exact e▸h.b5
 ·exact e▸(h.fM.lt ai ak).1
 ·exact e▸(h.go.lt ai ak).1
 ·exact(h.kH x e).1
def ajA{ps hs:List Int}{room:Nat}(bm:j8 ps=true)(ad:Cz ps.length hs=true)(GE:10<=room)(az:room<=60000):im ⟨ps,hs,room⟩:=by
 unfold Cz at ad;rw[jS,jT,Ad]at ad;exact⟨⟨bm,by show room<=1048576;omega⟩,ad.1,λh c6=>H4 (ad.2 h c6),GE⟩
def axF(al:im c):ML c [] kU {kU with l:=kU.l+1}:=by
 have az:jo [nR 1]<=c.room:=ek ah al.aey;have a1:q5 {kU with l:=kU.l+1}= [nR 1]:=rfl;refine⟨λx X=>(by cases X),λr az=>(by cases az),rfl,λr az=>(by cases az),gz _,rfl,ah,⟨λr az=>?_,Y4 (s:=⟨1,[],[],[]⟩) ⟨tG,tG,tG,λi h=>(by cases h),λi h=>(by cases h),λi h=>(by cases h)⟩ Nat.one_pos,az,Nat.one_pos⟩,al.room⟩;exact ae0
def axG(k:Nat):Ct (D5 k) k (.up (p8 k kU))=D5 (k+1):=by
 funext j;unfold Ct D5;by_cases e:j=k
 ·subst e;rw[bc rfl,bc J]
 ·rw[aV e];by_cases h:j<k
  ·rw[bc h,bc J]
  ·rw[aV h,aV J]
def lJ.congr{w:aC}{W:eZ}{P:Nat}{ns':Nat->oa}{cur:Nat->Nat}{v:qL}{p q:Nat->Nat}{D O:Nat->Nat->Prop}(h:lJ w M c P bN cur v p q D O W)(he:∀n,n<c.ps.length->bN n=ns' n):lJ w M c P ns' cur v p q D O W:=by
 refine⟨h.box,h.l3,?_,λn aq=>he n aq▸h.ri n aq,h.fM,h.go,h.bS,h.qM,h.sub,h.uO,h.gL,h.HC,h.b5⟩;obtain⟨s,f,e0,af,an,aO,bt⟩:=h.dr;refine⟨s,f,e0,af,an,aO,λk hk=>?_⟩;have e:mq ns' p k=mq bN p k:=by unfold mq;rw[he k hk]
 rw[e];exact bt k hk
def lJ.op{w:aC}{M' W bX O':eZ}{P n:Nat}{ns':Nat->oa}{cur:Nat->Nat}{v:qL}{p q:Nat->Nat}{D O:Nat->Nat->Prop}(h:lJ w M c P bN cur v p q D O W)(aq:n<c.ps.length)(k:lw w w' M M' c n bN ns' v p q D O gJ bX O')(cy:∀j,j≠n->ns' j=bN j):
  lJ w' M' c P ns' cur v (λj=>if j=n then gJ else p j) q (λj=>if j=n then bX else D j) (λj=>if j=n then O' else O j) W:=
 h.QW aq k.aj k.jw k.dX.new k.bk k.a1 k.hs k.yE (by rw[bc rfl];exact k.qY) cy (λj aD=>aV aD) k.kF
def rX.axH{w:aC}{W:eZ}{s:iF}{cur:Nat->Nat}(h:rX w W s N cur)(aj:aI (·=B) w w'){cs:Array Value}(ad:w.heap[B]?=some (.cells cs t fr))(af:133≠t)(an:64≠t):rX w' W s N cur:=by
 obtain⟨⟨gs,bH,b1,dJ,eG⟩,h4⟩:=h;exact⟨⟨gs,aj.bS bH (λai ak=>bH.eW ad af ai ak),b1,λy hy=>let ⟨ys,cZ,z2⟩:=dJ y hy;⟨ys,aj.bS cZ (λai ak=>cZ.eW ad an ai ak),z2⟩,eG⟩,h4⟩
def lJ.axI{w:aC}{W:eZ}{P:Nat}{cur:Nat->Nat}{v:qL}{p q:Nat->Nat}{D O:Nat->Nat->Prop}(h:lJ w M c P bN cur v p q D O W)(u:Value):
  lJ (w.setCell (P,2) u) M c P bN cur {v with kp:=u} p q D O W/\aI (·=P) w (w.setCell (P,2) u):=by
 have aj:aI (·=P) w (w.setCell (P,2) u):=(aI.refl (λy=>y=P) w).setCell (P,2) (.inl rfl) _;have fq:=h.bS.1;have bj:∀y,y=P->M y:=λy e=>e▸h.qM _ fq;refine⟨⟨en h.box 2 _,h.l3.step (aj.sub bj) (b4.ep _ _),h.dr.ay (aj.block _ h.dr.lt (λe=>?_)),λn aq=>(h.ri n aq).step aj bj (λy hy e=>h.uO n aq y hy (by rw[show y=P from e];exact fq)) (b4.ep _ _) (λy hy=>fQ (h.b5 y hy) aj.size),aj.bS h.fM (λai ak=>h.fM.eW h.box ah ai ak),h.go.axH aj h.box ah ah,h.bS,h.qM,h.sub,h.uO,h.gL,h.HC,λy hy=>fQ (h.b5 y hy) aj.size⟩,aj⟩;obtain⟨s,f,_,hm,_⟩:=h.dr;obtain⟨_,k,hm⟩:=hm.HF;have e:v.dr=P:=e;rw[e,h.box]at hm;cases hm
def axJ{bh wr c4:aC}{W:eZ}{P bW dM n s:Nat}{v:qL}{p q:Nat->Nat}{D O:Nat->Nat->Prop}{g:Nat->Nat->Nat}{f:Lit->Option Value}(h:lJ wr M c P (D5 c.ps.length) (λ_=>0) v p q D O W)(gW:∀x,M x->(bh:Nat)<=x)(X:Z bh wr)(qH:Hd wr c4 (nr c) bW dM n g f s)(nN:(wr:Nat)<=bW)(zQ:(wr:Nat)<=dM)(ic:Z wr c4):
  ∃M' eF,h0 (c4.setCell (P,2) bW) M' eF c P ba.new/\Z bh (c4.setCell (P,2) bW)/\∀x,M' x->(bh:Nat)<=x:=by
 obtain⟨af,an,aO,bt,cC⟩:=qH;have bp:=X.size;have ze:∀x,oq c g x->(wr:Nat)<=x/\x<(c4:Nat)/\x≠bW/\x≠dM:=λx ⟨a,b,j2,e⟩=>by
  obtain⟨bH,b1⟩:=cC a b j2;subst e;refine⟨bH,bZ b1,λe=>?_,λe=>?_⟩
  ·rw[e,af]at b1;cases b1
  ·obtain⟨_,_,hm⟩:=an.HF;rw[e,hm]at b1;cases b1
 have bk:b4 wr M (λx=>M x\/oq c g x):=⟨λx k=>.inl k,λx k=>k.imp id (λz=>(ze x z).1)⟩;have axK:lJ c4 (λx=>M x\/oq c g x) c P (D5 c.ps.length) (λ_=>0) v p q D O W:=h.step (S:=λ_=>False) (.of ic) (λ_ k=>k.elim) (λ_ _ k=>k) (λ_ _ _ _ k=>k) bk (λx k=>k.elim (λz=>fQ (h.b5 x z) ic.size) (λz=>(ze x z).2.1));have Df:ko c4 (λx=>M x\/oq c g x) c bW g (λ_ _=> []):=by
  refine⟨λw' aj=>⟨dM,n,s,f,?_,?_,aO⟩,bt,λa b j2=>.inr ⟨a,b,j2,rfl⟩,λa b j2=>⟨#[],0,0,(cC a b j2).2,rfl,λk m hk=>(by cases hk)⟩⟩
  ·exact(aj.block _ (bZ af) (λk=>k.elim (λz=>by have:=h.b5 _ z;omega) (λz=>(ze _ z).2.2.1 rfl))).trans af
  ·exact an.ay (aj.block _ an.lt (λk=>k.elim (λz=>by have:=h.b5 _ z;omega) (λz=>(ze _ z).2.2.2 rfl)))
 obtain⟨axL,II⟩:=axK.axI bW;have aAW:P<(wr:Nat):=h.b5 P (h.qM _ h.bS.1);have ada:=Df.HD (M':=λx=>M x\/oq c g x) II (λx e=>by rw[show x=P from e];exact .inl (h.qM _ h.bS.1)) (λx k e=>by have e:x=P:=e;have:=(ze x k).1;omega) (b4.ep _ _);refine⟨_,ub c g D O W,⟨_,bW,g,p,q,D,O,W,⟨axL.congr (ns':=ba.new.bN) (λj aD=>by unfold D5;rw[bc aD];rfl),rfl,ada,λx k hw=>?_,λj aD x k aG=>?_,λ_ _ _=>rfl⟩,λ_=>Iff.rfl⟩,II.ext (λx e=>by rw[show x=P from e];exact gW _ (h.qM _ h.bS.1)) (X.trans ic),λx k=>k.elim (gW x) (λz=>by have:=(ze x z).1;omega)⟩
 ·have:=(ze x k).1;have:=h.b5 x (h.qM x hw);omega
 ·have:=(ze x k).1;have:=h.b5 x (h.sub j aD x aG);omega
end
def axM:(prog.info? 91).map (λi=>(i.zero,i.size,i.bytes))=some (some (.pointer none),1,8):=bQ
def axN:(prog.info? 133).map (λi=>(i.zero,i.size,i.bytes))=some (some ↑aP,1,24):=bQ
def zZ.nD(q:Nat):∀u∈zZ q,u.oneCell'=true:=by
 intro u aj;simp only[zZ,oy,tb,ue]at aj;subst aj;rfl
def GT{cL ak:bl}{fv aq al room:Nat}{ps:List Int}(b8:a7 w 1 dP cL gJ fv ps)(oA:a7 w 1 dP ak aq al hs)(yL:j8 ps=true)(n1:ps.length<=16)(Hg:hs.length<=32)(GE:10<=room)(az:room<=60000):
  aS 7 #[.slice cL gJ fv,.slice ak aq al,.int .i64 (room:Int)] w λe w'=>(Cz ps.length hs=true->∃P M F,e=.returned (.tuple #[.pointer (some (P,0)),.int .i64 0])/\h0 w' M F ⟨ps,hs,room⟩ P ba.new/\Z w w'/\∀x,M x->(w:Nat)<=x)/\
   (Cz ps.length hs=false->e=.returned (.tuple #[.pointer none,bo 1])/\Z w w'):=by
 obtain rfl:=b8.neq;obtain rfl:=oA.neq;obtain⟨ct,bO,bL,bM,bP⟩:=fB TF;replace bO:=I bO;replace bL:=I bL;replace bM:=I bM;replace bP:=I bP;obtain⟨_,eY,e5,e6,e7⟩:=fB axN;replace eY:=I eY;replace e5:=I e5;replace e6:=I e6;replace e7:=I e7;obtain⟨d0,Di,sM,mR,o9⟩:=fB axM;replace Di:=I Di;replace sM:=I sM;replace mR:=I mR;replace o9:=I o9;have BE:0<ps.length:=by
  have:=yL;unfold j8 at this;rw[jS,jT]at this;omega
 replace b8:=I b8;replace oA:=I oA;replace yL:=I yL;go_enter func7,ntmps7;go_wp2_with fail;refine(Li cL ps.length fv ps _ b8).mono ?_;rintro e bh⟨rfl,b3⟩;rw[yL.out];have DI:Dj true=0:=rfl;rw[DI];replace b3:=I b3;clear DI;go_wp2_with fail;refine sX (Z bh) (λbd=>?_);refine de 0 ?_;refine de 2 ?_;refine de 5 ?_;refine de 6 ?_;refine de 8 ?_;refine de 9 ?_;refine axr 3 5 Rf (λa0 l a w'=>∃(bf gh gm hG ji:Bool) (u22 u24 u25 u28 u31:Value),l=Rg bf gh gm hG ji/\a=((((a0.put (some 22) u22).put (some 24) u24).put (some 25) u25).put (some 28) u28).put (some 31) u31/\uc bh w' ps hs bf gh gm hG ji u22 u24 u25 u28 u31) (by rfl) bQ ?_ ?_ ?_
 ·exact⟨false,false,false,false,false,undef,undef,undef,undef,undef,by kernel_rfl,rfl,⟨U,(λe=>by cases e),(λe=>by cases e),(λe=>by cases e),(λe=>by cases e),(λe=>by cases e),(λe=>by cases e),(λe=>by cases e)⟩⟩
 ·rintro l' ga w'⟨bf,gh,gm,hG,ji,u22,u24,u25,u28,u31,rfl,rfl,hF⟩ hm;have axO:=I hF;refine axv bf gh gm hG ji (by clear hm hF axO;cases bf<;>cases gh<;>cases gm<;>cases hG<;>cases ji<;>kernel_rfl) hm ?_ ?_ ?_ ?_ ?_
  ·rintro rfl;refine xC rfl (λK aE=>?_);rw[bc (show _=true by simp[Region.wanted])];simp only[Act.put,pf,oC,oD];refine te (c:=dP) (ys0:= []) (ys:=ps) (.const aP) (.tmp 21) 22 3 rfl ct _ 8 yW bO bL bM bP rfl ah rfl w' (Z.refl _) (aH.nil _ _ _ dP.tD) rfl (b8.ext (b3.trans hF.ext)) dP.nD J ah ?_;intro cP fS wT ey A5 aJ X bC;refine aE _ _ ⟨hF.ext.trans X,⟨true,gh,gm,hG,ji,.slice cP fS wT,u24,u25,u28,u31,rfl,by(first|rfl|kernel_rfl),hF.gM X ⟨_,_,_,rfl,aJ⟩⟩,by cases gh<;>cases gm<;>cases hG<;>cases ji<;>rfl⟩
  ·rintro rfl rfl;refine xC rfl (λK aE=>?_);rw[bc (show _=true by simp[Region.wanted])];simp only[Act.put,pf,oC,oD];refine te (c:=dP) (ys0:= []) (ys:=hs) (.const aP) (.tmp 23) 22 3 rfl ct _ 8 yW bO bL bM bP rfl ah rfl w' (Z.refl _) (aH.nil _ _ _ dP.tD) rfl (oA.ext (b3.trans hF.ext)) dP.nD J ah ?_;intro cP fS wT ey A5 aJ X bC;refine aE _ _ ⟨hF.ext.trans X,⟨true,true,gm,hG,ji,u22,.slice cP fS wT,u25,u28,u31,rfl,by(first|rfl|kernel_rfl),hF.oG X ⟨_,_,_,rfl,aJ⟩⟩,by cases gm<;>cases hG<;>cases ji<;>rfl⟩
  ·rintro rfl;refine xC rfl (λK aE=>?_);rw[bc (show _=true by simp[Region.wanted])];have rq:=@run_makeMap prog;simp only[Act.put,pf,oC,oD];go_simp;clear rq;refine aE _ _ ⟨hF.ext.trans ((Z.refl _).alloc _),⟨bf,gh,true,hG,ji,u22,u24,.map (some (w':Nat)),u28,u31,rfl,by(first|rfl|kernel_rfl),hF.aBs ((Z.refl _).alloc _) (fp.DG _ _ _) (bJ _)⟩,by cases bf<;>cases gh<;>cases hG<;>cases ji<;>rfl⟩
  ·rintro rfl;refine xC rfl (λK aE=>?_);rw[bc (show _=true by simp[Region.wanted])];simp only[Act.put,pf,oC,oD];refine ajy (c:=dP) (.tmp 27) 22 3 rfl yW bO bL bM bP rfl (n:=hs.length) rfl J ah (0:Int) rfl dP.tD ?_;intro cP ey aJ X;refine aE _ _ ⟨hF.ext.trans X,⟨bf,gh,gm,true,ji,u22,u24,u25,.slice (some (cP,0)) hs.length hs.length,u31,rfl,by(first|rfl|kernel_rfl),hF.vW X ⟨_,_,_,rfl,aJ⟩⟩,by cases bf<;>cases gh<;>cases gm<;>cases ji<;>rfl⟩
  ·rintro rfl;refine xC rfl (λK aE=>?_);rw[bc (show _=true by simp[Region.wanted])];simp only[Act.put,pf,oC,oD];refine ajy (c:=mG.cs) (.tmp 30) 86 133 rfl underlying86 eY e5 e6 e7 rfl (n:=hs.length) rfl J ah (⟨⟨none,0,0⟩⟩:mG) rfl mG.bI ?_;intro cP _ aJ X;refine aE _ _ ⟨hF.ext.trans X,⟨bf,gh,gm,hG,true,u22,u24,u25,u28,.slice (some (cP,0)) hs.length hs.length,rfl,by(first|rfl|kernel_rfl),hF.axt X ⟨_,_,_,rfl,aJ⟩⟩,by cases bf<;>cases gh<;>cases gm<;>cases hG<;>rfl⟩
 ·rintro _ _ w1⟨bf,_,_,_,_,_,_,_,_,_,rfl,rfl,hF⟩ hm;obtain⟨rfl,rfl,rfl,rfl,rfl⟩:=axw hm;obtain⟨M6,Ri,Rj,rfl,B0⟩:=hF.p rfl;obtain⟨p5,A5,qS,rfl,Wq⟩:=hF.h rfl;obtain⟨dr,rfl,mV,r1⟩:=hF.m rfl;obtain⟨Kc,Rk,Rl,rfl,Wr⟩:=hF.fM rfl;obtain⟨Rm,Rn,Ro,rfl,Ws⟩:=hF.go rfl;have o4:ox M6 Kc:=λx y X hy e=>hF.lP rfl rfl x y _ _ _ _ (by rw[X]) (by rw[hy]) e;have hQ:ox p5 Kc:=λx y X hy e=>hF.jE rfl rfl x y _ _ _ _ (by rw[X]) (by rw[hy]) e;have bz:=I hF.ext;have bd:=hF.ext;replace B0:=I B0;replace Wq:=I Wq;replace Wr:=I Wr;replace Ws:=I Ws;replace r1:=I r1;replace o4:=I o4;replace hQ:=I hQ;clear hF hm;simp only[Act.put,pf,oC,oD];refine de 11 ?_;refine h9 12 λK aE=>?_;go_simp;obtain⟨aN,oQ⟩:∃aN,w1.alloc (.cells #[ao M6 Ri Rj,ao p5 A5 qS,.pointer none,aP,.map (some dr),ao Kc Rk Rl,ao Rm Rn Ro] 90)=aN:=⟨_,rfl⟩;have c3:Bf bh aN (w1:Nat) ⟨⟨M6,Ri,Rj⟩,⟨p5,A5,qS⟩,.pointer none,⟨none,0,0⟩,dr,⟨Kc,Rk,Rl⟩,⟨Rm,Rn,Ro⟩⟩ ps hs room []:=by
   subst oQ;exact⟨bz.alloc _,bz.size,e2 rfl,B0.ext U,Wq.ext U,Wr.ext U,Ws.ext U,r1.ext U,mV,o4,hQ,aH.nil _ _ _ zZ.bI,(λq bs=>by cases bs),tG⟩
  have cn:Z w1 aN:=by subst oQ;exact U
  rw[oQ];clear oQ;refine aE _ _ (by(try dsimp only);exact Z.trans bz cn) λbd=>ej ?_;obtain⟨P,lX⟩:∃P,(w1:Nat)=P:=⟨_,rfl⟩;rw[lX]at c3 ⊢;replace c3:=I c3;clear lX;refine de 13 ?_;refine og bQ ?_ _;go_wp2_with fail;clear cn bz B0 Wq Wr Ws r1 o4 hQ mV bd;go_loopg [10,11,36] (ps.length) (λg aAX tI dS wr=>∃(k:Nat) (aU:iF) (dq:List Nat),g+k=ps.length/\dS=.int .i64 (k:Int)/\aa (Bf bh wr P ⟨⟨M6,Ri,Rj⟩,⟨p5,A5,qS⟩,.pointer none,aU,dr,⟨Kc,Rk,Rl⟩,⟨Rm,Rn,Ro⟩⟩ ps hs room dq)/\aa (dq.length=k));case atStart=>exact⟨0,_,[],J,rfl,c3,rfl⟩
  case round=>
   obtain⟨k,⟨po,mX,nQ⟩,dq,bC,rfl,tO,Id⟩:=hrel;by_cases hk:k<ps.length
   ·have b0:(k:Int)<(ps.length:Int):=J;go_wp2_with fail;refine(adN room wr J).mono ?_;rintro e a6⟨rfl,kQ,c0⟩;have eP:=aL (o:=3) (c0.ay tO.box) rfl;replace c0:=I c0;replace kQ:=I kQ;have axP:=I tO.aU.neq;have eA:Z wr (a6.alloc (.cells #[wr] 91)):=c0.trans ((Z.refl a6).alloc _);replace eA:=I eA;have ed:=I (tO.aU.ext eA);have Bq:=I (eA.ay tO.box);have If:=I (Z.size (tO.ext.trans eA));go_wp2_with (at_builtin;refine hc (ys:=dq) (c:=zZ) rfl (.tmp 50) (.tmp 52) 88 rfl d0 _ 8 underlying88 Di sM mR o9 rfl ah rfl ed (wr:Nat) _ rfl (fi (cs:=zZ (wr:Nat)) rfl) (zZ.nD _) (by have:=Id.out;have:=axP.out;omega) ah If ?_;intro g9 ij dc ha fy;have so:=fy.ay Bq (λai ak=>ed.eW Bq ah ai ak);have mT:∀j,dc.frozen? ⟨P,j,none⟩=false:=(λj=>nM so);have z3:=aL (o:=3) so rfl);go_roundg (gk - 1);case measure=>omega
    case rel=>exact⟨k+1,⟨some ⟨g9,0,none⟩,mX+1,ij⟩,dq++[wr.heap.size],J,by go_num,tO.AE c0 kQ (bJ _) ((Z.refl _).alloc _) fy ha,by rw[c9,Id.out];rfl⟩
   ·have b0:¬((k:Int)<(ps.length:Int)):=J;have fw:dq.length=ps.length:=by have:=Id.out;omega
    replace fw:=I fw;go_wp2_with fail;obtain⟨cW,AA⟩:∃cW,cW=wr:=⟨_,rfl⟩;subst AA;cases bx:Cz ps.length hs with
    |false=>
     have Rh:=I bx;clear bx;go_loopg [12,13,59] (1) (λg qZ tI dS wr=>dS=.int .i64 0/\wr=cW);case atStart=>exact⟨rfl,rfl⟩
     case round=>
      obtain⟨rfl,rfl⟩:=hrel;have b0:(0:Int)<(ps.length:Int):=J;go_wp2_with fail;refine(axx tO.box tO.p.aF tO.h.aF tO.aU.aF yL n1 (n:=0) BE (by rw[fw.out];exact BE) Hg Rh).mono ?_;rintro e bA⟨rfl,hi⟩;replace hi:=I hi;go_wp2;go_ret2;exact⟨λh=>(by rw[Rh.out]at h;cases h),λ_=>⟨rfl,b3.trans (tO.ext.trans hi)⟩⟩
    |true=>
     have axQ:=I bx;have cg:=I (ajA yL bx GE az);have wL:=I (tO.dn (c:=⟨ps,hs,room⟩) fw);have axR:=I tO.ext;have yw:=I tO.axE;clear bx;go_loopg [12,13,59] (ps.length) (λg qZ tI dS wr=>∃(k:Nat) (M:eZ) (p:Nat->Nat) (D O:Nat->Nat->Prop),g+k=ps.length/\dS=.int .i64 (k:Int)/\aa (lJ wr M ⟨ps,hs,room⟩ P (D5 k) (λ_=>0) ⟨⟨M6,Ri,Rj⟩,⟨p5,A5,qS⟩,.pointer none,⟨po,mX,nQ⟩,dr,⟨Kc,Rk,Rl⟩,⟨Rm,Rn,Ro⟩⟩ p (λk=>dq.getD k 0) D O (M5 P ⟨⟨M6,Ri,Rj⟩,⟨p5,A5,qS⟩,.pointer none,⟨po,mX,nQ⟩,dr,⟨Kc,Rk,Rl⟩,⟨Rm,Rn,Ro⟩⟩))/\aa (Z bh wr)/\aa (∀x,M x->(bh:Nat)<=x));case atStart=>exact⟨0,_,_,_,_,J,rfl,wL,axR,yw⟩
     case round=>
      obtain⟨k,M,p,D,O,_,rfl,Kd,uq,B8⟩:=hrel;by_cases hk:k<ps.length
      ·have b0:(k:Int)<(ps.length:Int):=J;go_wp2_with fail;refine(aiW Kd cg (n:=k) hk (by unfold D5;exact aV J) (axF cg)).mono ?_;rintro e _⟨jP,_,_,_,rfl,bB⟩;have B0:=Kd.op hk bB (λj aD=>by unfold Ct;exact aV aD);rw[axG]at B0;replace B0:=I B0;have hi:=I (bB.aj.ext (λx X=>X.elim (λz=>B8 x (Kd.sub k hk x z)) (λe=>B8 x (by rw[e];exact Kd.qM _ Kd.bS.2.1))) uq);have vB:=I (show ∀x,jP x->(bh:Nat)<=x from λx X=>(bB.bk.new x X).elim (B8 x) (λz=>ek uq.size z));clear bB;go_wp2;go_roundg (gk - 1);case measure=>omega
       case rel=>exact⟨k+1,jP,_,_,_,J,by go_num,B0,hi,vB⟩
      ·obtain rfl:k=ps.length:=J;have b0:¬((ps.length:Int)<(ps.length:Int)):=J;go_wp2_with fail;refine(asG cL ps.length fv ⟨ps,hs,room⟩ _ (b8.ext (b3.trans uq)) yL).mono ?_;rintro e _⟨_,_,_,_,_,_,rfl,nN,zQ,JA,ic⟩;have ajB:=ic.ay Kd.box;have Qr:=I (axJ (c:=⟨ps,hs,room⟩) Kd B8 uq JA nN zQ ic);obtain⟨-,-,_,_⟩:=qu ajB;clear JA ic ajB nN zQ;go_wp2;go_ret2;refine⟨λ_=>?_,λh=>(by rw[axQ.out]at h;cases h)⟩;obtain⟨M',eF,af,an,aO⟩:=Qr;exact⟨P,M',eF,rfl,af,b3.trans an,λx X=>ek b3.size (aO x X)⟩
def axS{w:aC}{cL ak:bl}{gJ fv aq al room:Nat}{ps hs:List Int}(b8:a7 w 1 dP cL gJ fv ps)(yL:j8 ps=false):
  aS 7 #[ao cL gJ fv,ao ak aq al,(room:Int)] w (cU (.tuple #[.pointer none,bo 120]) w):=by
 obtain rfl:=b8.neq;change aa _ at b8 yL;go_enter func7,ntmps7;go_wp2_with fail;refine(Li cL ps.length fv ps _ b8).mono ?_;rintro e _⟨rfl,b3⟩;rw[yL.out,show Dj false=120 from rfl];change aa _ at b3;go_wp2;go_ret2;exact⟨rfl,b3⟩
section
def jQ(w:World)(M gS:Nat->Prop)(c:bK)(Q:Nat)(aQ:ba)(ids:List ax):Prop:=
 ∃(P:Nat) (F:Nat->Prop) (a:Option Addr) (n aR:Nat),h0 w M F c P aQ/\w.heap[Q]?=some (.cells #[P,ao a n aR] 138 (0,0))/\aH w 0 54 3 ax.cs a n aR ids/\(∀x,x=Q\/qb a x->M x/\¬F x)/\(∀x,F x\/x=Q\/qb a x->gS x)/\∀x,gS x->M x
structure ia where
 z:Int
 i:ax
 st:Int
 b:iF
 cp:Int
 vG:Int
 up:Bool
instance:Coe ia Value:=⟨λx=>.agg #[.int .i64 x.z,.int .i64 x.i.b,.int .u64 x.i.l,.int .u64 x.i.s,.int .i64 x.st,.slice x.b.a x.b.n x.b.c,.int .i64 x.cp,.int .i64 x.vG,.bool x.up]⟩
instance:Coe ia Obj:=⟨λx=>.cells #[.int .i64 x.z,.int .i64 x.i.b,.int .u64 x.i.l,.int .u64 x.i.s,.int .i64 x.st,.slice x.b.a x.b.n x.b.c,.int .i64 x.cp,.int .i64 x.vG,.bool x.up] 83⟩
def ia.cs(x:ia):List Value:= [.int .i64 x.z,.int .i64 x.i.b,.int .u64 x.i.l,.int .u64 x.i.s,.int .i64 x.st,.slice x.b.a x.b.n x.b.c,.int .i64 x.cp,.int .i64 x.vG,.bool x.up]
def ia.bI(x:ia):x.cs.length=9:=rfl
def ia.cQ(x:ia):∀u∈x.cs,u.oneCell'=true:=by
 intro u aj;simp only[ia.cs,oy,tb,ue]at aj;exact ZN
def FU(c:bK)(Q:Nat)(w:World)(M gS:Nat->Prop)(aQ:ba)(ids:List ax)(f_:ia->Prop)(e:Ending)(w':World):Prop:=
 ∃x M' Rp,e=.returned (.agg #[x.z,x.i.b,ae x.i.l,ae x.i.s,x.st,x.b,x.cp,x.vG,x.up])/\f_ x/\jQ w' M' Rp c Q aQ ids/\hj w M gS w' M' Rp
section
variable {w w':World}{M gS:Nat->Prop}{c:bK}{Q:Nat}{aQ:ba}{ids:List ax}
def jQ.ext(h:jQ w M gS c Q aQ ids)(X:Z w w'):jQ w' M gS c Q aQ ids:=by
 obtain⟨P,F,a,n,aR,af,an,aO,bt,cC⟩:=h;exact⟨P,F,a,n,aR,af.ext X,X.ay an,aO.ext X,bt,cC⟩
def jQ.sub(h:jQ w M gS c Q aQ ids):∀x,gS x->M x:=let ⟨_,_,_,_,_,_,_,_,_,_,fV⟩:=h;fV
def jQ.b5(h:jQ w M gS c Q aQ ids):∀x,M x->x<(w:Nat):=let ⟨_,_,_,_,_,af,_⟩:=h;af.b5
def jQ.In{M' eF:eZ}{vD:ba}(an:w.heap[Q]?=some (.cells #[P,ao a n aR] 138 (0,0)))(aO:aH w 0 54 3 ax.cs a n aR ids)(bt:∀x,x=Q\/qb a x->M x/\¬F x)(cC:∀x,F x\/x=Q\/qb a x->gS x)(fV:∀x,gS x->M x)(hw:h0 w' M' eF c P vD)(hm:hj w M F w' M' eF):jQ w' M' (λx=>gS x\/eF x) c Q vD ids/\hj w M gS w' M' (λx=>gS x\/eF x):=by
 have iQ:=(bt Q (.inl rfl)).2;have fH:∀x,x=Q\/qb a x->x<(w:Nat):=λx X=>X.elim (λe=>e▸bZ an) (fun⟨ai,ak,e⟩=>e▸(aO.lt ai ak).2);refine⟨⟨P,eF,a,n,aR,hw,(hm.ee.block _ (bZ an) iQ).trans an,hm.ee.bS aO (λai ak=>(bt _ (.inr ⟨ai,ak,rfl⟩)).2),λx X=>⟨hm.m.up x (bt x X).1,λk=>(hm.f.new x k).elim (bt x X).2 (λz=>by have:=fH x X;omega)⟩,λx X=>X.elim .inr (λk=>.inl (cC x (.inr k))),λx X=>X.elim (λk=>hm.m.up x (fV x k)) (hw.sub x)⟩,hm.ee.mono (λx _ k=>cC x (.inl k)),⟨λx k=>.inl k,λx k=>k.elim .inl (λz=>(hm.f.new x z).imp (λy=>cC x (.inl y)) id)⟩,hm.m⟩
def jQ.dp{g fS wT:Nat}{dZ:aC}(af:h0 w M F c P aQ)(an:w.heap[Q]?=some (.cells #[P,ao a n aR] 138 (0,0)))(aO:aH w 0 54 3 ax.cs a n aR ids)(bt:∀x,x=Q\/qb a x->M x/\¬F x)(cC:∀x,F x\/x=Q\/qb a x->gS x)(fV:∀x,gS x->M x)(bC:lL w dZ a g)(aM:aH dZ 0 54 3 ax.cs (some (g,0)) fS wT (ids++[i])):
  ∃M' Rp,jQ (dZ.setCell (Q,1) (.slice (some (g,0)) fS wT)) M' Rp c Q aQ (ids++[i])/\hj w M gS (dZ.setCell (Q,1) (.slice (some (g,0)) fS wT)) M' Rp:=by
 have rY:=bC.ay an (λai ak=>aO.eW an ah ai ak);have eo:aI (λx=>x=Q\/qb a x) w (dZ.setCell (Q,1) (.slice (some (g,0)) fS wT)):=(bC.ee.mono (λx _ e=>.inr e)).setCell (Q,1) (.inl (.inl rfl)) _;have xi:qb a g\/(w:Nat)<=g:=bC.at_.elim (λk=>.inl (let ⟨ai,ak,e⟩:=k;⟨ai,ak,e⟩)) (λe=>.inr J);have p1:=aM.lY rY ah (.slice (some (g,0)) fS wT) (j:=1);have DQ:=(p1.lt _ rfl).2;have bk:b4 w M (λx=>M x\/x=g):=⟨λx k=>.inl k,λx k=>k.elim .inl (λe=>xi.elim (λz=>.inl (e▸(bt g (.inr z)).1)) (λz=>.inr (e▸z)))⟩;have axT:¬F g:=λk=>xi.elim (λz=>(bt g (.inr z)).2 k) (λz=>by have:=af.b5 g (af.sub g k);omega);have hw:=af.step eo (λx X=>(bt x X).1) (λx X k=>(bt x k).2 X) bk (λx k=>k.elim (λz=>fQ (af.b5 x z) eo.size) (λe=>e▸DQ));refine⟨λx=>M x\/x=g,λx=>gS x\/x=g,⟨P,F,_,_,_,hw,en rY 1 _,p1,λx X=>?_,λx X=>?_,λx X=>X.imp (fV x) id⟩,eo.mono (λx _ k=>cC x (.inr k)),⟨λx k=>.inl k,λx k=>k.elim .inl (λe=>xi.elim (λz=>.inl (e▸cC g (.inr (.inr z)))) (λz=>.inr (e▸z)))⟩,bk⟩
 ·rcases X with rfl|⟨ai,ak,e⟩
  ·exact⟨.inl (bt _ (.inl rfl)).1,(bt _ (.inl rfl)).2⟩
  ·cases ak;have e:g=x:=e;subst e;exact⟨.inr rfl,axT⟩
 ·rcases X with k|k|⟨ai,ak,e⟩
  ·exact .inl (cC x (.inl k))
  ·exact .inl (cC x (.inr (.inl k)))
  ·cases ak;exact .inr e.symm
end
section
variable {w bh c4 dc:World}{M gS iS Ke:Nat->Prop}{c:bK}{Q R:Nat}{aQ vD:ba}{ids Wt:List ax}
def FV{cO c1 c2 cV dF dH eJ eM jG:Value}(h:w.heap[R]?=some (.cells #[cO,c1,c2,cV,dF,dH,eJ,eM,jG] t fr))(v0 v1 v2 v3 v4 v5 v6 hh jO:Value):
  (((((((((w.setCell (R,0) v0).setCell (R,1) v1).setCell (R,2) v2).setCell (R,3) v3).setCell (R,4) v4).setCell (R,5) v5).setCell (R,6) v6).setCell (R,7) hh).setCell (R,8) jO).heap[R]?=some (.cells #[v0,v1,v2,v3,v4,v5,v6,hh,jO] t fr):=by
 have aZ:=en h 0 v0;rw[show(#[cO,c1,c2,cV,dF,dH,eJ,eM,jG]:Array Value).setIfInBounds 0 v0=#[v0,c1,c2,cV,dF,dH,eJ,eM,jG]from rfl]at aZ;have af:=en aZ 1 v1;rw[show(#[v0,c1,c2,cV,dF,dH,eJ,eM,jG]:Array Value).setIfInBounds 1 v1=#[v0,v1,c2,cV,dF,dH,eJ,eM,jG]from rfl]at af;have an:=en af 2 v2;rw[show(#[v0,v1,c2,cV,dF,dH,eJ,eM,jG]:Array Value).setIfInBounds 2 v2=#[v0,v1,v2,cV,dF,dH,eJ,eM,jG]from rfl]at an;have aO:=en an 3 v3;rw[show(#[v0,v1,v2,cV,dF,dH,eJ,eM,jG]:Array Value).setIfInBounds 3 v3=#[v0,v1,v2,v3,dF,dH,eJ,eM,jG]from rfl]at aO;have bt:=en aO 4 v4;rw[show(#[v0,v1,v2,v3,dF,dH,eJ,eM,jG]:Array Value).setIfInBounds 4 v4=#[v0,v1,v2,v3,v4,dH,eJ,eM,jG]from rfl]at bt;have cC:=en bt 5 v5;rw[show(#[v0,v1,v2,v3,v4,dH,eJ,eM,jG]:Array Value).setIfInBounds 5 v5=#[v0,v1,v2,v3,v4,v5,eJ,eM,jG]from rfl]at cC;have fV:=en cC 6 v6;rw[show(#[v0,v1,v2,v3,v4,v5,eJ,eM,jG]:Array Value).setIfInBounds 6 v6=#[v0,v1,v2,v3,v4,v5,v6,eM,jG]from rfl]at fV;have kv:=en fV 7 hh;rw[show(#[v0,v1,v2,v3,v4,v5,v6,eM,jG]:Array Value).setIfInBounds 7 hh=#[v0,v1,v2,v3,v4,v5,v6,hh,jG]from rfl]at kv;have fG:=en kv 8 jO;rw[show(#[v0,v1,v2,v3,v4,v5,v6,hh,jG]:Array Value).setIfInBounds 8 jO=#[v0,v1,v2,v3,v4,v5,v6,hh,jO]from rfl]at fG;exact fG
def FW(v0 v1 v2 v3 v4 v5 v6 hh jO:Value):aI (·=R) w (((((((((w.setCell (R,0) v0).setCell (R,1) v1).setCell (R,2) v2).setCell (R,3) v3).setCell (R,4) v4).setCell (R,5) v5).setCell (R,6) v6).setCell (R,7) hh).setCell (R,8) jO):=
 (((((((((aI.refl (·=R) w).setCell ⟨R,0,none⟩ (.inl rfl) v0).setCell ⟨R,1,none⟩ (.inl rfl) v1).setCell ⟨R,2,none⟩ (.inl rfl) v2).setCell ⟨R,3,none⟩ (.inl rfl) v3).setCell ⟨R,4,none⟩ (.inl rfl) v4).setCell ⟨R,5,none⟩ (.inl rfl) v5).setCell ⟨R,6,none⟩ (.inl rfl) v6).setCell ⟨R,7,none⟩ (.inl rfl) hh).setCell ⟨R,8,none⟩ (.inl rfl) jO
def jQ.cell(h:jQ w M gS c Q aQ ids)(X:Z w bh)(bB:(w:Nat)<=R)(a1:R<(bh:Nat)):jQ bh (λx=>M x\/x=R) gS c Q aQ ids:=by
 obtain⟨P,F,a,n,aR,af,an,aO,bt,cC,fV⟩:=h;exact⟨P,F,a,n,aR,af.cell X bB a1,X.ay an,aO.ext X,λx k=>⟨.inl (bt x k).1,(bt x k).2⟩,cC,λx k=>.inl (fV x k)⟩
def jQ.DZ(h:jQ w M gS c Q aQ ids)(bB:(w:Nat)<=R):¬gS R:=λk=>by have:=h.b5 R (h.sub R k);omega
def jQ.store(h:jQ dc iS Ke c Q vD Wt)(hm:iS R)(hF:¬Ke R)(aj:aI (·=R) dc c4):jQ c4 iS Ke c Q vD Wt:=by
 obtain⟨P,F,a,n,aR,af,an,aO,bt,cC,fV⟩:=h;refine⟨P,F,a,n,aR,af.store hm (λk=>hF (cC _ (.inl k))) aj,(aj.block _ (bZ an) (λe=>hF (cC R (.inr (.inl (show Q=R from e).symm))))).trans an,aj.bS aO (λai ak e=>hF (cC R (.inr (.inr ⟨ai,ak,e⟩)))),bt,cC,fV⟩
def jQ.wE(h:jQ dc iS Ke c Q vD Wt)(hm:hj bh (λx=>M x\/x=R) gS dc iS Ke)(X:Z w bh)(bB:(w:Nat)<=R)(a1:R<(bh:Nat))(hF:¬gS R)(aj:aI (·=R) dc c4):jQ c4 iS Ke c Q vD Wt/\hj w M gS c4 iS Ke:=
 ⟨h.store (hm.m.up _ (.inr rfl)) (λk=>(hm.f.new _ k).elim hF (λz=>by omega)) aj,hm.cell X bB aj⟩
end
end
def axU{Q:Nat}(h:jQ w M gS c Q aQ ids)(a1:ids.length<=1000)(i:ax)(z:Int):
  aS 183 #[Q,i,z] w (FU c Q w M gS aQ (ids++[tX z i]) (λx=>x.z=z)):=by
 obtain⟨dK,bO,bL,bM,bP⟩:=fB yY;replace bO:=I bO;replace bL:=I bL;replace bM:=I bM;replace bP:=I bP;have br:Z w ((w.alloc i).alloc (.cells #[av,av,aw,aw,av,aP,av,av,.bool false] 83)):=U;have HO:((w.alloc i).alloc (.cells #[av,av,aw,aw,av,aP,av,av,.bool false] 83)).heap[(w:Nat)]?=some (i:Obj):=gA;have MT:((w.alloc i).alloc (.cells #[av,av,aw,aw,av,aP,av,av,.bool false] 83)).heap[(w:Nat)+1]?=some (.cells #[av,av,aw,aw,av,aP,av,av,.bool false] 83):=gA;have fj:((w.alloc i).alloc (.cells #[av,av,aw,aw,av,aP,av,av,.bool false] 83)).heap.size=(w:Nat)+2:=by simp
 by_cases bp:z=0
 ·subst bp;go_enter func183,ntmps183;go_wp2_with fail;obtain⟨bh,eX⟩:∃bh,((w.alloc i).alloc (.cells #[av,av,aw,aw,av,aP,av,av,.bool false] 83))=bh:=⟨_,rfl⟩;rw[eX]at br HO MT fj;rw[eX];clear eX;have lK:=h.DZ (R:=(w:Nat)) (bJ _);have fC:=h.DZ (R:=(w:Nat)+1) J;have ku:=h.cell (R:=(w:Nat)+1) br J J;obtain⟨P,F,a,n,aR,H1,dg,fO,gC,hg,ki⟩:=ku;have c3:=I fO.neq;replace H1:=I H1;replace dg:=I dg;replace fO:=I fO;replace gC:=I gC;replace hg:=I hg;replace ki:=I ki;replace lK:=I lK;replace fC:=I fC;change aa _ at br HO MT fj;clear h;refine rN 10 (λw'=>w'.heap[Q]?=some (.cells #[P,ao a n aR] 138 (0,0))/\w'.heap[(w:Nat)]?=some (i:Obj)) (λbd=>?_) (by(try dsimp only);exact⟨Z.ay (W:=bh) U dg,Z.ay (W:=bh) U HO⟩);refine tS ?_;refine dC 3 ?_;refine kG 4 (·.1) ?_;refine kG 5 (·.2) ?_;refine jz 6 λK aE=>?_;go_simp;refine aE _ _ (λ_ _=>(by(try dsimp only);exact⟨Z.ay (W:=bh) U dg,Z.ay (W:=bh) U HO⟩)) λhH=>ej ?_;have bd:=hH rfl ah;refine jz 7 λK aE=>?_;have j0:Z bh (bh.alloc i).drew:=U;have hq:=I (fO.ext j0);have kP:=I (j0.ay dg);replace j0:=I j0;refine tq (ys:=ids) (c:=ax.cs) rfl (.tmp 14) (.tmp 16) 31 rfl dK _ 24 aiL bO bL bM bP rfl ah rfl hq i _ rfl (fi (cs:=ax.cs i) rfl) (ax.cQ _) (by have:=c3.out;omega) ah (gz _) ?_;intro g6 eJ c4 mC q2;have qj:=q2.ay kP (λai ak=>hq.eW kP ah ai ak);obtain⟨aBy,IR,FX,iu⟩:=jQ.dp (ids:=ids) (i:=i) (H1.ext j0) (j0.ay dg) hq (λx X=>gC x X) hg ki q2 mC;have M7:=q2.ay (j0.ay HO) (λai ak e=>lK (hg _ (.inr (.inr ⟨ai,ak,e⟩))));replace qj:=I qj;replace M7:=I M7;replace iu:=I iu;replace FX:=I FX;clear mC q2;refine ajC ?_;intro hH bd cZ mT K aE dR xB;rw[xB]at iu FX;rw[xB];clear xB cZ mT;have M8:=(iu.ee.block _ (bZ (j0.ay HO)) lK).trans (j0.ay HO);have FY:=(iu.ee.block _ (bZ (j0.ay MT)) fC).trans (j0.ay MT);obtain⟨eB,bH,b1⟩:=jm M8;obtain⟨v0,v1,v2,v3,v4,v5,v6,hh,jO,pW⟩:=xR FY;replace FY:=I FY;clear M8;refine J0 ?_;intro _;go_wp2_with fail;have g9:=FV FY av i.b (ae i.l) (ae i.s) av aP av av (.bool false);have lz:=FW (w:=dR) (R:=(w:Nat)+1) av i.b (ae i.l) (ae i.s) av aP av av (.bool false);obtain⟨lh,iZ⟩:∃lh,(((((((((dR.setCell (w,1,0) av).setCell (w,1,1) i.b).setCell (w,1,2) (ae i.l)).setCell (w,1,3) (ae i.s)).setCell (w,1,4) av).setCell (w,1,5) aP).setCell (w,1,6) av).setCell (w,1,7) av).setCell (w,1,8) (.bool false))=lh:=⟨_,rfl⟩;rw[iZ]at g9 lz;rw[iZ];clear iZ;obtain⟨cA,cR,cS,du,dw,dx,dB,dy,jH⟩:=xE g9;refine⟨rfl,_,(by simp[results,results183,go_sem,cA,cR,cS,du,dw,dx,dB,dy,jH];rfl),?_⟩;obtain⟨f1,f2⟩:=FX.wE (iu.cN j0) br J (by have:=fj.out;omega) fC lz;rw[show tX 0 i=i from rfl];exact⟨⟨0,i,0,⟨none,0,0⟩,0,0,false⟩,aBy,IR,rfl,rfl,f1,f2⟩
 ·go_enter func183,ntmps183;go_wp2_with fail;clear br HO MT fj;obtain⟨l6,l5⟩:∃l6:ax,l6=⟨0,0,0⟩:=⟨_,rfl⟩;have bz:Z w ((w.alloc hr).alloc (.cells #[av,av,aw,aw,av,aP,av,av,.bool false] 83)):=U;have HP:((w.alloc hr).alloc (.cells #[av,av,aw,aw,av,aP,av,av,.bool false] 83)).heap[(w:Nat)]?=some (l6:Obj):=by subst l5;(exact HZ)
  have Rq:((w.alloc hr).alloc (.cells #[av,av,aw,aw,av,aP,av,av,.bool false] 83)).heap[(w:Nat)+1]?=some (.cells #[av,av,aw,aw,av,aP,av,av,.bool false] 83):=gA;have nU:((w.alloc hr).alloc (.cells #[av,av,aw,aw,av,aP,av,av,.bool false] 83)).heap.size=(w:Nat)+2:=by simp
  replace l5:=I l5;obtain⟨bh,eX⟩:∃bh,((w.alloc hr).alloc (.cells #[av,av,aw,aw,av,aP,av,av,.bool false] 83))=bh:=⟨_,rfl⟩;rw[eX]at bz HP Rq nU;rw[eX];clear eX;have lK:=h.DZ (R:=(w:Nat)) (bJ _);have fC:=h.DZ (R:=(w:Nat)+1) J;have ku:=h.cell (R:=(w:Nat)+1) bz J J;obtain⟨P,F,a,n,aR,H1,dg,fO,gC,hg,ki⟩:=ku;have c3:=I fO.neq;replace H1:=I H1;replace dg:=I dg;replace fO:=I fO;replace gC:=I gC;replace hg:=I hg;replace ki:=I ki;replace lK:=I lK;replace fC:=I fC;replace bz:=I bz;replace HP:=I HP;replace Rq:=I Rq;replace nU:=I nU;clear h;refine rN 10 (λw'=>w'.heap[Q]?=some (.cells #[P,ao a n aR] 138 (0,0))/\w'.heap[(w:Nat)]?=some (l6:Obj)) (λbd=>?_) (by(try dsimp only);exact⟨Z.ay (W:=bh) U dg,Z.ay (W:=bh) U HP⟩);refine tS ?_;refine dC 3 ?_;refine kG 4 (·.1) ?_;refine kG 5 (·.2) ?_;refine jz 6 λK aE=>?_;go_simp;refine aE _ _ (λ_ _=>(by(try dsimp only);exact⟨Z.ay (W:=bh) U dg,Z.ay (W:=bh) U HP⟩)) λhH=>ej ?_;have bd:=hH rfl ah;refine jz 7 λK aE=>?_;have j0:Z bh (bh.alloc l6).drew:=U;have hq:=I (fO.ext j0);have kP:=I (j0.ay dg);replace j0:=I j0;refine tq (ys:=ids) (c:=ax.cs) rfl (.tmp 14) (.tmp 16) 31 rfl dK _ 24 aiL bO bL bM bP rfl ah rfl hq l6 _ rfl (fi (cs:=ax.cs l6) rfl) (ax.cQ _) (by have:=c3.out;omega) ah (gz _) ?_;intro g6 eJ c4 mC q2;have qj:=q2.ay kP (λai ak=>hq.eW kP ah ai ak);obtain⟨aBy,IR,FX,iu⟩:=jQ.dp (ids:=ids) (i:=l6) (H1.ext j0) (j0.ay dg) hq (λx X=>gC x X) hg ki q2 mC;have M7:=q2.ay (j0.ay HP) (λai ak e=>lK (hg _ (.inr (.inr ⟨ai,ak,e⟩))));replace qj:=I qj;replace M7:=I M7;replace iu:=I iu;replace FX:=I FX;clear mC q2;refine ajC ?_;intro hH bd cZ mT K aE dR xB;rw[xB]at iu FX;rw[xB];clear xB cZ mT;have M8:=(iu.ee.block _ (bZ (j0.ay HP)) lK).trans (j0.ay HP);have FY:=(iu.ee.block _ (bZ (j0.ay Rq)) fC).trans (j0.ay Rq);obtain⟨_,_,_⟩:=jm M8;obtain⟨_,_,_,_,_,_,_,_,_,_⟩:=xR FY;replace FY:=I FY;clear M8;refine J0 ?_;intro _;go_wp2_with fail;have g9:=FV FY z l6.b (ae l6.l) (ae l6.s) av aP av av (.bool false);have lz:=FW (w:=dR) (R:=(w:Nat)+1) z l6.b (ae l6.l) (ae l6.s) av aP av av (.bool false);obtain⟨lh,iZ⟩:∃lh,(((((((((dR.setCell (w,1,0) z).setCell (w,1,1) l6.b).setCell (w,1,2) (ae l6.l)).setCell (w,1,3) (ae l6.s)).setCell (w,1,4) av).setCell (w,1,5) aP).setCell (w,1,6) av).setCell (w,1,7) av).setCell (w,1,8) (.bool false))=lh:=⟨_,rfl⟩;rw[iZ]at g9 lz;rw[iZ];clear iZ;obtain⟨cA,cR,cS,du,dw,dx,dB,dy,jH⟩:=xE g9;refine⟨rfl,_,(by simp[results,results183,go_sem,cA,cR,cS,du,dw,dx,dB,dy,jH];rfl),?_⟩;obtain⟨f1,f2⟩:=FX.wE (iu.cN j0) bz J (by have:=nU.out;omega) fC lz;rw[show tX z i=l6 from by unfold tX;rw[aV bp,l5.out]];exact⟨⟨z,l6,0,⟨none,0,0⟩,0,0,false⟩,aBy,IR,rfl,rfl,f1,f2⟩
structure sv where
 k:Int
 a:Int
 b:Int
 n:Int
 e:iF
 f:iF
instance:Coe sv Value:=⟨λx=>.agg #[.int .i64 x.k,.int .i64 x.a,.int .i64 x.b,.int .i64 x.n,.slice x.e.a x.e.n x.e.c,.slice x.f.a x.f.n x.f.c]⟩
instance:Coe sv Obj:=⟨λx=>.cells #[.int .i64 x.k,.int .i64 x.a,.int .i64 x.b,.int .i64 x.n,.slice x.e.a x.e.n x.e.c,.slice x.f.a x.f.n x.f.c] 72⟩
def LE{Q:Nat}{T:Nat}(h:jQ w M gS c Q aQ ids)(al:im c)(aK:cM c l T aQ)(pt:c.room<=60000)(o:sv):
  aS 104 #[Q,o] w (FU c Q w M gS (aQ.round c) ids (λ_=>True)):=by
 refine HQ ?_;intro b3 iC fZ bE ku lK fC;go_enter func104,ntmps104;refine Kf ?_;intro _ _ _ bh eX;rw[eX]at b3 iC fZ bE ku;try rw[eX]
 obtain⟨P,F,a,n,_,H1,dg,fO,gC,hg,ki⟩:=ku;have dV:=aL (o:=0) dg rfl;replace b3:=I b3;replace iC:=I iC;replace fZ:=I fZ;replace bE:=I bE;replace lK:=I lK;replace fC:=I fC;replace H1:=I H1;replace dg:=I dg;replace fO:=I fO;replace gC:=I gC;replace hg:=I hg;replace ki:=I ki;go_wp2_with fail;refine(aiF H1 al aK pt).mono ?_;rintro r w1⟨_,_,rfl,jj,qh⟩;obtain⟨mo,rl⟩:=jQ.In dg fO gC hg ki jj qh;have di:=(rl.ee.block _ (bZ bE) fC).trans bE;obtain⟨_,_,_,_,_,_,_,_,_,_⟩:=xR di;replace mo:=I mo;replace rl:=I rl;replace di:=I di;go_wp2_with fail;have g9:=FV di av av aw aw av aP av av (.bool false);have lz:=FW (w:=w1) (R:=(w:Nat)+1) av av aw aw av aP av av (.bool false);obtain⟨lh,iZ⟩:∃lh,(((((((((w1.setCell (w,1,0) av).setCell (w,1,1) av).setCell (w,1,2) aw).setCell (w,1,3) aw).setCell (w,1,4) av).setCell (w,1,5) aP).setCell (w,1,6) av).setCell (w,1,7) av).setCell (w,1,8) (.bool false))=lh:=⟨_,rfl⟩;rw[iZ]at g9 lz;rw[iZ];obtain⟨cA,cR,cS,du,dw,dx,dB,dy,jH⟩:=xE g9;refine⟨rfl,_,(by simp[results,results104,go_sem,cA,cR,cS,du,dw,dx,dB,dy,jH];rfl),?_⟩;obtain⟨f1,f2⟩:=mo.wE rl b3 J QF fC lz;exact⟨⟨0,⟨0,0,0⟩,0,⟨none,0,0⟩,0,0,false⟩,_,_,rfl,trivial,f1,f2⟩
def axV{Q:Nat}{T:Nat}(h:jQ w M gS c Q aQ ids)(al:im c)(aK:cM c l T aQ)(hY:T<=1000)(a1:ids.length<=1000)(o:sv){r:Int×ax×ba}(az:aQ.call c o.a (λb=>b.uy o.a)=r):
  aS 105 #[Q,o] w (FU c Q w M gS r.2.2 (ids++[tX r.1 r.2.1]) (λx=>x.z=r.1)):=by
 refine HQ ?_;intro b3 iC fZ bE ku lK fC;go_enter func105,ntmps105;refine Kf ?_;intro _ _ _ bh eX;rw[eX]at b3 iC fZ bE ku;try rw[eX]
 obtain⟨P,F,a,n,aR,H1,dg,fO,gC,hg,ki⟩:=ku;replace b3:=I b3;replace iC:=I iC;replace fZ:=I fZ;replace bE:=I bE;replace lK:=I lK;replace fC:=I fC;replace H1:=I H1;replace dg:=I dg;replace fO:=I fO;replace gC:=I gC;replace hg:=I hg;replace ki:=I ki;go_wp2_with fail;refine rN 10 (λw'=>w'.heap[Q]?=some (.cells #[P,ao a n aR] 138 (0,0))/\w'.heap[(w:Nat)]?=some (o:Obj)) (λbd=>?_) LT;refine tS ?_;refine dC 3 ?_;refine kG 4 (·.1) ?_;refine dC 5 ?_;refine kG 6 (·.2) ?_;refine jz 7 λK aE=>?_;go_simp;go_at_call 22;refine(ai1 (H1.ext U) al aK hY o.a).mono ?_;rw[az];rintro e _⟨_,_,rfl,jj,qh⟩;refine Rr ?_;intro n4 mo rl hX c7 di;refine aE _ _ (λ_ _=>(by(try dsimp only);exact⟨hX,c7⟩)) λhH=>ej ?_;have bd:=hH rfl ah;refine dC 8 ?_;refine dC 9 ?_;refine jz 10 λK aE=>?_;refine ajD ?_;intro a6 x Mv Wu v0 v1 v2 v3 v4 v5 v6 hh jO pW jF q4 Kg Dx;refine HE ?_;intro _ bd;refine h9 11 λK aE=>?_;refine Wv ?_;intro bd;go_wp2_with fail;refine ajE ?_;intro lh lz g9 iZ;obtain⟨cA,cR,cS,du,dw,dx,dB,dy,jH⟩:=xE g9;refine⟨rfl,_,(by simp[results,results105,go_sem,cA,cR,cS,du,dw,dx,dB,dy,jH];rfl),?_⟩;exact ajF
def axW{Q:Nat}(h:jQ w M gS c Q aQ ids)(al:im c)(aK:cM c l K aQ)(hY:K<=1000)(a1:ids.length<=1000)(o:sv){u:Nat}(Ww:o.b=(u:Int))(aj:u<9223372036854775808){ts:List T}(hF:a7 w 5 T.cs o.f.a o.f.n o.f.c ts)(BK:ts.length<=100)(ro:∀t,t∈ts->lx t.n){r:Int×ax×ba}(az:aQ.call c o.a (λb=>b.sub o.a u ts)=r):
  aS 106 #[Q,o] w (FU c Q w M gS r.2.2 (ids++[tX r.1 r.2.1]) (λx=>x.z=r.1)):=by
 replace Ww:=I Ww;refine HQ ?_;intro b3 iC fZ bE ku lK fC;go_enter func106,ntmps106;go_upto_region 1 with (fail);obtain⟨bh,eX⟩:∃bh,((w.alloc o).alloc (.cells #[av,av,aw,aw,av,aP,av,av,.bool false] 83))=bh:=⟨_,rfl⟩;rw[eX]at b3 iC fZ bE ku;try rw[eX]
 obtain⟨P,F,a,n,aR,H1,dg,fO,gC,hg,ki⟩:=ku;replace b3:=I b3;replace iC:=I iC;replace fZ:=I fZ;replace bE:=I bE;replace lK:=I lK;replace fC:=I fC;replace H1:=I H1;replace dg:=I dg;replace fO:=I fO;replace gC:=I gC;replace hg:=I hg;replace ki:=I ki;have z2:=aL (o:=2) fZ rfl;have aAY:¬(o.b<0):=by have:=Ww.out;omega
 go_wp2_with fail;refine rN 15 (λw'=>w'.heap[Q]?=some (.cells #[P,ao a n aR] 138 (0,0))/\w'.heap[(w:Nat)]?=some (o:Obj)) (λbd=>?_) LT;refine tS ?_;refine dC 3 ?_;refine kG 4 (·.1) ?_;refine dC 5 ?_;refine kG 6 (·.2) ?_;refine dC 7 ?_;refine kG 8 (·.2) ?_;refine dC 9 ?_;refine dC 10 ?_;refine kG 11 (·.2) ?_;refine jz 12 λK aE=>?_;go_simp;go_at_call 19;rw[show IntKind.u64.wrap o.b=(u:Int)from by rw[Ww.out,IntKind.wrap_u64];omega];refine(ai3 (H1.ext U) al aK hY o.a u J _ _ _ ts (hF.ext (b3.trans U)) BK ro).mono ?_;rw[az];rintro e _⟨_,_,rfl,jj,qh⟩;refine Rr ?_;intro n4 mo rl hX c7 di;refine aE _ _ (λ_ _=>(by(try dsimp only);exact⟨hX,c7⟩)) λhH=>ej ?_;have bd:=hH rfl ah;refine dC 13 ?_;refine dC 14 ?_;refine jz 15 λK aE=>?_;refine ajD ?_;intro a6 x Mv Wu v0 v1 v2 v3 v4 v5 v6 hh jO pW jF q4 Kg Dx;refine HE ?_;intro _ bd;refine h9 16 λK aE=>?_;refine Wv ?_;intro bd;go_wp2_with fail;refine ajE ?_;intro lh lz g9 iZ;obtain⟨cA,cR,cS,du,dw,dx,dB,dy,jH⟩:=xE g9;refine⟨rfl,_,(by simp[results,results106,go_sem,cA,cR,cS,du,dw,dx,dB,dy,jH];rfl),?_⟩;exact ajF
def ajG{Q:Nat}(bs:w.heap[Q]?=some (.cells #[P,ao a n aR] 138 (0,0)))(aM:aH w 0 54 3 ax.cs a n aR ids)(aK:ids[k]?=some i):
  aS 184 #[Q,(k:Int)] w (cU (.tuple #[i,.bool true]) w):=by
 have hk:=(ud.1 aK).1;have aq:=aM.neq;obtain⟨b,o,rfl,al⟩:=aM.aF.at_ k i aK;have nV:Z w (w.alloc hr):=U;have jt:(w.alloc hr).heap[(w:Nat)]?=some (hr:Obj):=e2 rfl;have c1:=aL (o:=1) (nV.ay bs) rfl;obtain⟨d0,lP,jE⟩:=Aj (w:=(w.alloc hr)) (b:=b) (o:=o+k*3) (x:=i) (λj v aD=>nV.ag (al j v aD));have fZ:=I jt;obtain⟨dU,cm,cq,axX⟩:=qu jt;have b0:(0:Int)<=(k:Int):=J;have bf:(k:Int)<(n:Int):=J;have dA:¬((k:Int)<0):=J;have gh:¬((n:Int)<=(k:Int)):=J;have b3:=I nV;go_enter func184,ntmps184;go_upto_region 1 with (fail);obtain⟨bh,eX⟩:∃bh,w.alloc hr=bh:=⟨_,rfl⟩;rw[eX]at nV c1 d0 lP jE fZ dU cm cq b3;simp only[eX]at axX;try rw[eX]
 go_wp2_with fail;obtain⟨c4,vC⟩:∃c4,(((bh.setCell (w,0) i.b).setCell (w,1) (ae i.l)).setCell (w,2) (ae i.s))=c4:=⟨_,rfl⟩;have f0:=Ht fZ.out i.b (ae i.l) (ae i.s);have lI:=xS (S:=λx=>x=(w:Nat)) (aI.refl _ bh) (R:=(w:Nat)) (.inl rfl) 0 1 2 i.b (ae i.l) (ae i.s);rw[vC]at f0 lI;rw[vC];obtain⟨z0,cZ,z2⟩:=jm f0;refine⟨rfl,_,(by simp[results,results184,go_sem,z0,cZ,z2];rfl),?_⟩;exact⟨rfl,lI.ext (λx e=>s9) b3.out⟩
def axY{Q:Nat}(h:jQ w M gS c Q aQ ids)(al:im c)(aK:cM c l K aQ)(o:sv)(a8:ids[k]?=some i)(c3:o.n=(k:Int)){xs:List cI}(sJ:a7 w 4 cI.cs o.e.a o.e.n o.e.c xs)(AT:∀y,y∈xs->lx y.n){r:Int×ba}(az:aQ.ka c o.a i (λb=>b.wo i xs)=r):
  aS 108 #[Q,o] w (FU c Q w M gS r.2 ids (λx=>x.z=r.1)):=by
 replace c3:=I c3;replace a8:=I a8;refine HQ ?_;intro b3 iC fZ bE ku lK fC;go_enter func108,ntmps108;refine Kf ?_;intro _ _ _ bh eX;rw[eX]at b3 iC fZ bE ku;try rw[eX]
 obtain⟨P,F,a,n,aR,H1,dg,fO,gC,hg,ki⟩:=ku;replace b3:=I b3;replace iC:=I iC;replace fZ:=I fZ;replace bE:=I bE;replace lK:=I lK;replace fC:=I fC;replace H1:=I H1;replace dg:=I dg;replace fO:=I fO;replace gC:=I gC;replace hg:=I hg;replace ki:=I ki;have z3:=aL (o:=3) fZ rfl;go_wp2_with fail;rw[c3.out];refine(ajG dg fO a8).mono ?_;rintro e w1⟨rfl,bz⟩;replace bz:=I bz;go_wp2_with fail;refine ajH ?_;intro aN oQ bq oS zU cd;refine rN 9 (λw'=>(w'.heap[Q]?=some (.cells #[P,ao a n aR] 138 (0,0))/\w'.heap[(w:Nat)]?=some (o:Obj))/\w'.heap[(w1:Nat)]?=some (i:Obj)) (λbd=>?_) ajI;refine tS ?_;refine kG 3 (·.1.1) ?_;refine dC 4 ?_;refine kG 5 (·.1.2) ?_;refine kG 6 (·.2) ?_;refine dC 7 ?_;refine kG 8 (·.1.2) ?_;refine jz 9 λK aE=>?_;go_simp;go_at_call 23;refine(ai6 ((H1.ext bq).ext (w':=aN.drew) U) al aK o.a i _ _ _ xs (sJ.ext (b3.trans (bq.trans U))) AT).mono ?_;rw[az];rintro e a6⟨_,_,rfl,jj,qh⟩;refine Rr ?_;intro n4 mo rl hX c7 di;obtain⟨_,_,_,_,_,_,_,_,_,_⟩:=xR di;refine HE ?_;intro _ bd;refine de 10 ?_;refine h9 11 λK aE=>?_;refine Wv ?_;intro bd;go_wp2_with fail;refine ajJ ?_;intro lh lz g9 iZ;obtain⟨cA,cR,cS,du,dw,dx,dB,dy,jH⟩:=xE g9;refine⟨rfl,_,(by simp[results,results108,go_sem,cA,cR,cS,du,dw,dx,dB,dy,jH];rfl),?_⟩;exact ajK
def axZ{Q:Nat}(h:jQ w M gS c Q aQ ids)(al:im c)(aK:cM c l K aQ)(o:sv)(a8:ids[k]?=some i)(c3:o.n=(k:Int)){r:Int×ba}(az:aQ.ka c o.a i (λb=>b.yc i)=r):
  aS 109 #[Q,o] w (FU c Q w M gS r.2 ids (λx=>x.z=r.1)):=by
 replace c3:=I c3;replace a8:=I a8;refine HQ ?_;intro b3 iC fZ bE ku lK fC;go_enter func109,ntmps109;refine Kf ?_;intro _ _ _ bh eX;rw[eX]at b3 iC fZ bE ku;try rw[eX]
 obtain⟨P,F,a,n,aR,H1,dg,fO,gC,hg,ki⟩:=ku;replace b3:=I b3;replace iC:=I iC;replace fZ:=I fZ;replace bE:=I bE;replace lK:=I lK;replace fC:=I fC;replace H1:=I H1;replace dg:=I dg;replace fO:=I fO;replace gC:=I gC;replace hg:=I hg;replace ki:=I ki;have z3:=aL (o:=3) fZ rfl;go_wp2_with fail;rw[c3.out];refine(ajG dg fO a8).mono ?_;rintro e w1⟨rfl,bz⟩;replace bz:=I bz;go_wp2_with fail;refine ajH ?_;intro aN oQ bq oS zU cd;refine rN 7 (λw'=>(w'.heap[Q]?=some (.cells #[P,ao a n aR] 138 (0,0))/\w'.heap[(w:Nat)]?=some (o:Obj))/\w'.heap[(w1:Nat)]?=some (i:Obj)) (λbd=>?_) ajI;refine tS ?_;refine kG 3 (·.1.1) ?_;refine dC 4 ?_;refine kG 5 (·.1.2) ?_;refine kG 6 (·.2) ?_;refine jz 7 λK aE=>?_;go_simp;go_at_call 24;refine(ai5 ((H1.ext bq).ext (w':=aN.drew) U) al aK o.a i).mono ?_;rw[az];rintro e a6⟨_,_,rfl,jj,qh⟩;refine Rr ?_;intro n4 mo rl hX c7 di;obtain⟨_,_,_,_,_,_,_,_,_,_⟩:=xR di;refine HE ?_;intro _ bd;refine de 8 ?_;refine h9 9 λK aE=>?_;refine Wv ?_;intro bd;go_wp2_with fail;refine ajJ ?_;intro lh lz g9 iZ;obtain⟨cA,cR,cS,du,dw,dx,dB,dy,jH⟩:=xE g9;refine⟨rfl,_,(by simp[results,results109,go_sem,cA,cR,cS,du,dw,dx,dB,dy,jH];rfl),?_⟩;exact ajK
def ax0{Q:Nat}(h:jQ w M gS c Q aQ ids)(al:im c)(aK:cM c l K aQ)(pt:c.room<=60000)(js:∀k,aQ.cur k<=1000000)(o:sv){r:List (List cI)×Int×ba}(az:aQ.tZ c o.a=r):
  aS 112 #[Q,o] w (FU c Q w M gS r.2.2 ids (λx=>x.b.n=r.1.length)):=by
 refine HQ ?_;intro b3 iC fZ bE ku lK fC;go_enter func112,ntmps112;refine Kf ?_;intro _ _ _ bh eX;rw[eX]at b3 iC fZ bE ku;try rw[eX]
 obtain⟨P,F,a,n,aR,H1,dg,fO,gC,hg,ki⟩:=ku;replace b3:=I b3;replace iC:=I iC;replace fZ:=I fZ;replace bE:=I bE;replace lK:=I lK;replace fC:=I fC;replace H1:=I H1;replace dg:=I dg;replace fO:=I fO;replace gC:=I gC;replace hg:=I hg;replace ki:=I ki;go_wp2_with fail;refine rN 6 (λw'=>w'.heap[Q]?=some (.cells #[P,ao a n aR] 138 (0,0))/\w'.heap[(w:Nat)]?=some (o:Obj)) (λbd=>?_) LT;refine tS ?_;refine kG 3 (·.1) ?_;refine dC 4 ?_;refine kG 5 (·.2) ?_;refine jz 6 λK aE=>?_;go_simp;go_at_call 25;refine(ajd (H1.ext (w':=bh.drew) U) al aK pt js o.a).mono ?_;rw[az];rintro e w1⟨gv,hU,fP,_,_,_,rfl,Ua,_,Nm,fL,qh,_⟩;have ax1:=I (show hU=r.1.length from by rw[Ua.neq,<-Nm,cx]);have n4:=(qh).cN (show Z bh _ from U);obtain⟨mo,rl⟩:=jQ.In dg fO gC hg ki fL n4;refine ajL ?_;intro hX c7 di;replace mo:=I mo;replace rl:=I rl;replace hX:=I hX;replace c7:=I c7;replace di:=I di;replace fL:=I fL;refine HE ?_;intro _ bd;refine de 7 ?_;refine de 8 ?_;refine de 9 ?_;refine de 10 ?_;refine de 11 ?_;refine og bQ ?_ _;go_wp2_with fail;refine rN 10 (λw'=>w'.heap[Q]?=some (.cells #[P,ao a n aR] 138 (0,0))/\w'.heap[(w:Nat)]?=some (o:Obj)) (λbd=>?_) (by(try dsimp only);exact⟨Z.ay (W:=w1) U hX,Z.ay (W:=w1) U c7⟩);refine tS ?_;refine dC 3 ?_;refine dC 4 ?_;refine kG 5 (·.1) ?_;refine dC 6 ?_;refine kG 7 (·.2) ?_;refine jz 8 λK aE=>?_;go_simp;go_at_call 185;obtain⟨_,_,g9,_,_,_,_,_,NE,_⟩:=fL;refine(awU (NE.dn.ext U) o.a).mono ?_;rintro e a6⟨rfl,dz⟩;have c0:aa (Z w1 a6):=Z.trans U dz;obtain⟨M9,acS⟩:∃M9,MY c r.2.2.cur o.a=M9:=⟨_,rfl⟩;rw[acS];refine aE _ _ (λ_ _=>(by(try dsimp only);exact⟨Z.ay (W:=w1) U hX,Z.ay (W:=w1) U c7⟩)) λhH=>ej ?_;have bd:=hH rfl ah;refine dC 9 ?_;have jF:=I (c0.ay di);obtain⟨_,_,_,_,_,_,_,_,_,_⟩:=xR jF;refine jz 10 λK aE=>?_;go_simp;refine J0 ?_;intro _;go_wp2_with fail;have g9:=FV jF r.2.1 av aw aw av (ao gv hU fP) M9 av (.bool false);have lz:=FW (w:=a6) (R:=(w:Nat)+1) r.2.1 av aw aw av (ao gv hU fP) M9 av (.bool false);obtain⟨lh,iZ⟩:∃lh,(((((((((a6.setCell (w,1,0) r.2.1).setCell (w,1,1) av).setCell (w,1,2) aw).setCell (w,1,3) aw).setCell (w,1,4) av).setCell (w,1,5) (ao gv hU fP)).setCell (w,1,6) M9).setCell (w,1,7) av).setCell (w,1,8) (.bool false))=lh:=⟨_,rfl⟩;rw[iZ]at g9 lz;rw[iZ];obtain⟨cA,cR,cS,du,dw,dx,dB,dy,jH⟩:=xE g9;refine⟨rfl,_,(by simp[results,results112,go_sem,cA,cR,cS,du,dw,dx,dB,dy,jH];rfl),?_⟩;obtain⟨f1,f2⟩:=(mo.ext c0).wE (rl.ext c0) b3 J QF fC lz;exact⟨⟨r.2.1,⟨0,0,0⟩,0,⟨gv,hU,fP⟩,M9,0,false⟩,_,_,rfl,ax1,f1,f2⟩
def ax2{Q:Nat}(h:jQ w M gS c Q aQ ids)(al:im c)(aK:cM c l K aQ)(pt:c.room<=60000)(o:sv)(aq:n0<c.ps.length)(mI:o.a=(n0:Int)){cp:List e9}(cy:aQ.bN n0=.down cp):
  aS 113 #[Q,o] w (FU c Q w M gS aQ ids (λx=>x.cp=((et aQ n0).au.length:Nat)/\x.up=false)):=by
 replace mI:=I mI;refine HQ ?_;intro b3 iC fZ bE ku lK fC;go_enter func113,ntmps113;refine Kf ?_;intro _ _ _ bh eX;rw[eX]at b3 iC fZ bE ku;try rw[eX]
 obtain⟨P,F,a,n,aR,H1,dg,fO,gC,hg,ki⟩:=ku;replace b3:=I b3;replace iC:=I iC;replace fZ:=I fZ;replace bE:=I bE;replace lK:=I lK;replace fC:=I fC;replace H1:=I H1;replace dg:=I dg;replace fO:=I fO;replace gC:=I gC;replace hg:=I hg;replace ki:=I ki;go_wp2_with fail;refine rN 24 (λw'=>w'.heap[Q]?=some (.cells #[P,ao a n aR] 138 (0,0))/\w'.heap[(w:Nat)]?=some (o:Obj)) (λbd=>?_) Wx;refine tS ?_;refine kG 3 (·.1) ?_;refine dC 4 ?_;refine kG 5 (·.2) ?_;refine dC 9 ?_;refine dC 10 ?_;refine dC 11 ?_;refine kG 12 (·.1) ?_;refine dC 13 ?_;refine kG 14 (·.2) ?_;refine dC 16 ?_;refine dC 17 ?_;refine dC 18 ?_;refine kG 19 (·.1) ?_;refine dC 20 ?_;refine kG 21 (·.2) ?_;refine jz 6 λK aE=>?_;go_simp;go_at_call 10;rw[mI.out];refine(HK (H1.out.ext U) al aK pt aq).mono ?_;rintro e w1⟨cf,_,ps,rfl,dh,br⟩;have Du:=I dh.ck.se;have EQ:∀w:aC,(Instr.field 44 (.agg #[ae cf.cX,cf.l,cf.p,cf.b]) 1).run prog w=.ok (.slice cf.l.a cf.l.n cf.l.c) w:=λ_=>by kernel_rfl
 have bz:aa (Z bh w1):=Z.trans U br;refine aE _ _ (λ_ _=>Wx) λhH=>ej ?_;have bd:=hH rfl ah;refine dC 7 ?_;refine dC 8 ?_;refine jz 15 λK aE=>?_;go_simp;go_at_call 186;refine(aw6 (H1.out.ext (bz.out.trans U)) al aK pt aq cy).mono ?_;rintro e aN⟨rfl,cn⟩;have bq:aa (Z bh aN):=Z.trans (bz.out.trans U) cn;obtain⟨vG,Nm⟩:∃vG:Int,((et aQ n0).ps.length:Nat)=vG:=⟨_,rfl⟩;rw[Nm];refine aE _ _ (λ_ _=>Wx) λhH=>ej ?_;have bd:=hH rfl ah;refine jz 22 λK aE=>?_;go_simp;go_at_call 11;obtain⟨_,_,g9,_,_,_,_,_,NE,_⟩:=H1.out;refine(VY (NE.dn.ext (bq.out.trans U)) (by have:=DW al.tolZ;omega) (n0:Int)).mono ?_;rintro e a6⟨rfl,dz⟩;rw[show mH c aQ.bN (n0:Int)=false from by unfold mH;rw[kN,cy,wV]];have c0:aa (Z bh a6):=Z.trans (bq.out.trans U) dz;have jF:=I (c0.out.ay bE.out);obtain⟨_,_,_,_,_,_,_,_,_,_⟩:=xR jF.out;refine aE _ _ (λ_ _=>Wx) λhH=>ej ?_;have bd:=hH rfl ah;refine dC 23 ?_;refine jz 24 λK aE=>?_;go_simp;refine J0 ?_;intro _;go_wp2_with fail;have g9:=FV jF.out av av aw aw av aP (cf.l.n:Int) vG (.bool false);have lz:=FW (w:=a6) (R:=(w:Nat)+1) av av aw aw av aP (cf.l.n:Int) vG (.bool false);obtain⟨lh,iZ⟩:∃lh,(((((((((a6.setCell (w,1,0) av).setCell (w,1,1) av).setCell (w,1,2) aw).setCell (w,1,3) aw).setCell (w,1,4) av).setCell (w,1,5) aP).setCell (w,1,6) (cf.l.n:Int)).setCell (w,1,7) vG).setCell (w,1,8) (.bool false))=lh:=⟨_,rfl⟩;rw[iZ]at g9 lz;rw[iZ];obtain⟨cA,cR,cS,du,dw,dx,dB,dy,jH⟩:=xE g9;refine⟨rfl,_,(by simp[results,results113,go_sem,cA,cR,cS,du,dw,dx,dB,dy,jH];rfl),?_⟩;have Wy:jQ a6 (λx=>M x\/x=(w:Nat)+1) gS c Q aQ ids:=⟨P,F,a,n,aR,H1.out.ext c0.out,c0.out.ay dg.out,fO.out.ext c0.out,gC.out,hg.out,ki.out⟩;obtain⟨f1,f2⟩:=Wy.wE (hj.of c0.out) b3.out J QF fC.out lz;exact⟨⟨0,⟨0,0,0⟩,0,⟨none,0,0⟩,(cf.l.n:Int),vG,false⟩,_,_,rfl,⟨by show(cf.l.n:Int)=_;rw[Du.out],rfl⟩,f1,f2⟩
def ax3{Q:Nat}(dV:w.cell? ⟨Q,0,none⟩=some (.pointer (some ⟨P,0,none⟩))):(method 529 136 (.pointer (some ⟨Q,0,none⟩)) "Crash").run prog w=.ok (12,.pointer (some ⟨P,0,none⟩)) w:=by
 have e:((prog.info? 136).bind (λi=>(i.methods.find? (·.name== "Crash")).map (λm=>(m.path.toList.map (λs=>(s.struct,s.index,s.deref)),m.func))))=some ([(138,0,true)],some (12,true)):=bQ;rw[Option.bind_eq_some_iff]at e;obtain⟨i,af,e⟩:=e;rw[Option.map_eq_some_iff]at e;obtain⟨m,an,e⟩:=e;injection e with aO bt;have ax4:m.path.toList= [⟨138,0,true⟩]:=by
  cases aY:m.path.toList with
  |nil=>rw[aY]at aO;cases aO
  |cons a l=>
   rw[aY]at aO;cases l with
   |nil=>simp at aO;obtain⟨gM,kM,oG⟩:=aO;cases a;simp at gM kM oG;subst gM kM oG;rfl
   |cons b l=>simp at aO
 have u1:=underlying138;have u2:=underlying26;rw[show(529:Nat)=528+1 from rfl,method];simp[typeInfo,af,an,ax4,bt,follow,run_underlying u1,run_underlying u2,receiverAt,Place.get,loadVar,asAddr,fieldPlace,dV,go_sem,Addr.add]
def ax5{Q:Nat}(h:jQ w M gS c Q aQ ids)(al:im c)(o:sv)(bx:w.heap[B]?=some (.cells #[.func (.methodOf 136 "Crash") #[] #[]] 206 (0,0))):
  aS 182 #[Q,o,B] w (FU c Q w M gS (yH c aQ o.a) ids (λx=>x.z=0↔mH c aQ.bN o.a=true)):=by
 refine HQ ?_;intro b3 iC fZ bE ku lK fC;go_enter func182,ntmps182;refine Kf ?_;intro _ _ _ bh eX;rw[eX]at b3 iC fZ bE ku;try rw[eX]
 obtain⟨P,F,a,n,_,H1,dg,fO,gC,hg,ki⟩:=ku;have dV:=aL (o:=0) dg rfl;replace b3:=I b3;replace iC:=I iC;replace fZ:=I fZ;replace bE:=I bE;replace lK:=I lK;replace fC:=I fC;replace H1:=I H1;replace dg:=I dg;replace fO:=I fO;replace gC:=I gC;replace hg:=I hg;replace ki:=I ki;have Vb:=aL (o:=0) (b3.ay bx) rfl;obtain⟨-,_,_⟩:=jm fZ;have hm:=ax3 dV;go_wp2_with fail;refine(i5 H1 al o.a o.b).mono ?_;rintro e w1⟨z,Na,_,_,rfl,jj,qh⟩;refine Rr ?_;intro n4 mo rl hX c7 di;obtain⟨_,_,_,_,_,_,_,_,_,_⟩:=xR di;replace Na:=I Na;go_wp2_with fail;have g9:=FV di z av aw aw av aP av av (.bool false);have lz:=FW (w:=w1) (R:=(w:Nat)+1) z av aw aw av aP av av (.bool false);obtain⟨lh,iZ⟩:∃lh,(((((((((w1.setCell (w,1,0) z).setCell (w,1,1) av).setCell (w,1,2) aw).setCell (w,1,3) aw).setCell (w,1,4) av).setCell (w,1,5) aP).setCell (w,1,6) av).setCell (w,1,7) av).setCell (w,1,8) (.bool false))=lh:=⟨_,rfl⟩;rw[iZ]at g9 lz;rw[iZ];obtain⟨cA,cR,cS,du,dw,dx,dB,dy,jH⟩:=xE g9;refine⟨rfl,_,(by simp[results,results182,go_sem,cA,cR,cS,du,dw,dx,dB,dy,jH];rfl),?_⟩;obtain⟨f1,f2⟩:=mo.wE rl b3 J QF fC lz;exact⟨⟨z,⟨0,0,0⟩,0,⟨none,0,0⟩,0,0,false⟩,_,_,rfl,Na,f1,f2⟩
def vH{P:Program}{F6:TypeId}(bm:P.underlying t=some (.map F6 e))(hk:P.underlying F6=some (.int .i64)){W:aC}{aX:Array MapEntry}{c:Nat}(ad:W.heap[b]?=some (.map aX c))(k:Int)(v:Value)(bk:Instr.findNow (.int .i64) k aX.toList 0=some none):
  ∃u,(Instr.mapUpdate t (.map (some b)) k v).run P W=.ok () u/\u.heap[b]?=some (.map (aX.push {key:=.int .i64 k,val:=v,born:=c}) (c+1))/\aI (·=b) W u:=by
 have fH:=bZ ad;refine⟨{W with heap:=W.heap.setIfInBounds b (.map (aX.push {key:=.int .i64 k,val:=v,born:=c}) (c+1))},by simp[Instr.mapUpdate,RW bm,MapKept.run_getObj_map ad,MapKept.run_checkKey hk (k:=.int .i64 k) rfl,MapKept.run_findKey hk bk,MapKept.run_setObj_map _ ad,Result.andThen],?_,⟨rfl,rfl,rfl,by simp,λx X aq=>?_⟩⟩
 ·simp[fH]
 ·simp[W1,Ne.symm (show ¬x=b from aq)]
def ajM(ng:Value)(bw:∃fn cs ps,ng=.func fn cs ps):aS 102 #[ng] w λe w'=>∃B,e=.returned (.func (.func 181) #[] #[B])/\Z w w':=by
 obtain⟨_,_,_,rfl⟩:=bw;go_enter func102,ntmps102;go_wp2;go_ret;exact⟨_,rfl,U⟩
def Rs(ng:Value)(bw:∃fn cs ps,ng=.func fn cs ps):aS 103 #[ng] w λe w'=>∃B,e=.returned (.func (.func 182) #[] #[.pointer (some (B,0))])/\Z w w'/\(w:Nat)<=B/\w'.heap[B]?=some (.cells #[ng] 206 (0,0)):=by
 obtain⟨_,_,_,rfl⟩:=bw;go_enter func103,ntmps103;go_wp2;go_ret;exact⟨_,rfl,U,bJ _,e2 rfl⟩
def HR(w:World)(dM:Nat)(k:Int)(v:Value):Prop:=∃aX c,w.heap[dM]?=some (.map aX c)/\∃n,Instr.findNow (.int .i64) (.int .i64 k) aX.toList 0=some (some (n,v))
def ax6:aS 65 #[] w λe w'=>∃dM B,e=.returned (.map (some dM))/\Z w w'/\(w:Nat)<=dM/\(w:Nat)<=B/\w'.heap[B]?=some (.cells #[.func (.methodOf 136 "Crash") #[] #[]] 206 (0,0))/\
  HR w' dM 6 (.func (.func 182) #[] #[B])/\HR w' dM 8 (.func (.func 104) #[] #[])/\HR w' dM 9 (.func (.func 105) #[] #[])/\HR w' dM 13 (.func (.func 106) #[] #[])/\
  HR w' dM 10 (.func (.func 108) #[] #[])/\HR w' dM 11 (.func (.func 109) #[] #[])/\HR w' dM 16 (.func (.func 112) #[] #[])/\HR w' dM 17 (.func (.func 113) #[] #[]):=by
 go_enter func65,ntmps65;have rq:=@run_makeMap prog;go_wp2_with fail;clear rq;have ad:(w.alloc (Obj.map #[] 0)).heap[(w:Nat)]?=some (.map #[] 0):=e2 rfl;have X:Z w (w.alloc (Obj.map #[] 0)):=U;obtain⟨u0,Cs⟩:∃u0,w.alloc (Obj.map #[] 0)=u0:=⟨_,rfl⟩;rw[Cs]at ad X;rw[Cs];clear Cs;have b3:=I X;clear X;refine(ajM _ ⟨_,_,_,rfl⟩).mono ?_;rintro e _⟨qD,rfl,X⟩;replace ad:=X.ay ad;obtain⟨_,_,ad,ajN⟩:=vH (P:=prog) qn ft ad 1 (.func (.func 181) #[] #[qD]) bQ;have bz:=I (ajN.ext (λx e=>s9) (b3.out.trans X));clear X ajN;go_wp2_with fail;refine(ajM _ ⟨_,_,_,rfl⟩).mono ?_;rintro e _⟨VF,rfl,X⟩;replace ad:=X.ay ad;obtain⟨_,_,ad,pO⟩:=vH (P:=prog) qn ft ad 7 (.func (.func 181) #[] #[VF]) bQ;have bq:=I (pO.ext (λx e=>s9) (bz.out.trans X));clear X pO;go_wp2_with fail;refine(Rs _ ⟨_,_,_,rfl⟩).mono ?_;rintro e _⟨Tx,rfl,X,bx,al⟩;replace ad:=X.ay ad;obtain⟨_,_,ad,ER⟩:=vH (P:=prog) qn ft ad 2 (.func (.func 182) #[] #[Tx]) bQ;have c0:=I (ER.ext (λx e=>s9) (bq.out.trans X));clear X bx al ER;go_wp2_with fail;refine(Rs _ ⟨_,_,_,rfl⟩).mono ?_;rintro e _⟨Ty,rfl,X,bx,al⟩;replace ad:=X.ay ad;obtain⟨_,_,ad,ajO⟩:=vH (P:=prog) qn ft ad 3 (.func (.func 182) #[] #[Ty]) bQ;have eA:=I (ajO.ext (λx e=>s9) (c0.out.trans X));clear X bx al ajO;go_wp2_with fail;refine(Rs _ ⟨_,_,_,rfl⟩).mono ?_;rintro e _⟨Lh,rfl,X,bx,al⟩;replace ad:=X.ay ad;obtain⟨_,_,ad,ra⟩:=vH (P:=prog) qn ft ad 4 (.func (.func 182) #[] #[Lh]) bQ;have hi:=I (ra.ext (λx e=>s9) (eA.out.trans X));clear X bx al ra;go_wp2_with fail;refine(Rs _ ⟨_,_,_,rfl⟩).mono ?_;rintro e _⟨ax7,rfl,X,bx,al⟩;replace ad:=X.ay ad;obtain⟨_,_,ad,ajP⟩:=vH (P:=prog) qn ft ad 5 (.func (.func 182) #[] #[ax7]) bQ;have jr:=I (ajP.ext (λx e=>s9) (hi.out.trans X));clear X bx al ajP;go_wp2_with fail;refine(Rs _ ⟨_,_,_,rfl⟩).mono ?_;rintro e dR⟨qO,rfl,X,bx,al⟩;replace ad:=X.ay ad;have jt:=ad;obtain⟨u7,_,ad,Ok⟩:=vH (P:=prog) qn ft ad 6 (.func (.func 182) #[] #[qO]) bQ;have s8:=I (Ok.ext (λx e=>s9) (jr.out.trans X));have ax8:=I (ek jr.out.size bx);have Or:=I ((Ok.block qO (bZ al) (λe=>by have e:qO=(w:Nat):=e;rw[e]at al;rw[show dR.heap[(w:Nat)]? =_ from jt]at al;cases al)).trans al);clear X bx al Ok;have Rt:=ad;obtain⟨u8,_,ad,K7⟩:=vH (P:=prog) qn ft ad 8 (.func (.func 104) #[] #[]) bQ;have l2:=I (K7.ext (λx e=>s9) s8.out);have M1:=I ((K7.block qO (bZ Or.out) (λe=>by have e:qO=(w:Nat):=e;have:=Or.out;rw[e]at this;rw[show u7.heap[(w:Nat)]? =_ from Rt]at this;cases this)).trans Or.out);have Gv:=ad;clear K7;obtain⟨u9,_,ad,lz⟩:=vH (P:=prog) qn ft ad 9 (.func (.func 105) #[] #[]) bQ;have pn:=I (lz.ext (λx e=>s9) l2.out);have Os:=I ((lz.block qO (bZ M1.out) (λe=>by have e:qO=(w:Nat):=e;have:=M1.out;rw[e]at this;rw[show u8.heap[(w:Nat)]? =_ from Gv]at this;cases this)).trans M1.out);have ajQ:=ad;clear lz;obtain⟨u10,_,ad,Pi⟩:=vH (P:=prog) qn ft ad 13 (.func (.func 106) #[] #[]) bQ;have ax9:=I (Pi.ext (λx e=>s9) pn.out);have PP:=I ((Pi.block qO (bZ Os.out) (λe=>by have e:qO=(w:Nat):=e;have:=Os.out;rw[e]at this;rw[show u9.heap[(w:Nat)]? =_ from ajQ]at this;cases this)).trans Os.out);have ajR:=ad;clear Pi;obtain⟨u11,_,ad,Rd⟩:=vH (P:=prog) qn ft ad 14 (.func (.func 107) #[] #[]) bQ;have aya:=I (Rd.ext (λx e=>s9) ax9.out);have So:=I ((Rd.block qO (bZ PP.out) (λe=>by have e:qO=(w:Nat):=e;have:=PP.out;rw[e]at this;rw[show u10.heap[(w:Nat)]? =_ from ajR]at this;cases this)).trans PP.out);have ajS:=ad;clear Rd;obtain⟨u12,_,ad,ST⟩:=vH (P:=prog) qn ft ad 10 (.func (.func 108) #[] #[]) bQ;have ayb:=I (ST.ext (λx e=>s9) aya.out);have SW:=I ((ST.block qO (bZ So.out) (λe=>by have e:qO=(w:Nat):=e;have:=So.out;rw[e]at this;rw[show u11.heap[(w:Nat)]? =_ from ajS]at this;cases this)).trans So.out);have ajT:=ad;clear ST;obtain⟨u13,_,ad,UV⟩:=vH (P:=prog) qn ft ad 11 (.func (.func 109) #[] #[]) bQ;have ayc:=I (UV.ext (λx e=>s9) ayb.out);have WF:=I ((UV.block qO (bZ SW.out) (λe=>by have e:qO=(w:Nat):=e;have:=SW.out;rw[e]at this;rw[show u12.heap[(w:Nat)]? =_ from ajT]at this;cases this)).trans SW.out);have ajU:=ad;clear UV;obtain⟨u14,_,ad,WP⟩:=vH (P:=prog) qn ft ad 12 (.func (.func 110) #[] #[]) bQ;have Hz:=I (WP.ext (λx e=>s9) ayc.out);have aaa:=I ((WP.block qO (bZ WF.out) (λe=>by have e:qO=(w:Nat):=e;have:=WF.out;rw[e]at this;rw[show u13.heap[(w:Nat)]? =_ from ajU]at this;cases this)).trans WF.out);have ajV:=ad;clear WP;obtain⟨u15,_,ad,aab⟩:=vH (P:=prog) qn ft ad 15 (.func (.func 111) #[] #[]) bQ;have ayd:=I (aab.ext (λx e=>s9) Hz.out);have aac:=I ((aab.block qO (bZ aaa.out) (λe=>by have e:qO=(w:Nat):=e;have:=aaa.out;rw[e]at this;rw[show u14.heap[(w:Nat)]? =_ from ajV]at this;cases this)).trans aaa.out);have ajW:=ad;clear aab;obtain⟨u16,_,ad,aad⟩:=vH (P:=prog) qn ft ad 16 (.func (.func 112) #[] #[]) bQ;have aye:=I (aad.ext (λx e=>s9) ayd.out);have aae:=I ((aad.block qO (bZ aac.out) (λe=>by have e:qO=(w:Nat):=e;have:=aac.out;rw[e]at this;rw[show u15.heap[(w:Nat)]? =_ from ajW]at this;cases this)).trans aac.out);have ajX:=ad;clear aad;obtain⟨_,_,ad,aaf⟩:=vH (P:=prog) qn ft ad 17 (.func (.func 113) #[] #[]) bQ;have ayf:=I (aaf.ext (λx e=>s9) aye.out);have ayg:=I ((aaf.block qO (bZ aae.out) (λe=>by have e:qO=(w:Nat):=e;have:=aae.out;rw[e]at this;rw[show u16.heap[(w:Nat)]? =_ from ajX]at this;cases this)).trans aae.out);clear aaf;change aa _ at ad;have ayh:=I ayf.out;have X_:=I ayg.out;clear jt Rt Gv ajQ ajR ajS ajT ajU ajV ajW ajX;go_wp2;go_ret;exact⟨(w:Nat),qO,rfl,ayh.out,bJ _,ax8.out,X_.out,⟨_,_,ad.out,6,by kernel_rfl⟩,⟨_,_,ad.out,7,by kernel_rfl⟩,⟨_,_,ad.out,8,by kernel_rfl⟩,⟨_,_,ad.out,9,by kernel_rfl⟩,⟨_,_,ad.out,11,by kernel_rfl⟩,⟨_,_,ad.out,12,by kernel_rfl⟩,⟨_,_,ad.out,15,by kernel_rfl⟩,⟨_,_,ad.out,16,by kernel_rfl⟩⟩
end Go.Proofs.YtfiiblnenhdlhaaGreat
