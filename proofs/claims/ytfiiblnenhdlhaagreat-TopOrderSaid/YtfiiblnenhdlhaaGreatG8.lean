/- Part. -/
import Derived.Test.YtfiiblnenhdlhaaGreatG5
import Derived.Test.YtfiiblnenhdlhaaGreatG7
set_option linter.unusedVariables false
set_option linter.unusedSimpArgs false
set_option linter.defProp false
set_option maxRecDepth 100000
set_option maxHeartbeats 4000000
namespace Go.Proofs.YtfiiblnenhdlhaaGreat
open Go.RowKit Tryz
variable {base g n:Nat}{α:Type}{w w':World}{i:aA}
def atu{rs:List gJ}{d:eR}(h:oF j0 rs=some d)(k:Nat):∃s,oF j0 (rs.take k)=some s:=by
 have:rs=rs.take k++rs.drop k:=(List.take_append_drop k rs).symm;rw[this,Ic]at h;cases he:oF j0 (rs.take k)with
 |none=>rw[he]at h;cases h
 |some s=>exact⟨s,rfl⟩
def atv{rs:List gJ}{d s:eR}{k:Nat}(h:oF j0 rs=some d)(hk:k<rs.length)(hs:oF j0 (rs.take k)=some s):∃s',eT s rs[k]=some s'/\oF j0 (rs.take (k+1))=some s':=by
 obtain⟨_,sV⟩:=atu h (k+1);have ak:=sV;rw[iX hk,Ic,hs,Ie,Ba]at ak;cases aK:eT s rs[k]with
 |none=>rw[aK]at ak;cases ak
 |some e3=>rw[aK]at ak;injection ak with ak;exact⟨e3,rfl,by rw[sV,<-ak]⟩
def agV(a:bk)(n c:Nat)(xs:List gL)(rs:List gJ)(d:eR)(w:aC)(H:wP w a n c xs)(bM:xs.map (·.ay)=rs.map gl)(cR:∀r,r∈rs->xI r)(Tw:oF j0 rs=some d)(rF:∀r,r∈rs->(gl r).length<=4000)(an:rs.length<=200000):
  aR 44 #[.slice a n c] w λe w'=>∃s' pQ oH,e=.returned (.tuple #[.agg #[.int .u64 s'.cO,.slice s'.l.a s'.l.n s'.l.c,.slice s'.p.a s'.p.n s'.p.c,.slice s'.b.a s'.b.n s'.b.c],.int .i64 0])/\rf w' w s' d pQ oH/\Z w w':=by
 obtain rfl:=H.aF.neq;have mB:xs.length=rs.length:=by have:=eP List.length bM;rw[cr,cr]at this;exact this
 have OW:=H.aF.max;unfold maxLen at OW;replace H:=I H;replace bM:=I bM;replace cR:=I cR;replace Tw:=I Tw;replace rF:=I rF;replace mB:=I mB;go_enter func44,ntmps44;go_wp2_with fail;go_step3;go_wp2_with fail;go_step3;go_wp2_with fail;have hV:((w.alloc (.cells #[au,aH,aH,aH] 44)).alloc (.cells #[au,aH,aH,aH] 44)).heap[(w:Nat)+1]?=some (.cells #[au,aH,aH,aH] 44):=hT;have oX:((w.alloc (.cells #[au,aH,aH,aH] 44)).alloc (.cells #[au,aH,aH,aH] 44)).heap[(w:Nat)]?=some (.cells #[au,aH,aH,aH] 44):=hT;have bz:Z w ((w.alloc (.cells #[au,aH,aH,aH] 44)).alloc (.cells #[au,aH,aH,aH] 44)):=X;have lj:((w.alloc (.cells #[au,aH,aH,aH] 44)).alloc (.cells #[au,aH,aH,aH] 44)).heap.size=(w:Nat)+1+1:=by simp
 generalize pq:((w.alloc (.cells #[au,aH,aH,aH] 44)).alloc (.cells #[au,aH,aH,aH] 44))=aN at hV oX bz lj ⊢;replace bz:=I bz;replace oX:=I oX;replace hV:=I hV;replace lj:=I lj;clear pq;go_loopg [5,7,9,12] (xs.length) (λg nM _ _ st wr=>∃(k:Nat) (s:lZ) (rV:eR) (ag ps:List bO),g+k=xs.length/\nM=.int .i64 0/\st=.int .i64 k/\Hid (oF j0 (rs.take k)=some rV)/\Hid (qQ wr (w.heap.size+1) (w.heap.size+1) s rV ag ps)/\Hid (wr.heap[(w:Nat)]?=some (.cells #[au,aH,aH,aH] 44))/\Hid (Z w wr)/\(w:Nat)+1+1<=(wr:Nat));case atStart=>exact⟨0,⟨0,⟨none,0,0⟩,⟨none,0,0⟩,⟨none,0,0⟩⟩,j0,[],[],J,rfl,rfl,rfl,⟨hV,⟨rfl,fx.nil _ _,rfl,fx.nil _ _,rfl,Own.nil _ _ _ aA.bH,λx y U _=>by cases U⟩,bA _⟩,oX,bz,by rw[lj.out];exact bA _⟩
 case round=>
  obtain⟨k,s,rV,ag,ps,_,rfl,rfl,k7,lY,F0,U,_⟩:=hrel;by_cases hk:k<xs.length
  ·obtain⟨b,o,rfl,ao⟩:=H.aF.get k hk;have cT:wr.cell? (b,o+k)=some ↑xs[k].v:=by have:=U.ah (ao 0 _ rfl);rwa [jT,uY]at this
   refine kt ?_;intro b0 bd;have Tx:k<rs.length:=by rw[<-mB.out];exact hk
   have nD:xs[k].ay=gl rs[k]:=by
    have:=eP (λl=>l[k]?) bM;simp only[nu,fz hk,fz Tx,FL,Option.some.injEq]at this;exact this
   have a8:=H.ay xs[k] (c7 hk);rw[nD]at a8;have av:=I (a8.ext U);have Gq:=cR.out rs[k] (c7 Tx);have atw:xs[k].v.n<=100000:=by rw[av.neq];exact eh (rF _ (c7 Tx)) af
   obtain⟨y6,ba,c5⟩:=atv Tw Tx k7;replace ba:=I ba;replace c5:=I c5;replace Gq:=I Gq;clear ao nD a8;go_wp2_with fail;refine(aqY xs[k].v.a xs[k].v.n xs[k].v.c rs[k] _ av Gq atw).mono ?_;rintro e aY⟨bX,rfl,ki,CH,fT⟩;replace ki:=I ki;replace CH:=I CH;replace fT:=I fT;clear cT;go_wp2_with fail;have hlen:=agQ k7;rw[o9]at hlen;have OX:j0.ag.length=0:=rfl;have AJ:j0.ps.length=0:=rfl;have ox:j0.ay.length=0:=rfl;have Tu:ps.length=rV.ps.length:=by rw[<-cr (f:=(·.d)),lY.st.ma]
   have agT:s.l.n=rV.ag.length:=lY.st.ct.xQ;have Tv:s.p.n=rV.ps.length:=lY.st.ct.jE;have agU:s.b.n=rV.ay.length:=lY.st.b.neq;have h6:=agP (w.heap.size+1) (w.heap.size+1) s rV ag ps bX rs[k] _ (lY.ext (w':=aY.alloc (.cells #[rs[k].k,ad (rs[k].n:Int),bX.k,bX.id.b,ad bX.id.l,ad bX.id.s,bX.c,ad bX.u,bX.f,bX.e,rs[k].id.b,ad rs[k].id.l,ad rs[k].id.s] 169)) X) (by have:=fT.size;simp;omega) (ki.ct.ext X) CH Gq J J J J;rw[ba.out]at h6;refine h6.mono ?_;rintro e b3 bC;change qR _ _ _ y6 (.int .i64 0) _ _ _ at bC;obtain⟨rfl,s',pQ,oH,ll,gI,dG⟩:=bC;have pn:=(lY.ext (w':=aY.alloc (.cells #[rs[k].k,ad (rs[k].n:Int),bX.k,bX.id.b,ad bX.id.l,ad bX.id.s,bX.c,ad bX.u,bX.f,bX.e,rs[k].id.b,ad rs[k].id.l,ad rs[k].id.s] 169)) X).cx;have rU:=(gI.block w (by have:=fT.size;simp;omega) (λz=>by have:=(pn _ z).1;omega)).trans ((show Z wr (aY.alloc (.cells #[rs[k].k,ad (rs[k].n:Int),bX.k,bX.id.b,ad bX.id.l,ad bX.id.s,bX.c,ad bX.u,bX.f,bX.e,rs[k].id.b,ad rs[k].id.l,ad rs[k].id.s] 169))from X).aB F0);have eX:Z w b3:=gI.ext (W:=w) (λb aa=>by have:=(pn b aa).1;omega) X;have atx:(w:Nat)+1+1<=(b3:Nat):=by have:=gI.size;have:=fT.size;simp at*;omega
   replace ll:=I ll;replace rU:=I rU;replace eX:=I eX;clear gI dG pn h6 hlen OX AJ ox Tu agT Tv agU;go_wp2_with fail;go_roundg (gk - 1);case measure=>omega
   case rel=>exact⟨k+1,s',y6,pQ,oH,J,rfl,by go_num,c5,ll,rU,eX,atx⟩
  ·have oK:rs.take k=rs:=ir (by have:=mB.out;omega);have Ty:=k7.out;rw[oK,Tw.out]at Ty;injection Ty with Ty;subst Ty;obtain⟨_,_,_,_⟩:=vx lY.box;obtain⟨_,_,_,_,_⟩:=Ci F0;clear oK;go_wp2_with fail;rw[nJ];have u0:=F0.out;have f0:=K9 u0 (ad s.cO) s.l s.p s.b;have iy:=CE (S:=λx=>x=(w:Nat)) (aG.refl _ wr) (R:=(w:Nat)) (.inl rfl) (ad s.cO) s.l s.p s.b;obtain⟨z0,cU,z2,z3⟩:=vx f0;refine bodyPost_ret (v:=.tuple #[.agg #[.int .u64 s.cO,.slice s.l.a s.l.n s.l.c,.slice s.p.a s.p.n s.p.c,.slice s.b.a s.b.n s.b.c],.int .i64 0]) (by simp[results,results44,go_sem,z0,cU,z2,z3]) rfl ⟨s,ag,ps,rfl,(lY.st.Er u0 iy).mono J,iy.ext (W:=w) (λb aa=>by subst aa;omega) U⟩
structure kX where
 x:b1
 r:gJ
def kX.cs(p:kX):List Value:= [.int .i64 p.r.k,.int .u64 (p.r.n:Int),.int .i64 p.x.k,.int .i64 p.x.id.b,.int .u64 p.x.id.l,.int .u64 p.x.id.s,.int .i64 p.x.c,.int .u64 p.x.u,.slice p.x.f.a p.x.f.n p.x.f.c,.slice p.x.e.a p.x.e.n p.x.e.c,.int .i64 p.r.id.b,.int .u64 p.r.id.l,.int .u64 p.r.id.s]
def kX.bH(p:kX):p.cs.length=13:=rfl
def kX.cN(p:kX):∀u∈p.cs,u.oneCell'=true:=by
 intro u al;simp only[kX.cs,nK,sW,tJ]at al;rcases al with rfl|rfl|rfl|rfl|rfl|rfl|rfl|rfl|rfl|rfl|rfl|rfl|rfl<;>rfl
def aty:(prog.info? 169).map (λi=>(i.zero,i.size,i.bytes))=some (some (.agg #[ar,au,ar,ar,au,au,ar,au,aH,aH,ar,au,au]),13,136):=bV
def atz{b o:Nat}{p:kX}(h:r9 w b o p.cs):w.cell? (b,o)=some ↑p.r.k/\w.cell? (b,o+1)=some ↑(ad (p.r.n:Int))/\w.cell? (b,o+2)=some ↑p.x.k/\w.cell? (b,o+3)=some ↑p.x.id.b/\w.cell? (b,o+4)=some ↑(ad p.x.id.l)/\w.cell? (b,o+5)=some ↑(ad p.x.id.s)/\w.cell? (b,o+6)=some ↑p.x.c/\w.cell? (b,o+7)=some ↑(ad p.x.u)/\w.cell? (b,o+8)=some ↑p.x.f/\w.cell? (b,o+9)=some ↑p.x.e/\w.cell? (b,o+10)=some ↑p.r.id.b/\w.cell? (b,o+11)=some ↑(ad p.r.id.l)/\w.cell? (b,o+12)=some ↑(ad p.r.id.s):=
 ⟨h 0 _ rfl,h 1 _ rfl,h 2 _ rfl,h 3 _ rfl,h 4 _ rfl,h 5 _ rfl,h 6 _ rfl,h 7 _ rfl,h 8 _ rfl,h 9 _ rfl,h 10 _ rfl,h 11 _ rfl,h 12 _ rfl⟩
def Iz(w:World)(p:kX):Prop:=h0 w p.x p.r.e/\(p.r.k≠2/\p.r.k≠3->p.x=rI)/\xI p.r
def Tz(w:aC):h0 w rI N7:=⟨rfl,rfl,rfl,rfl,a1.nil _ T.bH,[],rfl,a1.nil _ eJ.bH,λx U=>by cases U⟩
def TA{W:aC}{ys:List kX}{p:kX}(h:∀y,y∈ys->Iz W y)(aV:Iz W p):∀y,y∈ys++[p]->Iz W y:=λy hy=>(iR.1 hy).elim (h y) (λk=>by rw[iH.1 k];exact aV)
def atA(ag:List bg)(k:Nat)(hk:k<ag.length):(ag.take (k+1)).mapIdx hR=(ag.take k).mapIdx hR++[hR k ag[k]]:=by
 rw[iX hk,List.mapIdx_append];simp[Nat.min_eq_left (lr hk)]
def atB(s:lZ)(d:eR)(ag ps:List bO)(w:aC)(bb:sC w s d ag ps)(fP:Ol d)(TB:d.l≠0):
  aR 187 #[s] w λe w'=>∃a n c ys,e=.returned (.tuple #[aq a n c,ar])/\rJ w' w a n c ys/\ys.map (·.ay)=(xP d).map gl/\Z w w':=by
 obtain⟨ca,bJ,bF,bG,bK⟩:=info_parts aty;replace bJ:=I bJ;replace bF:=I bF;replace bG:=I bG;replace bK:=I bK;obtain⟨dc,eo,dB,ej,fe⟩:=info_parts SN;replace eo:=I eo;replace dB:=I dB;replace ej:=I ej;replace fe:=I fe;have ze:=I (show ag.length<=200000 from by rw[<-cr (f:=(·.d)),bb.j9];exact fP.xQ);have CF:=I (show ps.length<=200000 from by rw[<-cr (f:=(·.d)),bb.ma];exact fP.jE);have Ir:=bb.cO;have IA:=I bb.j9;have Lf:=I bb.ma;obtain⟨_,⟨fG,ei,lc⟩,⟨cD,eL,fw⟩,⟨ha,h2,gG⟩⟩:=s;dsimp only;have zL:ei=ag.length:=bb.l.aF.neq;have z8:eL=ps.length:=bb.p.aF.neq;have Gr:h2=d.ay.length:=bb.b.neq;subst zL z8 Gr;dsimp only at Ir;subst Ir;have Y8:((d.l:Int) !=0)=true:=by simp[TB]
 have Ab:=bb.l.aF.len;have tq:=bb.p.aF.len;have jZ:=bb.b.len;dsimp only at Ab tq jZ;replace TB:=I TB;replace bb:=I bb;replace fP:=I fP;go_enter func187,ntmps187;go_upto_region 1 with fail;have oX:=fi (w:=w) (o:=(.cells #[ad (d.l:Int),aq fG ag.length lc,aq cD ps.length fw,aq ha d.ay.length gG] 44)) (n:=(w:Nat)) rfl;have bx:Z w (w.alloc (.cells #[ad (d.l:Int),aq fG ag.length lc,aq cD ps.length fw,aq ha d.ay.length gG] 44)):=X;have n2:(w.alloc (.cells #[ad (d.l:Int),aq fG ag.length lc,aq cD ps.length fw,aq ha d.ay.length gG] 44)).heap.size=(w:Nat)+1:=by simp
 generalize y4:(w.alloc (.cells #[ad (d.l:Int),aq fG ag.length lc,aq cD ps.length fw,aq ha d.ay.length gG] 44))=w1 at oX bx n2 ⊢;have eI:=aI (o:=0) oX rfl;have aE:Hid (Own w1 w1 169 13 kX.cs none 0 0 []/\True/\True):=⟨Own.nil _ _ _ kX.bH,trivial,trivial⟩;obtain⟨ys,M1⟩:∃ys:List kX,ys= []:=⟨_,rfl⟩;rw[<-M1]at aE;replace oX:=I oX;replace bx:=I bx;replace n2:=I n2;clear y4;go_wp2_with (first|(have rW:Hid (0<=600002):=I af;(at_builtin;refine hf (ys:=ys) (c:=kX.cs) rfl (.tmp 19) (.tmp 23) 333 rfl ca _ 136 underlying333 bJ.out bF.out bG.out bK.out rfl af rfl (aE.out.1.ext X) ⟨rI,my d.l⟩ _ rfl (fc (cs:=kX.cs ⟨rI,my d.l⟩) (by first|rfl|(simp;done))) (kX.cN _) TC af (Z.size X) ?_;intro g9 ie cG hb fq;have cv:=I fq;have jo:=I hb;clear hb fq);have agW:=I (cv.out.ext ((Own.nil (w:=_) (base:=(w1:Nat)) (e:=169) (sz:=13) (c:=kX.cs) kX.bH)) (bA _) (show Z w1 _ from X));have dr:=aI (o:=1) (agW.out.aB oX.out) rfl)|fail);have AE:Own cG w1 169 13 kX.cs (some (g9,0)) (0+1) ie (ys++[(⟨rI,my d.l⟩:kX)])/\(ys++[(⟨rI,my d.l⟩:kX)]).map (·.r)= [my d.l]/\∀y,y∈ys++[(⟨rI,my d.l⟩:kX)]->Iz w y:=by
  subst M1;exact⟨jo.out,rfl,TA (λy hy=>by cases hy) ⟨Tz w,λ_=>rfl,.inl ⟨d.l,rfl,fP.out.l⟩⟩⟩
 replace AE:=I AE;clear dr eI aE;go_loopg [4,5,28] (ag.length) (λg DO _ st wr=>∃(k:Nat) (ab:bk) (m aQ:Nat) (ys:List kX),g+k=ag.length/\DO=.slice ab m aQ/\st=.int .i64 k/\Hid (m=1+k)/\Hid (Own wr w1 169 13 kX.cs ab m aQ ys/\ys.map (·.r)=([my d.l]++(d.ag.take k).mapIdx hR)/\∀y,y∈ys->Iz w y)/\Hid (Z w1 wr));case atStart=>exact⟨0,_,_,_,_,J,rfl,rfl,rfl,AE,agW⟩
 case round=>
  obtain⟨k,ab,m,aQ,ys,bu,rfl,rfl,hm,aE,U⟩:=hrel;have rW:=I (show m<=600002 from Y9);by_cases hk:k<ag.length
  ·obtain⟨b,o,rfl,ao⟩:=bb.out.l.aF.get k hk;obtain⟨cT,c1,c2,da,dJ,dw,eC,eK⟩:=pd (w:=wr) (b:=b) (o:=o+k*8) (x:=ag[k].x) (λj v aJ=>U.out.ah (bx.out.ah (ao j v aJ)));have b0:(0:Int)<=(k:Int):=J;have bd:(k:Int)<(ag.length:Int):=J;have sB:=ze.out;have zf:IntKind.u64.wrap (k:Int)=(k:Int):=Gp _ ⟨J,J⟩;have k7:k<d.ag.length:=by rw[<-IA.out,cr];exact hk
   have zg:d.ag[k]=ag[k].d:=by have:=IA.out;simp only[<-this,Et]
   have xy:=I k7;replace zg:=I zg;clear ao;go_wp2_with (at_builtin;refine hf (ys:=ys) (c:=kX.cs) rfl (.tmp 33) (.tmp 38) 333 rfl ca _ 136 underlying333 bJ.out bF.out bG.out bK.out rfl af rfl (aE.out.1.ext X) ⟨ag[k].x,hR k ag[k].d⟩ _ rfl (fc (cs:=kX.cs ⟨ag[k].x,hR k ag[k].d⟩) (by first|rfl|(simp;done))) (kX.cN _) TC af (Z.size X) ?_;intro g9 ie cG hb fq;have cv:=I fq;have jo:=I hb;clear hb fq);go_roundg (gk - 1);case measure=>omega
   case rel=>
    refine⟨k+1,_,_,_,ys++[⟨ag[k].x,hR k ag[k].d⟩],J,rfl,by go_num,I (by have:=hm.out;omega),⟨jo.out,?_,TA aE.out.2.2 ⟨bb.out.l.ct _ (List.getElem_mem hk),λh=>absurd rfl h.1,.inr (.inl ⟨k,_,rfl,by unfold gv;omega,fP.out.ag _ (by rw[<-zg.out];exact List.getElem_mem _)⟩)⟩⟩,cv.out.ext (aE.out.1.ext X) (Nat.le_refl _) X⟩;rw[gS,aE.out.2.1,atA d.ag k xy.out,zg.out,iI];rfl
  ·have b9:d.ag.take k=d.ag:=ir (by rw[<-IA.out,cr];omega);rw[b9]at aE;have hi:=I (show m=1+ag.length from by have:=hm.out;omega);clear b9 hm;have eF:=aI (o:=2) (U.out.aB oX.out) rfl;go_wp2_with fail;clear eF;go_loopg [4,44] (ps.length) (λg DO st wr=>∃(k:Nat) (ab:bk) (m aQ:Nat) (ys:List kX),g+k=ps.length/\DO=.slice ab m aQ/\st=.int .i64 k/\Hid (m=1+ag.length+k)/\Hid (Own wr w1 169 13 kX.cs ab m aQ ys/\ys.map (·.r)=([my d.l]++d.ag.mapIdx hR++(d.ps.take k).map jx)/\∀y,y∈ys->Iz w y)/\Hid (Z w1 wr));case atStart=>exact agX
   case round=>
    obtain⟨k,ab,m,aQ,ys,bu,rfl,rfl,hm,aE,U⟩:=hrel;have rW:=I (show m<=600002 from Y9);by_cases hk:k<ps.length
    ·obtain⟨b,o,rfl,ao⟩:=bb.out.p.aF.get k hk;obtain⟨cT,c1,c2,da,dJ,dw,eC,eK⟩:=pd (w:=wr) (b:=b) (o:=o+k*8) (x:=ps[k].x) (λj v aJ=>U.out.ah (bx.out.ah (ao j v aJ)));have b0:(0:Int)<=(k:Int):=J;have bd:(k:Int)<(ps.length:Int):=J;have It:=CF.out;have k7:k<d.ps.length:=by rw[<-Lf.out,cr];exact hk
     have zg:d.ps[k]=ps[k].d:=by have:=Lf.out;simp only[<-this,Et]
     have xy:=I k7;replace zg:=I zg;clear ao;go_wp2_with (at_builtin;refine hf (ys:=ys) (c:=kX.cs) rfl (.tmp 48) (.tmp 51) 333 rfl ca _ 136 underlying333 bJ.out bF.out bG.out bK.out rfl af rfl (aE.out.1.ext X) ⟨ps[k].x,jx ps[k].d⟩ _ rfl (fc (cs:=kX.cs ⟨ps[k].x,jx ps[k].d⟩) (by first|rfl|(simp;done))) (kX.cN _) TC af (Z.size X) ?_;intro g9 ie cG hb fq;have cv:=I fq;have jo:=I hb;clear hb fq);go_roundg (gk - 1);case measure=>omega
     case rel=>
      refine⟨k+1,_,_,_,ys++[⟨ps[k].x,jx ps[k].d⟩],J,rfl,by go_num,I (by have:=hm.out;omega),⟨jo.out,?_,TA aE.out.2.2 ⟨bb.out.p.ct _ (c7 hk),λh=>absurd rfl h.2,.inr (.inr (.inl ⟨_,rfl,fP.out.ps _ (by rw[<-zg.out];exact c7 _)⟩))⟩⟩,cv.out.ext (aE.out.1.ext X) (bA _) X⟩;rw[gS,aE.out.2.1,iX xy.out,gS,zg.out,iI];simp
    ·have b9:d.ps.take k=d.ps:=ir (by rw[<-Lf.out,cr];omega);rw[b9]at aE;have hi:=I (show m=1+ag.length+ps.length from by have:=hm.out;omega);clear b9 hm;have eF:=aI (o:=3) (U.out.aB oX.out) rfl;go_wp2_with fail;clear eF;go_loopg [4,57] (d.ay.length) (λg DO st wr=>∃(k:Nat) (ab:bk) (m aQ:Nat) (ys:List kX),g+k=d.ay.length/\DO=.slice ab m aQ/\st=.int .i64 k/\Hid (m=1+ag.length+ps.length+k)/\Hid (Own wr w1 169 13 kX.cs ab m aQ ys/\ys.map (·.r)=([my d.l]++d.ag.mapIdx hR++d.ps.map jx++(d.ay.take k).map nV)/\∀y,y∈ys->Iz w y)/\Hid (Z w1 wr));case atStart=>exact agX
     case round=>
      obtain⟨k,_,m,_,ys,bu,rfl,rfl,hm,aE,U⟩:=hrel;have rW:=I (show m<=600002 from Y9);by_cases hk:k<d.ay.length
      ·obtain⟨b,o,rfl,ao⟩:=bb.out.b.get k hk;obtain⟨cT,c1,c2⟩:=FO (w:=wr) (b:=b) (o:=o+k*3) (x:=d.ay[k]) (λj v aJ=>U.out.ah (bx.out.ah (ao j v aJ)));have b0:(0:Int)<=(k:Int):=J;have bd:(k:Int)<(d.ay.length:Int):=J;have pH:=fP.out.cA;clear ao;go_wp2_with (at_builtin;refine hf (ys:=ys) (c:=kX.cs) rfl (.tmp 61) (.tmp 64) 333 rfl ca _ 136 underlying333 bJ.out bF.out bG.out bK.out rfl af rfl (aE.out.1.ext X) ⟨rI,nV d.ay[k]⟩ _ rfl (fc (cs:=kX.cs ⟨rI,nV d.ay[k]⟩) (by first|rfl|(simp;done))) (kX.cN _) TC af (Z.size X) ?_;intro g9 ie cG hb fq;have cv:=I fq;have jo:=I hb;clear hb fq);go_roundg (gk - 1);case measure=>omega
       case rel=>
        refine⟨k+1,_,_,_,ys++[⟨rI,nV d.ay[k]⟩],J,rfl,by go_num,I (by have:=hm.out;omega),⟨jo.out,?_,TA aE.out.2.2 ⟨Tz w,λ_=>rfl,.inr (.inr (.inr (.inl ⟨_,rfl,fP.out.ay _ (c7 _)⟩)))⟩⟩,cv.out.ext (aE.out.1.ext X) (bA _) X⟩;rw[gS,aE.out.2.1,iX hk,gS,iI];simp
      ·have b9:d.ay.take k=d.ay:=ir J;rw[b9]at aE;have hi:m<=600001:=by have:=hm.out;have:=ze.out;have:=CF.out;have:=fP.out.cA;omega
       clear b9 hm;obtain⟨rs,gd⟩:∃rs,rs=ys:=⟨_,rfl⟩;subst gd;have OM:m=rs.length:=aE.out.1.neq;subst OM;have OW:=aE.out.1.aF.max;unfold maxLen at OW;have pS:=I aE.out.1;have IB:=I aE.out.2.1;have x4:=I aE.out.2.2;have Ac:=I U.out;obtain⟨et,pt⟩:∃v,v=wr:=⟨_,rfl⟩;subst pt;clear aE U;go_wp2_with fail;go_loopg [2,3,11,14,15,69] (rs.length) (λg _ _ e1 _ _ st wr=>∃(k:Nat) (ac:bk) (w3 c2:Nat) (cq:List gL),g+k=rs.length/\e1=.slice ac w3 c2/\st=.int .i64 k/\k=w3/\Hid (rJ wr et ac w3 c2 cq/\cq.map (·.ay)=(rs.take k).map (λp=>gl p.r))/\Hid (Z et wr));case atStart=>exact⟨0,_,0,_,[],J,rfl,rfl,rfl,⟨rJ.nil _ _,rfl⟩,Z.refl _⟩
       case round=>
        obtain⟨k,ac,_,c2,cq,_,rfl,rfl,sd,bf,U⟩:=hrel;subst sd;by_cases hk:k<rs.length
        ·obtain⟨b,o,rfl,ao⟩:=pS.out.aF.get k hk;obtain⟨_,_,_,_,_,dw,_,_,_,_,_,_,_⟩:=atz (w:=wr) (b:=b) (o:=o+k*13) (p:=rs[k]) (λj v aJ=>U.out.ah (ao j v aJ));have b0:(0:Int)<=(k:Int):=J;have bd:(k:Int)<(rs.length:Int):=J;have Gq:=I (x4.out rs[k] (c7 hk));clear ao;go_wp2_with fail;refine(X1 rs[k].x rs[k].r _ (Gq.out.1.ext (Z.trans bx.out (Z.trans Ac.out X))) Gq.out.2.1 Gq.out.2.2).mono ?_;rintro e bp⟨a5,jc,dw,rfl,xL,iv⟩;have hj:=I (xL.mono (aDn:=(et:Nat)) (by have:=U.out.size;simp;omega));have A3:=I (bf.out.1.ext (Z.trans ((Z.refl wr).alloc (.cells #[rs[k].r.k,ad (rs[k].r.n:Int),rs[k].x.k,rs[k].x.id.b,ad rs[k].x.id.l,ad rs[k].x.id.s,rs[k].x.c,ad rs[k].x.u,rs[k].x.f,rs[k].x.e,rs[k].r.id.b,ad rs[k].r.id.l,ad rs[k].r.id.s] 169)) iv));have ic:=I (Z.trans ((Z.refl wr).alloc (.cells #[rs[k].r.k,ad (rs[k].r.n:Int),rs[k].x.k,rs[k].x.id.b,ad rs[k].x.id.l,ad rs[k].x.id.s,rs[k].x.c,ad rs[k].x.u,rs[k].x.f,rs[k].x.e,rs[k].r.id.b,ad rs[k].r.id.l,ad rs[k].r.id.s] 169)) iv);clear xL iv;go_wp2_with (at_builtin;refine hf (ys:=cq) (c:=gL.cs) rfl (.tmp 81) (.tmp 83) 114 rfl dc _ 24 underlying114 eo.out dB.out ej.out fe.out rfl af rfl (A3.out.cg.ext ((Z.refl _).alloc _)) ⟨⟨a5,jc,dw⟩,gl rs[k].r⟩ _ rfl (fc (cs:=gL.cs ⟨⟨a5,jc,dw⟩,gl rs[k].r⟩) rfl) (gL.cN _) J af (by have:=Ac.out.size;have:=U.out.size;have:=ic.out.size;simp;omega) ?_;intro _ _ _ hb fq);change Hid _ at fq hb;go_wp2_with fail;go_roundg (gk - 1);case measure=>omega
         case rel=>
          have q4:=A3.out.cg.ext ((Z.refl bp).alloc (.cells #[aq a5 jc dw] 107));refine⟨k+1,_,_,_,cq++[⟨⟨a5,jc,dw⟩,gl rs[k].r⟩],J,rfl,by go_num,rfl,⟨⟨hb.out,λy hy=>?_⟩,?_⟩,?_⟩;exact X7
          ·rw[gS,bf.out.2,iX hk,gS];rfl
          ·exact fq.out.ext q4 (bA _) (U.out.trans (ic.out.trans ((Z.refl _).alloc _)))
        ·have b9:rs.take k=rs:=ir J;rw[b9]at bf;clear b9;go_wp2;go_ret2;refine⟨ac,k,c2,cq,rfl,⟨bf.out.1.cg.mono (eh bx.out.size Ac.out.size),λx U=>(bf.out.1.ay x U).mono (eh bx.out.size Ac.out.size)⟩,?_,bx.out.trans (Ac.out.trans U.out)⟩;rw[bf.out.2,show rs.map (λp=>gl p.r)=(rs.map (·.r)).map gl by rw[FN];rfl,IB.out];unfold xP;rw[bj TB.out];simp
section
structure b2 where
 x:b1
 e:bg
 a:Bool
def b2.cs(p:b2):List Value:= [.int .i64 p.x.k,.int .i64 p.x.id.b,.int .u64 p.x.id.l,.int .u64 p.x.id.s,.int .i64 p.x.c,.int .u64 p.x.u,.slice p.x.f.a p.x.f.n p.x.f.c,.slice p.x.e.a p.x.e.n p.x.e.c,.bool p.a]
def b2.tx(p:b2):gN:=⟨p.e,p.a⟩
def b2.bH(p:b2):p.cs.length=9:=rfl
def b2.cN(p:b2):∀u∈p.cs,u.oneCell'=true:=by
 intro u al;simp only[b2.cs,nK,sW,tJ]at al;exact Za
def Zb:(prog.info? 191).map (λi=>(i.zero,i.size,i.bytes))=some (some (.agg #[ar,ar,au,au,ar,au,aH,aH,.bool false]),9,104):=bV
def Gs{w:aC}{b o:Nat}{p:b2}(h:r9 w b o p.cs):w.cell? (b,o)=some ↑p.x.k/\w.cell? (b,o+1)=some ↑p.x.id.b/\w.cell? (b,o+2)=some ↑(ad p.x.id.l)/\w.cell? (b,o+3)=some ↑(ad p.x.id.s)/\w.cell? (b,o+4)=some ↑p.x.c/\w.cell? (b,o+5)=some ↑(ad p.x.u)/\w.cell? (b,o+6)=some ↑p.x.f/\w.cell? (b,o+7)=some ↑p.x.e/\w.cell? (b,o+8)=some ↑p.a:=
 ⟨h 0 _ rfl,h 1 _ rfl,h 2 _ rfl,h 3 _ rfl,h 4 _ rfl,h 5 _ rfl,h 6 _ rfl,h 7 _ rfl,h 8 _ rfl⟩
structure tr (w:World) (a:Option Addr) (n c:Nat) (ts:List b2):Prop where
 aF:a1 w 9 b2.cs a n c ts
 ct:∀p,p∈ts->h0 w p.x p.e
def tr.ext{w w':aC}{a:bk}{n c:Nat}{ts:List b2}(h:tr w a n c ts)(U:Z w w'):tr w' a n c ts:=⟨h.aF.ext U,λp aV=>(h.ct p aV).ext U⟩
structure qm (w:World) (base:Nat) (a:Option Addr) (n c:Nat) (ts:List b2):Prop where
 cg:Own w base 191 9 b2.cs a n c ts
 ct:∀p,p∈ts->fO w base p.x p.e
section
variable {w w':World}{base aDn:Nat}{a:Option Addr}{n c:Nat}{ts:List b2}
def qm.ext(h:qm w base a n c ts)(U:Z w w'):qm w' base a n c ts:=⟨h.cg.ext U,λp aV=>(h.ct p aV).ext U⟩
def qm.mono(h:qm w base a n c ts)(aa:aDn<=base):qm w aDn a n c ts:=⟨h.cg.mono aa,λp aV=>(h.ct p aV).mono aa⟩
def qm.nil(w:aC)(base:Nat):qm w base none 0 0 []:=⟨Own.nil _ _ _ b2.bH,λp aV=>by cases aV⟩
def qm.ri{qB:Nat}{p:b2}(h:qm w base a n c ts)(bu:lH w w' a g)(aK:Own w' base 191 9 b2.cs (some (g,0)) (n+1) qB (ts++[p]))(he:fO w base p.x p.e):qm w' base (some (g,0)) (n+1) qB (ts++[p]):=
 ⟨aK,λq bq=>by
  rcases iR.1 bq with bq|bq
  ·exact(h.ct q bq).grow bu h.cg af af af
  ·obtain rfl:=iH.1 bq
   exact he.grow bu h.cg af af af⟩
end
def agY(l:List gN)(w:World)(e:Ending)(w':World):Prop:=∃a n c ts,e=.returned (.slice a n c)/\qm w' w.heap.size a n c ts/\ts.map b2.tx=l/\Z w w'
def Ad(r:Int×List gN)(w:World)(e:Ending)(w':World):Prop:=∃a n c ts,e=.returned (.tuple #[aq a n c,r.1])/\qm w' w.heap.size a n c ts/\ts.map b2.tx=r.2/\Z w w'
def atC(a:bk)(n cap:Nat)(xs:List b2)(p:b2->Bool)(fn:Nat)(aQ:Addr)(w:aC)(av:a1 w 9 b2.cs a n cap xs)(bc:∀args w,(callFunc fn args).run prog w=.ok (.enter fn args) w)(cy:∀x,x∈xs->∀w',Z w w'->aR fn #[.agg #[x.x.k,x.x.id.b,ad x.x.id.l,ad x.x.id.s,x.x.c,ad x.x.u,x.x.f,x.x.e,x.a],.pointer (some aQ)] w' λe fj=>e=.returned (.bool (p x))/\Z w' fj):
  aR 242 #[aq a n cap,.func (.func fn) #[] #[.pointer (some aQ)]] w (cM (.int .i64 (qz p xs)) w):=by
 obtain rfl:=av.neq;refine wB ?_;intro hm aT;change Hid _ at av cy;go_enter func242,ntmps242;go_wp2_with fail;go_loopg [5,8] (xs.length) (λg _ st wr=>∃k:Nat,g+k=xs.length/\st=.int .i64 k/\Hid ((xs.take k).any p=false)/\Hid (Z (w) wr));case atStart=>exact⟨0,J,rfl,rfl,Z.refl _⟩
 case round=>
  obtain⟨k,_,rfl,eO,U⟩:=hrel;by_cases hk:k<xs.length
  ·obtain⟨b,o,rfl,ao⟩:=av.get k hk;have ch:Z w wr:=U.out;obtain⟨_,_,_,_,_,_,_,_,_⟩:=Gs (w:=wr) (b:=b) (o:=o+k*9) (p:=xs[k]) (λj v aJ=>ch.ah (ao j v aJ));clear ao ch;exact MV
  exact MW
def atD(p:b2)(i:aA)(aQ:Nat)(w:aC)(aa:w.heap[aQ]?=some (i:Obj)):
  aR 243 #[.agg #[p.x.k,p.x.id.b,ad p.x.id.l,ad p.x.id.s,p.x.c,ad p.x.u,p.x.f,p.x.e,p.a],aQ] w (cM (.bool (cf p.x.id i)) w):=by
 have heq:=Dy p.x.id.b p.x.id.l p.x.id.s i.b i.l i.s;have eI:=((Z.refl w).alloc (.cells #[p.x.k,p.x.id.b,ad p.x.id.l,ad p.x.id.s,p.x.c,ad p.x.u,p.x.f,p.x.e,p.a] 191)).ah (aI (o:=0) aa rfl);have bQ:=((Z.refl w).alloc (.cells #[p.x.k,p.x.id.b,ad p.x.id.l,ad p.x.id.s,p.x.c,ad p.x.u,p.x.f,p.x.e,p.a] 191)).ah (aI (o:=1) aa rfl);have bY:=((Z.refl w).alloc (.cells #[p.x.k,p.x.id.b,ad p.x.id.l,ad p.x.id.s,p.x.c,ad p.x.u,p.x.f,p.x.e,p.a] 191)).ah (aI (o:=2) aa rfl);go_enter func243,ntmps243;go_wp2;go_ret;refine⟨rfl,?_⟩;exact X
def OY(l:List gN)(i:aA):Int:=qz (λt=>cf t.e.id i) l
def atE(ts:List b2)(i:aA)(h:∀p,p∈ts->p.x.id=p.e.id):qz (λp:b2=>cf p.x.id i) ts=OY (ts.map b2.tx) i:=by
 unfold OY qz;have:ts.findIdx? (λp:b2=>cf p.x.id i)=(ts.map b2.tx).findIdx? (λt=>cf t.e.id i):=by
  rw[List.findIdx?_map];induction ts with
  |nil=>rfl
  |cons p ts cI=>
   rw[List.findIdx?_cons,List.findIdx?_cons,cI (λq bq=>h q (kA _ bq))];simp only[Function.comp,b2.tx,h p kh];rfl
 rw[this]
def TD(l:List gN)(i:aA):OY l i=if hD l i<l.length then (hD l i:Int) else -1:=by
 unfold OY qz hD;cases h:l.findIdx? (λt=>cf t.e.id i)with
 |none=>
  rw[Re]at h;rw[bj];rw[List.findIdx_eq_length.2 (λx U=>by simpa using h x U)];omega
 |some k=>
  rw[List.findIdx?_eq_some_iff_findIdx_eq]at h;rw[bm J,h.2]
def TE(a:bk)(n cap:Nat)(ts:List b2)(i:aA)(w:aC)(H:tr w a n cap ts):
  aR 159 #[aq a n cap,i] w (cM (.int .i64 (OY (ts.map b2.tx) i)) w):=by
 have oY:∀args w,(callFunc 243 args).run prog w=.ok (.enter 243 args) w:=λ_ _=>by kernel_rfl
 change Hid _ at H;have bM:=I (atE ts i (λp aV=>(H.ct p aV).id));go_enter func159,ntmps159;go_wp2_with fail;refine(atC a n cap ts (λp=>cf p.x.id i) 243 ⟨w.heap.size,0,none⟩ _ (H.aF.ext X) oY (λx U w' sK=>atD x i w.heap.size w' (sK.aB (fi rfl)))).mono ?_;rintro e _⟨rfl,bB⟩;change Hid _ at bB;rw[bM.out];go_wp2;go_ret;refine⟨rfl,?_⟩;exact X
def Eu(l:List gN)(i:aA):Int:=match sE l i with|some _=>(hD l i:Int)|none=>-1
def agZ(a:bk)(n cap:Nat)(ts:List b2)(i:aA)(w:aC)(H:tr w a n cap ts):
  aR 162 #[aq a n cap,i] w (cM (.int .i64 (Eu (ts.map b2.tx) i)) w):=by
 obtain rfl:=H.aF.neq;have hm:=H.aF.max;unfold maxLen at hm;change Hid _ at H;go_enter func162,ntmps162;go_wp2_with fail;refine(TE a ts.length cap ts i _ (H.ext X)).mono ?_;rintro e w1⟨rfl,aa⟩;have bB:Hid (Z w w1):=Z.trans X aa;clear aa;rw[TD,cr];by_cases hk:hD (ts.map b2.tx) i<ts.length
 ·refine ag0 ?_;intro x5
  have ba:=I (show Eu (ts.map b2.tx) i=if ts[hD (ts.map b2.tx) i].a=true then -1 else (hD (ts.map b2.tx) i:Int)from by
   unfold Eu sE;rw[x5];dsimp only[b2.tx]
   split<;>simp_all)
  generalize hD (ts.map b2.tx) i=k at hk x5 ba ⊢;clear x5;obtain⟨b,o,rfl,ao⟩:=H.aF.get k hk;have iT:=(Gs (w:=w1) (b:=b) (o:=o+k*9) (p:=ts[k]) (λj v aJ=>bB.ah (ao j v aJ))).2.2.2.2.2.2.2.2;have b0:(0:Int)<=(k:Int):=J;have bd:(k:Int)<(ts.length:Int):=J;cases aj:ts[k].a with
  |true=>
   exact ag1
  |false=>
   exact ag1
 ·rw[bj hk]
  have ba:=I (show Eu (ts.map b2.tx) i=-1 from by
   unfold Eu sE
   rw[y8 (by rw[cr];omega)])
  clear hk;go_wp2;go_ret;exact⟨by rw[ba.out];rfl,X⟩
def ag2(x:b1)(d:bg)(w:aC)(bb:h0 w x d)(c5:hP d):aR 164 #[x] w (cM (.bool (sD d)) w):=by
 change Hid _ at bb c5;go_enter func164,ntmps164;go_wp2_with fail;refine(XI x d _ (bb.ext X) c5).mono ?_;rintro e w1⟨cL,dv,_,rfl,aK,aa⟩;have bB:Hid (Z w w1):=Z.trans X aa;have eu:=I aK.neq;clear aK aa;go_wp2;go_ret;refine⟨?_,X⟩;unfold sD;rw[<-eu.out];show Ending.returned (.bool (decide ((3000:Int)<(dv:Int))))=_;rw[show decide ((3000:Int)<(dv:Int))=decide (3000<dv)from FI.2 J]
end
def TF(a:bk)(n c:Nat)(ts:List b2)(w:aC)(H:tr w a n c ts)(eH:∀p,p∈ts->mo p.e)(an:n<=1000):
  aR 161 #[aq a n c] w (agY (ts.map b2.tx) w):=by
 obtain⟨t0,Bl,zh,Ev,IC⟩:=info_parts Zb;change Hid _ at Bl zh Ev IC;obtain rfl:=H.aF.neq;have hm:=H.aF.max;have aT:=H.aF.len;unfold maxLen at hm;change Hid _ at H eH;go_enter func161,ntmps161;go_wp2_with fail;go_loopg [3,8] (ts.length) (λg e1 st wr=>∃(k:Nat) (aw:bk) (m aQ:Nat) (ys:List b2),g+k=ts.length/\e1=.slice aw m aQ/\st=.int .i64 k/\Hid (qm wr w aw m aQ ys/\ys.map b2.tx=(ts.take k).map b2.tx)/\Hid (Z w wr));case atStart=>exact⟨0,none,0,0,[],J,rfl,rfl,⟨qm.nil _ _,rfl⟩,Z.refl _⟩
 case round=>
  obtain⟨k,aw,m,aQ,ys,_,rfl,rfl,ch,mw⟩:=hrel;by_cases hk:k<ts.length
  ·obtain⟨b,o,rfl,ao⟩:=H.aF.get k hk;refine atF ?_;clear ao;intro cT c1 c2 da dJ dw eC eK iT Ej sx ud _ _ z aN z0 eM lj bz a7 K aL;refine ag3 ?_;rintro e aY⟨bX,rfl,ki,c9⟩;change Hid _ at ki c9;refine aL _ _ Zc λa7=>eY ?_;refine cX 6 ?_;refine hE 7 λK aL=>?_;go_simp;refine aL _ _ Zc λa7=>eY ?_;refine hE 8 λK aL=>?_;refine vE (ys:=ys) (c:=b2.cs) rfl (.tmp 12) (.tmp 19) 156 rfl t0 _ 104 underlying156 Bl zh Ev IC rfl af rfl (ch.out.1.cg.ext X) ⟨bX,ts[k].e,ts[k].a⟩ _ rfl (fc (cs:=b2.cs ⟨bX,ts[k].e,ts[k].a⟩) rfl) (b2.cN _) TG af (Z.size X) ?_;intro g _ _ dW cv;have z4:=cv.aB (Z.aB (W:=aN) X z0) (λai aj k=>ag4);change Hid _ at cv dW;refine zc (d:=some 20) rfl ?_;exact atG
  exact atH
def atI{β:Type}(f:α->β)(l:List α):∀k:Nat,(l.map f).eraseIdx k=(l.eraseIdx k).map f:=afW
def ag5{b:Nat}{t:TypeId}{fr:Nat×Nat}:∀(vs:List Value) (o:Nat) (w:aC) (cur:Array Value),w.heap[b]?=some (.cells cur t fr)->o+vs.length<=cur.size->
  ∃aDo,(w.setCells b o vs).heap[b]?=some (.cells aDo t fr)/\aDo.size=cur.size/\aDo.toList=cur.toList.take o++vs++cur.toList.drop (o+vs.length)
 | [],o,_,cur,h,_=>⟨cur,h,rfl,by simp⟩
 |v::vs,o,w,cur,h,aT=>by
  rw[mv]at aT;obtain⟨aDo,ae,ak,aM⟩:=ag5 vs (o+1) (w.setCell (b,o) v) _ (er h o v) (by rw[RJ];omega);refine⟨aDo,ae,by rw[ak,RJ],?_⟩;have aK:o<cur.toList.length:=by rw[Array.length_toList];omega
  rw[aM,WK,iX (by rw[Dz];exact aK),List.take_set_of_le (bA _),List.getElem_set_self,List.drop_set_of_lt J,mv,show o+1+vs.length=o+(vs.length+1) by omega];simp
def TH{c:α->List Value}{sz:Nat}(hw:∀y,(c y).length=sz)(l:List α):(l.flatMap c).length=l.length*sz:=by
 induction l with
 |nil=>simp
 |cons y l cI=>rw[nI,cH,cI,hw,mv,Nat.succ_mul];omega
def atJ(w:aC):(zeroValue 191).run prog w=.ok (.agg #[ar,ar,au,au,ar,au,aH,aH,.bool false]) w:=zeroValue191 w
def atK(g n cap base:Nat)(ts:List b2)(i:Nat)(w:aC)(h:Own w base 191 9 b2.cs (some (g,0)) n cap ts)(aO:i<n)(an:n<=1000):
  aR 289 #[.slice (some (g,0)) n cap,(i:Int),bh ((i:Int)+1)] w λe w'=>e=.returned (.slice (some (g,0)) (n - 1) cap)/\Own w' base 191 9 b2.cs (some (g,0)) (n - 1) cap (ts.eraseIdx i)/\aG (λb=>b=g) w w':=by
 obtain⟨t0,Bl,zh,Ev,IC⟩:=info_parts Zb;change Hid _ at Bl zh Ev IC;have n4:=h.neq;have gV:=h.aF.len;have OW:=h.aF.max;unfold maxLen at OW;obtain⟨cur,Gk,jH,ae,ak,aM,bn⟩:=h.aB;obtain⟨m,hm⟩:∃m,m+1=n:=⟨n - 1,J⟩;have ag6:i+(n - (i+1))=m:=J;have ze:((ts.drop (i+1)).flatMap b2.cs).length=(n - (i+1))*9:=by rw[TH b2.bH,Dx,<-n4]
 have vM:i*9+((ts.drop (i+1)).flatMap b2.cs).length<=cur.size:=by rw[ze,aM];omega
 obtain⟨Zd,ql,c2,da⟩:=ag5 (b:=g) ((ts.drop (i+1)).flatMap b2.cs) (i*9) w.drew cur Gk vM
 have AS:=I (show ∀j u,((ts.drop (i+1)).flatMap b2.cs)[j]?=some u->w.drew.cell? (((g,(i+1)*9):Addr).add j)=some u from λj u aJ=>by
  have:=(h.aF.drop (i+1) J).MP af j u aJ;rw[om]at this
  exact this)
 obtain⟨iD,lC⟩:∃iD,iD=w.drew.setCells g (i*9) ((ts.drop (i+1)).flatMap b2.cs):=⟨_,rfl⟩;rw[<-lC]at ql;have h8:aG (λb=>b=g) w iD:=by rw[lC];exact aG.setCells (S:=λb=>b=g) rfl _ _ _ (aG.of X)
 have dn:Own iD base 191 9 b2.cs (some (g,0)) m cap (ts.eraseIdx i):=by
  have bS:ts.eraseIdx i=ts.take i++ts.drop (i+1):=List.eraseIdx_eq_take_drop_succ _ _;have bE:(ts.eraseIdx i).length=m:=by rw[List.length_eraseIdx_of_lt J];omega
  refine⟨⟨by rw[TH b2.bH,bE],.inr ⟨g,cap,Zd,rfl,jH,ql,J,ak,by rw[c2];exact aM,?_⟩⟩,bE.symm,b2.bH⟩;have eV:cur.toList.take (i*9)=(ts.take i).flatMap b2.cs:=by
   rw[<-agx b2.bH,<-bn,List.take_take];congr 1;omega
  rw[da,eV,bS,xk,List.take_append_of_le_length (by rw[cH,ze,TH b2.bH,o9];omega),ir (by rw[cH,ze,TH b2.bH,o9];omega)]
 have atL:∀o,o<cap*9->(iD.cell? (g,o)).isSome=true:=λo aK=>by
  have:o<Zd.size:=by rw[c2,aM];exact aK
  simp[World.cell?,ql,this]
 have WD:∀o,iD.frozen? ⟨g,o,none⟩=false:=λo=>nS ql;have zi:∀o,w.drew.frozen? ⟨g,o,none⟩=false:=λo=>nS (w:=w.drew) (b:=g) (cs:=cur) (t:=191) Gk;have ag7:∀o,o<cap*9->(w.drew.cell? (g,o)).isSome=true:=λo aK=>by
  have:o<cur.size:=by rw[aM];exact aK
  have p4:w.drew.heap[g]?=some (.cells cur 191):=Gk;simp[World.cell?,p4,this]
 have aCC:=λty=>agw (P:=prog) iD 156 191 ty _ underlying156 (λw=>atJ w) (by intro u al;simp[Value.cells]at al;exact Za) g (m*9) (n - m) (cap - m) J (λq bq=>atL _ (by have wX:(Value.agg #[ar,ar,au,au,ar,au,aH,aH,.bool false]).cells.size=9:=rfl;rw[wX]at bq;omega)) WD;have bM:=I hm;have a0:(0:Int)<=(i:Int):=J;have cL:(i:Int)<=(i:Int)+1:=J;have cE:(i:Int)+1<=(n:Int):=J;have a3:(n:Int)<=(cap:Int):=J;have a4:(i:Int)<=(cap:Int):=J;have a5:(0:Int)<=(i:Int)+1:=J;have rG:((i:Int)+1).toNat=i+1:=J;have nA:((i:Int)==(i:Int)+1)=false:=by simp;omega
 change Hid _ at lC h8 dn ag7 zi ze ql ag6 n4;go_enter func289,ntmps289;go_wp2_with fail
 have als:=I (show ∀u,u∈(ts.drop (i+1)).flatMap b2.cs->u.oneCell'=true from λu al=>by
  obtain⟨y,_,hy⟩:=Kn.1 al
  exact b2.cN y u hy)
 have OM:¬n=m:=by have:=bM.out;omega
 have dV:(0:Int)<=(m:Int):=J;have bS:(m:Int)<=(n:Int):=by have:=bM.out;omega
 have bE:(m:Int)<=(cap:Int):=by have:=bM.out;omega
 have eV:¬cap=m:=by have:=bM.out;omega
 by_cases atM:cap=i+1
 ·have atN:n=i+1:=J;obtain rfl:cap=n:=J;have Ze:=I (show(ts.drop (i+1)).flatMap b2.cs= []from by rw[MU (by rw[<-n4.out];omega)];rfl);have f1:(i:Int)+1=(cap:Int):=J;have f2:(0:Int)<=(cap:Int):=J;have f3:¬cap=0:=J;change Hid _ at atM;have atO:=I (show i+0=m from by have:=bM.out;omega);clear atN cL cE a5 rG;refine ag8 ?_;intro a7 K aL;refine step_append_room rfl (.tmp 22) (.tmp 25) 156 rfl 191 t0 9 underlying156 Bl Ev g 0 i cap rfl (g,0) 0 0 ((ts.drop (i+1)).flatMap b2.cs) rfl (by rw[Ze.out];rfl) (λj u aJ=>by rw[Ze.out]at aJ;simp at aJ) als J (λj aJ=>by rw[Ze.out]at aJ;simp at aJ) ?_;rw[om,<-lC.out,atO.out];refine zc (d:=some 26) rfl ?_;refine aL _ _ (by(try dsimp only);(first|done|trivial)) λa7=>eY ?_;refine cX 7 ?_;refine wpAnyH_done bV ?_ _;go_wp2_with fail;go_ret;have DR:cap - 1=m:=by have:=bM.out;omega
  exact ag9
 ·have vz:0<cap:=J;have hW:¬cap=0:=J;refine ag8 ?_;intro a7 K aL;refine step_append_room rfl (.tmp 22) (.tmp 25) 156 rfl 191 t0 9 underlying156 Bl Ev g 0 i cap rfl (g,(i+1)*9) (n - (i+1)) (cap - (i+1)) _ rfl ze AS als J (λj aJ=>by rw[om];exact⟨ag7 _ (by have:=ze.out;omega),zi _⟩) ?_;rw[om,<-lC.out,ag6.out];refine zc (d:=some 26) rfl ?_;refine aL _ _ (by(try dsimp only);(first|done|trivial)) λa7=>eY ?_;refine cX 7 ?_;refine wpAnyH_done bV ?_ _;go_wp2_with fail;go_ret;have DR:n - 1=m:=by have:=bM.out;omega
  exact ag9
def fO.Zf{S:ff}{hv:Nat}{x:b1}{d:bg}{e:TypeId}{sz:Nat}{c:α->List Value}{cap:Nat}{ys:List α}(h:fO w base x d)(ax:Own w hv e sz c (some ⟨g,0,.none⟩) n cap ys)(ae:e≠154)(ak:e≠34)(aM:e≠77)(al:aG (λb=>b=g) w w'):fO w' base x d:=
 h.OR ax ae ak aM (al.mono (λb _ aa=>⟨_,rfl,aa.symm⟩))
def Zg(a:bk)(n c:Nat)(ts:List b2)(i:aA)(w:aC)(H:tr w a n c ts)(eH:∀p,p∈ts->mo p.e)(an:n<=1000):
  aR 240 #[aq a n c,i] w (agY (th (ts.map b2.tx) i) w):=by
 change Hid _ at H eH;have x6:=I H.aF.neq;go_enter func240,ntmps240;go_wp2_with fail;refine(TF a n c ts _ (H.ext X) eH an).mono ?_;rintro e w1⟨cL,dv,c1,ys,rfl,ba,bM,cm⟩;obtain⟨_,_,_⟩:=iE (cm.aB (show(w.alloc i).heap[(w:Nat)]?=some (i:Obj)from fi rfl));change Hid _ at ba bM;have bx:Hid (Z w w1):=Z.trans X cm;change Hid _ at cm;go_wp2_with fail;refine qA (TE a n c ts i _ (H.ext bx)) λaN bz=>?_;rw[TD,cr];have TI:=I (show ys.length=ts.length from by have:=eP List.length bM;rw[cr,cr]at this;exact this);by_cases hk:hD (ts.map b2.tx) i<ts.length
 ·rw[bm hk];have av:Hid (th (ts.map b2.tx) i=(ts.map b2.tx).eraseIdx (hD (ts.map b2.tx) i)):=rfl;generalize hD (ts.map b2.tx) i=k at hk av ⊢;have gn:(0:Int)<=(k:Int):=J;have aha:k<dv:=by rw[ba.cg.neq,TI.out];exact hk
  have fu:dv=ts.length:=by rw[ba.cg.neq,TI.out]
  obtain⟨g,bu⟩:=ba.cg.To (show 0<dv by omega);subst bu;have q1:(k:Int)<=1000:=by have:=x6.out;omega
  change Hid _ at aha fu;go_wp2_with fail;refine(atK g dv c1 (w.alloc i).heap.size ys k _ (ba.cg.ext bz) aha (by have:=fu.out;have:=x6.out;omega)).mono ?_;rintro e _⟨rfl,cz,iK⟩;change Hid _ at cz iK;go_wp2;go_ret;have ahb:=ba.ext bz;refine⟨_,_,_,ys.eraseIdx k,rfl,⟨cz.mono (by simp),λp aV=>((ahb.ct p ((S4 _ _).subset aV)).Zf (S:=λ_=>True) ahb.cg af af af iK).mono (by simp)⟩,?_,iK.ext (W:=w) (λb aa=>by subst aa;have:=(ba.cg.lt _ rfl).1;simp at this;omega) (bx.trans bz)⟩;rw[av.out,<-bM.out,atI]
 ·rw[bj hk];have av:Hid (th (ts.map b2.tx) i=ts.map b2.tx):=List.eraseIdx_of_length_le (by rw[cr];omega);go_wp2;go_ret;exact⟨cL,dv,c1,ys,rfl,(ba.ext bz).mono (by simp),by rw[bM.out,av.out],bx.trans bz⟩
def atP(l:List gN)(t:gN):rj (l++[t])=if t.a=true/\(rj l).length<4 then rj l++[t.e] else rj l:=by
 unfold rj;rw[zC,cr,o9];cases aj:t.a with
 |false=>rw[Eo (by simp[aj])];simp
 |true=>
  rw[Ip aj,Lc,List.take_append];by_cases aT:(l.filter (·.a)).length<4
  ·rw[bm ⟨rfl,J⟩,ir (by omega:(l.filter (·.a)).length<=4)];have:4 - (l.filter (·.a)).length>=1:=J;rw[ir (by simp;omega),gS];rfl
  ·rw[bj (by rintro ⟨_,h⟩;omega),show 4 - (l.filter (·.a)).length=0 by omega,DS,mH]
def atQ(a:bk)(n c:Nat)(ts:List b2)(w:aC)(H:tr w a n c ts)(eH:∀p,p∈ts->mo p.e)(an:n<=1000):
  aR 222 #[aq a n c] w (R0 (rj (ts.map b2.tx)) w):=by
 obtain⟨ca,bJ,bF,bG,bK⟩:=info_parts AM;change Hid _ at bJ bF bG bK;obtain rfl:=H.aF.neq;have hm:=H.aF.max;unfold maxLen at hm;change Hid _ at H eH;go_enter func222,ntmps222;go_wp2_with fail;go_loopg [3,8] (ts.length) (λg e1 st wr=>∃(k:Nat) (aw:bk) (m aQ:Nat) (ys:List bO),g+k=ts.length/\e1=.slice aw m aQ/\st=.int .i64 k/\Hid (fx wr w aw m aQ ys/\ys.map (·.d)=rj ((ts.take k).map b2.tx))/\Hid (Z w wr)/\m<=4);case atStart=>exact⟨0,none,0,0,[],J,rfl,rfl,⟨fx.nil _ _,rfl⟩,Z.refl _,J⟩
 case round=>
  obtain⟨k,aw,m,aQ,ys,_,rfl,rfl,ch,mw,OZ⟩:=hrel;by_cases hk:k<ts.length
  ·obtain⟨b,o,rfl,ao⟩:=H.aF.get k hk;obtain⟨_,_,_,_,_,_,_,_,iT⟩:=Gs (w:=wr) (b:=b) (o:=o+k*9) (p:=ts[k]) (λj v aJ=>mw.ah (ao j v aJ));have Ej:(k:Int)<(ts.length:Int):=J;have sx:(0:Int)<=(k:Int):=J;have ud:=I (show m=(rj ((ts.take k).map b2.tx)).length from by rw[<-ch.out.2,cr];exact ch.out.1.cg.neq)
   have hS:=I (show rj ((ts.take (k+1)).map b2.tx)=if ts[k].a=true/\m<4 then rj ((ts.take k).map b2.tx)++[ts[k].e] else rj ((ts.take k).map b2.tx)from by
    rw[iX hk,gS,tj,ID,atP,<-ud.out];rfl)
   clear ao;cases aj:ts[k].a with
   |false=>
    have dA:=I aj;rw[aj]at iT;clear aj;go_wp2_with fail;go_roundg (gk - 1);case measure=>omega
    case rel=>exact⟨k+1,_,_,_,ys,J,rfl,by go_num,⟨ch.out.1.ext X,by rw[hS.out,bj (by rw[dA.out];simp)];exact ch.out.2⟩,Z.trans mw X,OZ⟩
   |true=>
    have dA:=I aj;rw[aj]at iT;clear aj;by_cases bn:m<4
    ·have Nv:(m:Int)<4:=J;go_wp2_with (first|(go_at_call 160;refine(SY ts[k].x ts[k].e _ ((H.ct _ (c7 hk)).ext X) (eH _ (c7 hk))).mono ?_;rintro e _⟨bX,rfl,ki,c9⟩;change Hid _ at ki c9)|(at_builtin;refine hf (ys:=ys) (c:=bO.cs) rfl (.tmp 19) (.tmp 23) 42 rfl ca _ 96 underlying42 bJ bF bG bK rfl af rfl (ch.out.1.cg.ext X) ⟨bX,ts[k].e⟩ _ rfl (fc (cs:=bO.cs ⟨bX,ts[k].e⟩) rfl) (bO.cN _) J af (Z.size X) ?_;intro g _ _ qM bW;have cv:=I bW;have dW:=I qM;clear qM bW));go_roundg (gk - 1);case measure=>omega
     case rel=>
      refine⟨k+1,_,_,_,ys++[⟨bX,ts[k].e⟩],J,rfl,by go_num,⟨?_,?_⟩,?_,J⟩
      ·exact(ch.out.1.ext X).ri cv dW ((ki.mono (aDn:=(w:Nat)) (Z.size X)).ext X)
      ·rw[hS.out,bm ⟨dA.out,bn⟩,gS,ch.out.2];rfl
      ·exact cv.ext (ch.out.1.cg.ext X) (bA _) X
    ·have Nv:¬(m:Int)<4:=J;go_wp2_with fail;go_roundg (gk - 1);case measure=>omega
     case rel=>exact⟨k+1,_,_,_,ys,J,rfl,by go_num,⟨ch.out.1.ext X,by rw[hS.out,bj (by rintro ⟨_,q⟩;exact bn q)];exact ch.out.2⟩,Z.trans mw X,OZ⟩
  ·have b9:ts.take k=ts:=ir J;rw[b9]at ch;clear b9;go_wp2;go_ret;exact⟨aw,m,aQ,ys,rfl,ch.out.1.cg,ch.out.1.ct,ch.out.2,mw⟩
def Zh{R:Nat}{cT c1 c2 da dJ dw eC eK iT:Value}{t:TypeId}{fr:Nat×Nat}(h:w.heap[R]?=some (.cells #[cT,c1,c2,da,dJ,dw,eC,eK,iT] t fr))(v0 v1 v2 v3 v4 v5 v6 gy iC:Value):
  (((((((((w.setCell (R,0) v0).setCell (R,1) v1).setCell (R,2) v2).setCell (R,3) v3).setCell (R,4) v4).setCell (R,5) v5).setCell (R,6) v6).setCell (R,7) gy).setCell (R,8) iC).heap[R]?=some (.cells #[v0,v1,v2,v3,v4,v5,v6,gy,iC] t fr):=by
 refine ahc ?_;intro aW ae ak aM bn cb ey iZ;have fs:=er iZ 8 iC;rw[fs];simp
def TJ{R:Nat}(h:Z w w')(bC:(w:Nat)<=R)(v0 v1 v2 v3 v4 v5 v6 gy iC:Value):
  Z w (((((((((w'.setCell (R,0) v0).setCell (R,1) v1).setCell (R,2) v2).setCell (R,3) v3).setCell (R,4) v4).setCell (R,5) v5).setCell (R,6) v6).setCell (R,7) gy).setCell (R,8) iC):=
 ((((((((h.setCell bC _).setCell bC _).setCell bC _).setCell bC _).setCell bC _).setCell bC _).setCell bC _).setCell bC _).setCell bC _
def atS(o:Option gN)(w:World)(e:Ending)(w':World):Prop:=∃p:b2,e=.returned (.tuple #[.agg #[p.x.k,p.x.id.b,ad p.x.id.l,ad p.x.id.s,p.x.c,ad p.x.u,p.x.f,p.x.e,p.a],o.isSome])/\(∀t,o=some t->p.a=t.a)/\Z w w'
def ahd(a:bk)(n c:Nat)(ts:List b2)(i:aA)(w:aC)(H:tr w a n c ts)(eH:∀p,p∈ts->mo p.e):
  aR 91 #[aq a n c,i] w (atS ((ts.map b2.tx)[hD (ts.map b2.tx) i]?) w):=by
 obtain rfl:=H.aF.neq;have hm:=H.aF.max;unfold maxLen at hm;replace H:=I H;replace eH:=I eH;obtain⟨ks,IE⟩:∃o,(ts.map b2.tx)[hD (ts.map b2.tx) i]? =o:=⟨_,rfl⟩;rw[IE];replace IE:=I IE;go_enter func91,ntmps91;go_wp2_with fail;refine(TE a ts.length c ts i _ (H.ext X)).mono ?_;rintro e w1⟨rfl,aa⟩;have hB:=aa.aB (show((w.alloc i).alloc (.cells #[ar,ar,au,au,ar,au,aH,aH,.bool false] 191)).heap[(w:Nat)+1]?=some (.cells #[ar,ar,au,au,ar,au,aH,aH,.bool false] 191)from hT);obtain⟨lN,e3,ju,oP,uR,s4,uS,tP,atT,atU⟩:=uX hB;replace hB:=I hB;have bx:Hid (Z w w1):=Z.trans X aa;clear aa;rw[TD,cr];by_cases hk:hD (ts.map b2.tx) i<ts.length
 ·refine ag0 ?_;intro x5;have IF:=I (show ks=some ts[hD (ts.map b2.tx) i].tx from by rw[<-IE.out];exact x5);clear x5 IE;generalize hD (ts.map b2.tx) i=k at hk IF ⊢;obtain⟨b,o,rfl,cn⟩:=H.aF.get k hk;obtain⟨cT,c1,c2,da,dJ,dw,eC,eK,iT⟩:=Gs (w:=w) (b:=b) (o:=o+k*9) (p:=ts[k]) (λj v aJ=>cn j v aJ);have b0:(0:Int)<=(k:Int):=J;have bd:(k:Int)<(ts.length:Int):=J;replace cn:=I cn;go_wp2_with fail;refine sI (Z w) (λa7=>?_);refine cX 0 ?_;refine cX 1 ?_;refine cX 6 ?_;refine cX 7 ?_;refine cX 2 ?_;refine cX 8 ?_;refine cX 3 ?_;refine cX 9 ?_;refine cX 4 ?_ (hy:=λw iA=>by(try dsimp only at iA);(have dV:=iA.ah cT;have bS:=iA.ah c1;have bE:=iA.ah c2;have eV:=iA.ah da;have gU:=iA.ah dJ;have kD:=iA.ah dw;have l5:=iA.ah eC;have lO:=iA.ah eK);exact IG);refine Bf 10 (·.ah iT) ?_;refine hE 5 λK aL=>?_;go_simp;refine ag3 ?_;rintro e _⟨bX,rfl,sk,c9⟩;replace c9:=I c9;have ahe:=I (bx.drew.trans c9);clear sk;refine aL _ _ Bg λa7=>eY ?_;refine cX 11 ?_;refine hE 12 λK aL=>?_;have fN:=c9.aB (show w1.drew.heap[(w:Nat)+1]?=some (.cells #[ar,ar,au,au,ar,au,aH,aH,.bool false] 191)from hB);obtain⟨u0,u1,u2,u3,u4,u5,u6,u7,u8,atV⟩:=uX fN;go_simp;refine aL _ _ (by(try dsimp only);exact TJ ahe J _ _ _ _ _ _ _ _ _) λa7=>eY ?_;refine cX 13 ?_;refine wpAnyH_done bV ?_ _;have f0:=Zh fN bX.k bX.id.b (ad bX.id.l) (ad bX.id.s) bX.c (ad bX.u) bX.f bX.e ts[k].a;have Ac:Z w _:=TJ (R:=(w:Nat)+1) ahe J bX.k bX.id.b (ad bX.id.l) (ad bX.id.s) bX.c (ad bX.u) bX.f bX.e ts[k].a;generalize World.setCell _ (w,1,8) _=W at f0 Ac ⊢;replace Ac:=I Ac;have pv:Hid (∀t,ks=some t->ts[k].a=t.a):=λt a6=>by rw[IF.out]at a6;cases a6;rfl
  have atW:=I (show ks.isSome=true from by rw[IF.out];rfl);clear lN e3 ju oP uR s4 uS tP atT u0 u1 u2 u3 u4 u5 u6 u7 u8 cT c1 c2 da dJ dw eC eK iT atU atV fN a7 IF;obtain⟨z0,cU,z2,z3,z4,z5,ga,fk,rb⟩:=vy f0;generalize ts[k]=q at pv f0 z0 cU z2 z3 z4 z5 ga fk rb ⊢;clear f0;go_wp2;refine bodyPost_ret (v:=.tuple #[.agg #[bX.k,bX.id.b,ad bX.id.l,ad bX.id.s,bX.c,ad bX.u,bX.f,bX.e,q.a],.bool true]) (by simp[results,results91,go_sem,z0,cU,z2,z3,z4,z5,ga,fk,rb]) rfl ⟨⟨bX,q.e,q.a⟩,by rw[atW.out],pv,Ac⟩
 ·rw[bj hk];have IF:=I (show ks=none from by rw[<-IE.out,y8 (by rw[cr];omega)]);clear hk IE;go_wp2_with fail;have f0:=Zh hB ar ar au au ar au aH aH (.bool false);obtain⟨z0,cU,z2,z3,z4,z5,ga,fk,rb⟩:=vy f0;refine bodyPost_ret (v:=.tuple #[.agg #[ar,ar,au,au,ar,au,aH,aH,.bool false],.bool false]) (by simp[results,results91,go_sem,z0,cU,z2,z3,z4,z5,ga,fk,rb]) rfl ⟨⟨rI,N7,false⟩,by rw[IF.out];rfl,λt a6=>(by rw[IF.out]at a6;cases a6),?_⟩;exact TJ bx J _ _ _ _ _ _ _ _ _
def Gt(nf:Int)(l:List gN)(t:gN):Int×List gN:=
 if hD l t.e.id<l.length then (170,l) else if nf≠0 then (nf,l) else qh l t
def O0{l:List gN}{t:gN}:Gt 0 l t=qh l t:=by
 unfold Gt qh;split<;>rfl
def ahf(nf:Int)(a:bk)(n c:Nat)(ts:List b2)(t:b2)(w:aC)(H:tr w a n c ts)(eH:∀p,p∈ts->mo p.e)(eu:n<=1000)(bb:h0 w t.x t.e)(fR:mo t.e)(O1:∀w',Z w w'->aR 194 #[t.x] w' λe fj=>e=.returned nf/\Z w' fj)(O2:nf=0->hP t.e):
  aR 144 #[aq a n c,.agg #[t.x.k,t.x.id.b,ad t.x.id.l,ad t.x.id.s,t.x.c,ad t.x.u,t.x.f,t.x.e,t.a]] w (Ad (Gt nf (ts.map b2.tx) t.tx) w):=by
 obtain⟨t0,Bl,zh,Ev,IC⟩:=info_parts Zb;change Hid _ at Bl zh Ev IC;have x6:=I H.aF.neq;have n3:=I bb.id;change Hid _ at H eH eu bb fR O1 O2;obtain⟨r,cR⟩:∃r,Gt nf (ts.map b2.tx) t.tx=r:=⟨_,rfl⟩;rw[cR];change Hid _ at cR;go_enter func144,ntmps144;go_wp2_with fail;go_step3;go_wp2_with fail;refine(TF a n c ts _ (H.ext X) eH eu).mono ?_;rintro e w1⟨cL,dv,c1,ys,rfl,dO,bM,fg⟩;have nY:=fg.aB (show(w.alloc (.cells #[t.x.k,t.x.id.b,ad t.x.id.l,ad t.x.id.s,t.x.c,ad t.x.u,t.x.f,t.x.e,t.a] 191)).heap[(w:Nat)]?=some (.cells #[t.x.k,t.x.id.b,ad t.x.id.l,ad t.x.id.s,t.x.c,ad t.x.u,t.x.f,t.x.e,t.a] 191)from fi rfl);obtain⟨b0,bd,hv,e6,e2,wF,vz,hW,Iy⟩:=vy nY;have R2:Hid (∀ai,cL=some ai->(w:Nat)+1<=ai.block):=λai aj=>by have:=(dO.cg.lt ai aj).1;(try simp at this);omega
 have ba:=I (dO.mono (aDn:=(w:Nat)) (by simp));change Hid _ at bM;refine OT ?_;intro bx;change Hid _ at nY;clear dO fg;go_wp2_with fail;go_step3;go_wp2_with fail;try (go_step3;go_wp2_with fail)
 refine(TE a n c ts t.x.id _ (H.ext X)).mono ?_;rintro e _⟨rfl,bz⟩;have po:=bz.aB nY;clear b0 bd hv e6 e2 wF vz hW Iy;obtain⟨b0,bd,hv,e6,e2,wF,vz,hW,Iy⟩:=vy po;change Hid _ at po bz;rw[TD,cr];by_cases hk:hD (ts.map b2.tx) t.x.id<ts.length
 ·rw[bm hk]
  have oz:=I (show r=(170,ts.map b2.tx)from by
   rw[<-cR.out];unfold Gt
   rw[bm (by rw[cr];rw[show t.tx.e.id=t.x.id from n3.symm];exact hk)])
  generalize hD (ts.map b2.tx) t.x.id=k at hk ⊢;clear hk;exact TK
 ·rw[bj hk]
  have tt:=I (show ¬hD (ts.map b2.tx) t.tx.e.id<(ts.map b2.tx).length from by
   rw[cr];rw[show t.tx.e.id=t.x.id from n3.symm];exact hk)
  clear hk;go_wp2_with fail;refine(O1 _ X).mono ?_;rintro e _⟨rfl,c9⟩;have oA:=c9.aB po;clear b0 bd hv e6 e2 wF vz hW Iy;obtain⟨b0,bd,hv,e6,e2,wF,vz,hW,Iy⟩:=vy oA;change Hid _ at oA c9;by_cases mU:nf=0
  ·subst mU;by_cases fs:8<=n
   ·have atX:(8:Int)<=(n:Int):=J
    have oz:=I (show r=(171,ts.map b2.tx)from by
     rw[<-cR.out,O0];unfold qh
     rw[bj tt.out,bm (by rw[cr,<-x6.out];exact fs)])
    exact TK
   ·skip;go_wp2_with fail;refine(ag2 t.x t.e _ (bb.ext X) (O2 trivial)).mono ?_;rintro e b3⟨rfl,eX⟩;have Ae:=eX.aB oA;change Hid _ at eX;cases Ep:sD t.e with
    |true=>
     have oz:=I (show r=(172,ts.map b2.tx)from by
      rw[<-cR.out,O0];unfold qh
      rw[bj tt.out,bj (by rw[cr,<-x6.out];exact fs),bm (show sD t.tx.e=true from Ep)])
     exact TK
    |false=>
     have oz:=I (show r=(0,ts.map b2.tx++[t.tx])from by
      rw[<-cR.out,O0];unfold qh
      rw[bj tt.out,bj (by rw[cr,<-x6.out];exact fs),bj (by rw[show t.tx.e=t.e from rfl,Ep];decide)])
     change Hid _ at Ae;have ud:=I (show dv=n from by have ae:=ba.cg.neq;have ak:=eP List.length bM;rw[cr,cr]at ak;have:=x6.out;omega);change Hid _ at fs;clear b0 bd hv e6 e2 wF vz hW Iy Ep;go_wp2_with fail;obtain⟨z,eM⟩:∃z,z=(w:Nat):=⟨_,rfl⟩;have O3:=I (show b3.heap[z]?=some (.cells #[t.x.k,t.x.id.b,ad t.x.id.l,ad t.x.id.s,t.x.c,ad t.x.u,t.x.f,t.x.e,t.a] 191)from by rw[eM];exact Ae);rw[<-eM];change Hid _ at eM;refine sI (λw'=>w'.heap[z]?=some (.cells #[t.x.k,t.x.id.b,ad t.x.id.l,ad t.x.id.s,t.x.c,ad t.x.u,t.x.f,t.x.e,t.a] 191)) (λa7=>?_) Zi;refine cX 0 ?_;refine cX 1 ?_;refine cX 4 ?_;refine lA 2 id ?_;refine lA 5 id ?_;refine hE 3 λK aL=>?_;go_simp;go_at_call 160;refine(SY t.x t.e _ (bb.ext X) fR).mono ?_;rintro e bp⟨bX,rfl,ki,ic⟩;change Hid _ at ki ic;refine aL _ _ Zi λa7=>eY ?_;refine cX 6 ?_;refine hE 7 λK aL=>?_;go_simp;refine aL _ _ Zi λa7=>eY ?_;refine hE 8 λK aL=>?_;refine vE (ys:=ys) (c:=b2.cs) rfl (.tmp 28) (.tmp 35) 156 rfl t0 _ 104 underlying156 Bl zh Ev IC rfl af rfl (ba.cg.ext X) ⟨bX,t.e,t.a⟩ _ rfl (fc (cs:=b2.cs ⟨bX,t.e,t.a⟩) rfl) (b2.cN _) (by have:=ud.out;have:=fs.out;omega) af (Z.size X) ?_;intro g _ _ k4 cv;have ga:=cv.aB (Z.aB (W:=b3) X O3) (λai aj k=>by have:=R2.out ai aj;have:=eM.out;omega);change Hid _ at cv k4;refine zc (d:=some 36) rfl ?_;refine aL _ _ (by(try dsimp only);exact ga) λa7=>eY ?_;refine cX 9 ?_;refine wpAnyH_done bV ?_ _;go_wp2_with fail;rw[nJ];go_ret2;refine⟨_,_,_,ys++[⟨bX,t.e,t.a⟩],by rw[oz.out];rfl,?_,?_,?_⟩
     ·exact(ba.ext (w':=bp.alloc (.cells #[bX.k,bX.id.b,ad bX.id.l,ad bX.id.s,bX.c,ad bX.u,bX.f,bX.e,t.a] 191)) X).ri cv k4 ((ki.mono (aDn:=(w:Nat)) (Z.size X)).ext X)
     ·rw[oz.out,gS,bM.out];rfl
     ·exact cv.ext (ba.cg.ext (w':=bp.alloc (.cells #[bX.k,bX.id.b,ad bX.id.l,ad bX.id.s,bX.c,ad bX.u,bX.f,bX.e,t.a] 191)) X) (bA _) X
  ·have oz:=I (show r=(nf,ts.map b2.tx)from by
    rw[<-cR.out];unfold Gt
    rw[bj tt.out,bm mU])
   exact TK
def x7(i:aA)(cl:Int):bg:=⟨1,i,cl,0,[],[]⟩
def ahg(w:aC)(i:aA)(cl:Int):h0 w ⟨1,i,cl,0,⟨none,0,0⟩,⟨none,0,0⟩⟩ (x7 i cl):=⟨rfl,rfl,rfl,rfl,a1.nil _ (λ_=>rfl),[],rfl,a1.nil _ (λ_=>rfl),λy hy=>by cases hy⟩
def atY(a:bk)(n c:Nat)(ts:List b2)(i:aA)(cl:Int)(w:aC)(H:tr w a n c ts)(eH:∀p,p∈ts->mo p.e)(eu:n<=1000)(c5:hP (x7 i cl)):
  aR 94 #[aq a n c,i,cl] w (Ad (qh (ts.map b2.tx) ⟨x7 i cl,false⟩) w):=by
 change Hid _ at H eH eu c5;go_enter func94,ntmps94;go_wp2_with fail;refine(ahf 0 a n c ts ⟨⟨1,i,cl,0,⟨none,0,0⟩,⟨none,0,0⟩⟩,x7 i cl,false⟩ _ (H.ext X) eH eu (ahg _ _ _) c5.rH (λw' sK=>HX _ _ w' (ahg _ _ _) c5) (λ_=>c5)).mono ?_;rintro e _⟨cL,dv,c1,ys,rfl,ba,bM,bx⟩;change Hid _ at ba bM bx;rw[O0]at bM ⊢;go_wp2;go_ret2;exact⟨cL,dv,c1,ys,rfl,ba.mono (by simp),bM,X⟩
def atZ(nf:Int)(a:bk)(n c:Nat)(ts:List b2)(x:b1)(d:bg)(w:aC)(H:tr w a n c ts)(eH:∀p,p∈ts->mo p.e)(eu:n<=1000)(bb:h0 w x d)(fR:mo d)(O1:∀w',Z w w'->aR 194 #[x] w' λe fj=>e=.returned nf/\Z w' fj)(O2:nf=0->hP d):
  aR 84 #[aq a n c,x] w (Ad (Gt nf (ts.map b2.tx) ⟨d,true⟩) w):=by
 change Hid _ at H eH eu bb fR O1 O2;go_enter func84,ntmps84;go_wp2_with fail;refine(ahf nf a n c ts ⟨x,d,true⟩ _ (H.ext X) eH eu (bb.ext X) fR (λw' sK=>O1 w' (Z.trans X sK)) O2).mono ?_;rintro e _⟨cL,dv,c1,ys,rfl,ba,bM,bx⟩;change Hid _ at ba bM bx;go_wp2;go_ret2;exact⟨cL,dv,c1,ys,rfl,ba.mono (by simp),bM,X⟩
def Zj{tx:List gN}{t:gN}(h:sE tx i=some t):tx[hD tx i]?=some t/\t.a=false:=by
 unfold sE at h;cases bu:tx[hD tx i]? with
 |none=>rw[bu]at h;cases h
 |some q=>
  rw[bu]at h;dsimp only at h;cases bq:q.a with
  |true=>rw[bq]at h;simp at h
  |false=>rw[bq]at h;simp at h;subst h;exact⟨rfl,bq⟩
def qm.dT{c:Nat}{ys Zk:List b2}(h:qm w base (some (g,0)) n c ys)(al:aG (λb=>b=g) w w')(aK:Own w' base 191 9 b2.cs (some (g,0)) n c Zk)(hm:∀p,p∈Zk->(∃q,q∈ys/\q.x=p.x/\q.e=p.e)\/fO w' base p.x p.e):qm w' base (some (g,0)) n c Zk:=
 ⟨aK,λp aV=>by
  rcases hm p aV with ⟨q,bq,bS,bE⟩|bq
  ·rw[<-bS,<-bE];exact(h.ct q bq).Zf (S:=λ_=>True) h.cg af af af al
  ·exact bq⟩
def ahh{l:List gN}{t:gN}(h:sE l i=some t):Eu l i=(hD l i:Int):=by unfold Eu;rw[h]
def ahi{l:List gN}(h:sE l i=none):Eu l i=-1:=by unfold Eu;rw[h]
def at0(a:bk)(n c:Nat)(ts:List b2)(i:aA)(w:aC)(H:tr w a n c ts)(eH:∀p,p∈ts->mo p.e)(eu:n<=1000):
  aR 97 #[aq a n c,i] w (Ad (Ea (ts.map b2.tx) i) w):=by
 change Hid _ at H eH eu;obtain⟨r,cR⟩:∃r,Ea (ts.map b2.tx) i=r:=⟨_,rfl⟩;rw[cR];change Hid _ at cR;go_enter func97,ntmps97;go_wp2_with fail;refine(TF a n c ts _ (H.ext X) eH eu).mono ?_;rintro e w1⟨cL,dv,c1,ys,rfl,dO,bM,fg⟩;refine ahj ?_;intro dr b0 bd hv;have ba:=I (dO.mono (aDn:=(w:Nat)) (by simp));change Hid _ at bM;refine OT ?_;intro bx;clear fg dr dO;go_wp2_with fail;refine qA (agZ a n c ts i _ (H.ext X)) λaN bz=>?_;clear b0 bd hv;cases aK:sE (ts.map b2.tx) i with
 |none=>
  have oz:=I (show r=(170,ts.map b2.tx)from by rw[<-cR.out];unfold Ea;rw[aK]);rw[ahi aK];clear aK;go_wp2;exact ahk
 |some t=>
  have oz:=I (show r=(0,(ts.map b2.tx).set (hD (ts.map b2.tx) i) {t with a:=true})from by rw[<-cR.out];unfold Ea;rw[aK]);rw[ahh aK];have a6:=(Zj aK).1;generalize hD (ts.map b2.tx) i=k at a6 oz ⊢;have oI:k<ys.length:=by
   have:=(vv.1 a6).1;rw[<-bM.out,cr]at this;exact this
  have dp:=I (show ys[k].tx=t from by
   rw[<-bM.out,nu,fz oI]at a6
   exact wL a6)
  have hY:=ba.cg.neq;obtain⟨g,bu⟩:=ba.cg.To (show 0<dv by omega);subst bu;have qU:(0:Int)<=(k:Int):=J;have iU:(k:Int)<(dv:Int):=J;change Hid _ at oI;clear aK a6 hY;obtain⟨_,c1,_,_,_,_,_,_,_⟩:=Gs ((ba.cg.ext (w':=aN) X).J7 k oI);have x8:∀o,aN.frozen? ⟨g,o,none⟩=false:=λo=>(ba.cg.ext (w':=aN) X).free o;go_wp2;go_ret2;have oO:=ba.ext (w':=aN) X;have a8:=(oO.cg.aDq k ⟨ys[k].x,ys[k].e,true⟩ (fz oI) 8 af (.bool true) rfl).1;refine⟨_,_,_,ys.set k ⟨ys[k].x,ys[k].e,true⟩,by rw[oz.out];rfl,oO.dT (aG.setCell (S:=λb=>b=g) (aG.refl _ _) _ (.inl rfl) _) a8 (λp aV=>.inl ?_),?_,?_⟩
  ·rcases RL aV with aV|rfl
   ·exact⟨p,aV,rfl,rfl⟩
   ·exact⟨ys[k],c7 _,rfl,rfl⟩
  ·rw[oz.out,<-bM.out,List.map_set,<-dp.out];rfl
  ·exact Z.setCell (show Z w aN from X) (p:=(g,k*9+8)) (ba.cg.lt _ rfl).1 _
def O4{R:Nat}{cT c1 c2 da dJ dw eC eK:Value}{t:TypeId}{fr:Nat×Nat}(h:w.heap[R]?=some (.cells #[cT,c1,c2,da,dJ,dw,eC,eK] t fr))(v0 v1 v2 v3 v4 v5 v6 gy:Value):
  ((((((((w.setCell (R,0) v0).setCell (R,1) v1).setCell (R,2) v2).setCell (R,3) v3).setCell (R,4) v4).setCell (R,5) v5).setCell (R,6) v6).setCell (R,7) gy).heap[R]?=some (.cells #[v0,v1,v2,v3,v4,v5,v6,gy] t fr):=by
 refine ahc ?_;intro aW ae ak aM bn cb ey iZ;rw[iZ];simp
def Own.at1{cap:Nat}{ys:List b2}(h:Own w base 191 9 b2.cs (some ⟨g,0,.none⟩) n cap ys)(k:Nat)(hk:k<ys.length)(x:b1)(d:bg):
  Own ((((((((w.setCell ⟨g,k*9,.none⟩ x.k).setCell ⟨g,k*9+1,.none⟩ x.id.b).setCell ⟨g,k*9+2,.none⟩ (ad x.id.l)).setCell ⟨g,k*9+3,.none⟩ (ad x.id.s)).setCell ⟨g,k*9+4,.none⟩ x.c).setCell ⟨g,k*9+5,.none⟩ (ad x.u)).setCell ⟨g,k*9+6,.none⟩ x.f).setCell ⟨g,k*9+7,.none⟩ x.e)
   base 191 9 b2.cs (some ⟨g,0,.none⟩) n cap (ys.set k ⟨x,d,ys[k].a⟩):=by
 have dV:ys[k]?=some ys[k]:=fz hk;obtain⟨aW,bS⟩:=h.aDq k ⟨{ys[k].x with k:=x.k},d,ys[k].a⟩ dV 0 af x.k rfl;obtain⟨ae,bE⟩:=aW.aDq k ⟨{ys[k].x with k:=x.k,id:={ys[k].x.id with b:=x.id.b}},d,ys[k].a⟩ bS 1 af x.id.b rfl;obtain⟨ak,eV⟩:=ae.aDq k ⟨{ys[k].x with k:=x.k,id:={ys[k].x.id with b:=x.id.b,l:=x.id.l}},d,ys[k].a⟩ bE 2 af (ad x.id.l) rfl;obtain⟨aM,gU⟩:=ak.aDq k ⟨{ys[k].x with k:=x.k,id:=x.id},d,ys[k].a⟩ eV 3 af (ad x.id.s) rfl;obtain⟨bn,kD⟩:=aM.aDq k ⟨{ys[k].x with k:=x.k,id:=x.id,c:=x.c},d,ys[k].a⟩ gU 4 af x.c rfl;obtain⟨cb,l5⟩:=bn.aDq k ⟨{ys[k].x with k:=x.k,id:=x.id,c:=x.c,u:=x.u},d,ys[k].a⟩ kD 5 af (ad x.u) rfl;obtain⟨ey,lO⟩:=cb.aDq k ⟨{ys[k].x with k:=x.k,id:=x.id,c:=x.c,u:=x.u,f:=x.f},d,ys[k].a⟩ l5 6 af x.f rfl;obtain⟨iZ,_⟩:=ey.aDq k ⟨x,d,ys[k].a⟩ lO 7 af x.e rfl;simp only[List.set_set]at iZ;exact iZ
def at2(a dK:bk)(n c eA dM:Nat)(ts:List b2)(i:aA)(xs:List cd)(w:aC)(h:tr w a n c ts)(AN:∀p,p∈ts->mo p.e)(an:n<=1000)(mm:∀p,p∈ts->p.a=false->p.e.k=1/\hP p.e)(ss:a1 w 4 cd.cs dK eA dM xs)(Af:∀y,y∈xs->k8 y.n):
  aR 96 #[aq a n c,i,aq dK eA dM] w (Ad (Cs (ts.map b2.tx) i xs) w):=by
 have H:=I h;have eH:=I AN;have eu:=I an;have Bm:=I mm;have kg:=I ss;have at3:=I Af;have x6:=I h.aF.neq;clear h AN an mm ss Af;obtain⟨r,ax⟩:∃r,Cs (ts.map b2.tx) i xs=r:=⟨_,rfl⟩;rw[ax];have cR:=I ax;clear ax;obtain⟨dc,aJ,tL,oM,lK⟩:=info_parts J5;obtain⟨eI,hk,va,bw,cj⟩:=info_parts M4;have eo:=I aJ;have dB:=I tL;have ej:=I oM;have fe:=I lK;have mZ:=I hk;have na:=I va;have nb:=I bw;have nc:=I cj;clear aJ tL oM lK hk va bw cj;go_enter func96,ntmps96;go_wp2_with fail;go_step3;go_wp2_with fail;refine(TF a n c ts _ (H.out.ext X) eH.out eu.out).mono ?_;rintro e w1⟨cL,dv,_,ys,rfl,dO,fy,fg⟩;refine ahj ?_;intro dr b0 bd hv;have ba:=I (dO.mono (aDn:=(w:Nat)) (by simp));have bM:=I fy;refine OT ?_;intro bx;clear fg dr dO fy;go_wp2_with fail;try (go_step3;go_wp2_with fail)
 refine(agZ a n c ts i _ (H.out.ext X)).mono ?_;rintro e _⟨rfl,ih⟩;have bz:=I ih;clear ih b0 bd hv;cases aK:sE (ts.map b2.tx) i with
 |none=>
  have oz:=I (show r=(170,ts.map b2.tx)from by rw[<-cR.out];unfold Cs;rw[aK]);rw[ahi aK];clear aK;go_wp2_with fail;try (go_step3;go_wp2_with fail)
  exact TL
 |some t=>
  rw[ahh aK];have a6:=(Zj aK).1;have O5:=(Zj aK).2
  have cy:=I (show ∀q,(if so xs=false then (40,ts.map b2.tx) else if 8<=t.e.aS.length then (171,ts.map b2.tx) else if sD {t.e with aS:=t.e.aS++[xs]}=true then (172,ts.map b2.tx) else (0,(ts.map b2.tx).set (hD (ts.map b2.tx) i) {t with e:={t.e with aS:=t.e.aS++[xs]}}))=q->r=q from λq bq=>by
   rw[<-cR.out,<-bq];unfold Cs;rw[aK])
  generalize hD (ts.map b2.tx) i=k at a6 cy ⊢;have CI:k<ts.length:=by
   have:=(vv.1 a6).1;rw[cr]at this;exact this
  have TM:ys.length=ts.length:=by have ak:=eP List.length bM.out;rw[cr,cr]at ak;exact ak
  have TI:=I TM;have oI:=I CI;have Zl:ts[k].tx=t:=by
   rw[nu,fz CI]at a6;exact wL a6
  have Zm:=I (show ts[k].a=false from by rw[<-O5,<-Zl];rfl);have Lg:=I (show t=⟨ts[k].e,false⟩ from by rw[<-Zl,<-Zm.out];rfl);have hY:=ba.out.cg.neq;obtain⟨g,bu⟩:=ba.out.cg.To (show 0<dv by omega);subst bu;have qU:(0:Int)<=(k:Int):=J;have iU:(k:Int)<(dv:Int):=J;have agS:(k:Int)<(n:Int):=by have:=x6.out;omega
  clear aK a6 O5 Zl CI hY TM;go_wp2_with fail;try (go_step3;go_wp2_with fail)
  refine(Sx dK eA dM xs _ (kg.out.ext X)).mono ?_;rintro e aY⟨rfl,jV⟩;have c9:=I jV;clear jV;cases ao:so xs with
  |false=>
   have oz:=I (cy.out _ (by rw[bm ao]));have TN:DW false=40:=rfl;rw[TN];go_wp2_with fail;exact TL
  |true=>
   have TN:DW true=0:=rfl;rw[TN];obtain⟨pD,o,IH,gV⟩:=H.out.aF.get k oI.out;subst IH;obtain⟨cT,agq,c2,da,dJ,dw,eC,eK,iT⟩:=Gs (w:=aY) (b:=pD) (o:=o+k*9) (p:=ts[k]) (λj v aJ=>(show Z w aY from X).ah (gV j v aJ));have cn:=I ao;clear ao gV;go_wp2_with fail;refine(SY ts[k].x ts[k].e _ ((H.out.ct _ (c7 oI.out)).ext X) (eH.out _ (c7 oI.out))).mono ?_;rintro e b3⟨bX,rfl,sk,oT⟩;obtain⟨cq,ft,pc,zT⟩:=sk.e;have O6:bX.e.n=ts[k].e.aS.length:=by rw[pc.neq,<-ft,cr]
   have ki:=I sk;have n2:=I ft;have lj:=I pc;have D3:=I zT;have TO:=I O6;have eX:=I oT;clear sk ft pc zT O6 oT cT agq c2 da dJ dw eC eK iT;by_cases fs:8<=bX.e.n
   ·have atX:(8:Int)<=(bX.e.n:Int):=J;have oz:=I (cy.out _ (by rw[bj (by rw[cn.out];decide),bm (by rw[Lg.out,<-TO.out];exact fs)]));go_wp2_with fail;exact TL
   ·skip;go_wp2_with fail;have nR:=Bm.out _ (c7 oI.out) Zm.out
    have fP:=I (show hP {ts[k].e with aS:=ts[k].e.aS++[xs]} from by
     obtain⟨ae,ak⟩:=nR;refine⟨ak.id,ak.c,ak.u,?_⟩;rcases ak.k with ⟨_,aM,bn,cb,ey⟩|⟨aM,_⟩|⟨aM,_⟩
     ·refine .inl ⟨ae,aM,bn,by have:=TO.out;simp;omega,λe he=>?_⟩;rcases iR.1 he with he|he
      ·exact ey e he
      ·obtain rfl:=iH.1 he;exact⟨cn.out,at3.out⟩
     ·omega
     ·omega)
    have Lh:=I fs;have mB:Hid (xs.length<=16):=(Su cn.out).1.2;have z0:=fi (w:=b3) (o:=(bX:Obj)) (n:=(b3:Nat)) rfl;have il:Hid (Z b3 (b3.alloc bX)):=X;obtain⟨B,br⟩:∃B,B=(b3:Nat):=⟨_,rfl⟩;rw[<-br]at z0 ⊢;have bB:=I br;generalize (b3.alloc bX)=bp at z0 il ⊢;have Ew:=I z0;clear z0 br fs nR TN;refine ON 7 (S:=(λw'=>w'.heap[B]?=some (bX:Obj))) bV ?_ (λa7=>?_)
    ·(exact Zn)
    refine gO 0 ?_;refine lQ 1 id ?_;refine gO 2 ?_;refine x3 (rs:= [3]) bV (by simp) ?_;refine Io rfl (λK aL=>?_) K5;refine Wx (c:=cd.cs) (ys0:= []) (ys:=xs) rfl (.const aH) (.tmp 36) 34 77 rfl eI _ 48 underlying34 mZ.out na.out nb.out nc.out rfl af rfl _ (Z.refl _) (Own.nil _ _ _ cd.bH) rfl (kg.out.ext X) cd.cN (by have:=kg.out.neq;have:=mB.out;omega) af ?_;intro cK n6 eC cV Cn qb lL Li;have k4:=I qb;have mc:=I lL;clear Cn qb lL Li;refine zc (d:=some 37) rfl ?_;refine aL.out _ _ ?_ (λhH=>?_)
    focus (intro _;exact Zn)
    clear aL K a7;have a7:=hH af;clear hH;refine eY ?_;refine x3 (rs:= [4]) bV (by simp) ?_;refine Ex ?_;intro K aL;refine aL.out _ _ ?_ (λhH=>?_)
    focus (intro _;exact Zn)
    clear aL K a7;have a7:=hH af;clear hH;refine eY ?_;refine x3 (rs:= [5]) bV (by simp) ?_;refine Io rfl (λK aL=>?_) K5;refine vE (ys:=cq) (c:=eJ.cs) rfl (.tmp 35) (.tmp 38) 64 rfl dc _ 24 underlying64 eo.out dB.out ej.out fe.out rfl af rfl (lj.out.ext X) ⟨⟨cK,n6,eC⟩,[]++xs⟩ _ rfl (fc (cs:=eJ.cs ⟨⟨cK,n6,eC⟩,[]++xs⟩) rfl) (eJ.cN _) (by have:=Lh.out;omega) af (Z.size X) ?_;intro g2 zj df ahl bW;have cv:=I bW;have lv:=I ahl;have a6:(cV.alloc (.cells #[aq cK n6 eC] 34)).heap[B]?=some (bX:Obj):=Z.aB (W:=bp) X Ew.out;have fk:=bW.aB a6 (λai aj k=>(lj.out.ext (w':=cV.alloc (.cells #[aq cK n6 eC] 34)) X).eQ a6 af ai aj k);clear ahl bW a6;refine zc (d:=some 39) rfl ?_;refine aL.out _ _ ?_ (λhH=>?_)
    focus (intro _;(try dsimp only);exact fk)
    clear aL K a7;have a7:=hH af;clear hH;refine eY ?_;refine gO 6 ?_;obtain⟨-,-,-,-,-,-,-,at4,at5⟩:=kl fk;refine x3 (rs:= [7]) bV (by simp) ?_;refine Ex ?_;intro K aL;refine aL.out _ _ (λh=>absurd rfl h) (λ_=>?_);clear aL K;refine eY ?_;refine K6 bV ?_ _;clear a7 at4 at5;obtain⟨gR,cj⟩:∃gR:b1,gR={bX with e:=⟨some (g2,0),bX.e.n+1,zj⟩}:=⟨_,rfl⟩;have rb:(df.setCell (B,7) (.slice (some (g2,0)) (bX.e.n+1) zj)).heap[B]?=some (gR:Obj):=by
     rw[er fk,cj];simp
    have lY:∀{α:Type}{e:TypeId}{sz jj kj:Nat}{c:α->List Value}{aw:bk}{ys:List α},Own b3 aY e sz c aw jj kj ys->34≠e->e≠66->Own (df.setCell (B,7) (.slice (some (g2,0)) (bX.e.n+1) zj)) aY e sz c aw jj kj ys:=λo ae ak=>
     (cv.out.AB (lj.out.ext (w':=cV.alloc (.cells #[aq cK n6 eC] 34)) X) (o.ext (w':=cV.alloc (.cells #[aq cK n6 eC] 34)) X) ae).nh fk ak _
    have RA:Own (df.setCell (B,7) (.slice (some (g2,0)) (bX.e.n+1) zj)) aY 77 4 cd.cs cK n6 eC ([]++xs):=
     ((cv.out.AB (lj.out.ext (w':=cV.alloc (.cells #[aq cK n6 eC] 34)) X) ((k4.out.ext (w':=cV.alloc (.cells #[aq cK n6 eC] 34)) X).mono (aDn:=(aY:Nat)) (Z.size (show Z aY _ from X))) af).nh fk af _)
    have Zo:fO (df.setCell (B,7) (.slice (some (g2,0)) (bX.e.n+1) zj)) aY gR {ts[k].e with aS:=ts[k].e.aS++[xs]}:=by
     subst cj;refine⟨ki.out.k,ki.out.id,ki.out.c,ki.out.u,lY ki.out.f af af,cq++[⟨⟨cK,n6,eC⟩,[]++xs⟩],by rw[gS,n2.out];rfl,lv.out.nh fk af _,λy hy=>?_⟩;rcases iR.1 hy with hy|hy
     ·exact lY (D3.out y hy) af af
     ·obtain rfl:=iH.1 hy;exact RA
    have jl:Z aY (df.setCell (B,7) (.slice (some (g2,0)) (bX.e.n+1) zj)):=
     Z.setCell (cv.out.ext (lj.out.ext (w':=cV.alloc (.cells #[aq cK n6 eC] 34)) X) (bA _) X) (by rw[bB.out];exact Z.size X) _
    generalize (df.setCell (B,7) (.slice (some (g2,0)) (bX.e.n+1) zj))=eb at rb Zo jl ⊢;clear RA lY fk cj;have vb:=I Zo;have n5:=I jl;have at6:=I rb;obtain⟨z0,cU,z2,z3,z4,z5,ga,fk⟩:=lI rb;clear Zo jl rb;go_wp2_with fail;refine(ag2 gR _ _ vb.out.ct fP.out).mono ?_;rintro e cG⟨rfl,td⟩;have nE:=I td;have x9:=I (td.aB at6.out);clear td z0 cU z2 z3 z4 z5 ga fk;cases Ep:sD {ts[k].e with aS:=ts[k].e.aS++[xs]} with
    |true=>
     have oz:=I (cy.out _ (by rw[bj (by rw[cn.out];decide),bj (by rw[Lg.out,<-TO.out];exact Lh.out),bm (by rw[Lg.out];exact Ep)]));go_wp2_with fail;exact TL
    |false=>
     have oz:=I (cy.out _ (by rw[bj (by rw[cn.out];decide),bj (by rw[Lg.out,<-TO.out];exact Lh.out),bj (by rw[Lg.out,Ep];decide)]));have ahm:=I (show k<ys.length from by have:=oI.out;have:=TI.out;omega);have jo:=I (ba.out.ext (w':=cG) X);obtain⟨_,_,_,_,_,_,_,_,_⟩:=Gs (jo.out.cg.J7 k ahm.out);have x8:∀o,cG.frozen? ⟨g,o,none⟩=false:=λo=>jo.out.cg.free o;have z9:=x9.out;obtain⟨_,_,_,_,_,_,_,_⟩:=lI z9;clear z9 Ep;go_wp2_with fail;rw[nJ];go_ret2;have k3:k<ys.length:=ahm.out;have a8:=jo.out.cg.at1 k k3 gR {ts[k].e with aS:=ts[k].e.aS++[xs]};have vK:=(jo.out.cg.lt _ rfl).1;have gI:=Tq (S:=λb=>b=g) (aG.refl _ cG) (R:=g) (k*9) (.inl rfl) gR.k gR.id.b (ad gR.id.l) (ad gR.id.s) gR.c (ad gR.u) gR.f gR.e;have oC:Z w cG:=X;have dE:Z w aY:=X;have iG:=gI.ext (W:=w) (λb aa=>by subst aa;exact vK) oC;have at7:=((vb.out.ext nE.out).mono (aDn:=(w:Nat)) dE.size).Zf (S:=λ_=>True) jo.out.cg af af af gI;refine⟨_,_,_,_,by rw[oz.out];rfl,jo.out.dT gI a8 (λp aV=>?_),?_,iG⟩
     ·rcases RL aV with aV|rfl
      ·exact .inl ⟨p,aV,rfl,rfl⟩
      ·exact .inr at7
     ·have aj:ys[k].a=false:=by
       have ae:=eP (λl=>l[k]?) bM.out;simp only[nu,fz k3,fz oI.out,FL,Option.some.injEq,b2.tx,gN.mk.injEq]at ae;exact ae.2.trans Zm.out
      rw[oz.out,<-bM.out,List.map_set,Lg.out];simp only[b2.tx,aj]
structure ue (m:dC):Prop where
 h:gv m.h
 oG:(m.k=1/\m.aS= []/\m.ps= []/\m.ay= []/\m.aX= [])\/(m.k=2/\m.vs= []/\m.c3= [])
 vs:m.vs.length<=16/\∀v,v∈m.vs->dx v.id
 c3:m.c3.length<=16/\∀d,d∈m.c3->hP d
 aS:m.aS.length<=16/\∀d,d∈m.aS->hP d
 ps:m.ps.length<=16/\∀d,d∈m.ps->hP d
 ay:m.ay.length<=16/\∀i,i∈m.ay->dx i
 aX:m.aX.length<=16/\∀i,i∈m.aX->dx i
def w4(w:World)(a:Option Addr)(n c:Nat)(aX:List bg):Prop:=∃ps:List bO,a1 w 8 bO.cs a n c ps/\(∀p,p∈ps->h0 w p.x p.d)/\ps.map (·.d)=aX
def w4.ext{a:bk}{c:Nat}{aX:List bg}(h:w4 w a n c aX)(U:Z w w'):w4 w' a n c aX:=
 let ⟨ps,ae,ak,aM⟩:=h;⟨ps,ae.ext U,λp aV=>(ak p aV).ext U,aM⟩
structure tu (w:World) (x:ky) (m:dC):Prop where
 k:x.k=m.k
 h:x.h=(m.h:Int)
 v:a1 w 4 V.cs x.v.a x.v.n x.v.c m.vs
 q:w4 w x.q.a x.q.n x.q.c m.c3
 e:w4 w x.e.a x.e.n x.e.c m.aS
 p:w4 w x.p.a x.p.n x.p.c m.ps
 b:a1 w 3 aA.cs x.b.a x.b.n x.b.c m.ay
 d:a1 w 3 aA.cs x.d.a x.d.n x.d.c m.aX
def tu.ext{x:ky}{m:dC}(h:tu w x m)(U:Z w w'):tu w' x m:=⟨h.k,h.h,h.v.ext U,h.q.ext U,h.e.ext U,h.p.ext U,h.b.ext U,h.d.ext U⟩
def ahn(i:aA)(w:aC)(aW:0<=i.b/\i.b<16):aR 269 #[i] w (cM (.bool true) w):=by
 go_enter func269,ntmps269;obtain⟨ae,ak⟩:=aW;go_wp2;go_ret;refine⟨by simp[ae,ak],?_⟩;exact X
def at8(v:V)(w:aC)(aW:0<=v.id.b/\v.id.b<16):aR 268 #[.agg #[v.id.b,ad v.id.l,ad v.id.s,v.kO]] w (cM (.bool true) w):=by
 go_enter func268,ntmps268;go_wp2_with fail;refine qA (ahn v.id _ aW) λw1 bB=>?_;go_wp2;go_ret;exact⟨rfl,X⟩
def at9(x:b1)(d:bg)(w:aC)(bb:h0 w x d)(c5:hP d):aR 270 #[x] w (cM (.bool true) w):=by
 change Hid _ at bb c5;go_enter func270,ntmps270;go_wp2_with fail;refine qA (HX x d _ (bb.ext X) c5) λw1 bB=>?_;go_wp2;go_ret;exact⟨rfl,X⟩
def TP(a:bk)(n c:Nat)(xs:List aA)(w:aC)(H:a1 w 3 aA.cs a n c xs)(an:xs.length<=16)(eU:∀i,i∈xs->dx i):
  aR 273 #[aq a n c,.func (.func 269) #[] #[]] w (cM (.bool true) w):=by
 obtain rfl:=H.neq;have hm:=H.max;unfold maxLen at hm;have ny:¬(16:Int)<(xs.length:Int):=J;change Hid _ at H;clear an;go_enter func273,ntmps273;go_wp2_with fail;go_loopg [4,12] (xs.length) (λg O7 st wr=>∃k:Nat,g+k=xs.length/\O7=.bool false/\st=.int .i64 k/\Hid (Z w wr));case atStart=>exact⟨0,J,rfl,rfl,X⟩
 case round=>
  obtain⟨k,_,rfl,rfl,mw⟩:=hrel;by_cases hk:k<xs.length
  ·obtain⟨b,o,rfl,ao⟩:=H.get k hk;obtain⟨_,_,_⟩:=FO (w:=wr) (b:=b) (o:=o+k*3) (x:=xs[k]) (λj v aJ=>mw.ah (ao j v aJ));refine kt ?_;intro b0 bd;clear ao;go_wp2_with fail;refine qA (ahn _ _ (eU _ (c7 hk)).b) λw1 bB=>?_;exact Zp
  ·go_wp2;go_ret;exact⟨rfl,X⟩
def aho(a:bk)(n c:Nat)(xs:List V)(w:aC)(H:a1 w 4 V.cs a n c xs)(an:xs.length<=16)(eU:∀v,v∈xs->dx v.id):
  aR 271 #[aq a n c,.func (.func 268) #[] #[]] w (cM (.bool true) w):=by
 obtain rfl:=H.neq;have hm:=H.max;unfold maxLen at hm;have ny:¬(16:Int)<(xs.length:Int):=J;change Hid _ at H;clear an;go_enter func271,ntmps271;go_wp2_with fail;go_loopg [4,12] (xs.length) (λg O7 st wr=>∃k:Nat,g+k=xs.length/\O7=.bool false/\st=.int .i64 k/\Hid (Z w wr));case atStart=>exact⟨0,J,rfl,rfl,X⟩
 case round=>
  obtain⟨k,_,rfl,rfl,mw⟩:=hrel;by_cases hk:k<xs.length
  ·obtain⟨b,o,rfl,ao⟩:=H.get k hk;obtain⟨_,_,_,_⟩:=Nc (w:=wr) (b:=b) (o:=o+k*4) (x:=xs[k]) (λj v aJ=>mw.ah (ao j v aJ));refine kt ?_;intro b0 bd;clear ao;go_wp2_with fail;refine qA (at8 _ _ (eU _ (c7 hk)).b) λw1 bB=>?_;exact Zp
  ·go_wp2;go_ret;exact⟨rfl,X⟩
def Lj(a:bk)(n c:Nat)(aX:List bg)(w:aC)(h:w4 w a n c aX)(an:aX.length<=16)(eU:∀d,d∈aX->hP d):
  aR 272 #[aq a n c,.func (.func 270) #[] #[]] w (cM (.bool true) w):=by
 obtain⟨xs,h,fE,rfl⟩:=h;rw[cr]at an;change Hid _ at fE;obtain rfl:=h.neq;have hm:=h.max;unfold maxLen at hm;have ny:¬(16:Int)<(xs.length:Int):=J;change Hid _ at h;clear an;go_enter func272,ntmps272;go_wp2_with fail;go_loopg [4,12] (xs.length) (λg O7 st wr=>∃k:Nat,g+k=xs.length/\O7=.bool false/\st=.int .i64 k/\Hid (Z w wr));case atStart=>exact⟨0,J,rfl,rfl,X⟩
 case round=>
  obtain⟨k,_,rfl,rfl,mw⟩:=hrel;by_cases hk:k<xs.length
  ·obtain⟨b,o,rfl,ao⟩:=h.out.get k hk;obtain⟨_,_,_,_,_,_,_,_⟩:=pd (w:=wr) (b:=b) (o:=o+k*8) (x:=xs[k].x) (λj v aJ=>mw.out.ah (ao j v aJ));refine kt ?_;intro b0 bd;have b8:=I hk;clear ao;go_wp2_with fail;refine qA (at9 _ xs[k].d _ ((fE.out _ (c7 hk)).ext X) (eU _ (mJ (c7 hk)))) λw1 aa=>?_;exact Zp
  ·go_wp2;go_ret;exact⟨rfl,X⟩
def Zq(x:ky)(m:dC)(w:aC)(h:tu w x m)(hm:ue m):aR 210 #[x] w λe w'=>e=.returned ar/\Z w w':=by
 obtain⟨_,rE,⟨uf,vc,ug⟩,⟨tv,sL,tw⟩,⟨dK,eA,dM⟩,⟨cD,eL,fw⟩,⟨ha,h2,gG⟩,⟨oZ,o0,nB⟩⟩:=x;have bM:=I hm;obtain⟨hk,-,Lk,jz,ch,kz,br,jw⟩:=h;dsimp only at hk Lk jz ch kz br jw ⊢;have bo:=Lk.neq;have aa:=br.neq;have aD:=jw.neq;have bq:sL=m.c3.length:=by obtain⟨ps,ae,_,aM⟩:=jz;rw[<-aM,cr];exact ae.neq
 have he:eA=m.aS.length:=by obtain⟨ps,ae,_,aM⟩:=ch;rw[<-aM,cr];exact ae.neq
 have aV:eL=m.ps.length:=by obtain⟨ps,ae,_,aM⟩:=kz;rw[<-aM,cr];exact ae.neq
 have k6:=hm.oG;rcases k6 with ⟨bQ,bY,ew,fm,iQ⟩|⟨bQ,bY,ew⟩
 ·rw[bQ]at hk;rw[bY]at he;rw[ew]at aV;rw[fm]at aa;rw[iQ]at aD;simp only[nW]at he aV aa aD;subst hk;subst he;subst aV;subst aa;subst aD;clear bo bq;have bN:=I Lk;have h3:=I jz;have jI:=I ch;have cy:=I kz;have bB:=I br;have c5:=I jw;clear Lk jz ch kz br jw hm bQ bY ew;go_enter func210,ntmps210;go_wp2_with fail;have R:=I (fi (w:=w) (o:=(.cells #[bh 1,ad rE,aq uf vc ug,aq tv sL tw,.slice dK 0 dM,.slice cD 0 fw,.slice ha 0 gG,.slice oZ 0 nB] 232)) (n:=(w:Nat)) rfl);refine(aho _ _ _ m.vs _ (bN.ext X) bM.vs.1 bM.vs.2).mono ?_;rintro e w1⟨rfl,bx⟩;have q1:=bx.aB R;have R:=I q1;obtain⟨z0,cU,z2,z3,z4,z5,ga,fk⟩:=lI q1;replace bx:=I bx;clear q1;go_wp2_with fail;refine(Lj _ _ _ m.c3 _ (h3.ext X) bM.c3.1 bM.c3.2).mono ?_;rintro e aN⟨rfl,bz⟩;have dP:=bz.aB R;have R:=I dP;obtain⟨z0,cU,z2,z3,z4,z5,ga,fk⟩:=lI dP;replace bz:=I bz;clear dP;go_wp2_with fail;refine(Lj _ _ _ m.aS _ (jI.ext X) bM.aS.1 bM.aS.2).mono ?_;rintro e aY⟨rfl,c9⟩;have fp:=c9.aB R;have R:=I fp;obtain⟨z0,cU,z2,z3,z4,z5,ga,fk⟩:=lI fp;replace c9:=I c9;clear fp;go_wp2_with fail;refine(Lj _ _ _ m.ps _ (cy.ext X) bM.ps.1 bM.ps.2).mono ?_;rintro e b3⟨rfl,eX⟩;have iw:=eX.aB R;have R:=I iw;obtain⟨z0,cU,z2,z3,z4,z5,ga,fk⟩:=lI iw;replace eX:=I eX;clear iw;go_wp2_with fail;refine(TP _ _ _ m.ay _ (bB.ext X) bM.ay.1 bM.ay.2).mono ?_;rintro e bp⟨rfl,ic⟩;have ov:=ic.aB R;have R:=I ov;obtain⟨z0,cU,z2,z3,z4,z5,ga,fk⟩:=lI ov;replace ic:=I ic;clear ov;go_wp2_with fail;refine(TP _ _ _ m.aX _ (c5.ext X) bM.aX.1 bM.aX.2).mono ?_;rintro e cV⟨rfl,mc⟩;have xu:=mc.aB R;have R:=I xu;exact ahp
 ·rw[bQ]at hk;rw[bY]at bo;rw[ew]at bq;simp only[nW]at bo bq;subst hk;subst bo;subst bq;clear he aV aa aD;have bN:=I Lk;have h3:=I jz;have jI:=I ch;have cy:=I kz;have bB:=I br;have c5:=I jw;clear Lk jz ch kz br jw hm bQ bY ew;go_enter func210,ntmps210;go_wp2_with fail;have R:=I (fi (w:=w) (o:=(.cells #[bh 2,ad rE,.slice uf 0 ug,.slice tv 0 tw,aq dK eA dM,aq cD eL fw,aq ha h2 gG,aq oZ o0 nB] 232)) (n:=(w:Nat)) rfl);refine(aho _ _ _ m.vs _ (bN.ext X) bM.vs.1 bM.vs.2).mono ?_;rintro e _⟨rfl,bx⟩;have q1:=bx.aB R;have R:=I q1;obtain⟨z0,cU,z2,z3,z4,z5,ga,fk⟩:=lI q1;replace bx:=I bx;clear q1;go_wp2_with fail;refine(Lj _ _ _ m.c3 _ (h3.ext X) bM.c3.1 bM.c3.2).mono ?_;rintro e _⟨rfl,bz⟩;have dP:=bz.aB R;have R:=I dP;obtain⟨z0,cU,z2,z3,z4,z5,ga,fk⟩:=lI dP;replace bz:=I bz;clear dP;go_wp2_with fail;refine(Lj _ _ _ m.aS _ (jI.ext X) bM.aS.1 bM.aS.2).mono ?_;rintro e _⟨rfl,c9⟩;have fp:=c9.aB R;have R:=I fp;obtain⟨z0,cU,z2,z3,z4,z5,ga,fk⟩:=lI fp;replace c9:=I c9;clear fp;go_wp2_with fail;refine(Lj _ _ _ m.ps _ (cy.ext X) bM.ps.1 bM.ps.2).mono ?_;rintro e _⟨rfl,eX⟩;have iw:=eX.aB R;have R:=I iw;obtain⟨z0,cU,z2,z3,z4,z5,ga,fk⟩:=lI iw;replace eX:=I eX;clear iw;go_wp2_with fail;refine(TP _ _ _ m.ay _ (bB.ext X) bM.ay.1 bM.ay.2).mono ?_;rintro e _⟨rfl,ic⟩;have ov:=ic.aB R;have R:=I ov;obtain⟨z0,cU,z2,z3,z4,z5,ga,fk⟩:=lI ov;replace ic:=I ic;clear ov;go_wp2_with fail;refine(TP _ _ _ m.aX _ (c5.ext X) bM.aX.1 bM.aX.2).mono ?_;rintro e _⟨rfl,mc⟩;have xu:=mc.aB R;exact ahp
def uh(v:V):List UInt8:=ia v.id++cJ (if v.kO=true then 1 else 0)
def kb(f:α->List UInt8)(l:List α):List UInt8:=cJ l.length++l.flatMap f
def ahq(a:bk)(n cap:Nat)(xs:dR)(i:aA)(w:aC)(av:a1 w 1 cp a n cap xs)(aO:dx i)(an:n<=999900):
  aR 216 #[aq a n cap,i] w (p3 5 1 cp (xs++ia i) w):=by
 obtain⟨b,l,s⟩:=i;obtain⟨aa,aT,hs⟩:=aO;dsimp only at aa aT hs ⊢;obtain⟨q,rfl⟩:∃q:Nat,b=(q:Int):=⟨b.toNat,J⟩;obtain⟨L,rfl⟩:∃q:Nat,l=(q:Int):=⟨l.toNat,by unfold kP at aT;omega⟩;obtain⟨S,rfl⟩:∃q:Nat,s=(q:Int):=⟨s.toNat,by unfold kP at hs;omega⟩;refine SE ?_;intro fH zR;change Hid _ at av;go_enter func216,ntmps216;have agC:wrap64 (q:Int)=(q:Int):=by simp only[wrap64];omega
 go_wp2_with fail;refine(j6 _ _ _ _ q _ ((av.ext X)) qc J).mono ?_;rintro e w1⟨cL,dv,_,rfl,dn,bw⟩;have hY:dv<=999910:=by
  have ae:=dn.neq;have ak:=hg q;have aM:=((av.ext X)).neq;rw[cH]at ae;omega
 have jX:w1.cell? (w,1)=some ↑(ad (L:Int)):=bw.ah (by simp);have ij:w1.cell? (w,2)=some ↑(ad (S:Int)):=bw.ah (by simp);change Hid _ at dn bw;go_wp2_with fail;refine(j6 _ _ _ _ L _ (dn.aF) qc J).mono ?_;rintro e _⟨cE,cZ,_,rfl,b7,cj⟩;have k5:cZ<=999920:=by
  have ae:=b7.neq;have ak:=hg L;have aM:=(dn.aF).neq;rw[cH]at ae;omega
 exact ael
def aua(a:bk)(n cap:Nat)(xs:dR)(v:V)(w:aC)(av:a1 w 1 cp a n cap xs)(bb:dx v.id)(an:n<=999800):
  aR 212 #[aq a n cap,.agg #[v.id.b,ad v.id.l,ad v.id.s,v.kO]] w (p3 5 1 cp (xs++uh v) w):=by
 change Hid _ at av bb;have eu:=I av.neq;obtain⟨id,kO⟩:=v;dsimp only at bb;cases kO with
 |true=>
   refine ahr ?_;intro _ _ w1 cL dv c1 hY dn bw _ _;refine(j6 _ _ _ _ 1 _ (dn.aF) qc J).mono ?_;exact ahs
 |false=>
   refine ahr ?_;intro _ _ w1 cL dv c1 hY dn bw _ _;refine(j6 _ _ _ _ 0 _ (dn.aF) qc J).mono ?_;exact ahs
def aub(a:bk)(n cap:Nat)(xs:dR)(x:b1)(d:bg)(w:aC)(av:a1 w 1 cp a n cap xs)(bb:h0 w x d)(c5:hP d)(an:n<=1000000):
  aR 214 #[aq a n cap,x] w (p3 5 1 cp (xs++gi (hA d)) w):=by
 change Hid _ at av bb c5;go_enter func214,ntmps214;go_wp2_with fail;refine(XI x d _ (bb.ext X) c5).mono ?_;rintro e _⟨cL,dv,_,rfl,ba,bx⟩;have hY:dv<=20000:=by rw[ba.neq];exact Kx c5
 change Hid _ at ba bx;go_wp2_with fail;refine(HP _ _ _ _ _ _ _ _ _ (av.ext X) ba.aF J J).mono ?_;rintro e _⟨cE,cZ,c2,rfl,b7,bz⟩;change Hid _ at b7 bz;go_wp2;go_ret;exact⟨cE,cZ,c2,rfl,b7.mono (aDn:=(w:Nat)) (Z.size X),X⟩
def aht(ha:bk)(n gG:Nat)(cq:dR)(a:bk)(m0 c:Nat)(xs:List aA)(w:aC)(bB:a1 w 1 cp ha n gG cq)(H:a1 w 3 aA.cs a m0 c xs)(eU:∀i,i∈xs->dx i)(an:n+20100*xs.length+10<=999900):
  aR 215 #[aq ha n gG,aq a m0 c,.func (.func 216) #[] #[]] w (p3 5 1 cp (cq++kb ia xs) w):=by
 have xK:∀x,x∈xs->(ia x).length<=20100:=λx _=>by have:=AW x;omega
 obtain rfl:=H.neq;have hm:=H.max;have aT:=H.len;unfold maxLen at hm;have ahu:wrap64 (xs.length:Int)=(xs.length:Int):=by simp only[wrap64];omega
 change Hid _ at H bB;go_enter func215,ntmps215;refine ahv ?_;intro w1 cL dv c1 hY dn bw Gj _ _;go_loopg [0,16] (xs.length) (λg e1 st wr=>∃(k:Nat) (ab:bk) (m aQ:Nat),g+k=xs.length/\e1=.slice ab m aQ/\st=.int .i64 k/\m<=n+10+20100*k/\Hid (Own wr w 5 1 cp ab m aQ (cq++(cJ xs.length++(xs.take k).flatMap (ia))))/\Hid (Z w wr));case atStart=>exact ahw
 case round=>
  obtain⟨k,ab,m,aQ,_,rfl,rfl,_,aE,mw⟩:=hrel;by_cases hk:k<xs.length
  ·obtain⟨b,o,rfl,ao⟩:=H.get k hk;obtain⟨_,c1,c2⟩:=FO (w:=wr) (b:=b) (o:=o+k*3) (x:=xs[k]) (λj v aJ=>mw.ah (ao j v aJ));refine kt ?_;intro b0 bd;go_wp2_with fail;refine(ahq _ _ _ _ _ _ (aE.aF.ext X) (eU _ (c7 hk)) J).mono ?_;exact ahx
  ·refine se ?_;intro b9;rw[b9]at aE;go_wp2;go_ret;exact⟨ab,m,aQ,rfl,aE,X⟩
def auc(ha:bk)(n gG:Nat)(cq:dR)(a:bk)(m0 c:Nat)(xs:List V)(w:aC)(bB:a1 w 1 cp ha n gG cq)(H:a1 w 4 V.cs a m0 c xs)(eU:∀v,v∈xs->dx v.id)(an:n+20100*xs.length+10<=999800):
  aR 211 #[aq ha n gG,aq a m0 c,.func (.func 212) #[] #[]] w (p3 5 1 cp (cq++kb uh xs) w):=by
 have xK:∀x,x∈xs->(uh x).length<=20100:=λx _=>by have:=AW x.id;have:=hg (if x.kO=true then 1 else 0);unfold uh;rw[List.length_append];omega
 obtain rfl:=H.neq;have hm:=H.max;have aT:=H.len;unfold maxLen at hm;have ahu:wrap64 (xs.length:Int)=(xs.length:Int):=by simp only[wrap64];omega
 change Hid _ at H bB;go_enter func211,ntmps211;refine ahv ?_;intro w1 cL dv c1 hY dn bw Gj _ _;go_loopg [0,16] (xs.length) (λg e1 st wr=>∃(k:Nat) (ab:bk) (m aQ:Nat),g+k=xs.length/\e1=.slice ab m aQ/\st=.int .i64 k/\m<=n+10+20100*k/\Hid (Own wr w 5 1 cp ab m aQ (cq++(cJ xs.length++(xs.take k).flatMap (uh))))/\Hid (Z w wr));case atStart=>exact ahw
 case round=>
  obtain⟨k,ab,m,aQ,_,rfl,rfl,_,aE,mw⟩:=hrel;by_cases hk:k<xs.length
  ·obtain⟨b,o,rfl,ao⟩:=H.get k hk;obtain⟨_,c1,c2,_⟩:=Nc (w:=wr) (b:=b) (o:=o+k*4) (x:=xs[k]) (λj v aJ=>mw.ah (ao j v aJ));refine kt ?_;intro b0 bd;go_wp2_with fail;refine(aua _ _ _ _ _ _ (aE.aF.ext X) (eU _ (c7 hk)) J).mono ?_;exact ahx
  ·refine se ?_;intro b9;rw[b9]at aE;go_wp2;go_ret;exact⟨ab,m,aQ,rfl,aE,X⟩
def Zr(ha:bk)(n gG:Nat)(cq:dR)(a:bk)(m0 c:Nat)(aX:List bg)(w:aC)(a8:a1 w 1 cp ha n gG cq)(h:w4 w a m0 c aX)(eU:∀d,d∈aX->hP d)(an:n+20100*aX.length+10<=999800):
  aR 213 #[aq ha n gG,aq a m0 c,.func (.func 214) #[] #[]] w (p3 5 1 cp (cq++kb (λd=>gi (hA d)) aX) w):=by
 obtain⟨xs,h,fE,rfl⟩:=h;change Hid _ at fE;have xK:∀x,x∈xs->(gi (hA x.d)).length<=20100:=λx U=>by have:=Kx (eU _ (mJ U));rw[yP];have:=xA (hA x.d).length;omega
 rw[cr]at an;have dV:kb (λd=>gi (hA d)) (xs.map (·.d))=kb (λp:bO=>gi (hA p.d)) xs:=by unfold kb;rw[List.length_map,List.flatMap_map]
 rw[dV];obtain rfl:=h.neq;have hm:=h.max;have aT:=h.len;unfold maxLen at hm;have H:=I h;change Hid _ at a8;have ahu:wrap64 (xs.length:Int)=(xs.length:Int):=by simp only[wrap64];omega
 go_enter func213,ntmps213;go_wp2_with fail;refine(j6 _ _ _ _ xs.length _ ((a8.out.ext X)) qc J).mono ?_;rintro e _⟨cL,dv,c1,rfl,aK,aa⟩;have hY:dv<=n+10:=by
  have ae:=aK.neq;have ak:=hg xs.length;have aM:=((a8.out.ext X)).neq;rw[cH]at ae;omega
 have dn:=I aK;have bw:=I aa;have Gj:=hY;go_wp2_with fail;go_loopg [0,16] (xs.length) (λg e1 st wr=>∃(k:Nat) (ab:bk) (m aQ:Nat),g+k=xs.length/\e1=.slice ab m aQ/\st=.int .i64 k/\m<=n+10+20100*k/\Hid (Own wr w 5 1 cp ab m aQ (cq++(cJ xs.length++(xs.take k).flatMap (λp:bO=>gi (hA p.d)))))/\Hid (Z w wr));case atStart=>exact⟨0,_,_,_,J,rfl,rfl,J,(by rw[DS,N1,mH];exact dn.out.mono (aDn:=(w:Nat)) (Z.size X)),X⟩
 case round=>
  obtain⟨k,ab,m,aQ,_,rfl,rfl,_,aE,mw⟩:=hrel;by_cases hk:k<xs.length
  ·obtain⟨b,o,rfl,ao⟩:=H.out.get k hk;obtain⟨_,_,c2,_,_,_,_,_⟩:=pd (w:=wr) (b:=b) (o:=o+k*8) (x:=xs[k].x) (λj v aJ=>mw.out.ah (ao j v aJ));refine kt ?_;intro b0 bd;go_wp2_with fail;refine(aub _ _ _ _ _ xs[k].d _ (aE.out.aF.ext X) ((fE.out _ (c7 hk)).ext X) (eU _ (mJ (c7 hk))) J).mono ?_;rintro e _⟨cE,cZ,_,rfl,aK,aa⟩;have k5:cZ<=n+10+20100*(k+1):=by
    have ae:=aK.neq;have ak:=aE.out.neq;have aM:=xK xs[k] (c7 hk);rw[cH,<-ak]at ae;omega
   have b7:=I (aK.mono (aDn:=(w:Nat)) (Z.size X));change Hid _ at aa;exact ahy
  ·refine se ?_;intro b9;rw[b9]at aE;go_wp2;go_ret;exact⟨ab,m,aQ,rfl,aE.out,X⟩
def qn(d:bg):List UInt8:=gi (hA d)
def ui(m:dC):List UInt8:=
 cJ m.k.toNat++(cJ m.h++(if m.k=1 then kb uh m.vs++kb qn m.c3 else kb qn m.aS++(kb qn m.ps++(kb ia m.ay++kb ia m.aX))))
def Bn{f:α->dR}{l:List α}{B:Nat}(h:∀x,x∈l->(f x).length<=B):(kb f l).length<=9+B*l.length:=by
 unfold kb;rw[cH];have ae:=hg l.length;have ak:(l.flatMap f).length<=B*l.length:=by
  clear ae;induction l with
  |nil=>simp
  |cons x l cI=>
   rw[nI,cH,mv,Nat.mul_succ];have:=h x kh;have:=cI (λy hy=>h y (kA _ hy));omega
 omega
def Ll{d:bg}(h:hP d):(qn d).length<=20100:=by
 unfold qn;rw[yP];have:=Kx h;have:=xA (hA d).length;omega
def ahz(v:V):(uh v).length<=40:=by
 unfold uh;rw[List.length_append];have:=AW v.id;have:=hg (if v.kO=true then 1 else 0);omega
def aud(x:ky)(m:dC)(w:aC)(h:tu w x m)(hm:ue m):aR 147 #[x] w (wN (ui m) w):=by
 have H:=I h;have bM:=I hm;have b8:=I h.k;have qD:=I h.h;have k6:=hm.oG;have zA:=I (show m.k=1\/m.k=2 by rcases k6 with ⟨k,_⟩|⟨k,_⟩<;>omega);clear h hm k6;go_enter func147,ntmps147;go_wp2_with fail;refine(Zq x m _ (H.out.ext X) bM.out).mono ?_;rintro e w1⟨rfl,aa⟩;have dr:=aa.aB (show(w.alloc x).heap[(w:Nat)]?=some (x:Obj)from fi rfl);have nY:=I dr;have bx:=I aa;clear aa;have z0:=aI (o:=0) dr rfl;have cU:=aI (o:=1) dr rfl;have z2:=aI (o:=2) dr rfl;have z3:=aI (o:=3) dr rfl;have z4:=aI (o:=4) dr rfl;have z5:=aI (o:=5) dr rfl;have ga:=aI (o:=6) dr rfl;have fk:=aI (o:=7) dr rfl;clear dr;replace z0:w1.cell? (w,0)=some ↑m.k:=by rw[z0,<-b8.out];rfl
 replace cU:w1.cell? (w,1)=some ↑(ad (m.h:Int)):=by rw[cU,<-qD.out];rfl
 rcases zA.out with hi|hi
 ·rw[hi]at z0;change Hid _ at hi;go_wp2_with fail;go_region_held3 (λw'=>w'.cell? (w,0)=some ↑(bh 1)/\w'.cell? (w,1)=some ↑(ad (m.h:Int))) (first|(go_split_ands;refine⟨?_,?_⟩<;>exact(Hid.out hy).ah (by assumption))|go_keep) (first|(go_at_call 197;refine(j6 _ _ _ [] 1 _ (a1.nil _ cp.bH) uZ J).mono ?_;rintro e aN⟨cE,cZ,c2,rfl,aK,aa⟩;have k5:cZ<=10:=(by rw[aK.neq,lq];have:=hg 1;omega);have b7:=I aK;have hy:=I aa;have cj:=I aa;clear aK aa)|(go_at_call 197;refine(j6 _ _ _ _ m.h _ (b7.out.aF.ext X) bM.out.h J).mono ?_;rintro e aY⟨a3,gF,da,rfl,aK,aa⟩;have cz:=I aK;have hy:=I aa;have dE:=I aa;clear aK aa));have fN:=dE.out.aB (cj.out.aB (show w1.drew.heap[(w:Nat)]?=some (x:Obj)from nY.out));have oA:=I fN;clear z0 cU z2 z3 z4 z5 ga fk;have z0:=aI (o:=0) fN rfl;have z2:=aI (o:=2) fN rfl;have z3:=aI (o:=3) fN rfl;have z4:=aI (o:=4) fN rfl;have z5:=aI (o:=5) fN rfl;have ga:=aI (o:=6) fN rfl;have fk:=aI (o:=7) fN rfl;replace z0:aY.cell? (w,0)=some ↑(bh 1):=by rw[z0,<-hi.out,<-b8.out];rfl
  clear fN;have vJ:gF<=30:=by
   have ae:=cz.out.neq;have ak:=hg m.h;have bn:=b7.out.neq;rw[cH,<-bn]at ae;omega
  go_wp2_with fail;refine(auc _ _ _ _ _ _ _ m.vs _ (cz.out.aF.ext X) (H.out.v.ext X) bM.out.vs.2 (by have:=bM.out.vs.1;omega)).mono ?_;rintro e b3⟨a4,pF,dJ,rfl,aK,aa⟩;have Cm:pF<=gF+9+40*16:=by
   have ae:=aK.neq;have ak:=Bn (f:=uh) (l:=m.vs) (λv _=>ahz v);have aM:=cz.out.neq;have bn:(m.vs).length<=16:=bM.out.vs.1;rw[cH,<-aM]at ae;have cb:=Nat.mul_le_mul_left 40 bn;omega
  have dW:=I aK;have fv:=I aa;have hx:=aa.aB oA.out;have Ae:=I hx;clear z0 z2 z3 z4 z5 ga fk;have z0:=aI (o:=0) hx rfl;have z3:=aI (o:=3) hx rfl;have z4:=aI (o:=4) hx rfl;have z5:=aI (o:=5) hx rfl;have ga:=aI (o:=6) hx rfl;have fk:=aI (o:=7) hx rfl;clear aK aa hx;go_wp2_with fail;refine(Zr _ _ _ _ _ _ _ m.c3 _ (dW.out.aF.ext X) (H.out.q.ext X) bM.out.c3.2 (by have:=bM.out.c3.1;omega)).mono ?_;rintro e bp⟨a5,jc,dw,rfl,aK,aa⟩;have XH:jc<=pF+9+20100*16:=by
   have ae:=aK.neq;have ak:=Bn (f:=λd=>gi (hA d)) (l:=m.c3) (λd aD=>Ll (bM.out.c3.2 d aD));have aM:=dW.out.neq;have bn:(m.c3).length<=16:=bM.out.c3.1;rw[cH,<-aM]at ae;have cb:=Nat.mul_le_mul_left 20100 bn;omega
  change Hid _ at aK;have ix:=I aa;have kx:=aa.aB Ae.out;have Bo:=I kx;clear z0 z3 z4 z5 ga fk;have z0:=aI (o:=0) kx rfl;have z4:=aI (o:=4) kx rfl;have z5:=aI (o:=5) kx rfl;have ga:=aI (o:=6) kx rfl;have fk:=aI (o:=7) kx rfl;clear aa kx;go_wp2;go_ret2;refine⟨a5,jc,dw,rfl,?_,X⟩;have h:=aK.out.mono (aDn:=(w:Nat)) (Z.size X);unfold ui;rw[hi.out,bm rfl];rw[lq]at h;exact HS
 ·rw[hi]at z0;change Hid _ at hi;go_wp2_with fail;go_region_held3 (λw'=>w'.cell? (w,0)=some ↑(bh 2)/\w'.cell? (w,1)=some ↑(ad (m.h:Int))) (first|(go_split_ands;refine⟨?_,?_⟩<;>exact(Hid.out hy).ah (by assumption))|go_keep) (first|(go_at_call 197;refine(j6 _ _ _ [] 2 _ (a1.nil _ cp.bH) uZ J).mono ?_;rintro e _⟨cE,cZ,_,rfl,aK,aa⟩;have k5:cZ<=10:=(by rw[aK.neq,lq];have:=hg 2;omega);have b7:=I aK;have hy:=I aa;have cj:=I aa;clear aK aa)|(go_at_call 197;refine(j6 _ _ _ _ m.h _ (b7.out.aF.ext X) bM.out.h J).mono ?_;rintro e aY⟨a3,gF,_,rfl,aK,aa⟩;have cz:=I aK;have hy:=I aa;have dE:=I aa;clear aK aa));have fN:=dE.out.aB (cj.out.aB (show w1.drew.heap[(w:Nat)]?=some (x:Obj)from nY.out));have oA:=I fN;clear z0 z4 z5 ga fk;have z0:=aI (o:=0) fN rfl;have z4:=aI (o:=4) fN rfl;have z5:=aI (o:=5) fN rfl;have ga:=aI (o:=6) fN rfl;have fk:=aI (o:=7) fN rfl;replace z0:aY.cell? (w,0)=some ↑(bh 2):=by rw[z0,<-hi.out,<-b8.out];rfl
  clear fN;have vJ:gF<=30:=by
   have ae:=cz.out.neq;have ak:=hg m.h;have bn:=b7.out.neq;rw[cH,<-bn]at ae;omega
  go_wp2_with fail;refine(Zr _ _ _ _ _ _ _ m.aS _ (cz.out.aF.ext X) (H.out.e.ext X) bM.out.aS.2 (by have:=bM.out.aS.1;omega)).mono ?_;rintro e _⟨a4,pF,_,rfl,aK,aa⟩;have Cm:pF<=gF+9+20100*16:=by
   have ae:=aK.neq;have ak:=Bn (f:=λd=>gi (hA d)) (l:=m.aS) (λd aD=>Ll (bM.out.aS.2 d aD));have aM:=cz.out.neq;have bn:(m.aS).length<=16:=bM.out.aS.1;rw[cH,<-aM]at ae;omega
  have dW:=I aK;have fv:=I aa;have hx:=aa.aB oA.out;have Ae:=I hx;clear z0 z4 z5 ga fk;have z5:=aI (o:=5) hx rfl;have ga:=aI (o:=6) hx rfl;have fk:=aI (o:=7) hx rfl;clear aK aa hx;go_wp2_with fail;refine(Zr _ _ _ _ _ _ _ m.ps _ (dW.out.aF.ext X) (H.out.p.ext X) bM.out.ps.2 (by have:=bM.out.ps.1;omega)).mono ?_;rintro e _⟨a5,jc,_,rfl,aK,aa⟩;have XH:jc<=pF+9+20100*16:=by
   have ae:=aK.neq;have ak:=Bn (f:=λd=>gi (hA d)) (l:=m.ps) (λd aD=>Ll (bM.out.ps.2 d aD));have aM:=dW.out.neq;have bn:(m.ps).length<=16:=bM.out.ps.1;rw[cH,<-aM]at ae;omega
  have hj:=I aK;have ix:=I aa;have kx:=aa.aB Ae.out;have Bo:=I kx;clear z5 ga fk;have ga:=aI (o:=6) kx rfl;have fk:=aI (o:=7) kx rfl;clear aK aa kx;go_wp2_with fail;refine(aht _ _ _ _ _ _ _ m.ay _ (hj.out.aF.ext X) (H.out.b.ext X) bM.out.ay.2 (by have:=bM.out.ay.1;omega)).mono ?_;rintro e _⟨rG,n6,_,rfl,aK,aa⟩;have Cn:n6<=jc+9+27*16:=by
   have ae:=aK.neq;have ak:=Bn (f:=ia) (l:=m.ay) (λi _=>AW i);have aM:=hj.out.neq;have bn:(m.ay).length<=16:=bM.out.ay.1;rw[cH,<-aM]at ae;omega
  have k4:=I aK;have lL:=I aa;have nO:=aa.aB Bo.out;have aue:=I nO;clear ga fk;have fk:=aI (o:=7) nO rfl;clear aK aa nO;go_wp2_with fail;refine(aht _ _ _ _ _ _ _ m.aX _ (k4.out.aF.ext X) (H.out.d.ext X) bM.out.aX.2 (by have:=bM.out.aX.1;omega)).mono ?_;rintro e _⟨nA,n7,eK,rfl,aK,aa⟩;change Hid _ at aK;have mq:=I aa;have tM:=aa.aB aue.out;clear fk;clear aa tM;go_wp2;go_ret2;refine⟨nA,n7,eK,rfl,?_,X⟩;have h:=aK.out.mono (aDn:=(w:Nat)) (Z.size X);unfold ui;rw[hi.out,bj af];rw[lq]at h;exact HS
end Go.Proofs.YtfiiblnenhdlhaaGreat
