/- Part. -/
import Derived.Test.YtfiiblnenhdlhaaGreatC2
import Derived.Test.YtfiiblnenhdlhaaGreatC6
set_option linter.unusedVariables false
set_option linter.unusedSimpArgs false
set_option linter.defProp false
set_option maxRecDepth 100000
set_option maxHeartbeats 4000000
namespace Go.Proofs.YtfiiblnenhdlhaaGreat
open Go.RowKit Tryz
variable {cs:Array Value}{cl:Int}{R bD:List ax}{aU:List bb}{ts:List ca}{tx:List gy}{l:List hE}{f:Lit->Option Value}{base cap h5 j3 k n p q sz:Nat}{D M O:Nat->Prop}{a aA hD:Option Addr}{α:Type}{e:TypeId}{dc w w' w1:World}{i:ax}{c:bK}{d:bb}{v:gB}
def ag0{α:Type}{p q:α->Bool}:∀(l:List α),(∀x,x∈l->p x=true->q x=false)->(l.filter p).length+(l.filter q).length<=l.length
 | [],_=>by simp
 |x::l,h=>by
  have cY:=ag0 l (λy hy=>h y (ni _ hy))
  have X:=h x o1
  rw[Is,Is,me]
  cases aY:p x<;>cases bs:q x
  ·simp;omega
  ·simp;omega
  ·simp;omega
  ·rw[X aY]at bs;cases bs
def atb(l:List nY)(d:bb):(yT l d).length<=l.length+1:=by
 unfold yT;split
 ·have h:=ag0 (p:=λs=>decide (qV s d.c d.u<0)) (q:=λs=>decide (0<qV s d.c d.u)) l (λx _ h=>atc);rw[c9,c9];split<;>simp only[GO,pH]<;>omega
 ·omega
def atd{l:List nY}{s:nY}(h:s∈yT l d):s∈l\/s.ts=d.ts:=by
 unfold yT at h;split at h
 ·rcases ie.1 h with h|h
  ·exact .inl (pA.1 h).1
  ·rcases ie.1 h with h|h
   ·split at h
    ·rw[jg.1 h];exact .inr rfl
    ·cases h
   ·exact .inl (pA.1 h).1
 ·exact .inl h
def dP.nD(i:Int):∀u∈dP i,u.oneCell'=true:=by intro u aj;simp only[dP,jg]at aj;subst aj;rfl
def U9(l:List bb):∀o:List nY,(l.foldl zs o).length<=o.length+l.length:=by
 induction l with
 |nil=>exact λo=>bJ _
 |cons d l cY=>
  intro o;rw[ry,me];refine ek (cY _) ?_;have:=atb o d;unfold zs;split<;>omega
def ate(l:List bb):∀(o:List nY) (s:nY),s∈l.foldl zs o->s∈o\/∃d,d∈l/\s.ts=d.ts:=by
 induction l with
 |nil=>exact λo s h=>.inl h
 |cons d l cY=>
  intro o s h;rw[ry]at h;rcases cY _ s h with k|⟨zw,af,an⟩
  ·unfold zs at k;split at k
   ·exact .inl k
   ·exact(atd k).imp id (λe=>⟨d,o1,e⟩)
  ·exact .inr ⟨zw,ni _ af,an⟩
def ag1{l:List bb}(hk:k<l.length):pK (l.take (k+1))=zs (pK (l.take k)) l[k]:=by
 unfold pK;exact CZ
def I'{l:List bb}(h:∀d,d∈l->gZ d)(k:Nat):∀s,s∈pK (l.take k)->s.ts.length<=100:=λs hs=>by
 rcases ate _ _ s hs with af|⟨d,af,an⟩
 ·cases af
 ·rw[an];exact(h d (Bt af)).r8.ts
def J'{b:aT}(h:ea w M D O c p q b v)(fK:∀d,d∈b.st.au->gZ d)(aq:b.st.au.length<=10000)(pl:Nat)(xp:pl<=b.st.au.length):
  Calls prog 99 #[.pointer (some ⟨p,0,none⟩),.int .i64 pl] w (NL (pK (b.st.au.take pl)) w):=by
 have dH:=aL (o:=5) h.box rfl;obtain⟨au,_,dh⟩:=h.c8.st;have BX:au.length=b.st.au.length:=by rw[<-dh.jI,cx]
 have c3:=dh.l.aF.neq;have hm:=dh.l.aF.max;have hv:=dh.l.aF.len;unfold maxLen at hm;obtain⟨er,vu⟩:∃er,v.s.l.a=er:=⟨_,rfl⟩;have bg:=dh.l;rw[vu]at bg;have Xy:w.cell? ⟨p,5,none⟩=some (.slice er v.s.l.n v.s.l.c):=vu▸dH;have bF:=I dh.jI;have d0:(pl:Int)<=(v.s.l.c:Int):=J;have lP:(0:Int)<=(pl:Int):=J;change aa _ at bg fK c3;clear h dh vu dH;go_enter func99,ntmps99;go_wp2_with fail;go_loopg [5,16] pl (λg e4 dS wr=>∃(k:Nat) (aA:bl) (m aR:Nat) (ys:List cu),g+k=pl/\dS=.int .i64 (k:Int)/\e4=.slice aA m aR/\aa (th wr aA m aR ys)/\aa (ys.map cu.d=pK (b.st.au.take k))/\aa (Z w wr));case atStart=>exact⟨0,none,0,0,[],J,rfl,rfl,th.nil _,rfl,U⟩
 case round=>
  obtain⟨k,aA,m,aR,ys,_,rfl,rfl,mM,kx,X⟩:=hrel;by_cases hk:k<pl
  ·have rE:k<au.length:=J;obtain⟨fb,o,rfl,al⟩:=bg.aF.get k rE;obtain⟨_,_,c2,_,_,_,_,_⟩:=nh (w:=wr) (b:=fb) (o:=o+k*8) (x:=au[k].x) (λj v aD=>X.ag (al j v aD));have cJ:au[k].d=b.st.au[k]'J:=by
    have af:(au.map (·.d))[k]? =b.st.au[k]? :=by rw[bF.out]
    rw[nd,eK rE,eK J]at af;exact w9 af
   have a8:=I (bg.ck au[k] (cT rE));have Fw:=fK.out (b.st.au[k]'J) (cT _);rw[<-cJ]at Fw;have hlen:m<=10000:=by
    rw[mM.aF.neq,<-cx (f:=cu.d),kx.out];have:=U9 (b.st.au.take k) [];rw[pH,nF]at this;unfold pK;omega
   have ev:∀s,s∈ys->s.ts.length<=10000:=λs hs=>ag2;have w3:au[k].d.ts.length<=10000:=ek Fw.r8.ts J;have pZ:aa (au[k].x.k=au[k].d.k):=a8.k;have hR:=ag1 (l:=b.st.au) (k:=k) J;rw[<-cJ]at hR;have b0:(0:Int)<=(k:Int):=J;have bf:(k:Int)<(pl:Int):=J;change aa _ at ev cJ hR;clear Fw al;by_cases nL:au[k].x.k=1
   ·go_wp2;go_roundg (gk - 1);case measure=>omega
    case rel=>exact⟨k+1,aA,m,aR,ys,J,by go_num,rfl,mM.ext U,ag3,U⟩
   ·go_wp2_with fail;refine(abJ aA m aR ys au[k].x au[k].d _ (mM.ext U) (a8.ext U) ev hlen w3).mono ?_;rintro e _⟨ch,cF,c2,Mg,rfl,nW,kc,bq⟩;change aa _ at nW kc bq;go_wp2;go_roundg (gk - 1);case measure=>omega
    case rel=>exact⟨k+1,ch,cF,c2,Mg,J,by go_num,rfl,nW,by rw[hR.out,kc.out,kx.out];unfold zs;rw[aV (by rw[<-pZ.out];exact nL)];exact rfl,U⟩
  ·have cb:k=pl:=J;subst cb;go_wp2;go_ret;exact⟨aA,m,aR,ys,rfl,mM,kx,X⟩
def atf{b:aT}(h:ea w M D O c p q b v)(al:im c)(hx:Nat)(hk:hx<c.ps.length):
  Calls prog 224 #[.pointer (some ⟨p,0,none⟩),.int .i64 hx] w (qp 3 1 dP (sT c hx) w):=by
 have H:=I h;have gD:=I h.box;have c2:=aL (o:=2) h.box rfl;have db:=I al.x9;have b8:=I h.c8.cL;have Mh:=h.c8.ak;have AP:=h.c8.cL.neq;have ag4:=Mh.neq;have hm:=Mh.max;have a1:=Mh.len;unfold maxLen at hm;obtain⟨er,vu⟩:∃er,v.ak.a=er:=⟨_,rfl⟩;rw[vu]at Mh;have atg:w.cell? ⟨p,2,none⟩=some (.slice er v.ak.n v.ak.c):=vu▸c2;have oA:=I Mh;have Hg:=al.aq.2;have bu:=I al.xl;have hv:∀k,k<=c.hs.length->sT c hx=((List.range c.hs.length).filter (λj=>ET c.ps hx (c.hs.getD j 0).toNat)).map Int.ofNat:=λ_ _=>rfl;rw[hv 0 (gz _)];have Dv:=I AP;have LX:=I ag4;clear h al Mh hv AP ag4 vu c2;obtain⟨dK,aD,ui,oY,lO⟩:=fB TF;have eY:=I aD;have e5:=I ui;have e6:=I oY;have e7:=I lO;clear aD ui oY lO;go_enter func224,ntmps224;go_wp2_with fail;go_loopg [5,13] (c.hs.length) (λg e4 dS wr=>∃(k:Nat) (ab:bl) (m aR:Nat) (ys:List Int),g+k=c.hs.length/\dS=.int .i64 (k:Int)/\e4=.slice ab m aR/\aa (aH wr w.heap.size 3 1 dP ab m aR ys)/\aa (ys=((List.range k).filter (λj=>ET c.ps hx (c.hs.getD j 0).toNat)).map Int.ofNat)/\aa (Z w wr));case atStart=>exact⟨0,none,0,0,[],J,rfl,rfl,aH.nil _ _ _ (λ_=>rfl),rfl,U⟩
 case round=>
  obtain⟨k,ab,m,aR,ys,_,rfl,rfl,aJ,kx,X⟩:=hrel;by_cases rE:k<c.hs.length
  ·obtain⟨fb,o,rfl,fR⟩:=oA.out.get k rE;obtain⟨g1,py⟩:∃g1:Nat,c.hs[k]=(g1:Int):=⟨c.hs[k].toNat,by have:=bu.out c.hs[k] (cT rE);omega⟩;have DQ:g1<c.ps.length:=by have:=bu.out c.hs[k] (cT rE);omega
   have d0:wr.cell? ⟨fb,o+k,none⟩=some (.int .i64 (g1:Int)):=by
    have:=Bo fR;rw[jd,py]at this;exact X.out.ag this
   have lP:=aL (o:=1) (X.out.ay gD.out) rfl;have jE:=X.out.ag atg;have np:ET c.ps hx (c.hs.getD k 0).toNat=ET c.ps hx g1:=by
    rw[xk,eK rE,T4,py,kN]
   have XG:m<=32:=by
    rw[aJ.out.neq,kx.out,cx];have:((List.range k).filter (λj=>ET c.ps hx (c.hs.getD j 0).toNat)).length<=(List.range k).length:=vP _ _;rw[JE]at this;omega
   have IS:=I np;have b0:(0:Int)<=(k:Int):=J;have bf:(k:Int)<(c.hs.length:Int):=J;have dA:(k:Int)<(v.ak.n:Int):=by have:=LX.out;omega
   clear fR np;go_wp2_with fail;refine(apq v.cL.a v.cL.n v.cL.c hx g1 c.ps _ (b8.out.ext U) db.out (by have:=Dv.out;omega) (by have:=Dv.out;omega)).mono ?_;rintro e aN⟨rfl,cn⟩;have bq:=I cn;clear cn;obtain⟨z,bp⟩:∃z,ET c.ps hx g1=z:=⟨_,rfl⟩;have ec:=I (IS.out.trans bp);rw[bp];clear bp IS;cases z with
   |true=>
    go_wp2_with (at_builtin;refine hc (ys:=ys) rfl (.tmp 25) (.tmp 27) 22 rfl dK _ 8 yW eY.out e5.out e6.out e7.out rfl ah rfl (aJ.out.ext (bq.out.trans ((Z.refl _).alloc _))) (k:Int) _ rfl (fi (cs:=dP (k:Int)) rfl) (dP.nD _) J ah (Z.size (X.out.trans (bq.out.trans ((Z.refl _).alloc _)))) ?_;intro _ _ _ ha fy);have Mi:=I fy;have jA:=I ha;clear ha fy;go_wp2;go_roundg (gk - 1);case measure=>omega
    case rel=>
     have ru:=aJ.out.ext (bq.out.trans ((Z.refl aN).alloc (.cells #[.int .i64 (k:Int)] 3)));refine⟨k+1,_,_,_,ys++[(k:Int)],J,by go_num,rfl,jA,?_,Mi.out.ext ru (bJ _) (X.out.trans (bq.out.trans ((Z.refl _).alloc _)))⟩;rw[kx.out,Iy,yU,Is,ec.out,fT];rfl
   |false=>
    go_wp2;go_roundg (gk - 1);case measure=>omega
    case rel=>
     refine⟨k+1,_,_,_,ys,J,by go_num,rfl,aJ.out.ext bq.out,?_,U⟩;show ys=_;rw[kx.out,Iy,yU,Is,ec.out,fT];simp
  ·have cb:k=c.hs.length:=J;subst cb;have dA:¬((c.hs.length:Int)<(v.ak.n:Int)):=by have:=LX.out;omega
   go_wp2;go_ret;exact⟨ab,m,aR,rfl,kx.out▸aJ.out,X.out⟩
def xw(ob l4:Nat)(K:Nat->Prop):Nat->Prop:=λx=>x=ob\/(l4<=x/\¬K x)
def fU.ath{ob l4:Nat}{K:eZ}{x:bR}{fr:Nat×Nat}(h:fU w base x d)(ad:w.heap[ob]?=some (.cells cs 42 fr))(a1:(w:Nat)<=l4):cv (xw ob l4 K) w (λw=>hK w x d):=λw' aj=>by
 have hk:∀{α:Type}{base:Nat}{e:TypeId}{sz:Nat}{c:α->List Value}{aA:bl}{n cap:Nat}{ys:List α},aH w base e sz c aA n cap ys->e≠42->aH w' base e sz c aA n cap ys:=λo he=>
  aj.bS o (λai ak k=>k.elim (o.eW ad he ai ak) (λz=>by have:=(o.lt ai ak).2;have:=z.1;omega))
 obtain⟨ys,cm,cq,fo⟩:=h.e;exact(fU.ck (⟨h.k,h.id,h.c,h.u,hk h.f ah,ys,cm,hk cq ah,λy hy=>hk (fo y hy) ah⟩:fU w' base x d))
def ati(y:bR)(i:ax)(oE:Nat)(w:aC)(af:w.cell? (oE,1)=some ↑i.b)(an:w.cell? (oE,2)=some ↑(ae i.l))(aO:w.cell? (oE,3)=some ↑(ae i.s)):
  aS 221 #[y,oE] w (cU (.bool (cc y.id i)) w):=by
 refine ag5 ?_;intro az bH b1 dJ;go_enter func221,ntmps221;go_wp2;go_ret;exact⟨rfl,U⟩
def ag6{bh:aC}{b:aT}(H:ea bh M D O c p q b v)(kd:∀j,j∈b.bD->dY j)(bG:Z bh w)(ob gb l4:Nat)(K:eZ)(af:(bh:Nat)<=ob)(an:(bh:Nat)<=gb)(dj:gb≠ob)(aO:ob<l4)(bt:gb<l4)(cC:l4<=(w:Nat))(JF:w.heap[gb]?=some (.cells #[p] 103))(fJ:bl)(on gg:Nat)(os:List bU)(ir:w.heap[ob]?=some (.cells #[ao fJ on gg] 42))(bu:aH w l4 66 8 bU.cs fJ on gg os)(Hh:∀p,p∈os->cv (xw ob l4 K) w (λw=>hK w p.x p.d))(hs:os.length<=16)(aE:∀x,K x->x<(w:Nat))(atj:∀ai,fJ=some ai->¬K ai.block)(er:bl)(fk lc:Nat)(xs:List bU)(s6:cv (xw ob l4 K) w (λw=>iG w er fk lc xs))(od:∀p,p∈xs->dY p.d.id):
  Calls prog 220 #[ao er fk lc,ob,gb] w λe w'=>e=.returned (.tuple #[])/\aI (xw ob l4 K) w w'/\∃pT pr rR lF,w'.heap[ob]?=some (.cells #[ao pT pr rR] 42)/\aH w' l4 66 8 bU.cs pT pr rR lF/\(∀p,p∈lF->cv (xw ob l4 K) w' (λw=>hK w p.x p.d))/\lF.length<=16/\(∀ai,pT=some ai->¬K ai.block)/\lF.map (·.d)=(xs.map (·.d)).foldl (sS b) (os.map (·.d)):=by
 obtain⟨ct,bO,bL,bM,bP⟩:=fB Ao;obtain rfl:=s6.c8.aF.neq;have hm:=s6.c8.aF.max;have a1:=s6.c8.aF.len;unfold maxLen at hm;replace ir:=I ir;replace bu:=I bu;replace Hh:=I Hh;replace bO:=I bO;replace bL:=I bL;replace bM:=I bM;replace bP:=I bP;replace H:=I H;replace bG:=I bG;replace kd:=I kd;replace JF:=I JF;replace s6:=I s6;replace od:=I od;go_enter func220,ntmps220;go_wp2_with fail;go_loopg [9] (xs.length) (λg dS wr=>∃(k:Nat) (pT:bl) (pr rR:Nat) (lF:List bU),g+k=xs.length/\dS=.int .i64 (k:Int)/\aa (aI (xw ob l4 K) w wr)/\aa (wr.heap[ob]?=some (.cells #[ao pT pr rR] 42))/\aa (aH wr l4 66 8 bU.cs pT pr rR lF)/\aa (∀p,p∈lF->cv (xw ob l4 K) wr (λw=>hK w p.x p.d))/\lF.length<=16/\aa (∀ai,pT=some ai->¬K ai.block)/\aa (lF.map (·.d)=((xs.take k).map (·.d)).foldl (sS b) (os.map (·.d))));case atStart=>exact⟨0,fJ,on,gg,os,J,rfl,aI.refl _ _,ir,bu,Hh,hs,atj,rfl⟩
 case round=>
  obtain⟨k,pT,pr,rR,lF,_,rfl,fN,rS,dX,JG,Hi,Mj,kx⟩:=hrel;by_cases hk:k<xs.length
  ·have K':=s6.out _ fN.out;obtain⟨fb,o,rfl,al⟩:=K'.aF.get k hk;obtain⟨_,_,_,_,_,_,_,_⟩:=nh (w:=wr) (b:=fb) (o:=o+k*8) (x:=xs[k].x) (λj v aD=>al j v aD);have a8:aa (cv (xw ob l4 K) wr (λw=>hK w xs[k].x xs[k].d)):=λw' aj=>(s6.out _ (fN.out.trans aj)).ck _ (cT hk);have yv:Z bh wr:=fN.out.ext (λb ad=>ad.elim (λe=>by rw[e];exact af) (λz=>by have:=bG.out.size;have:=z.1;omega)) bG.out;have L':=(fN.out.block gb (bZ JF.out) (λz=>z.elim dj (λy=>by have:=y.1;omega))).trans JF.out;have tp:=K'.ck _ (cT hk)|>.id;refine jU ?_;intro b0 bf;have anN:=aL (o:=0) (((Z.refl wr).alloc xs[k].x).ay rS.out) rfl;replace L':=I L';replace yv:=I yv;replace tp:=I tp;clear K' al;have ag7:dY xs[k].x.id:=by rw[tp.out];exact od.out _ (cT hk)
   have Mk:=I dX.out;go_wp2_with fail;have lE:aa ((wr.alloc xs[k].x).heap[(wr:Nat)]?=some (xs[k].x:Obj)):=e2 rfl;obtain⟨Ml,Va⟩:∃z,(lF.map (·.x)).any (λy:bR=>cc y.id xs[k].x.id)=z:=⟨_,rfl⟩;refine(Su pT pr rR (lF.map (·.x)) (λy=>cc y.id xs[k].x.id) 221 ⟨wr.heap.size,0,none⟩ _ ((a7.map (c:=bR.cs) (λp:bU=>p.x) Mk.out.aF (λ_=>rfl)).ext U) (λ_ _=>by kernel_rfl) (λy _ w' rO=>ati y xs[k].x.id wr.heap.size w' (aL (rO.ay lE.out) rfl) (aL (rO.ay lE.out) rfl) (aL (rO.ay lE.out) rfl))).mono ?_;rintro e aN⟨rfl,cn⟩;rw[Va];have rT:=I (cn.ay lE.out);have bq:=I (Z.trans (show Z wr (wr.alloc xs[k].x)from U) cn);have Hj:aa (Z bh aN):=yv.out.trans bq.out;have N':=I (bq.out.ay rS.out);have atk:=I (bq.out.ay L'.out);obtain⟨au,_,dh⟩:=H.out.c8.st;obtain⟨bp,P5⟩:∃z,(au.map (·.x)).any (λx:bR=>cc x.id xs[k].x.id)=z:=⟨_,rfl⟩;obtain⟨P6,P7⟩:∃z,b.EY xs[k].x.id=z:=⟨_,rfl⟩;have bg:=I dh.l.cD;replace P5:=I P5;replace P7:=I P7;replace Va:=I Va;have Jk:=I (AH dh.l dh.jI xs[k].x.id);clear cn dh;go_upto_region 4 with (fail);go_cut [36] (λu eD=>u=.bool (Ml||bp||P6||decide (16<=pr))/\aa (Z aN eD));case first=>
    have q1:=fu.cell (w:=aN) (a:=⟨gb,0,none⟩) (v:=.pointer (some ⟨p,0,none⟩)) (aL atk.out rfl);have dk:=fu.cell (w:=aN) (a:=(p,4)) (v:=.int .u64 v.s.cX) (aL ((H.out.ext Hj.out).box) rfl);have eP:=fu.cell (w:=aN) (a:=(p,5)) (v:=.slice v.s.l.a v.s.l.n v.s.l.c) (aL ((H.out.ext Hj.out).box) rfl);have gV:=fu.cell (w:=aN) (a:=(p,6)) (v:=.slice v.s.p.a v.s.p.n v.s.p.c) (aL ((H.out.ext Hj.out).box) rfl);have mO:=fu.cell (w:=aN) (a:=(p,7)) (v:=.slice v.s.b.a v.s.b.n v.s.b.c) (aL ((H.out.ext Hj.out).box) rfl);have vV:=fu.cell (w:=aN) (a:=(wr,1)) (v:=.int .i64 xs[k].x.id.b) (aL rT.out rfl);have Br:=fu.cell (w:=aN) (a:=(wr,2)) (v:=.int .u64 xs[k].x.id.l) (aL rT.out rfl);have aAv:=fu.cell (w:=aN) (a:=(wr,3)) (v:=.int .u64 xs[k].x.id.s) (aL rT.out rfl);have Vb:=fu.cell (w:=aN) (a:=(ob,0)) (v:=.slice pT pr rR) (aL N'.out rfl);cases Ml with
    |true=>
     go_wp2_with fail;refine ZG ?_;refine Je ?_;intro cW gK;go_wp2;go_meet;exact⟨rfl,gK⟩
    |false=>
     cases bp with
     |true=>
      refine P' ?_;intro cW gK;go_wp2;go_meet;exact⟨rfl,gK⟩
     |false=>
      cases P6 with
      |true=>
       refine P' ?_;intro cW gK;go_wp2;go_meet;exact⟨rfl,gK⟩
      |false=>
       refine P' ?_;intro cW gK;go_wp2;go_meet;refine⟨eH Value.bool ?_,gK⟩;simp only[Bool.or_self,Bool.false_or];exact H3.2 J
   case rest=>
    obtain⟨rfl,JH⟩:=hcut;have cm:iP (lF.map (·.d)) xs[k].x.id=Ml:=(SB rfl (λp aY=>(JG.out p aY).c8.id)).symm.trans Va.out;have cq:iP b.st.au xs[k].x.id=bp:=Jk.out.symm.trans P5.out;have fo:=P7.out;have sH:pr=lF.length:=Mk.out.neq;have dh:sS b (lF.map (·.d)) xs[k].d=if (Ml||bp||P6||decide (16<=pr))=true then lF.map (·.d) else lF.map (·.d)++[xs[k].d]:=by
     unfold sS;rw[<-tp.out,cm,cq,fo,cx,<-sH];cases Ml<;>cases bp<;>cases P6<;>simp
    have hR:((xs.take (k+1)).map (·.d)).foldl (sS b) (os.map (·.d))=sS b (lF.map (·.d)) xs[k].d:=by
     rw[iv hk,fT,Ak,<-kx.out];rfl
    rw[dh]at hR;obtain⟨z,Q'⟩:∃z,(Ml||bp||P6||decide (16<=pr))=z:=⟨_,rfl⟩;rw[Q']at hR ⊢;have Fx:aa (Z wr wc):=bq.out.trans JH.out;have atl:z=false->pr<16:=λe=>by
     subst e;simp only[Nk,z7]at Q';omega
    replace hR:=I hR;have T':aa (∀ai,pT=some ai->ai.block≠ob):=Mk.out.eW rS.out ah;replace sH:=I sH;clear cm cq fo dh Q';cases z with
    |true=>
     go_wp2;go_roundg (gk - 1);case measure=>omega
     case rel=>
      have aj:aI (xw ob l4 K) wr wc:=.of Fx.out;exact⟨k+1,pT,pr,rR,lF,J,by go_num,fN.out.trans aj,Fx.out.ay rS.out,Mk.out.ext Fx.out,λy hy=>(JG.out y hy).step aj (b4.ep _ _),Hi,Mj,by rw[hR.out];exact rfl⟩
    |false=>
     have n1:=atl rfl;have atm:=I (((Z.refl wc).alloc xs[k].x).ay (Fx.out.ay rS.out));have Mm:=JH.out.ay rT.out;obtain⟨_,_,_,_,_,_,_,_⟩:=lM Mm;have g0:=aL (o:=0) (Fx.out.ay rS.out) rfl;have fZ:aa (l4<=(wc:Nat)):=ek cC (ek fN.out.size Fx.out.size);go_wp2_with (at_builtin;refine hc (ys:=lF) rfl (.tmp 37) (.tmp 39) 42 rfl ct _ 96 aiM bO.out bL.out bM.out bP.out rfl ah rfl (Mk.out.ext (Fx.out.trans ((Z.refl _).alloc _))) ⟨xs[k].x,xs[k].d⟩ _ rfl (fi (cs:=bU.cs ⟨xs[k].x,xs[k].d⟩) rfl) (bU.cQ _) J ah (ek fZ.out ((Z.refl _).alloc _).size) ?_;intro g9 ij dc ha fy;have so:=fy.ay atm.out T'.out;have z0:=aL (o:=0) so rfl;have mT:∀j,dc.frozen? ⟨ob,j,none⟩=false:=(λj=>nM so));change aa _ at fy ha so;go_wp2;go_roundg (gk - 1);case measure=>omega
     case rel=>
      have aj:aI (xw ob l4 K) wr (dc.setCell (ob,0) (.slice (some (g9,0)) (pr+1) ij)):=
       ((aI.of (Fx.out.trans ((Z.refl _).alloc xs[k].x))).trans ⟨fy.out.os,fy.out.tape,fy.out.output,fy.out.size,λy hy aq=>fy.out.block y hy (λai ak e=>aq (.inr (e▸⟨(Mk.out.lt ai ak).1,Mj.out ai ak⟩)))⟩).setCell (ob,0) (.inl (.inl rfl)) _
      refine⟨k+1,some ⟨g9,0,none⟩,pr+1,ij,lF++[(⟨xs[k].x,xs[k].d⟩:bU)],J,by go_num,fN.out.trans aj,en so.out 0 _,ha.out.lY so.out ah _,λy hy=>?_,by rw[c9,<-sH.out];exact n1,λai ak jV=>?_,by rw[hR.out,fT];exact rfl⟩
      ·rcases ie.1 hy with hy|hy
       ·exact(JG.out y hy).step aj (b4.ep _ _)
       ·obtain rfl:=jg.1 hy;exact a8.out.step aj (b4.ep _ _)
      ·cases ak;rcases fy.out.at_ with ⟨ai,bH,b1⟩|bH
       ·exact Mj.out ai bH (b1▸jV)
       ·have cm:=aE _ jV;have cq:=fN.out.size;have fo:=Fx.out.size;rw[show g9=_ from bH]at cm;simp at cm;omega
  ·refine sy ?_;intro cb;rw[cb]at kx;clear cb;go_wp2;go_end0;exact⟨rfl,fN.out,pT,pr,rR,rS.out,lF,dX.out,JG.out,Hi,Mj.out,kx⟩
def atn(h:d∈sQ tx):∃t,t∈tx/\t.e=d:=by
 unfold sQ at h;obtain⟨t,af,an⟩:=lU.1 h;exact⟨t,(pA.1 (Bt af)).1,an⟩
def ato{b:aT}(h:gu c l R n b):∀m,m∈b.sR c->∀d,d∈m.dq->j9 d:=λm hm d aG=>by
 unfold aT.sR aT.oO at hm;obtain⟨k,_,rfl⟩:=lU.1 hm;cases az:b.gq k with
 |none=>rw[az]at aG;cases aG
 |some m=>rw[az]at aG;exact((h.gq k m az).dq.2 d aG).1
def ag8{b:aT}(h:ea w M D O c p q b v)(hk:gu c l R n b)(atp:∀j,j∈b.bD->dY j)(bm:j8 c.ps=true)(hm:b.dd<c.ps.length):
  aS 151 #[p] w λe w'=>∃a n cap ps,e=.returned (ao a n cap)/\iG w' a n cap ps/\ps.map (·.d)=b.oW c/\Z w w':=by
 have H:=I h;have b6:=I hk;have db:=I bm;have kd:=I atp;obtain⟨ts,ag9,sq⟩:=h.c8.tx;have atq:=I ag9;have atr:=I sq;have ev:=I (Mc sq (λt bm=>(hk.tx t bm).eC));have qg:v.tx.n<=1000:=by rw[ag9.aF.neq,<-cx (f:=ca.tx),sq];have:=hk.sV;omega
 go_enter func151,ntmps151;have jG:=aL (o:=8) ((H.out.ext (w':=((w.alloc (.cells #[p] 103)).alloc Bw)) U).box) rfl;go_wp2_with fail;refine(arO v.tx.a v.tx.n v.tx.c ts _ (atq.out.ext U) ev.out qg).mono ?_;rintro e w1⟨cE,da,c1,ys,rfl,Mn,ats,vQ,br⟩;have w0:=br.ay (show((w.alloc (.cells #[p] 103)).alloc Bw).heap[(w:Nat)]?=some (.cells #[p] 103)from gA);have rS:=br.ay (show((w.alloc (.cells #[p] 103)).alloc Bw).heap[(w:Nat)+1]?=some (Bw:Obj)from gA);have fs:(w:Nat)+2<=(w1:Nat):=by have:=br.size;simpa using this
 have bz:aa (Z w w1):=Z.trans U br;have Cd:ys.map (·.d)=sQ b.tx:=by rw[vQ,atr.out]
 have att:cv (xw (w.heap.size+1) w1 (λ_=>False)) w1 (λw=>iG w cE da c1 ys):=λw' aj=>
  ⟨(aj.bS Mn (λai ak k=>k.elim (Mn.eW rS ah ai ak) (λz=>by have:=(Mn.lt ai ak).2;have:=z.1;omega))).aF,λp aY=>(ats p aY).ath rS (bJ _) w' aj⟩
 have pP:∀p,p∈ys->dY p.d.id:=λp aY=>by
  obtain⟨t,af,an⟩:=atn (tx:=b.tx) (d:=p.d) (by rw[<-Cd];exact nH aY);rw[<-an];exact(b6.out.tx t af).eC.ok.id
 have JF:=I w0;have ir:=I rS;have od:=I att;have atu:=I pP;have Mo:=I Cd;go_wp2_with fail;refine(ag6 H.out kd.out bz.out (w.heap.size+1) w w1 (λ_=>False) J (bJ _) J J J (bJ _) JF.out none 0 0 [] ir.out (aH.nil _ _ _ bU.bI) (λp aY=>by cases aY) (by simp) (λ_ k=>k.elim) (λai ak=>by cases ak) cE da c1 ys od.out atu.out).mono ?_;rintro e aN⟨rfl,U',fJ,on,gg,os,atv,o0,atw,tw,_,pz⟩;have iX:=U'.block w J (λk=>k.elim J (λz=>by have:=z.1;omega));have V':=I (iX.trans JF.out);have bq:aa (Z w aN):=U'.ext (λx X=>X.elim (λe=>by rw[e];omega) (λz=>by have:=z.1;omega)) bz.out;have atx:=I atv;have cd:=I o0;have aty:=I atw;have kc:=I pz;have aha:=I U'.size;have d0:=aL (o:=0) V'.out rfl;go_wp2_with fail;refine(agX H.out U db.out hm).mono ?_;rintro e a6⟨a3,_,cV,ms,rfl,Vc,atz,atA,rq,dz⟩;obtain rfl:=Vc.neq;have vM:=Vc.max;have XG:=Vc.len;unfold maxLen at vM;have c0:=I dz;have vv:=I Vc;have Mp:=I atz;have X':=I atA;have Fy:=I rq;obtain⟨oz,mx⟩:∃K:Nat->Prop,∀x,K x↔∃ai,a3=some ai/\x=ai.block:=⟨_,λ_=>Iff.rfl⟩;have Aa:=I mx;go_wp2_with fail;go_loopg [18] (ms.length) (λg dS wr=>∃(k:Nat) (pT:bl) (pr rR:Nat) (lF:List bU),g+k=ms.length/\dS=.int .i64 (k:Int)/\aa (aI (xw (w.heap.size+1) w1 oz) a6 wr)/\aa (wr.heap[(w:Nat)+1]?=some (.cells #[ao pT pr rR] 42))/\aa (aH wr w1 66 8 bU.cs pT pr rR lF)/\aa (∀p,p∈lF->cv (xw (w.heap.size+1) w1 oz) wr (λw=>hK w p.x p.d))/\lF.length<=16/\aa (∀ai,pT=some ai->¬oz ai.block)/\aa (lF.map (·.d)=(((ms.take k).map (·.m)).flatMap (·.dq)).foldl (sS b) ((sQ b.tx).foldl (sS b) [])));case atStart=>
  refine⟨0,fJ,on,gg,os,J,rfl,aI.refl _ _,c0.out.ay atx.out,cd.out.ext c0.out,λy hy w' aj=>?_,tw,λai ak hk=>?_,by rw[<-Mo.out];exact kc.out⟩
  ·exact aty.out y hy w' ((aI.of c0.out).trans (aj.mono (λx _ X=>X.imp id (λz=>⟨z.1,λe=>e.elim⟩))))
  ·obtain⟨Y',af,_⟩:=(Aa.out _).1 hk;have aO:=(X'.out Y' af).1;have bt:=(cd.out.lt ai ak).2;omega
 case round=>
  obtain⟨k,pT,pr,rR,lF,_,rfl,fN,rS,dX,JG,Hi,Mj,kx⟩:=hrel;have mB:Z w wr:=fN.out.ext (λx X=>X.elim (λe=>by rw[e];omega) (λz=>by have:=z.1;omega)) (bq.out.trans c0.out);have yv:=I mB;by_cases hk:k<ms.length
  ·obtain⟨fb,o,rfl,al⟩:=vv.out.get k hk;have AP:¬(xw (w.heap.size+1) w1 oz) fb:=λz=>z.elim (λe=>by have:=(X'.out _ rfl).1;have:=aha.out;dsimp only at*;omega) (λy=>y.2 ((Aa.out _).2 ⟨_,rfl,rfl⟩));have Ce:∀j v,(pq.cs ms[k])[j]?=some v->wr.cell? (fb,o+k*8+j)=some v:=λj v aD=>fN.out.cell (al j v aD) AP;have cO:wr.cell? (fb,o+k*8)=some ↑ms[k].x.k:=Ce 0 _ rfl;have c1:=Ce 1 _ rfl;have c2:=Ce 2 _ rfl;have cV:=Ce 3 _ rfl;have dF:=Ce 4 _ rfl;have dH:=Ce 5 _ rfl;have eJ:=Ce 6 _ rfl;have eM:=Ce 7 _ rfl;have b0:(0:Int)<=(k:Int):=J;have bf:(k:Int)<(ms.length:Int):=J;have atB:=Mp.out ms[k] (cT hk);obtain⟨dq,P8,Dg⟩:=atB.q.sE;have hX:=I P8;have zU:=I Dg;have atC:∀p,p∈dq->dY p.d.id:=λp aY=>by
    refine(ato b6.out ms[k].m ?_ p.d ?_).ok.id
    ·rw[<-Fy.out];exact nH (cT hk)
    ·rw[<-Dg];exact nH aY
   have atD:=I atC;have rE:∀x,oz x->x<(wr.alloc ms[k].x).heap.size:=λx X=>by
    obtain⟨ai,cm,cq⟩:=(Aa.out x).1 X;have:=(X'.out ai cm).2;have:=fN.out.size;simp;omega
   have Vd:=I rE;have Z':aa (aI (xw (w.heap.size+1) w1 oz) a6 (wr.alloc ms[k].x)):=fN.out.alloc _;have eA:=I (yv.out.trans ((Z.refl wr).alloc ms[k].x));have atE:aa ((wr.alloc ms[k].x).heap[(w:Nat)]?=some (.cells #[p] 103)):=(Z'.out.block _ (bZ (c0.out.ay V'.out)) (λz=>z.elim J (λy=>by have:=y.1;omega))).trans (c0.out.ay V'.out);have atF:=I (((Z.refl wr).alloc ms[k].x).ay rS.out);have Bq:=I (show(w1:Nat)<=(wr.alloc ms[k].x).heap.size from by have:=aha.out;have:=c0.out.size;have:=Z'.out.size;omega)
   have hR:=I (show(((ms.take (k+1)).map (·.m)).flatMap (·.dq)).foldl (sS b) ((sQ b.tx).foldl (sS b) [])=(dq.map (·.d)).foldl (sS b) (lF.map (·.d))from by
    rw[iv hk,fT,vN,Ak,<-kx.out,zU.out]
    simp)
   go_wp2_with fail;refine(ag6 H.out kd.out eA.out (w.heap.size+1) w w1 oz J (bJ _) J J J Bq.out atE.out pT pr rR lF atF.out (dX.out.ext ((Z.refl wr).alloc _)) (λy hy=>(JG.out y hy).step (.of ((Z.refl wr).alloc _)) (b4.ep _ _)) Hi Vd.out Mj.out ms[k].x.q.a ms[k].x.q.n ms[k].x.q.c dq (λw' aj=>hX.out.ext (aj.ext (λx X=>X.elim (λe=>by rw[e];omega) (λz=>by have:=z.1;omega)) eA.out)) atD.out).mono ?_;rintro e _⟨rfl,JI,atG,atH,atI,atJ,atK,He,atL,PH,atM,Me⟩;have pG:=I (Z'.out.trans JI);have atN:=I atK;have hq:=I He;have atO:=I atL;have atP:=I atM;have zV:=I Me;go_wp2;go_roundg (gk - 1);case measure=>omega
   case rel=>exact⟨k+1,atG,atH,atI,atJ,J,by go_num,pG,atN,hq,atO,PH,atP,by rw[hR.out,zV.out];exact rfl⟩
  ·have cb:ms.take k=ms:=iU J;rw[cb]at kx;have lP:=aL (o:=0) rS.out rfl;go_wp2;go_ret;have b7:iG wr pT pr rR lF:=⟨dX.out.aF,λp aY=>(JG.out p aY).c8⟩;have iQ:lF.map (·.d)=b.oW c:=by rw[kx.out,Fy.out];rfl
   refine⟨pT,pr,rR,?_⟩;first|exact⟨lF,rfl,b7,iQ,yv.out⟩|exact⟨rfl,lF,b7,iQ,yv.out⟩
section
def Ve{j:ax}:cc i j=true↔i=j:=by rw[CR,jT]
def atQ(c:bK)(b:aT)(r:e9):(b.note c r).1.gq=b.gq/\(b.note c r).1.dd=b.dd:=by
 unfold aT.note;split
 ·exact⟨rfl,rfl⟩
 ·split<;>exact⟨rfl,rfl⟩
def atS(c:bK)(l:List bb):∀b:aT,(vg c b l).gq=b.gq/\(vg c b l).dd=b.dd:=by
 induction l with
 |nil=>exact λb=>⟨rfl,rfl⟩
 |cons d l cY=>
  intro b;have h:=cY (b.zo c d).1;have k:=atQ c b (iA b.st.au.length d);exact⟨h.1.trans k.1,h.2.trans k.2⟩
def atT(c:bK)(b:aT){l:List bb}(hk:k<l.length):vg c b (l.take (k+1))=((vg c b (l.take k)).zo c l[k]).1:=by
 unfold vg;exact CZ
def atU{f:ax->Int}(aG:d∈aU):iP (C4 f aU) d.id=decide (f d.id=1):=by
 unfold C4 iP;rw[wP,Bi,jT];constructor
 ·rintro ⟨y,af,an⟩;have:=(pA.1 af).2;have e:=Ve.1 an;rw[<-e];simpa using this
 ·intro h;exact⟨d,pA.2 ⟨aG,by simpa using h⟩,Ve.2 rfl⟩
def atV{f:ax->Int}(aG:d∈aU):kl (xN f aU) d.id=decide (f d.id=2):=by
 unfold xN kl;rw[wP,Bi,jT];constructor
 ·rintro ⟨i,af,an⟩;obtain⟨y,aO,rfl⟩:=lU.1 af;have:=(pA.1 aO).2;have e:=Ve.1 an;rw[<-e];simpa using this
 ·intro h;exact⟨d.id,lU.2 ⟨d,pA.2 ⟨aG,by simpa using h⟩,rfl⟩,Ve.2 rfl⟩
section
variable {w w' ey:World}{M M' DL D bX P0 O O' Gy S:Nat->Prop}{c:bK}{p q:Nat}{b:aT}{v:gB}
def qy.a_{L:eZ}{jn:List (eg)}{fF room:Nat}(h:qy w M D L p q jn fF room)(hs:∀x,M' x->M x)(aG:∀x,D x\/L x->M' x):qy w M' D L p q jn fF room:=
 let ⟨hD,h5,j3,ys,af,an,aO,bt,cC⟩:=h.ck
 ⟨h.AE,⟨hD,h5,j3,ys,af,an,aO,bt,λw' aj=>cC w' (aj.mono (λx _ k=>hs x k))⟩,h.p,aG,λx X=>h.b5 x (hs x X),h.gL,h.ok⟩
def ea.a_(h:ea w M D O c p q b v)(hs:∀x,M' x->M x)(aG:∀x,D x->M' x)(aM:∀x,O x->M' x):ea w M' D O c p q b v:=by
 obtain⟨L,af,an,aO⟩:=h.cp;refine⟨h.box,λw' aj=>h.l3 w' (aj.mono (λx _ k=>hs x k)),⟨L,af.a_ hs (λx X=>X.elim (aG x) (λk=>aM x (an x k))),an,aO⟩,?_,h.yt,h.bS,aM,h.gL,h.gT⟩;obtain⟨n,s,f,e0,bH,b1,dJ,eG,h4⟩:=h.iO;refine⟨n,s,f,e0,bH,b1,dJ,eG,λk hk=>?_⟩;have:=h4 k hk;cases az:b.gq k with
 |none=>rw[az]at this;exact this
 |some m=>
  rw[az]at this;obtain⟨cZ,x,z2,z3⟩:=this;exact⟨cZ,x,z2,λw' aj=>z3 w' (aj.mono (λx _ k=>hs x k))⟩
structure nv (w:World) (M D O:Nat->Prop) (w':World) (M' bX O':Nat->Prop):Prop where
 ee:aI (n5 D O) w w'
 d:b4 w D bX
 o:b4 w O O'
 m:b4 w M M'
def ik.x(h:ik w M D O w' M' bX O'):nv w M D O w' M' bX O':=⟨h.ee,h.d,h.o,h.m⟩
def nv.xj(h:nv w M D O w' M' bX O')(k:ik w' M' bX O' ey DL P0 Gy):nv w M D O ey DL P0 Gy:=
 ⟨h.ee.xj k.ee (λx X=>X.elim (λz=>(h.d.new x z).imp .inl id) (λz=>(h.o.new x z).imp .inr id)),h.d.trans k.d h.ee.size,h.o.trans k.o h.ee.size,h.m.trans k.m h.ee.size⟩
def nv.ext(h:nv w M D O w' M' bX O')(X:Z w' ey):nv w M D O ey M' bX O':=h.xj (.of X)
def nv.row(h:nv w M D O w' M' bX O')(aj:aI S w' ey)(bj:∀x,S x->(w:Nat)<=x)(bk:b4 w' M' DL):nv w M D O ey DL bX O':=
 ⟨h.ee.xj aj (λx X=>.inr (bj x X)),h.d,h.o,h.m.trans bk h.ee.size⟩
def nv.wE(h:nv w M D O w' M' bX O')(ad:ea w' M' bX O' c p q b v)(aG:∀x,D x->M x)(aM:∀x,O x->M x):ea w' (λx=>M x\/bX x\/O' x) bX O' c p q b v/\ik w M D O w' (λx=>M x\/bX x\/O' x) bX O':=
 ⟨ad.a_ (λx X=>X.elim (h.m.up x) (λk=>k.elim (ad.sm x) (ad.sub x))) (λ_ k=>.inr (.inl k)) (λ_ k=>.inr (.inr k)),
  h.ee,h.d,h.o,⟨λ_ k=>.inl k,λx X=>X.elim .inl (λk=>k.elim (λz=>(h.d.new x z).imp (aG x) id) (λz=>(h.o.new x z).imp (aM x) id))⟩,λ_ k=>k⟩
def nv.kS{P:ye}(h:ik w M D O w' M' bX O')(ad:ea w M D O c p q b v)(k:cv M w P):cv M' w' P:=h.kS (λx X=>X.elim (ad.sm x) (ad.sub x)) k
def ik.bS{h7:α->List Value}{ys:List α}(h:ik w M D O w' M' bX O')(aM:aH w base e sz h7 aA n cap ys)(az:∀ai,aA=some ai->¬D ai.block/\¬O ai.block):aH w' base e sz h7 aA n cap ys:=
 h.ee.bS aM (λai ak k=>k.elim (az ai ak).1 (az ai ak).2)
def ik.row{h7:α->List Value}{ys:List α}(h:ik w M D O w' M' bX O')(aM:aH w base e sz h7 aA n cap ys)(az:∀ai,aA=some ai->M ai.block/\¬D ai.block/\¬O ai.block):∀ai,aA=some ai->M' ai.block/\¬bX ai.block/\¬O' ai.block:=λai ak=>
 have a1:=(aM.lt ai ak).2
 ⟨h.m.up _ (az ai ak).1,λk=>(h.d.new _ k).elim (az ai ak).2.1 (λz=>by omega),λk=>(h.o.new _ k).elim (az ai ak).2.2 (λz=>by omega)⟩
end
def atW(y:bR)(i:ax)(oE:Nat)(w:aC)(af:w.cell? (oE,1)=some ↑i.b)(an:w.cell? (oE,2)=some ↑(ae i.l))(aO:w.cell? (oE,3)=some ↑(ae i.s)):
  aS 209 #[y,oE] w (cU (.bool (cc y.id i)) w):=by
 refine ag5 ?_;intro az bH b1 dJ;clear af an aO;go_enter func209,ntmps209;go_wp2;go_ret;exact⟨rfl,U⟩
end
def ea.atX{b:aT}(h:ea w M D O c p q b v){t:iF}{dT:List bb}(hs:cv M w (λw=>xr w t.a t.n t.c dT))(he:w'=w.setCell (p,13) t):
  ea w' M D O c p q {b with dT:=dT} {v with dT:=t}/\aI (·=p) w w':=by
 subst he;have aj:=(aI.refl (·=p) w).setCell (p,13) (.inl rfl) t;refine⟨h.mW aj (en h.box 13 _) ?_ rfl rfl rfl rfl rfl rfl,aj⟩;exact((h.l3.and hs).mono (λw k=>⟨k.1.cL,k.1.ak,k.1.st,k.1.tx,k.1.gP,k.2⟩)).step (aj.cQ (h.sub _ h.bS.1)) (b4.ep _ _)
def b_{M' bX O':eZ}{b:aT}{g9 ij:Nat}{rx:List bU}{P:ye}{x:bR}{o:Obj}(bx:ea w1 M' bX O' c p q b v)(fe:nv w M D O w1 M' bX O')(dX:aH w1 w 66 8 bU.cs hD h5 j3 rx)(bB:∀ai,hD=some ai->M' ai.block/\¬bX ai.block/\¬O' ai.block)(lX:∀p,p∈rx->cv M' w1 (λw=>hK w p.x p.d))(eL:cv M' w1 P)(X:cv M' w1 (λw=>hK w x d))(bC:lL (w1.alloc o) dc hD g9)(o5:aH dc w 66 8 bU.cs (some (g9,0)) (h5+1) ij (rx++[⟨x,d⟩])):
  ∃iS,ea dc iS bX O' c p q b v/\nv w M D O dc iS bX O'/\(∀ai,some ((g9,0):Addr)=some ai->iS ai.block/\¬bX ai.block/\¬O' ai.block)/\(∀p,p∈rx++[⟨x,d⟩]->cv iS dc (λw=>hK w p.x p.d))/\cv iS dc P:=by
 refine ahb ?_;intro oT fs aj bj gW vw bk;have aK:∀Q,cv M' w1 Q->cv (k9 M' (·=g9)) dc Q:=λQ k=>(k.step (.of oT) (b4.ep _ _)).step (aj.sub bj) bk;refine⟨k9 M' (·=g9),(bx.ext oT).step aj bj (λy hy ⟨ai,ak,e⟩=>hy.elim (e▸(bB ai ak).2.1) (e▸(bB ai ak).2.2)) bk (λy hy=>?_),(fe.ext oT).row aj (λy ⟨ai,ak,e⟩=>e▸(dX.lt ai ak).1) bk,λai ak=>?_,λy hy=>?_,aK _ eL⟩;exact ahc;exact ahd
 ·rcases ie.1 hy with hy|hy
  ·exact aK _ (lX y hy)
  ·obtain rfl:=jg.1 hy;exact aK _ X
def ahe{b:aT}(H:ea w M D O c p q b v)(b6:gu c l R n b)(al:lZ c)(hm:b.dd<c.ps.length)(kd:∀j,j∈b.bD->dY j):
  aS 145 #[p] w (xv c p q w M D O (.tuple #[]) (b.km c)):=by
 have db:=I al.x9;have az:=al.room;have atY:=I H.sm;have atZ:=I H.sub;have yw:=I H.b5;replace H:=I H;replace b6:=I b6;replace kd:=I kd;clear al;obtain⟨rs,gF⟩:∃rs,b.km c=rs:=⟨_,rfl⟩;rw[gF];replace gF:=I gF;go_enter func145,ntmps145;go_step3;go_wp2_with fail;refine(P1 (H.ext U)).mono ?_;rintro e bh⟨rfl,b3⟩;replace b3:=I b3;cases Vf:b.lf with
 |false=>
  have iq:=gF.out;unfold aT.km at iq;rw[bc Vf]at iq;subst iq;clear Vf;go_wp2;rw[pX];go_end0;exact⟨M,D,O,rfl,⟨v,H.ext b3⟩,.of b3⟩
 |true=>
  have iq:=gF.out;unfold aT.km at iq;rw[aV (by rw[Vf];decide)]at iq;replace gF:=I iq;clear iq Vf;have Mq:=I ((H.ext b3).box);obtain⟨au,ps,dh⟩:=H.c8.st;obtain⟨Vg,fL,xx⟩:=H.c8.dT.sE;have P9:=I dh.l;have Jk:=I dh.jI;have tL:=I dh.b;have at0:=I (Mb xx (λd aG=>(b6.x7 d aG).1.ok));have ahf:v.dT.n<=1000000:=by rw[fL.aF.neq,<-cx (f:=(·.d)),xx];have:=b6.dT;omega
  have Vh:=I (TO c b6.TR);replace fL:=I fL;replace xx:=I xx;clear dh;go_upto_region 2 with (fail);go_cut [4,5] (λe4 y4 eD=>∃(fJ er:bl) (on gg fk lc:Nat) (os ahg:List bU),e4=.slice fJ on gg/\y4=.slice er fk lc/\aa (fD eD w fJ on gg os)/\aa (os.map (·.d)=(b.zr c).1)/\aa (fD eD w er fk lc ahg)/\aa (ahg.map (·.d)=(b.zr c).2)/\aa (Z w eD));case first=>
   go_wp2_with fail;refine sX (Z bh) (λbd=>?_);refine AU ?_;refine l0 3 (·.ay Mq) ?_;refine Jr ?_;refine l0 7 (·.ay Mq) ?_;refine de 8 ?_;refine h9 9 λK aE=>?_;(go_simp;(go_at_call 151;refine(ag8 (H.ext U) b6 kd db hm).mono ?_;rintro e aN⟨si,rP,sj,dq,rfl,hX,zU,fW⟩;replace hX:=I hX;replace zU:=I zU;replace fW:=I fW);refine zS ?_;intro bd);refine h9 10 λK aE=>?_;have Tc:rP<=1000000:=by rw[hX.aF.neq,<-cx (f:=(·.d)),zU.out];have:=Vh.out.2;omega
   (go_simp;(go_at_call 206;refine(anG v.s (au.map (·.x)) b.st.aB v.dT.a v.dT.n v.dT.c Vg si rP sj dq _ (P9.cD.ext U) (tL.ext U) (fL.ext U) at0 hX (Mb zU (λd aG=>(Vh.out.1 d aG).1.ok)) ahf Tc).mono ?_;rintro e _⟨fJ,on,gg,os,er,fk,lc,sr,rfl,c7,cd,cK,ed,fc⟩;replace c7:=I c7;replace cd:=I cd;replace cK:=I cK;replace ed:=I ed;replace fc:=I fc);refine zS ?_;intro bd);refine de 11 ?_;refine de 12 ?_;refine de 13 ?_;refine h9 14 λK aE=>?_;go_simp;refine aE _ _ AM λbd=>ej ?_;refine h9 15 λK aE=>?_;go_simp;refine aE _ _ AM λbd=>ej ?_;refine og bQ ?_ _;go_wp2;go_meet;have oQ:(w:Nat)<=(aN:Nat):=Z.size (show Z w aN from U);have pF:y3 (au.map (·.x)) b.st.aB=b.dm:=asS P9 Jk _;exact⟨fJ,er,on,gg,fk,lc,os,sr,rfl,rfl,c7.mono oQ,by rw[cd.out,pF,xx.out,zU.out];exact rfl,cK.mono oQ,by rw[ed.out,pF,xx.out,zU.out];exact rfl,U⟩
  case rest=>
   obtain⟨fJ,er,_,gg,_,lc,os,sr,rfl,rfl,s4,p1,GC,we,JH⟩:=hcut;obtain rfl:=s4.cj.neq;obtain rfl:=GC.cj.neq;have vM:=s4.cj.aF.max;have ahh:=GC.cj.aF.max;have at1:=GC.cj.aF.len;unfold maxLen at vM ahh;obtain⟨s7,Mr⟩:∃A,(b.zr c).1=A:=⟨_,rfl⟩;obtain⟨yx,A3⟩:∃A,(b.zr c).2=A:=⟨_,rfl⟩;have Vi:=aed b.dm (b.oW c) (b.dT,[]);have Vj:∀d,d∈s7->j9 d:=λd aG=>((Vi.1 d (by rw[<-Mr]at aG;exact aG)).elim (b6.x7 d) (Vh.out.1 d)).1;have c_:∀d,d∈yx->j9 d:=λd aG=>((Vi.2.1 d (by rw[<-A3]at aG;exact aG)).elim (λk=>by cases k) (Vh.out.1 d)).1;rw[Mr]at p1;rw[A3]at we;have dI:=gF.out;rw[Mr,A3]at dI;have yy:aa (cv M wc (λw=>iG w fJ os.length gg os/\iG w er sr.length lc sr)):=(s4.b5 yw).and (GC.b5 yw);have cd:=I p1;change aa _ at we JH;have Bp:os.length<=4:=by
    have bt:=Vi.2.2;have cC:os.length=s7.length:=by rw[<-p1.out,cx]
    have fV:=b6.dT;have kv:(xM b.dm b.dT (b.oW c)).1=s7:=Mr;unfold xM at kv;rw[kv]at bt;dsimp only at bt;omega
   replace Vj:=I Vj;replace c_:=I c_;replace dI:=I dI;clear s4 p1 GC Mr A3 Vi gF;go_wp2_with fail;go_loopg [38] sr.length (λg dS wr=>∃(k:Nat) (M' bX O':eZ) (gX:gB),g+k=sr.length/\dS=.int .i64 (k:Int)/\aa (ea wr M' bX O' c p q (vg c b (yx.take k)) gX)/\aa (gu c l R n (vg c b (yx.take k)))/\aa (ik w M D O wr M' bX O')/\aa (cv M' wr (λw=>iG w fJ os.length gg os/\iG w er sr.length lc sr)));case atStart=>exact⟨0,M,D,O,v,J,rfl,H.ext U,b6,.of U,yy⟩
   case round=>
    obtain⟨k,M',bX,O',gX,bC,rfl,bx,aE,fe,eL⟩:=hrel;by_cases hk:k<sr.length
    ·have ix:=eL.c8.2;obtain⟨fb,o,rfl,fR⟩:=ix.aF.get k hk;obtain⟨cO,c1,c2,cV,dF,dH,eJ,eM⟩:=nh (w:=wr) (b:=fb) (o:=o+k*8) (x:=sr[k].x) fR;have od:=I (ix.ck _ (cT hk));have A4:k<yx.length:=by rw[<-we.out,cx];exact hk
     have k7:sr[k].d=yx[k]:=by
      have af:(sr.map (·.d))[k]? =yx[k]? :=by rw[we.out]
      rw[nd,eK hk,eK A4]at af;exact w9 af
     have qi:j9 sr[k].d:=by rw[k7];exact c_ _ (cT A4)
     have hR:vg c b (yx.take (k+1))=((vg c b (yx.take k)).zo c sr[k].d).1:=by rw[k7];exact atT c b A4
     have Ft:=agR aE qi;rw[<-hR]at Ft;have b0:(0:Int)<=(k:Int):=J;have bf:(k:Int)<(sr.length:Int):=J;replace hR:=I hR;replace qi:=I qi;replace Ft:=I Ft;clear ix fR k7;go_wp2_with fail;refine(agT (bx.ext (w':=wr.alloc sr[k].x) U) aE az sr[k].x sr[k].d (od.ext U) qi).mono ?_;rintro e _⟨jP,mS,yl,rfl,⟨v5,kP⟩,Fz⟩;rw[<-hR.out]at kP;replace kP:=I kP;have zV:=I ((fe.ext ((Z.refl wr).alloc sr[k].x)).trans Fz);have DR:=I (nv.kS Fz (bx.ext ((Z.refl wr).alloc sr[k].x)) (eL.step (.of ((Z.refl wr).alloc sr[k].x)) (b4.ep _ _)));clear Fz;go_wp2;go_roundg (gk - 1);case measure=>omega
     case rel=>exact⟨k+1,jP,mS,yl,v5,J,by go_num,kP,Ft,zV,DR⟩
    ·have cb:yx.take k=yx:=iU (by rw[<-we.out,cx];omega);rw[cb]at bx aE;clear cb;have Cf:=atS c yx b;have Vk:aT.sR c (vg c b yx)=b.sR c:=by unfold aT.sR aT.c5 aT.oO;rw[Cf.1,Cf.2]
     have Cd:(vg c b yx).dd<c.ps.length:=by rw[Cf.2];exact hm
     have jF:=dI;obtain⟨dA,iX⟩:∃dA,vg c b yx=dA:=⟨_,rfl⟩;rw[iX]at bx aE Vk Cd;have gF:=jF.out;rw[iX]at gF;replace gF:=I gF;replace Vk:=I Vk;clear dI jF iX Cf;go_wp2_with fail;refine(agZ (bx.ext U) db Cd).mono ?_;rintro e _⟨eb,dm,xJ,ms,rfl,Mp,rq,jr⟩;replace Mp:=I Mp;have Fy:=I (rq.trans Vk);replace jr:=I jr;clear rq;go_wp2_with fail;refine(anM fJ os.length gg os eb dm xJ (ms.map pq.hx) _ (eL.c8.1.ext U) (Mb cd (λd aG=>(Vj d aG).ok)) Mp.c5 J).mono ?_;rintro e dR⟨sF,r5,r2,ys,eR,gO,lv,_,_,_,_,rfl,oY,lO,hA,_,_,il⟩;have bk:qs (ms.map pq.hx)=BN (b.sR c):=by funext i;rw[agL,Fy.out]
     rw[bk,cd.out]at lO hA;have Qa:=bx.b5
     have ahi:cv M' dR (λw=>a7 w 8 bR.cs sF r5 r2 (ys.map (·.x))/\a7 w 3 ax.cs eR gO lv (xN (BN (b.sR c)) s7)):=
      ((oY.b5 (λx X=>fQ (Qa x X) (Z.size jr))).mono (λw k=>k.cD)).and (hA.b5 (λx X=>fQ (Qa x X) (Z.size jr)))
     have Ms:=I (((eL.step (.of (jr.trans il)) (b4.ep _ _)).mono (λw k=>k.1)).and ahi);have Qb:=I (bx.ext (jr.trans il));have iu:=I (fe.x.ext (jr.trans il));have rB:aa ((ys.map (·.x)).map (·.id)=(C4 (BN (b.sR c)) s7).map (·.id)):=x' oY.sE lO;obtain⟨f,ahj⟩:∃f,BN (b.sR c)=f:=⟨_,rfl⟩;have Qc:=gF.out;rw[ahj]at Qc Ms rB;replace Qc:=I Qc;clear oY lO hA il bk Qa ahi bx fe eL jr Mp Fy gF ahj vM ahh at1;refine ahk ?_;intro ct bO bL bM bP;have JJ:=I aE;clear aE;go_wp2_with fail;go_step3;go_wp2_with fail;go_loopg [11,56] os.length (λg e4 dS wr=>∃(k:Nat) (M' bX O':eZ) (b':aT) (gX:gB) (hD:bl) (h5 j3:Nat) (rx:List bU),g+k=os.length/\dS=.int .i64 (k:Int)/\e4=.slice hD h5 j3/\h5<=k/\aa (ea wr M' bX O' c p q b' gX)/\aa (gu c l R n b')/\aa (nv w M D O wr M' bX O')/\aa (aH wr w.heap.size 66 8 bU.cs hD h5 j3 rx)/\aa (∀ai,hD=some ai->M' ai.block/\¬bX ai.block/\¬O' ai.block)/\aa (∀p,p∈rx->cv M' wr (λw=>hK w p.x p.d))/\aa (cv M' wr (λw=>iG w fJ os.length gg os/\a7 w 8 bR.cs sF r5 r2 (ys.map (·.x))/\a7 w 3 ax.cs eR gO lv (xN f s7)))/\aa ((s7.take k).foldl (zq c f) (dA,[])=(b',rx.map (·.d))));case atStart=>exact⟨0,_,_,_,dA,gX,none,0,0,[],J,rfl,rfl,bJ _,Qb,JJ,iu,aH.nil _ _ _ bU.bI,(λai ak=>by cases ak),(λp aY=>by cases aY),Ms,rfl⟩
     case round=>
      obtain⟨k,M',bX,O',b',_,hD,h5,j3,rx,_,rfl,rfl,_,bx,aE,fe,dX,bB,lX,eL,b7⟩:=hrel;by_cases hk:k<os.length
      ·have ix:=eL.c8.1;obtain⟨fb,o,rfl,fR⟩:=ix.aF.get k hk;obtain⟨_,_,_,_,_,_,_,_⟩:=nh (w:=wr) (b:=fb) (o:=o+k*8) (x:=os[k].x) fR;have od:aa (cv M' wr (λw=>hK w os[k].x os[k].d)):=eL.mono (λw k=>k.1.ck _ (cT hk));have A4:k<s7.length:=by rw[<-cd.out,cx];exact hk
       have k7:os[k].d=s7[k]:=by
        have rQ:(os.map (·.d))[k]? =s7[k]? :=by rw[cd.out]
        rw[nd,eK hk,eK A4]at rQ;exact w9 rQ
       have qi:j9 os[k].d:=by rw[k7];exact Vj _ (cT A4)
       have hR:(s7.take (k+1)).foldl (zq c f) (dA,[])=zq c f (b',rx.map (·.d)) os[k].d:=by
        rw[iv A4,Ak,b7.out,k7];rfl
       have FA:os[k].d∈s7:=by rw[k7];exact cT A4
       have yz:os[k].x.id=os[k].d.id:=od.c8.id;have ahl:(ys.map (·.x)).any (λy:bR=>cc y.id os[k].x.id)=decide (f os[k].d.id=1):=by
        rw[<-atU FA,yz];unfold iP;have cm:(ys.map (·.x)).any (λy:bR=>cc y.id os[k].d.id)=((ys.map (·.x)).map (·.id)).any (λi=>cc i os[k].d.id):=by rw[yR,yR,yR];rfl
        have cq:(C4 f s7).any (λd=>cc d.id os[k].d.id)=((C4 f s7).map (·.id)).any (λi=>cc i os[k].d.id):=by rw[yR];rfl
        rw[cm,cq,rB.out]
       have tN:(xN f s7).any (λi=>cc i os[k].x.id)=decide (f os[k].d.id=2):=by rw[yz];exact atV FA
       have b0:(0:Int)<=(k:Int):=J;have bf:(k:Int)<(os.length:Int):=J;have lE:aa ((wr.alloc os[k].x).heap[(wr:Nat)]?=some (os[k].x:Obj)):=e2 rfl;replace hR:=I hR;replace qi:=I qi;replace yz:=I yz;replace tN:=I tN;clear ix fR k7 FA;go_wp2_with fail;refine(Su sF r5 r2 (ys.map (·.x)) (λy=>cc y.id os[k].x.id) 209 ⟨wr.heap.size,0,none⟩ _ (eL.c8.2.1.ext U) (λ_ _=>by kernel_rfl) (λy _ w' rO=>atW y os[k].x.id wr.heap.size w' (aL (rO.ay lE) rfl) (aL (rO.ay lE) rfl) (aL (rO.ay lE) rfl))).mono ?_;rintro e _⟨rfl,hP⟩;rw[ahl];have rT:=I (hP.ay lE);have l2:=I (((Z.refl wr).alloc os[k].x).trans hP);clear ahl hP lE;obtain⟨ng,wX⟩:∃ng,f os[k].d.id=ng:=⟨_,rfl⟩;have eO:=tN.out;rw[wX]at eO;rw[wX];replace wX:=I wX;clear tN;have kJ:=I (bx.ext l2);have jL:=I (fe.ext l2);have sK:=I (dX.ext l2);have Mt:=I (λp aY=>(lX p aY).step (.of l2) (b4.ep _ _));have tU:=I (eL.step (.of l2) (b4.ep _ _));have JK:=I (od.step (.of l2) (b4.ep _ _));have tV:aa (∀x,M' x->x≠wr.heap.size):=λx X=>by have:=bx.b5 x X;omega
       clear bx fe dX lX eL od;by_cases rQ:ng=1
       ·subst rQ;have fm:decide ((1:Int)=1)=true:=rfl;rw[fm];clear fm eO;obtain⟨qc,z,oe⟩:∃qc z,b'.zo c os[k].d=(qc,z):=⟨_,_,rfl⟩;obtain⟨f0,f1,f2,f3,f4,f5,f6,f7⟩:=lM rT;go_wp2_with fail;refine(agT kJ aE az os[k].x os[k].d JK.c8 qi).mono ?_;rintro e dc⟨iS,hW,mZ,rfl,⟨v9,jb⟩,jB⟩;have pU:=agR aE qi;rw[oe]at jb pU;rw[oe];replace oe:=I oe;replace jb:=I jb;replace pU:=I pU;refine ahm ?_;intro lG jA DS JL l5 pn hI;clear jB f0 f1 f2 f3 f4 f5 f6 f7;obtain⟨f0,f1,f2,f3,f4,f5,f6,f7⟩:=lM hI;cases z with
        |true=>
         go_wp2_with fail;try (go_step3;go_wp2_with fail)
         go_roundg (gk - 1);case measure=>omega
         case rel=>exact⟨k+1,_,_,_,qc,v9,hD,h5,j3,rx,J,by go_num,rfl,J,jb,pU,lG,jA,DS,JL,l5,by rw[hR.out];unfold zq;dsimp only;rw[wX.out,bc rfl,oe.out];exact rfl⟩
        |false=>
         go_wp2_with (at_builtin;refine hc (ys:=rx) rfl (.tmp 85) (.tmp 87) 42 rfl ct _ 96 aiM bO bL bM bP rfl ah rfl (jA.ext ((Z.refl _).alloc _)) ⟨os[k].x,os[k].d⟩ _ rfl (fi (cs:=bU.cs ⟨os[k].x,os[k].d⟩) rfl) (bU.cQ _) J ah (ek lG.ee.size ((Z.refl _).alloc _).size) ?_;intro ef vX dD xy Cg);obtain⟨JM,kZ,lj,yA,zW,Ch⟩:=b_ jb lG jA DS JL l5 pn Cg xy;replace kZ:=I kZ;replace lj:=I lj;replace yA:=I yA;replace zW:=I zW;replace Ch:=I Ch;change aa _ at xy;clear Cg;go_wp2;go_roundg (gk - 1);case measure=>omega
         case rel=>exact⟨k+1,JM,_,_,_,_,_,h5+1,vX,rx++[(⟨os[k].x,os[k].d⟩:bU)],J,by go_num,rfl,J,kZ,pU,lj,xy,yA,zW,Ch,by rw[hR.out,fT];unfold zq;dsimp only;rw[wX.out,bc rfl,oe.out];exact rfl⟩
       ·have fm:decide (ng=1)=false:=je rQ;rw[fm];clear fm;by_cases an:ng=2
        ·subst an;have Hk:decide ((2:Int)=2)=true:=rfl;rw[Hk]at eO;change aa _ at eO;clear Hk rQ;obtain⟨qc,z,oe⟩:∃qc z,b'.x1 c os[k].x.id=(qc,z):=⟨_,_,rfl⟩;obtain⟨f0,f1,f2,f3,f4,f5,f6,f7⟩:=lM rT;go_wp2_with fail;refine(uk eR gO lv (xN f s7) os[k].x.id _ tU.c8.2.2).mono ?_;rintro e aAw⟨rfl,vx⟩;rw[eO.out];replace kJ:=I (kJ.ext vx);replace jL:=I (jL.ext vx);replace sK:=I (sK.ext vx);replace Mt:=I (λp aY=>(Mt p aY).step (.of vx) (b4.ep _ _));replace tU:=I (tU.step (.of vx) (b4.ep _ _));replace JK:=I (JK.step (.of vx) (b4.ep _ _));replace rT:=I (vx.ay rT);clear vx f0 f1 f2 f3 f4 f5 f6 f7;obtain⟨f0,f1,f2,f3,f4,f5,f6,f7⟩:=lM rT;have Hl:dY os[k].x.id:=by rw[yz.out];exact qi.ok.id
         go_wp2_with fail;refine(as1 kJ aE az os[k].x.id Hl).mono ?_;rintro e _⟨_,_,_,rfl,⟨v9,jb⟩,jB⟩;have pU:=as0 aE Hl;rw[oe]at jb pU;rw[oe];replace oe:=I oe;replace jb:=I jb;replace pU:=I pU;refine ahm ?_;intro lG jA DS JL l5 pn hI;clear jB f0 f1 f2 f3 f4 f5 f6 f7;obtain⟨f0,f1,f2,f3,f4,f5,f6,f7⟩:=lM hI;cases z with
         |true=>
          go_wp2_with fail;try (go_step3;go_wp2_with fail)
          go_roundg (gk - 1);case measure=>omega
          case rel=>exact⟨k+1,_,_,_,qc,v9,hD,h5,j3,rx,J,by go_num,rfl,J,jb,pU,lG,jA,DS,JL,l5,by rw[hR.out];exact ahn⟩
         |false=>
          go_wp2_with (at_builtin;refine hc (ys:=rx) rfl (.tmp 85) (.tmp 87) 42 rfl ct _ 96 aiM bO bL bM bP rfl ah rfl (jA.ext ((Z.refl _).alloc _)) ⟨os[k].x,os[k].d⟩ _ rfl (fi (cs:=bU.cs ⟨os[k].x,os[k].d⟩) rfl) (bU.cQ _) J ah (ek lG.ee.size ((Z.refl _).alloc _).size) ?_;intro ef vX dD xy Cg);obtain⟨JM,kZ,lj,yA,zW,Ch⟩:=b_ jb lG jA DS JL l5 pn Cg xy;replace kZ:=I kZ;replace lj:=I lj;replace yA:=I yA;replace zW:=I zW;replace Ch:=I Ch;change aa _ at xy;clear Cg;go_wp2;go_roundg (gk - 1);case measure=>omega
          case rel=>exact⟨k+1,JM,_,_,_,_,_,h5+1,vX,rx++[(⟨os[k].x,os[k].d⟩:bU)],J,by go_num,rfl,J,kZ,pU,lj,xy,yA,zW,Ch,by rw[hR.out,fT];exact ahn⟩
        ·have Hk:decide (ng=2)=false:=je an;rw[Hk]at eO;change aa _ at eO;replace rQ:=I rQ;change aa _ at an;clear Hk;obtain⟨f0,f1,f2,f3,f4,f5,f6,f7⟩:=lM rT;go_wp2_with fail;refine(uk eR gO lv (xN f s7) os[k].x.id _ tU.c8.2.2).mono ?_;rintro e _⟨rfl,vx⟩;rw[eO.out];replace kJ:=I (kJ.ext vx);replace jL:=I (jL.ext vx);replace sK:=I (sK.ext vx);replace Mt:=I (λp aY=>(Mt p aY).step (.of vx) (b4.ep _ _));replace tU:=I (tU.step (.of vx) (b4.ep _ _));replace JK:=I (JK.step (.of vx) (b4.ep _ _));replace rT:=I (vx.ay rT);clear vx f0 f1 f2 f3 f4 f5 f6 f7;obtain⟨_,_,_,_,_,_,_,_⟩:=lM rT;go_wp2_with (at_builtin;refine hc (ys:=rx) rfl (.tmp 85) (.tmp 87) 42 rfl ct _ 96 aiM bO bL bM bP rfl ah rfl (sK.ext ((Z.refl _).alloc _)) ⟨os[k].x,os[k].d⟩ _ rfl (fi (cs:=bU.cs ⟨os[k].x,os[k].d⟩) rfl) (bU.cQ _) J ah (ek jL.ee.size ((Z.refl _).alloc _).size) ?_;intro _ vX _ xy Cg);obtain⟨JM,kZ,lj,yA,zW,Ch⟩:=b_ kJ jL sK bB Mt tU JK Cg xy;replace kZ:=I kZ;replace lj:=I lj;replace yA:=I yA;replace zW:=I zW;replace Ch:=I Ch;change aa _ at xy;clear Cg;go_wp2;go_roundg (gk - 1);case measure=>omega
         case rel=>exact⟨k+1,JM,_,_,_,_,_,h5+1,vX,rx++[(⟨os[k].x,os[k].d⟩:bU)],J,by go_num,rfl,J,kZ,aE,lj,xy,yA,zW,Ch,by rw[hR.out,fT];unfold zq;dsimp only;rw[wX.out,aV rQ.out,aV an.out];exact rfl⟩
      ·have cb:s7.take k=s7:=iU (by rw[<-cd.out,cx];omega);rw[cb]at b7;clear cb;obtain⟨kC,sO⟩:=fe.wE bx atY atZ;have wy:cv (λx=>M x\/bX x\/O' x) wr (λw=>xr w hD h5 j3 (rx.map (·.d))):=λw' aj=>by
        have aM:=aj.bS dX (λai ak k=>k.elim (λz=>by have:=yw.out _ z;have:=(dX.lt ai ak).1;omega) (λz=>z.elim (bB ai ak).2.1 (bB ai ak).2.2));exact⟨rx,aM.aF,λp aY=>lX p aY w' (aj.mono (λx _ z=>z.elim (fe.m.up x) (λy=>y.elim (bx.sm x) (bx.sub x)))),rfl⟩
       obtain⟨wC,wD⟩:=kC.atX (w':=wr.setCell (p,13) (ao hD h5 j3)) (t:=⟨hD,h5,j3⟩) wy rfl;obtain⟨-,-,-,-,-,-,-,-,-,-,-,-,-,_,_⟩:=an2 kC.box;have zT:=I (sO.trans (ik.mW wD kC.bS.1));have iq:=Qc.out;have he:dA.O1 c s7 f=(b',rx.map (·.d)):=b7;rw[he]at iq;subst iq;replace wC:=I wC;clear wD kC sO wy Qc he;go_wp2;go_end0;exact⟨_,_,_,rfl,⟨_,wC⟩,zT⟩
def aho{b:aT}(H:ea w M D O c p q b v)(b6:gu c l R n b)(az:c.room<=1048576)(i:ax)(a8:dY i)(fx bW:Nat)(FB:w.heap[fx]?=some (.cells #[p] 103))(nN:w.heap[bW]?=some (.cells #[(.func (.func 238) #[p] #[])] 224)):
  aS 239 #[i,fx,bW] w (xv c p q w M D O (.tuple #[]) (b.pd c i)):=by
 obtain⟨_,ps,dh⟩:=H.c8.st;have rU:=I dh.p.cD;have LQ:=I (AH dh.p dh.kV i);have gD:=I ((H.ext ((Z.refl w).alloc i)).box);have pj:aa ((w.alloc i).heap[(w:Nat)]?=some (i:Obj)):=e2 rfl;have Mu:=I (((Z.refl w).alloc i).ay FB);have Hm:=I (((Z.refl w).alloc i).ay nN);change aa _ at H b6 a8;clear dh FB nN;obtain⟨z,bp⟩:∃z,iP b.st.ps i=z:=⟨_,rfl⟩;have Qd:b.pd c i=if z=true then (b.note c (zg i)).1 else b:=by unfold aT.pd;rw[bp]
 obtain⟨rs,iq⟩:∃rs,b.pd c i=rs:=⟨_,rfl⟩;rw[iq];have gF:=I (Qd.symm.trans iq);have ec:=I (LQ.trans bp);clear Qd bp LQ iq;go_enter func239,ntmps239;refine Vl ?_;intro _ _ bd;refine l0 4 (·.ay pj) ?_;refine h9 5 λK aE=>?_;(go_simp;(go_at_call 141;refine(vR v.s (ps.map (·.x)) i _ (rU.ext U)).mono ?_;rintro e aN⟨rfl,fW⟩;rw[ec.out];change aa _ at fW);refine zS ?_;intro bd);refine og bQ ?_ _;have n0:=aL (o:=0) ((show Z (w.alloc i) aN from U).ay Hm) rfl;obtain⟨_,_,_⟩:=jm ((show Z (w.alloc i) aN from U).ay pj);cases z with
 |false=>
  have iq:=gF.out;rw[aV ah]at iq;subst iq;go_wp2_with fail;go_end0;exact C'
 |true=>
  have iq:=gF.out;rw[bc rfl]at iq;subst iq;go_wp2_with fail;refine(P2 (H.ext U) b6 az sL (zg i) (Uh _) (λ_=>rfl) (Za a8) (.inr (.inr (.inr (.inr ⟨i,rfl,a8⟩))))).mono ?_;rintro e _⟨Mv,mR,ahp,rfl,Vm,Hc⟩;go_wp2;go_end0;exact⟨Mv,mR,ahp,rfl,Vm,Hc.cN U⟩
def at2{h7:α->List Value}{M' bX O':eZ}{b:aT}{g9 ij m:Nat}{rx at3:List α}{o:Obj}(bx:ea w1 M' bX O' c p q b v)(fe:nv w M D O w1 M' bX O')(dX:aH w1 w e sz h7 hD h5 j3 rx)(bB:∀ai,hD=some ai->M' ai.block/\¬bX ai.block/\¬O' ai.block)(bC:lL (w1.alloc o) dc hD g9)(o5:aH dc w e sz h7 (some (g9,0)) m ij at3):
  ∃iS,ea dc iS bX O' c p q b v/\nv w M D O dc iS bX O'/\(∀ai,some ((g9,0):Addr)=some ai->iS ai.block/\¬bX ai.block/\¬O' ai.block)/\∀Q,cv M' w1 Q->cv iS dc Q:=by
 refine ahb ?_;intro oT fs aj bj gW vw bk;refine⟨k9 M' (·=g9),(bx.ext oT).step aj bj (λy hy ⟨ai,ak,e⟩=>hy.elim (e▸(bB ai ak).2.1) (e▸(bB ai ak).2.2)) bk (λy hy=>?_),(fe.ext oT).row aj (λy ⟨ai,ak,e⟩=>e▸(dX.lt ai ak).1) bk,λai ak=>?_,λQ k=>(k.step (.of oT) (b4.ep _ _)).step (aj.sub bj) bk⟩;exact ahc;exact ahd
def FC(hD:Option Addr):Nat->Prop:=λy=>∃ai,hD=some ai/\ai.block=y
def at4{h7:α->List Value}{b:aT}{rx:List α}(h:ea w M D O c p q b v)(X:Z w w1)(dX:aH w1 w e sz h7 hD h5 j3 rx):
  ea w1 (k9 M (FC hD)) D O c p q b v/\nv w M D O w1 (k9 M (FC hD)) D O/\∀ai,hD=some ai->k9 M (FC hD) ai.block/\¬D ai.block/\¬O ai.block:=by
 have gW:=h.b5;have bk:b4 w M (k9 M (FC hD)):=⟨λ_ k=>.inl k,λy hy=>hy.imp id (fun⟨ai,ak,e⟩=>e▸(dX.lt ai ak).1)⟩;refine⟨h.step (S:=λ_=>False) (.of X) (λ_ k=>k.elim) (λ_ _ k=>k) bk (λy hy=>?_),⟨.of X,b4.refl _ _,b4.refl _ _,bk⟩,λai ak=>⟨.inr ⟨ai,ak,rfl⟩,λk=>?_,λk=>?_⟩⟩
 ·rcases hy with hy|⟨ai,ak,e⟩
  ·exact fQ (gW y hy) X.size
  ·rw[<-e];exact(dX.lt ai ak).2
 ·have:=gW _ (h.sm _ k);have:=(dX.lt ai ak).1;omega
 ·have:=gW _ (h.sub _ k);have:=(dX.lt ai ak).1;omega
def ea.at5{b:aT}(h:ea w M D O c p q b v){t:iF}{dT:List ax}(hs:cv M w (λw=>a7 w 3 ax.cs t.a t.n t.c dT))(he:w'=w.setCell (p,11) t):
  ea w' M D O c p q {b with gP:=dT} {v with gP:=t}/\aI (·=p) w w':=by
 subst he;have aj:=(aI.refl (·=p) w).setCell (p,11) (.inl rfl) t;refine⟨h.mW aj (en h.box 11 _) ?_ rfl rfl rfl rfl rfl rfl,aj⟩;exact((h.l3.and hs).mono (λw k=>⟨k.1.cL,k.1.ak,k.1.st,k.1.tx,k.2,k.1.dT⟩)).step (aj.cQ (h.sub _ h.bS.1)) (b4.ep _ _)
def at6(h:w.grownBy w' (Value.ownBlock (ao aA n cap))):aI (FC aA) w w':=
 ⟨h.os,h.tape,h.output,h.size,λb ad aq=>h.block b ad (λe=>by
  cases aA with
  |none=>cases e
  |some ai=>exact aq ⟨ai,rfl,(w9 e).symm⟩)⟩
def fD.ahq{S:eZ}{aBw:Nat}{c:Nat}{ps:List bU}{h7:α->List Value}{rx:List α}(h:fD w base a n c ps)(az:aH w aBw e sz h7 hD h5 j3 rx)(aZ:66≠e)(af:154≠e)(an:34≠e)(aO:77≠e)(aj:aI S w w')(bj:∀x,S x->x<base\/FC hD x):fD w' base a n c ps:=by
 have hk:∀{β:Type}{cq:TypeId}{Qe:Nat}{c2:β->List Value}{aA:bl}{cF zL:Nat}{ys:List β},aH w base cq Qe c2 aA cF zL ys->cq≠e->aH w' base cq Qe c2 aA cF zL ys:=λo he=>
  aj.bS o (λai ak k=>(bj _ k).elim (λz=>by have:=(o.lt ai ak).1;omega) (fun⟨Y',ad,oE⟩=>(o.gT az he) ai Y' ak ad oE.symm))
 refine⟨hk h.cj aZ,λp aY=>?_⟩;have Mw:=h.ck p aY;obtain⟨ys,cm,cq,fo⟩:=Mw.e;exact⟨Mw.k,Mw.id,Mw.c,Mw.u,hk Mw.f af,ys,cm,hk cq an,λy hy=>hk (fo y hy) aO⟩
def at7(c:bK)(l:List bb)(k:Nat)(hk:k<l.length)(st:aT×List ax):(l.take (k+1)).foldl (zu c) st=zu c ((l.take k).foldl (zu c) st) l[k]:=CZ
def at8{b:aT}(H:ea w M D O c p q b v)(b6:gu c l R n b)(az:c.room<=1048576)(kd:∀j,j∈b.bD->dY j)(er:bl)(fk lc:Nat)(xs:List bU)(bG:iG w er fk lc xs)(ar:∀p,p∈xs->j9 p.d)(n1:fk<=16):
  aS 241 #[p,ao er fk lc] w (xv c p q w M D O (.tuple #[]) (b.ux c (xs.map (·.d)))):=by
 obtain⟨ct,bO,bL,bM,bP⟩:=fB Ao;obtain⟨dK,eY,e5,e6,e7⟩:=fB yY;obtain rfl:=bG.aF.neq;have hm:=bG.aF.max;unfold maxLen at hm;have gD:=I H.box;obtain⟨au,ps,dN⟩:=H.c8.st;obtain⟨rs,gF⟩:∃rs,b.ux c (xs.map (·.d))=rs:=⟨_,rfl⟩;rw[gF];change aa _ at gF bO bL bM bP eY e5 e6 e7 H b6 kd bG ar dN;go_enter func241,ntmps241;go_wp2_with fail;go_loopg [5,6,19] (xs.length) (λg ng qX dS wr=>∃(k:Nat) (eS:bl) (fn eT:Nat) (h3:List ax) (ef:bl) (Ae gc:Nat) (gs:List bU),g+k=xs.length/\dS=.int .i64 (k:Int)/\ng=.slice eS fn eT/\qX=.slice ef Ae gc/\fn<=k/\Ae<=k/\aa (aH wr w 54 3 ax.cs eS fn eT h3)/\aa (h3=(((xs.take k).map (·.d)).filter (λd=>kl b.bD d.id)).map (·.id))/\aa (aH wr w 66 8 bU.cs ef Ae gc gs)/\aa (gs.map (·.d)=((xs.take k).map (·.d)).filter (λd=> !kl b.bD d.id))/\aa (∀p,p∈gs->hK w p.x p.d)/\aa (Z w wr));case atStart=>exact⟨0,none,0,0,[],none,0,0,[],J,rfl,rfl,rfl,bJ _,bJ _,aH.nil _ _ _ ax.bI,rfl,aH.nil _ _ _ bU.bI,rfl,(λp aY=>by cases aY),U⟩
 case round=>
  obtain⟨k,eS,fn,eT,h3,ef,Ae,gc,gs,bC,rfl,rfl,rfl,_,_,hF,Vn,Mx,BY,Vo,X⟩:=hrel;by_cases hk:k<xs.length
  ·obtain⟨fb,o,rfl,fR⟩:=bG.aF.get k hk;obtain⟨cO,c1,c2,cV,dF,dH,eJ,eM⟩:=nh (w:=wr) (b:=fb) (o:=o+k*8) (x:=xs[k].x) (λj v aD=>X.ag (fR j v aD));have od:=I (bG.ck _ (cT hk));have yz:=od.id;have Hl:dY xs[k].x.id:=by rw[yz];exact(ar _ (cT hk)).ok.id
   obtain⟨_,_,f2,_,Qf,lg,tw⟩:=H.yt.get kd Hl;have bz:aa (Z w (wr.alloc xs[k].x)):=X.trans ((Z.refl wr).alloc _);have nC:=I (Qf.ext bz);obtain⟨t,bm⟩:∃t,kl b.bD xs[k].x.id=t:=⟨_,rfl⟩;have nW:=I (tw.trans bm);have oh:=I (Hf Hl);have lE:aa ((wr.alloc xs[k].x).heap[(wr:Nat)]?=some (xs[k].x:Obj)):=e2 rfl;have F':=I (bz.ay gD);have d_:((((xs.take (k+1)).map (·.d)).filter (λd=>kl b.bD d.id)).map (·.id))=h3++if t=true then [xs[k].x.id] else []:=by
    rw[iv hk,fT,yU,fT,<-Vn.out];simp only[sf,Lw,Is,LM];rw[<-yz,bm];cases t<;>simp[yz]
   have e_:((xs.take (k+1)).map (·.d)).filter (λd=> !kl b.bD d.id)=gs.map (·.d)++if t=true then [] else [xs[k].d]:=by
    rw[iv hk,fT,yU,<-BY.out];simp only[sf,Lw,Is,LM];rw[<-yz,bm];cases t<;>simp
   refine jU ?_;intro b0 bf;change aa _ at yz lg d_ e_;clear fR Hl Qf tw bm;go_wp2_with fail;refine sX (λw'=>Z (wr.alloc xs[k].x) w') (λbd=>?_);refine AU ?_;refine l0 3 (·.ay F') ?_;refine de 4 ?_;refine l0 5 (·.ay lE) ?_;refine de 6 ?_ (hy:=λw fh=>by(try dsimp only at fh);(have dU:=(nC.ext fh).m' Fu JD (U7 _) (y:=_) rfl oh;rw[lg.out,nW.out]at dU);exact A2);refine de 7 ?_;refine de 8 ?_;refine de 9 ?_;refine de 10 ?_;refine de 11 ?_;refine og bQ ?_ _;have ahr:=(Z.drew (Z.refl (wr.alloc xs[k].x))).ay lE;obtain⟨_,f1,f2,f3,_,_,_,_⟩:=lM ahr;clear ahr;cases t with
   |true=>
    go_wp2_with (at_builtin;refine hc (ys:=h3) rfl (.tmp 34) (.tmp 37) 31 rfl dK _ 24 aiL eY e5 e6 e7 rfl ah rfl (hF.ext U) xs[k].x.id _ rfl (fi (cs:=ax.cs xs[k].x.id) (by simp)) (ax.cQ _) J ah (Z.size U) ?_;intro g9 ij dc ha fy);change aa _ at ha;have Mi:=I (fy.z8 (hF.ext U) (Mx.ext U) ah);have pn:=I (fy.ext (W:=w) (hF.ext U) (bJ _) U);clear fy;go_wp2;go_roundg (gk - 1);case measure=>omega
    case rel=>exact⟨k+1,_,fn+1,ij,h3++[xs[k].x.id],ef,Ae,gc,gs,J,by go_num,rfl,rfl,J,J,ha,d_.symm,Mi,by show _=_;rw[e_.out];simp,Vo,pn⟩
   |false=>
    go_wp2_with (at_builtin;refine hc (ys:=gs) rfl (.tmp 39) (.tmp 41) 42 rfl ct _ 96 aiM bO bL bM bP rfl ah rfl (Mx.ext U) ⟨xs[k].x,xs[k].d⟩ _ rfl (fi (cs:=bU.cs ⟨xs[k].x,xs[k].d⟩) (by simp)) (bU.cQ _) J ah (Z.size U) ?_;intro _ ij dc ha fy);change aa _ at ha;have at9:=I (fy.z8 (Mx.ext U) (hF.ext U) ah);have pn:=I (fy.ext (W:=w) (Mx.ext U) (bJ _) U);clear fy;go_wp2;go_roundg (gk - 1);case measure=>omega
    case rel=>
     refine⟨k+1,eS,fn,eT,h3,_,Ae+1,ij,gs++[(⟨xs[k].x,xs[k].d⟩:bU)],J,by go_num,rfl,rfl,J,J,at9,by show _=_;rw[d_.out];simp,ha,by rw[e_.out,fT];exact rfl,λy hy=>?_,pn⟩;rcases ie.1 hy with hy|hy
     ·exact Vo y hy
     ·obtain rfl:=jg.1 hy;exact od
  ·refine sy ?_;intro cb;rw[cb]at Vn BY;clear cb;have ahs:=X.ay gD;obtain⟨-,-,-,-,dF,dH,eJ,eM⟩:=lM ahs;clear ahs;go_wp2_with fail;refine(anr v.s (au.map (·.x)) (ps.map (·.x)) b.st.aB ef Ae gc gs _ (dN.l.cD.ext U) (dN.p.cD.ext U) (dN.b.ext U) ⟨Mx.aF.ext U,λy hy=>(Vo y hy).ext U⟩ ?_ ?_ J).mono ?_
   ·intro y hy;have af:y.d∈(xs.map (·.d)).filter (λd=> !kl b.bD d.id):=by rw[<-BY.out];exact nH hy
    obtain⟨z,an,aO⟩:=lU.1 (pA.1 af).1;rw[<-aO];exact(ar z an).ok.r8
   ·rw[dN.h6];have:=(b6.U6 az).2.1;omega
   rintro e aN⟨aA,f_,ac,_,hU,_,rV,rfl,mo,mm,q4,bq⟩;have pF:qt (au.map (·.x)) (ps.map (·.x)) b.st.aB=λi=>iP b.st.au i||iP b.st.ps i||kl b.st.aB i:=asT dN.l dN.jI dN.p dN.kV _;have aht:rz (qt (au.map (·.x)) (ps.map (·.x)) b.st.aB) v.s.p.n (gs.map (·.d))=b.x3 (xs.map (·.d)):=by
    rw[pF,dN.h6,BY.out];rfl
   rw[aht]at mm q4;have BX:((xs.map (·.d)).filter (λd=> !kl b.bD d.id)).length<=16:=ek (vP _ _) (by rw[cx];exact n1);have xp:(b.x3 (xs.map (·.d))).1.length<=16/\(b.x3 (xs.map (·.d))).2.length<=16:=by
    have:=XF (λi=>iP b.st.au i||iP b.st.ps i||kl b.st.aB i) b.st.ps.length ((xs.map (·.d)).filter (λd=> !kl b.bD d.id)) ([],[]);unfold aT.x3 rz;simp only[pH,ow]at this;omega
   have rU:∀d,d∈(b.x3 (xs.map (·.d))).1->j9 d:=λd aG=>by
    have Vp:d∈(((xs.map (·.d)).filter (λd=> !kl b.bD d.id)).foldl (pD (λi=>iP b.st.au i||iP b.st.ps i||kl b.st.aB i) b.st.ps.length) ([],[])).1:=aG;have af:=(aei _ _ _ _).1 d Vp;rcases af with af|af
    ·cases af
    ·obtain⟨z,an,aO⟩:=lU.1 (pA.1 af).1;rw[<-aO];exact ar z an
   have G7:hU<=16:=by rw[q4.neq];exact xp.2
   have aAx:rV.length<=16:=by rw[<-cx (f:=(·.d)),mm];exact xp.1
   obtain⟨E5,g_⟩:∃P,(b.x3 (xs.map (·.d))).1=P:=⟨_,rfl⟩;obtain⟨Vq,h_⟩:∃P,(b.x3 (xs.map (·.d))).2=P:=⟨_,rfl⟩;rw[g_]at mm rU;rw[h_]at q4;have dI:=gF.out;unfold aT.ux aT.TI at dI;rw[g_,h_,<-Vn.out]at dI;have aua:=show Z w aN from U;have nC:=I (hF.ext bq);have aub:=I X.size;have pS:∀x,M x->x<(wr:Nat):=λx cG=>fQ (H.b5 x cG) aub;change aa _ at mo mm q4 bq rU dI;clear pF aht BX xp g_ h_ gF Vn BY Vo hF Mx dF dH eJ eM;go_wp2_with (at_builtin;refine tf rfl λoz mx=>?_;refine te (c:=ax.cs) (ys0:=h3) (ys:=Vq) (.tmp 53) (.tmp 54) 31 54 rfl dK _ 24 aiL eY e5 e6 e7 rfl ah rfl w aua nC rfl q4.aF ax.cQ J ah ?_;intro uY _ i_ c4 Df mC ic DD;subst Df;refine mx _ _ ?_);have ahu:=at6 DD;have j_:=I (mo.ahq nC ah ah ah ah ahu (λx X=>.inr X));obtain⟨n9,pJ,oJ⟩:=at4 H ic mC;have AS:cv (k9 M (FC uY)) c4 (λw=>iG w aA f_ ac rV):=λw' aj=>(j_.ahq mC ah ah ah ah aj (λx X=>X.imp (pS x) id)).sE;change aa _ at mC;obtain rfl:=j_.cj.neq;change aa _ at n9 pJ oJ AS;clear ic DD ahu mo q4 nC j_;go_wp2_with fail;go_loopg [5,58] (rV.length) (λg ng dS wr=>∃(k:Nat) (M' bX O':eZ) (b':aT) (gX:gB) (hD:bl) (h5 j3:Nat) (rx:List ax),g+k=rV.length/\dS=.int .i64 (k:Int)/\ng=.slice hD h5 j3/\h5<=32+k/\aa (ea wr M' bX O' c p q b' gX)/\aa (gu c l R n b')/\aa (nv w M D O wr M' bX O')/\aa (aH wr w 54 3 ax.cs hD h5 j3 rx)/\aa (∀ai,hD=some ai->M' ai.block/\¬bX ai.block/\¬O' ai.block)/\aa (cv M' wr (λw=>iG w aA rV.length ac rV))/\aa ((E5.take k).foldl (zu c) (b,h3++Vq)=(b',rx)));case atStart=>exact⟨0,_,D,O,b,v,uY,fn+hU,i_,h3++Vq,J,rfl,rfl,J,n9,b6,pJ,mC,oJ,AS,rfl⟩
   case round=>
    obtain⟨k,_,bX,O',b',_,hD,h5,j3,rx,_,rfl,rfl,_,bx,aE,fe,dX,bB,eL,b7⟩:=hrel;by_cases hk:k<rV.length
    ·have ix:=eL.c8;obtain⟨fb,o,rfl,fR⟩:=ix.aF.get k hk;obtain⟨_,_,_,_,_,_,_,_⟩:=nh (w:=wr) (b:=fb) (o:=o+k*8) (x:=rV[k].x) fR;have od:=I (ix.ck _ (cT hk));have A4:k<E5.length:=by rw[<-mm.out,cx];exact hk
     have k7:rV[k].d=E5[k]:=by
      have af:(rV.map (·.d))[k]? =E5[k]? :=by rw[mm.out]
      rw[nd,eK hk,eK A4]at af;exact w9 af
     have qi:j9 rV[k].d:=by rw[k7];exact rU _ (cT A4)
     have hR:=at7 c E5 k A4 (b,h3++Vq);rw[b7.out,<-k7]at hR;have lE:aa ((wr.alloc rV[k].x).heap[(wr:Nat)]?=some (rV[k].x:Obj)):=e2 rfl;obtain⟨qc,z,oe⟩:∃qc z,b'.note c (kR rV[k].d)=(qc,z):=⟨_,_,rfl⟩;have b0:(0:Int)<=(k:Int):=J;have bf:(k:Int)<(rV.length:Int):=J;change aa _ at hR qi;clear ix fR k7;go_wp2_with fail;refine(P2 (bx.ext (w':=wr.alloc rV[k].x) U) aE az rV[k].x (kR rV[k].d) (od.ext U) (λk=>absurd rfl k.2) (TP qi) (.inr (.inr (.inl ⟨_,rfl,qi.ok⟩)))).mono ?_;rintro e _⟨_,_,_,rfl,⟨v9,jb⟩,jB⟩;have pU:=JB aE (TP qi) (asZ _);rw[oe]at jb pU;rw[oe];have oT:=(Z.refl wr).alloc rV[k].x;have lG:=I ((fe.ext oT).xj jB);have jA:=I (jB.bS (dX.ext oT) (λai ak=>(bB ai ak).2));have DS:=I (jB.row (dX.ext oT) bB);have l5:=I (nv.kS jB (bx.ext oT) (eL.step (.of oT) (b4.ep _ _)));have Hn:=bx.b5;have hI:=(jB.ee.block _ (bZ lE) (λz=>z.elim (λy=>by have:=Hn _ (bx.sm _ y);omega) (λy=>by have:=Hn _ (bx.sub _ y);omega))).trans lE;obtain⟨-,_,_,_⟩:=oX hI;have yz:=I od.id;change aa _ at oe jb pU;clear jB oT Hn hI bx aE fe dX bB eL b7;cases z with
     |true=>
      go_wp2;go_roundg (gk - 1);case measure=>omega
      case rel=>exact⟨k+1,_,_,_,qc,v9,hD,h5,j3,rx,J,by go_num,rfl,J,jb,pU,lG,jA,DS,l5,by rw[hR.out];unfold zu;rw[oe.out,bc rfl];exact rfl⟩
     |false=>
      go_wp2_with (at_builtin;refine hc (ys:=rx) rfl (.tmp 67) (.tmp 70) 31 rfl dK _ 24 aiL eY e5 e6 e7 rfl ah rfl (jA.ext ((Z.refl _).alloc _)) rV[k].x.id _ rfl (fi (cs:=ax.cs rV[k].x.id) rfl) (ax.cQ _) J ah (ek lG.ee.size ((Z.refl _).alloc _).size) ?_;intro _ vX _ xy Cg);obtain⟨JM,kZ,lj,yA,ahv⟩:=at2 jb lG jA DS Cg xy;change aa _ at kZ lj yA;have zW:=I (ahv _ l5);change aa _ at xy;clear ahv Cg;go_wp2;go_roundg (gk - 1);case measure=>omega
      case rel=>exact⟨k+1,JM,_,_,qc,v9,_,h5+1,vX,rx++[rV[k].x.id],J,by go_num,rfl,J,kZ,pU,lj,xy,yA,zW,by rw[hR.out];unfold zu;rw[oe.out,aV (by simp),yz.out];exact rfl⟩
    ·have cb:E5.take k=E5:=iU (by rw[<-mm.out,cx];omega);rw[cb]at b7;clear cb;obtain⟨kC,sO⟩:=fe.wE bx H.sm H.sub;have wy:cv (λx=>M x\/bX x\/O' x) wr (λw=>a7 w 3 ax.cs hD h5 j3 rx):=λw' aj=>
      (aj.bS dX (λai ak k=>k.elim (λz=>by have:=H.b5 _ z;have:=(dX.lt ai ak).1;omega) (λz=>z.elim (bB ai ak).2.1 (bB ai ak).2.2))).aF
     obtain⟨wC,wD⟩:=kC.at5 (w':=wr.setCell (p,11) (ao hD h5 j3)) (t:=⟨hD,h5,j3⟩) wy rfl;obtain⟨-,-,-,-,-,-,-,-,-,-,-,_,_⟩:=an1 kC.box;have zT:=I (sO.trans (ik.mW wD kC.bS.1));have iq:=dI.out;rw[b7.out]at iq;subst iq;change aa _ at wC;clear wD kC sO wy dI;go_wp2;go_end0;exact⟨_,_,_,rfl,⟨_,wC⟩,zT⟩
def A0.add{tm s fS s':Nat}(h:fp w prog 54 tm n s f)(hs:s=bD.length)(aq:n=s)(bt:∀k (hk:k<bD.length),f (kb bD[k])=some (.int .i64 k))(cC:∀eN v,f eN=some v->∃i,i∈bD/\eN=kb i)(bm:∀j,j∈bD->dY j)(aK:dY i)(eO:i∉bD)(k:fp w' prog 54 tm fS s' (wz f (kb i) (some (.int .i64 (bD.length:Int)))))(A5:fS=n+1)(Hi:s'=if (f (kb i)).isSome=true then s else s+1):A0 w' tm (bD++[i]):=by
 have dj:∀j,j∈bD->kb j≠kb i:=λj aD e=>eO (G' (bm j aD) aK e▸aD);have Qg:f (kb i)=none:=by
  cases bk:f (kb i)with
  |none=>rfl
  |some v=>
   obtain⟨j,aD,e⟩:=cC _ _ bk;exact absurd e.symm (dj j aD)
 rw[Qg]at Hi;simp at Hi;refine⟨fS,s',_,k,by rw[Hi,hs,c9];rfl,J,λj aD=>?_,λeN v bw=>?_⟩
 ·by_cases k_:j<bD.length
  ·rw[List.getElem_append_left k_,yo (dj _ (cT k_))];exact bt j k_
  ·have auc:j=bD.length:=by rw[c9]at aD;simp at aD;omega
   subst auc;rw[List.getElem_append_right (bJ _)];simp only[Nat.sub_self,List.getElem_cons_zero];rw[Fi]
 ·by_cases he:eN=kb i
  ·exact⟨i,List.mem_append_right _ (jg.2 rfl),he⟩
  ·rw[yo he]at bw;obtain⟨j,aD,e⟩:=cC _ _ bw;exact⟨j,Pa _ aD,e⟩
def ea.aud{b:aT}(h:ea w M D O c p q b v)(aj:aI (·=v.tm) w w')(bm:A0 w' v.tm bD):ea w' M D O c p q {b with bD:=bD} v/\ik w M D O w' M D O:=by
 obtain⟨L,af,an,aO⟩:=h.cp;have bj:∀x,x=v.tm->M x:=λx e=>e▸h.sub _ h.bS.2.2;have aK:∀P,cv M w P->cv M w' P:=λP k=>k.step (aj.sub bj) (b4.ep _ _);refine⟨⟨(aj.block _ (bZ h.box) (show ¬p=v.tm from h.gT.2.1)).trans h.box,(aK _ h.l3).mono (λw k=>⟨k.cL,k.ak,k.st,k.tx,k.gP,k.dT⟩),⟨L,af.step aj bj (λx X e=>?_) (b4.ep _ _) (λx k=>fQ (af.b5 x k) aj.size),an,aO⟩,h.iO.ay (aj.block _ h.iO.lt (show ¬v.kY=v.tm from h.gT.2.2)) aK,bm,h.bS,h.sub,h.gL,h.gT⟩,⟨aj.cQ (.inr h.bS.2.2),b4.ep _ _,b4.ep _ _,b4.ep _ _,λ_ k=>.inl k⟩⟩;have e:x=v.tm:=e;subst e;exact X.elim (λk=>h.gL _ k h.bS.2.2) aO.2.2
def aue{b:aT}(h:gu c l R n b)(aK:i∈R)(eO:i∉b.bD):gu c l R n {b with bD:=b.bD++[i]}:=
 ⟨h.dd,h.fz,λt bm=>(h.tx t bm).ln rfl rfl (bJ _),h.rM,h.sV,h.gq,h.x7,h.dT,h.gP,GN h.bD.1 eO,λj aD=>(ie.1 aD).elim (h.bD.2 j) (λe=>jg.1 e▸aK)⟩
def Vr{b:Nat}(h:w.mapTurned w' b):aI (·=b) w w':=
 ⟨h.grown.os,h.grown.tape,h.grown.output,h.grown.size,λk hk dj=>agG h hk dj⟩
def auf{b:aT}{l:List bb}(h:n≠b.st.au.length):aT.take c n (d::l) b=aT.take c (n+1) l b:=by show(if n≠_ then _ else _)=_;rw[bc h]
def aug{b b':aT}{l:List bb}(h:n=b.st.au.length)(aq:b.note c (iA n d)=(b',true)):aT.take c n (d::l) b=aT.take c (n+1) l b':=by
 show(if n≠_ then _ else _)=_;rw[aV (by rw[h];simp),aq];rfl
def auh{b b':aT}{l:List bb}(h:n=b.st.au.length)(aq:b.note c (iA n d)=(b',false)):aT.take c n (d::l) b=b':=by
 show(if n≠_ then _ else _)=_;rw[aV (by rw[h];simp),aq];rfl
structure l_ (w:World) (x:kz) (m:dv) (aX ps:List bU):Prop where
 h:x.h=(m.h:Int)
 e:iG w x.e.a x.e.n x.e.c aX
 p:iG w x.p.a x.p.n x.p.c ps
 b:a7 w 3 ax.cs x.b.a x.b.n x.b.c m.aB
 d:a7 w 3 ax.cs x.d.a x.d.n x.d.c m.aU
def m_{B:Nat}{o:Obj}(h:w.heap[B]?=some o)(bx:¬M B):cv M w (λw=>w.heap[B]?=some o):=λ_ aj=>(aj.block _ (bZ h) bx).trans h
def Qh{α:Type}[DecidableEq α]:∀(l r:List α),l.Nodup->(∀x,x∈l->x∈r)->l.length<=r.length
 | [],r,_,_=>gz _
 |x::l,r,aq,hs=>by
  have X:=hs x o1
  have af:=Qh l (r.erase x) (IV.1 aq).2 (λy hy=>(List.mem_erase_of_ne (λe:y=x=>(IV.1 aq).1 (e▸hy))).2 (hs y (ni _ hy)))
  have an:=List.length_erase_of_mem X
  have aO:=List.length_pos_of_mem X
  simp only[me]
  omega
def Qi(w:World)(p l4:Nat)(x:kz)(m:dv)(aX ps:List bU):Prop:=(w.heap[l4]?=some (.cells #[p] 103 (0,0))/\w.heap[l4+1]?=some (x:Obj)/\w.heap[l4+1+1]?=some (.cells #[(.func (.func 238) #[.pointer (some ⟨p,0,none⟩)] #[])] 224 (0,0)))/\l_ w x m aX ps
def aui{b:aT}(H:ea w M D O c p q b v)(b6:gu c l R n b)(az:c.room<=1048576)(yh:∀i,i∈R->dY i)(Ci:R.length<=1000000)(x:kz)(m:dv)(aX ps:List bU)(ix:cv M w (λw=>l_ w x m aX ps))(ky:aX.map (·.d)=m.aX)(rU:ps.map (·.d)=m.ps)(Mo:m.aX.length<=16/\∀d,d∈m.aX->j9 d)(DJ:m.ps.length<=16/\∀d,d∈m.ps->j9 d)(sh:m.aB.length<=16/\∀i,i∈m.aB->i∈R)(JN:m.aU.length<=16/\∀i,i∈m.aU->dY i)(Ho:m.h<=1000000\/m.aX= []):
  aS 158 #[p,x] w (xv c p q w M D O (.tuple #[]) (b.Dl c m)):=by
 have gW:=H.b5
 have bG:=I (show cv M (((w.alloc (.cells #[p] 103)).alloc x).alloc (.cells #[(.func (.func 238) #[p] #[])] 224)) (λw'=>Qi w' p w x m aX ps)from
  (((m_ (B:=(w:Nat)) gA (λk=>by have:=gW _ k;omega)).and ((m_ (B:=(w:Nat)+1) gA (λk=>by have:=gW _ k;omega)).and (m_ (B:=(w:Nat)+1+1) gA (λk=>by have:=gW _ k;omega)))).and (ix.step (.of U) (b4.ep _ _))).mono (λ_ k=>k))
 obtain⟨qD,bE⟩:∃qD,aT.take c m.h m.aX b=qD:=⟨_,rfl⟩;obtain⟨rs,gF⟩:∃rs,b.Dl c m=rs:=⟨_,rfl⟩;rw[gF];unfold aT.Dl at gF;rw[bE]at gF;have jt:=ix.c8;have n_:=jt.e.aF.neq;have qq:=jt.b.neq;have o_:=jt.d.neq;have p_:=jt.p.aF.neq;have Xq:aX.length<=16:=by have:=Mo.1;rw[<-ky,cx]at this;exact this
 have xp:ps.length<=16:=by have:=DJ.1;rw[<-rU,cx]at this;exact this
 have mV:=sh.1;have xL:=JN.1;have ahw:=jt.h;obtain⟨hl,_,na,mc,lW,sB,sC,sD⟩:=x;dsimp only at n_ qq o_ p_ ahw;subst ahw;obtain⟨vy,_,vz⟩:=lW;obtain⟨ss,_,su⟩:=sB;obtain⟨uH,_,uI⟩:=sC;obtain⟨uJ,AM,uK⟩:=sD;dsimp only at n_ qq o_ p_;subst n_ qq o_ p_;replace H:=I H;replace b6:=I b6;replace yh:=I yh;replace ky:=I ky;replace rU:=I rU;replace Mo:=I Mo;replace DJ:=I DJ;replace sh:=I sh;replace JN:=I JN;replace Ho:=I Ho;replace Ci:=I Ci;replace gF:=I gF;replace bE:=I bE;clear ix jt;go_enter func158,ntmps158;go_wp2_with fail;go_step3;go_wp2_with fail;go_step3;go_upto_block 0 with (fail);go_cut [] (λeD=>∃(M' bX O':eZ) (gX:gB),aa (ea eD M' bX O' c p q qD gX)/\aa (gu c l R n qD)/\aa (ik (((w.alloc (.cells #[p] 103)).alloc (.cells #[hl,ae (m.h:Int),na,mc,ao vy aX.length vz,ao ss ps.length su,ao uH m.aB.length uI,ao uJ m.aU.length uK] 232)).alloc (.cells #[(.func (.func 238) #[p] #[])] 224)) M D O eD M' bX O')/\aa (cv M' eD (λw'=>Qi w' p (w:Nat) ⟨hl,(m.h:Int),na,mc,⟨vy,aX.length,vz⟩,⟨ss,ps.length,su⟩,⟨uH,m.aB.length,uI⟩,⟨uJ,m.aU.length,uK⟩⟩ m aX ps)));case first=>
  have fZ:=I (H.ext (w':=(((w.alloc (.cells #[p] 103)).alloc (.cells #[hl,ae (m.h:Int),na,mc,ao vy aX.length vz,ao ss ps.length su,ao uH m.aB.length uI,ao uJ m.aU.length uK] 232)).alloc (.cells #[(.func (.func 238) #[p] #[])] 224))) U);have L6:=I (ik.refl (((w.alloc (.cells #[p] 103)).alloc (.cells #[hl,ae (m.h:Int),na,mc,ao vy aX.length vz,ao ss ps.length su,ao uH m.aB.length uI,ao uJ m.aU.length uK] 232)).alloc (.cells #[(.func (.func 238) #[p] #[])] 224)) M D O);have j7:=bG.c8.1;have fb:=j7.1;have dM:=j7.2.1;have bW:=j7.2.2;clear j7;have m1:(((w.alloc (.cells #[p] 103)).alloc (.cells #[hl,ae (m.h:Int),na,mc,ao vy aX.length vz,ao ss ps.length su,ao uH m.aB.length uI,ao uJ m.aU.length uK] 232)).alloc (.cells #[(.func (.func 238) #[p] #[])] 224)).cell? (w,1,1)=some ↑(ae (m.h:Int)):=aL dM rfl;have m4:(((w.alloc (.cells #[p] 103)).alloc (.cells #[hl,ae (m.h:Int),na,mc,ao vy aX.length vz,ao ss ps.length su,ao uH m.aB.length uI,ao uJ m.aU.length uK] 232)).alloc (.cells #[(.func (.func 238) #[p] #[])] 224)).cell? (w,1,4)=some ↑(ao vy aX.length vz):=aL dM rfl;have m5:(((w.alloc (.cells #[p] 103)).alloc (.cells #[hl,ae (m.h:Int),na,mc,ao vy aX.length vz,ao ss ps.length su,ao uH m.aB.length uI,ao uJ m.aU.length uK] 232)).alloc (.cells #[(.func (.func 238) #[p] #[])] 224)).cell? (w,1,5)=some ↑(ao ss ps.length su):=aL dM rfl;have m6:(((w.alloc (.cells #[p] 103)).alloc (.cells #[hl,ae (m.h:Int),na,mc,ao vy aX.length vz,ao ss ps.length su,ao uH m.aB.length uI,ao uJ m.aU.length uK] 232)).alloc (.cells #[(.func (.func 238) #[p] #[])] 224)).cell? (w,1,6)=some ↑(ao uH m.aB.length uI):=aL dM rfl;have m7:(((w.alloc (.cells #[p] 103)).alloc (.cells #[hl,ae (m.h:Int),na,mc,ao vy aX.length vz,ao ss ps.length su,ao uH m.aB.length uI,ao uJ m.aU.length uK] 232)).alloc (.cells #[(.func (.func 238) #[p] #[])] 224)).cell? (w,1,7)=some ↑(ao uJ m.aU.length uK):=aL dM rfl;have k4:=aL (o:=0) fb rfl;have n0:=aL (o:=0) bW rfl;clear fb dM bW;go_wp2_with fail;clear m1 m4 m5 m6 m7 k4 n0;go_loopg [18] aX.length (λg dS wr=>∃(k:Nat) (M' bX O':eZ) (b':aT) (gX:gB),g+k=aX.length/\dS=.int .i64 (k:Int)/\aa (ea wr M' bX O' c p q b' gX)/\aa (gu c l R n b')/\aa (ik (((w.alloc (.cells #[p] 103)).alloc (.cells #[hl,ae (m.h:Int),na,mc,ao vy aX.length vz,ao ss ps.length su,ao uH m.aB.length uI,ao uJ m.aU.length uK] 232)).alloc (.cells #[(.func (.func 238) #[p] #[])] 224)) M D O wr M' bX O')/\aa (cv M' wr (λw'=>Qi w' p (w:Nat) ⟨hl,(m.h:Int),na,mc,⟨vy,aX.length,vz⟩,⟨ss,ps.length,su⟩,⟨uH,m.aB.length,uI⟩,⟨uJ,m.aU.length,uK⟩⟩ m aX ps))/\aa (aT.take c (m.h+k) (m.aX.drop k) b'=qD));case atStart=>exact⟨0,M,D,O,b,v,J,rfl,fZ,b6,L6,bG,bE⟩
  case round=>
   obtain⟨k,M',bX,O',b',gX,bC,rfl,bx,aE,fe,eL,hY⟩:=hrel;have uL:=eL.c8;have fb:=uL.1.1;have dM:=uL.1.2.1;have bW:=uL.1.2.2;have b7:=uL.2.e;clear uL;have m1:wr.cell? (w,1,1)=some ↑(ae (m.h:Int)):=aL dM rfl;have m4:wr.cell? (w,1,4)=some ↑(ao vy aX.length vz):=aL dM rfl;have m5:wr.cell? (w,1,5)=some ↑(ao ss ps.length su):=aL dM rfl;have m6:wr.cell? (w,1,6)=some ↑(ao uH m.aB.length uI):=aL dM rfl;refine q_ ?_;intro m7 k4;have n0:=aL (o:=0) bW rfl;clear fb dM bW;by_cases hk:k<aX.length
   ·obtain⟨oE,o,Hp,fR⟩:=b7.aF.get k hk;dsimp only at Hp;subst Hp;obtain⟨cO,c1,c2,_,_,_,_,_⟩:=nh (w:=wr) (b:=oE) (o:=o+k*8) (x:=aX[k].x) fR;have od:=I (b7.ck _ (cT hk));have ho:k<m.aX.length:=by rw[<-ky.out,cx];exact hk
    have k7:aX[k].d=m.aX[k]:=by
     have af:(aX.map (·.d))[k]? =m.aX[k]? :=by rw[ky.out]
     rw[nd,eK hk,eK ho]at af;exact w9 af
    have qi:j9 aX[k].d:=by rw[k7];exact Mo.out.2 _ (cT ho)
    have jK:=hY.out;rw[Ab ho,<-k7]at jK;have aAy:m.h<=1000000:=Ho.elim id (λe=>by rw[e]at ho;exact absurd ho (Nat.not_lt_zero _));obtain⟨au,_,dh⟩:=bx.c8.st;have r6:gX.s.l.n=b'.st.au.length:=by rw[dh.l.aF.neq,<-dh.jI,cx]
    have iX:=(aE.U6 az).1;have h4:=aL (o:=5) bx.box rfl;have zH:IntKind.u64.wrap ((m.h:Int)+(k:Int))=((m.h+k:Nat):Int):=by rw[G5 _ ⟨J,J⟩];rfl
    have ahf:IntKind.u64.wrap (gX.s.l.n:Int)=(gX.s.l.n:Int):=G5 _ ⟨J,J⟩;have b0:(0:Int)<=(k:Int):=J;have bf:(k:Int)<(aX.length:Int):=J;have bH:=((Z.refl wr).alloc aX[k].x).ag m1;have b1:=((Z.refl wr).alloc aX[k].x).ag k4;have dJ:=((Z.refl wr).alloc aX[k].x).ag n0;have eG:=((Z.refl wr).alloc aX[k].x).ag h4;replace jK:=I jK;replace qi:=I qi;replace r6:=I r6;clear fR k7 dh b7 ho m1 m5 m6 m7 k4 n0 h4;by_cases xp:m.h+k=gX.s.l.n
    ·have Fc:((m.h:Int)+(k:Int) !=(gX.s.l.n:Int))=false:=by simp;omega
     have FD:=I (xp.trans r6);clear xp;obtain⟨qc,z,oe⟩:∃qc z,b'.note c (iA (m.h+k) aX[k].d)=(qc,z):=⟨_,_,rfl⟩;have yu:xX (iA (m.h+k) aX[k].d):=.inr (.inl ⟨_,_,rfl,by unfold gw;omega,qi.ok⟩);replace yu:=I yu;go_wp2_with fail;rw[show((m.h:Int)+(k:Int))=((m.h+k:Nat):Int)from rfl];refine(P2 (bx.ext (w':=wr.alloc aX[k].x) U) aE az aX[k].x (iA (m.h+k) aX[k].d) (od.ext U) (λk=>absurd rfl k.1) (I3 _ qi) yu).mono ?_;rintro e dc⟨iS,hW,mZ,rfl,⟨v9,jb⟩,jB⟩;have pU:=JB aE (I3 (m.h+k) qi) (agP _ _);rw[oe]at jb pU;rw[oe];have oT:=(Z.refl wr).alloc aX[k].x;replace jb:=I jb;replace pU:=I pU;have l5:=I (nv.kS jB (bx.ext oT) (eL.step (.of oT) (b4.ep _ _)));have lG:=I ((fe.ext oT).trans jB);replace oe:=I oe;clear jB oT bH b1 dJ eG;cases z with
     |true=>
      go_wp2;go_roundg (gk - 1);case measure=>omega
      case rel=>exact⟨k+1,iS,hW,mZ,qc,v9,J,by go_num,jb,pU,lG,l5,by rw[<-Nat.add_assoc,<-aug FD.out oe.out];exact jK⟩
     |false=>
      have A6:=jK.out;rw[auh FD.out oe.out]at A6;subst A6;go_wp2;go_meet;exact⟨iS,hW,mZ,v9,jb,pU,lG,l5⟩
    ·have Fc:((m.h:Int)+(k:Int) !=(gX.s.l.n:Int))=true:=by simp;omega
     have FD:aa (m.h+k≠b'.st.au.length):=λe=>xp (e.trans r6.symm);clear xp;go_wp2;go_roundg (gk - 1);case measure=>omega
     case rel=>exact⟨k+1,M',bX,O',b',gX,J,by go_num,bx.ext U,aE,fe.ext U,eL.step (.of U) (b4.ep _ _),by rw[<-Nat.add_assoc,<-auf FD.out];exact jK⟩
   ·have Qj:m.aX.drop k= []:=NC (by rw[<-ky.out,cx];omega);have Qk:=hY.out;rw[Qj]at Qk;have A6:b'=qD:=Qk;subst A6;go_wp2;go_meet;exact⟨M',bX,O',gX,bx,aE,fe,eL⟩
 case rest=>
  obtain⟨nw,Di,r_,v1,Ai,s_,qh,Vs⟩:=hcut;have uL:=Vs.c8;have dM:=uL.1.2.1;have m5:wc.cell? (w,1,5)=some ↑(ao ss ps.length su):=aL dM rfl;have m6:wc.cell? (w,1,6)=some ↑(ao uH m.aB.length uI):=aL dM rfl;have m7:wc.cell? (w,1,7)=some ↑(ao uJ m.aU.length uK):=aL dM rfl;clear uL dM m5 m7 bE;go_wp2_with fail;clear m6;go_loopg [48] m.aB.length (λg dS wr=>∃(k:Nat) (M' bX O':eZ) (b':aT) (gX:gB),g+k=m.aB.length/\dS=.int .i64 (k:Int)/\aa (ea wr M' bX O' c p q b' gX)/\aa (gu c l R n b')/\aa (ik (((w.alloc (.cells #[p] 103)).alloc (.cells #[hl,ae (m.h:Int),na,mc,ao vy aX.length vz,ao ss ps.length su,ao uH m.aB.length uI,ao uJ m.aU.length uK] 232)).alloc (.cells #[(.func (.func 238) #[p] #[])] 224)) M D O wr M' bX O')/\aa (cv M' wr (λw'=>Qi w' p (w:Nat) ⟨hl,(m.h:Int),na,mc,⟨vy,aX.length,vz⟩,⟨ss,ps.length,su⟩,⟨uH,m.aB.length,uI⟩,⟨uJ,m.aU.length,uK⟩⟩ m aX ps))/\aa ((m.aB.take k).foldl (wh c) qD=b'));case atStart=>exact⟨0,nw,Di,r_,qD,v1,J,rfl,Ai,s_,qh,Vs,rfl⟩
  case round=>
   obtain⟨k,M',bX,O',b',gX,bC,rfl,bx,aE,fe,eL,hY⟩:=hrel;have uL:=eL.c8;have fb:=uL.1.1;have dM:=uL.1.2.1;have b7:=uL.2.b;clear uL;have m5:wr.cell? (w,1,5)=some ↑(ao ss ps.length su):=aL dM rfl;refine q_ ?_;intro m7 k4;clear m5;by_cases hk:k<m.aB.length
   ·obtain⟨AK,o,Hp,fR⟩:=b7.get k hk;dsimp only at Hp;subst Hp;obtain⟨cO,c1,c2⟩:=Aj (w:=wr) (b:=AK) (o:=o+k*3) (x:=m.aB[k]) fR;have Ql:m.aB[k]∈R:=sh.out.2 _ (cT hk);have yB:=yh.out _ Ql;have hR:(m.aB.take (k+1)).foldl (wh c) qD=wh c b' m.aB[k]:=by rw[iv hk,Ak,hY.out];rfl
    obtain⟨i,Qm⟩:∃i,m.aB[k]=i:=⟨_,rfl⟩;rw[Qm]at cO c1 c2 Ql yB hR;have pj:aa ((wr.alloc i).heap[(wr:Nat)]?=some (i:Obj)):=e2 rfl;have kd:aa (∀j,j∈b'.bD->dY j):=λj aD=>yh j (aE.bD.2 j aD);have b0:(0:Int)<=(k:Int):=J;have bf:(k:Int)<(m.aB.length:Int):=J;have b1:=((Z.refl wr).alloc i).ag k4;have zH:IntKind.i64.wrap ((k:Int)+1)=(k:Int)+1:=IntWalk.i64_in _ ⟨J,J⟩;replace hR:=I hR;replace Ql:=I Ql;replace yB:=I yB;clear fR b7 k4 fb dM m7 Qm;go_wp2_with fail;refine(H' (bx.ext (w':=wr.alloc i) U) kd i yB).mono ?_;rintro e bA⟨rfl,hi⟩;have Vt:=I (hi.ay pj);have Vu:Z wr bA:=Z.trans ((Z.refl wr).alloc _) hi;have kP:=I (bx.ext Vu);have zV:=I (fe.ext Vu);have DR:=I (eL.step (.of Vu) (b4.ep _ _));have tW:∀x,M' x->x<(wr:Nat):=bx.b5;replace tW:=I tW;replace hi:=I hi;clear Vu bx fe eL pj b1;cases JO:b'.EY i with
    |true=>
     have dN:wh c b' i=b':=by unfold wh;rw[bc JO]
     replace dN:=I dN;clear JO;go_wp2;go_roundg (gk - 1);case measure=>omega
     case rel=>exact⟨k+1,M',bX,O',b',gX,J,by go_num,kP,aE,zV,DR,hR.trans dN⟩
    |false=>
     have dN:wh c b' i=aT.pd c {b' with bD:=b'.bD++[i],tx:=vf b'.tx i} i:=by unfold wh;rw[aV (by rw[JO];decide)]
     have tN:i∉b'.bD:=by
      unfold aT.EY at JO;rw[Nk]at JO;exact O4.1 JO.1
     obtain⟨_,_,_,zK,Qn,AQ,Vv,Hq⟩:=kP.yt;subst Qn AQ;have sd:b'.bD.length<=1000000:=by have:=Qh _ R aE.bD.1 aE.bD.2;have:=Ci.out;omega
     have t_:=I kP.box;have u_:=I DR.c8.1.1;replace dN:=I dN;replace tN:=I tN;replace zK:=I zK;replace Vv:=I Vv;replace Hq:=I Hq;clear JO;go_wp2_with fail;refine Ph 10 (S:=(λw'=>Z bA w')) bQ ?_ (λbd=>?_)
     ·((try dsimp only);exact U)
     refine l1 0 (·.ay u_) ?_;refine gR 1 ?_;refine gR 2 ?_;refine l1 3 (·.ay t_) ?_;refine l1 4 (·.ay Vt) ?_;refine l1 5 (·.ay u_) ?_;refine gR 6 ?_;refine gR 7 ?_;refine l1 8 (·.ay t_) ?_;refine aqP 9 (λfh=>λty=>(zK.ext fh).len JD ty) ?_;refine yf (rs:= [10]) bQ (by simp) ?_;refine Jc rfl (λK aE=>?_) LH;refine PS rfl (PR _ _ _ rfl Fu JD rfl (zK.ext U) Ix rfl rfl (Hf yB) rfl ?_);intro c4 PZ UU;refine aE _ _ (λh=>absurd rfl h) (λ_=>?_);clear aE K;refine ej ?_;refine Ds bQ ?_ _;have Ax:aI (·=gX.tm) bA c4:=(aI.of (show Z bA bA.drew from U)).trans (Vr UU);obtain⟨qj,zJ⟩:=kP.aud Ax (A0.add zK rfl rfl Vv Hq kd yB tN PZ rfl rfl);have My:=aue aE Ql tN;have JP:=I (nv.kS zJ kP DR);have sk:=I ((Ax.block _ (bZ Vt) (λe=>by have:=tW.out _ (kP.sub _ kP.bS.2.2);have e:(wr:Nat)=gX.tm:=e;omega)).trans Vt);replace qj:=I qj;have Mz:=I (zV.trans zJ);replace My:=I My;clear PZ UU Ax zJ DR zV kP Vt t_ u_ zK Vv Hq hi;have ahx:=I qj.box;have v_:=I JP.c8.1.1;obtain⟨ts,db,sq⟩:=qj.c8.tx;have jK:ts.map ca.tx=b'.tx:=sq;have ev:=I (Mc sq (λt bm=>(My.tx t bm).eC));have qg:gX.tx.n<=1000:=by rw[db.aF.neq,<-cx (f:=ca.tx),sq];have:=My.sV;omega
     replace jK:=I jK;have auj:=I qj.b5;replace db:=I db;clear sq;go_wp2_with fail;refine Ph 9 (S:=(λw'=>Z c4 w')) bQ ?_ (λbd=>?_)
     ·((try dsimp only);exact U)
     refine l1 0 (·.ay v_) ?_;refine l1 1 (·.ay v_) ?_;refine gR 2 ?_;refine gR 3 ?_;refine l1 4 (·.ay ahx) ?_;refine l1 5 (·.ay sk) ?_;refine yf (rs:= [6]) bQ (by simp) ?_;refine Fa ?_;intro K aE;go_at_call 240;refine(Un _ _ _ ts i _ (db.ext U) ev qg).mono ?_;rintro e dR⟨ch,cF,c2,vt,rfl,o0,pz,bq⟩;refine Qo ?_;clear bd K aE;intro bd;refine yf (rs:= [7]) bQ (by simp) ?_;refine Fa ?_;intro K aE;refine Qo ?_;clear bd K aE;intro bd;refine gR 8 ?_;have Qp:Z c4 dR:=U;have Qq:=qj.ext Qp;have fN:=o0.b5 (λx k=>fQ (auj x k) (Z.size (show Z c4 c4.drew from U)));have w_:=I (Qp.ay sk);clear o0;obtain⟨-,-,-,-,-,-,-,-,cO,auk⟩:=xR Qq.box;refine yf (rs:= [9]) bQ (by simp) ?_;refine Fa ?_;intro K aE;refine aE _ _ (λh=>absurd rfl h) (λ_=>?_);clear aE K;refine ej ?_;refine Ds bQ ?_ _;obtain⟨kJ,wD⟩:=Qq.rM (w':=dR.setCell (p,8) (ao ch cF c2)) (t:=⟨ch,cF,c2⟩) (tx:=vf (ts.map ca.tx) i) (fN.mono (λw k=>⟨vt,k,pz⟩)) rfl;have Vw:=agQ My i;rw[jK.out]at kJ;have sc:=ik.mW (M:=M') (D:=bX) wD Qq.bS.1;have tU:=nv.kS sc Qq (JP.step (.of Qp) (b4.ep _ _));have ahy:=I ((wD.block _ (bZ w_) (λe=>by have:=tW.out _ (qj.sub _ qj.bS.1);have e:(wr:Nat)=p:=e;omega)).trans w_);replace kJ:=I kJ;replace Vw:=I Vw;have jL:=I ((Mz.ext Qp).trans sc);replace tU:=I tU;replace bq:=I bq;clear wD sc Qq fN cO auk Qp pz bq JP Mz qj My ahx v_ sk w_ db;generalize dR.setCell (p,8) (ao ch cF c2)=e1 at kJ jL tU ahy ⊢;obtain⟨ct,i1,mv⟩:=jm ahy;go_wp2_with fail;refine(aho kJ Vw az i yB w (w.heap.size+1+1) tU.c8.1.1 tU.c8.1.2.2).mono ?_;rintro e dc⟨iS,hW,mZ,rfl,⟨v9,jb⟩,jB⟩;replace jb:=I jb;have pU:=I (agS Vw yB);have l5:=I (nv.kS jB kJ tU);have lG:=I (jL.trans jB);clear jB ct i1 mv;go_wp2;go_roundg (gk - 1);case measure=>omega
     case rel=>exact⟨k+1,iS,hW,mZ,_,v9,J,by go_num,jb,pU,lG,l5,hR.trans dN⟩
   ·have cb:m.aB.take k=m.aB:=iU J;rw[cb]at hY;have A6:=hY.out;subst A6;clear cb hY b7 fb dM;go_wp2_with fail;clear m7 k4;go_loopg [81] m.aU.length (λg dS wr=>∃(k:Nat) (M' bX O':eZ) (b':aT) (gX:gB),g+k=m.aU.length/\dS=.int .i64 (k:Int)/\aa (ea wr M' bX O' c p q b' gX)/\aa (gu c l R n b')/\aa (ik (((w.alloc (.cells #[p] 103)).alloc (.cells #[hl,ae (m.h:Int),na,mc,ao vy aX.length vz,ao ss ps.length su,ao uH m.aB.length uI,ao uJ m.aU.length uK] 232)).alloc (.cells #[(.func (.func 238) #[p] #[])] 224)) M D O wr M' bX O')/\aa (cv M' wr (λw'=>Qi w' p (w:Nat) ⟨hl,(m.h:Int),na,mc,⟨vy,aX.length,vz⟩,⟨ss,ps.length,su⟩,⟨uH,m.aB.length,uI⟩,⟨uJ,m.aU.length,uK⟩⟩ m aX ps))/\aa ((m.aU.take k).foldl (aT.pd c) (m.aB.foldl (wh c) qD)=b'));case atStart=>exact⟨0,M',bX,O',_,gX,J,rfl,bx,aE,fe,eL,rfl⟩
    case round=>
     obtain⟨k,_,_,_,b',_,_,rfl,bx,aE,fe,eL,hY⟩:=hrel;have uL:=eL.c8;have fb:=uL.1.1;have dM:=uL.1.2.1;have b7:=uL.2.d;have m5:wr.cell? (w,1,5)=some ↑(ao ss ps.length su):=aL dM rfl;refine q_ ?_;intro m7 k4;clear uL;by_cases hk:k<m.aU.length
     ·obtain⟨AK,o,Hp,fR⟩:=b7.get k hk;dsimp only at Hp;subst Hp;obtain⟨cO,c1,c2⟩:=Aj (w:=wr) (b:=AK) (o:=o+k*3) (x:=m.aU[k]) fR;have yB:=JN.out.2 _ (cT hk);have hR:(m.aU.take (k+1)).foldl (aT.pd c) (m.aB.foldl (wh c) qD)=b'.pd c m.aU[k]:=by rw[iv hk,Ak,hY.out];rfl
      obtain⟨i,Qm⟩:∃i,m.aU[k]=i:=⟨_,rfl⟩;rw[Qm]at cO c1 c2 yB hR;have b0:(0:Int)<=(k:Int):=J;have bf:(k:Int)<(m.aU.length:Int):=J;have oT:=(Z.refl wr).alloc i;have kJ:=I (bx.ext oT);have jL:=I (fe.ext oT);have tU:=I (eL.step (.of oT) (b4.ep _ _));replace hR:=I hR;replace yB:=I yB;clear fR b7 k4 fb dM m5 m7 Qm bx fe eL oT;go_wp2_with fail;refine(aho kJ aE az i yB w (w.heap.size+1+1) tU.c8.1.1 tU.c8.1.2.2).mono ?_;rintro e dc⟨iS,hW,mZ,rfl,⟨v9,jb⟩,jB⟩;replace jb:=I jb;have pU:=I (agS aE yB);have l5:=I (nv.kS jB kJ tU);have lG:=I (jL.trans jB);clear jB;go_wp2;go_roundg (gk - 1);case measure=>omega
      case rel=>exact⟨k+1,iS,hW,mZ,_,v9,J,by go_num,jb,pU,lG,l5,hR⟩
     ·have cb:m.aU.take k=m.aU:=iU J;rw[cb]at hY;have A6:=hY.out;subst A6;have iq:=gF.out;have Hr:=rU.out;clear cb hY b7 fb dM m7;go_wp2_with fail;refine(at8 bx aE az (λj aD=>yh j (aE.bD.2 j aD)) ss ps.length su ps eL.c8.2.p (λy hy=>DJ.out.2 y.d (by rw[<-Hr];exact nH hy)) xp).mono ?_;rintro e _⟨iS,hW,mZ,rfl,Hs,jB⟩;rw[Hr,iq]at Hs;go_wp2;try rw[Exit.aAz]
      go_end0;exact⟨iS,hW,mZ,rfl,Hs,(fe.trans jB).cN U⟩
def ahz{b:aT}(H:ea w M D O c p q b v)(z:Int)(tx:List gy)(a:bl)(n cap:Nat)(ts:List ca)(bu:cv M w (λw=>tM w a n cap ts))(bF:ts.map ca.tx=tx):
  aS 95 #[p,ao a n cap,z] w (xv c p q w M D O (.int .i64 (b.ag (z,tx)).1) (b.ag (z,tx)).2):=by
 replace H:=I H;replace bu:=I bu;replace bF:=I bF;go_enter func95,ntmps95;by_cases bp:z=0
 ·have ad:b.ag (z,tx)=(0,{b with tx:=tx}):=by unfold aT.ag;exact bc bp
  rw[ad];subst bp;clear ad;obtain⟨wC,zT⟩:=H.rM (w':=w.setCell (p,8) (ao a n cap)) (t:=⟨a,n,cap⟩) (tx:=tx) (bu.mono (λw k=>⟨ts,k,bF⟩)) rfl;replace wC:=I wC;replace zT:=I zT;obtain⟨-,-,-,-,-,-,-,-,wq,_⟩:=xR H.box;go_wp2;go_ret;exact⟨_,_,_,rfl,⟨_,wC⟩,ik.mW zT H.bS.1⟩
 ·have ad:b.ag (z,tx)=(z,b):=by unfold aT.ag;exact aV bp
  rw[ad];have aul:(z==0)=false:=beq_eq_false_iff_ne.2 bp;clear ad;go_wp2;go_ret;exact⟨_,_,_,rfl,⟨v,H⟩,ik.refl _ _ _ _⟩
def aum{b:aT}(H:ea w M D O c p q b v)(hk:gu c l R n b)(i:ax):
  aS 61 #[p,i] w (xv c p q w M D O (.int .i64 (b.yc i).1) (b.yc i).2):=by
 refine x_ ?_;intro ts db jK ev qg gW gD s5;have bk:∀w',Z w w'->aS 97 #[v.tx,i] w' (wx (GH b.tx i) w'):=λw' X=>jK▸arS _ _ _ ts i w' (db.ext X) ev qg;unfold aT.yc;generalize GH b.tx i=r at bk ⊢;change aa _ at H db jK;clear hk;go_enter func61,ntmps61;go_wp2_with fail;refine rN 9 (λw'=>Z (w.alloc i) w') (λbd=>?_);refine tS ?_;refine y_ ?_;refine jz 6 λK aE=>?_;go_simp;go_at_call 97;exact ahA
def aun{b:aT}(H:ea w M D O c p q b v)(hk:gu c l R n b)(i:ax):
  aS 121 #[p,i] w (xv c p q w M D O (.int .i64 (aT.rJ b i).1) (aT.rJ b i).2):=by
 refine x_ ?_;intro ts db jK ev qg gW gD s5;have bk:∀w',Z w w'->aS 190 #[v.tx,i] w' (wx (GI b.tx i) w'):=λw' X=>jK▸arR _ _ _ ts i w' (db.ext X) ev qg;unfold aT.rJ;generalize GI b.tx i=r at bk ⊢;change aa _ at H db jK;clear hk;go_enter func121,ntmps121;go_wp2_with fail;refine rN 9 (λw'=>Z (w.alloc i) w') (λbd=>?_);refine tS ?_;refine y_ ?_;refine jz 6 λK aE=>?_;go_simp;go_at_call 190;exact ahA
def auo{b:aT}(H:ea w M D O c p q b v)(hk:gu c l R n b)(i:ax)(dL:bl)(eC dO:Nat)(xs:List cI)(sJ:a7 w 4 cI.cs dL eC dO xs)(AT:∀y,y∈xs->lx y.n):
  aS 60 #[p,i,ao dL eC dO] w (xv c p q w M D O (.int .i64 (b.wo i xs).1) (b.wo i xs).2):=by
 refine x_ ?_;intro ts db jK ev qg gW gD s5;have mw:∀p,p∈ts->p.a=false->p.e.k=1/\gZ p.e:=λp aY ak=>by
  have af:=hk.tx p.tx (by rw[<-jK];exact nH aY);exact⟨(af.I5 ak).1,af.eC.ok⟩
 have bk:∀w',Z w w'->aS 96 #[v.tx,i,ao dL eC dO] w' (wx (GG b.tx i xs) w'):=λw' X=>jK▸arV _ _ _ _ _ _ ts i xs w' (db.ext X) ev qg mw (sJ.ext X) AT;unfold aT.wo;generalize GG b.tx i xs=r at bk ⊢;change aa _ at H db jK;clear hk mw;go_enter func60,ntmps60;go_wp2_with fail;refine rN 10 (λw'=>Z (w.alloc i) w') (λbd=>?_);refine tS ?_;refine y_ ?_;refine dC 6 ?_;refine jz 7 λK aE=>?_;go_simp;go_at_call 96;refine ahB ?_;intro aN ch cF c2 vt bq cd kc hH bd;refine dC 8 ?_;refine dC 9 ?_;refine jz 10 λK aE=>?_;go_simp;go_at_call 95;refine(ahz (H.ext U) r.1 r.2 ch cF c2 vt cd kc).mono ?_;rintro e _⟨M',bX,O',rfl,Vm,Hc⟩;refine aE _ _ (λ_ h=>absurd rfl h) λ_=>ej ?_;refine jz 11 λK aE=>?_;exact ahC
def JQ(c:bK)(p q:Nat)(w:World)(M D O:Nat->Prop)(i:ax)(r:Int×aT)(e:Ending)(w':World):Prop:=xv c p q w M D O (.tuple #[i,r.1]) r.2 e w'
def MA(w:aC){a b:Addr}(u v:Value)(h:a.block≠b.block):(w.setCell a u).setCell b v=(w.setCell b v).setCell a u:=by
 unfold World.setCell;congr 1;apply Array.ext_getElem?;intro i;simp only[SR];by_cases ak:a.block=i
 ·by_cases ad:b.block=i
  ·exact absurd (ak.trans ad.symm) h
  ·simp[ak,ad]
 ·by_cases ad:b.block=i
  ·simp[ak,ad]
  ·simp[ak,ad]
def aup(w:aC){R i j:Nat}(x y a b c:Value)(h:p≠R):((((w.setCell (p,i) x).setCell (p,j) y).setCell (R,0) a).setCell (R,1) b).setCell (R,2) c=((((w.setCell (R,0) a).setCell (R,1) b).setCell (R,2) c).setCell (p,i) x).setCell (p,j) y:=by
 rw[MA (w.setCell ⟨p,i,none⟩ x) (a:=⟨p,j,none⟩) (b:=⟨R,0,none⟩) y a h,MA w (a:=⟨p,i,none⟩) (b:=⟨R,0,none⟩) x a h,
  MA _ (a:=⟨p,j,none⟩) (b:=⟨R,1,none⟩) y b h,MA _ (a:=⟨p,i,none⟩) (b:=⟨R,1,none⟩) x b h,
  MA _ (a:=⟨p,j,none⟩) (b:=⟨R,2,none⟩) y c h,MA _ (a:=⟨p,i,none⟩) (b:=⟨R,2,none⟩) x c h]
def Ht{R:Nat}{cO c1 c2:Value}{t:TypeId}{fr:Nat×Nat}(h:w.heap[R]?=some (.cells #[cO,c1,c2] t fr))(v0 v1 v2:Value):(((w.setCell (R,0) v0).setCell (R,1) v1).setCell (R,2) v2).heap[R]?=some (.cells #[v0,v1,v2] t fr):=
 en (en (en h 0 v0) 1 v1) 2 v2
def z_{R:Nat}(h:Z w w')(bB:(w:Nat)<=R)(v0 v1 v2:Value):Z w (((w'.setCell (R,0) v0).setCell (R,1) v1).setCell (R,2) v2):=((h.setCell bB _).setCell bB _).setCell bB _
def qI.gE{S:eZ}{c:Nat}(h:qI w base a n c ts)(aj:aI S w w')(bj:∀x,S x->x<base):qI w' base a n c ts:=⟨h.cj.gE aj bj,λp aY=>(h.ck p aY).gE aj bj⟩
def tX(z:Int)(i:ax):ax:=if z=0 then i else ⟨0,0,0⟩
def ea.auq{b:aT}(h:ea w M D O c p q b v)(he:w'=w.setCell (p,9) (ae (k:Int))):
  ea w' M D O c p q {b with fX:=k} v/\aI (·=p) w w':=by
 subst he;have aj:=(aI.refl (·=p) w).setCell (p,9) (.inl rfl) (ae (k:Int));refine⟨h.mW aj (en h.box 9 _) ?_ rfl rfl rfl rfl rfl rfl,aj⟩;exact(h.l3.mono (λw k=>⟨k.cL,k.ak,k.st,k.tx,k.gP,k.dT⟩)).step (aj.cQ (h.sub _ h.bS.1)) (b4.ep _ _)
def A_{b:aT}(H:ea w M D O c p q b v)(cl:Int)(c6:b.xl c cl=true)(hv:b.fX<=1000000)(fn:Nat)(aR:Array Value)(r:Int×List gy)(bk:∀args w,(callFunc fn args).run prog w=.ok (.enter fn args) w)(b8:∀w',Z w w'->aS fn (#[.agg #[b.gQ.b,ae b.gQ.l,ae b.gQ.s]]++aR) w' (wx r w')):
  aS 82 #[p,cl,.func (.func fn) #[] aR] w (JQ c p q w M D O (tX r.1 b.gQ) (b.pL r)):=by
 replace H:=I H;replace b8:=I b8;have gD:=I H.box;have gW:=I H.b5;go_enter func82,ntmps82;go_wp2_with fail;refine(A' (H.ext U) cl).mono ?_;rintro e bh⟨rfl,b3⟩;rw[c6];replace b3:=I b3;clear c6;have Mq:=I ((show Z w bh from U).ay gD);obtain⟨_,_,dh⟩:=H.c8.st;have Dw:=dh.cX;clear dh;have dU:bh.cell? (p,0)=some ↑(b.dd:Int):=aL Mq rfl;have iM:bh.cell? (p,4)=some ↑(ae (b.st.l:Int)):=by rw[<-Dw];exact aL Mq rfl
 have Dr:bh.cell? (p,9)=some ↑(ae (b.fX:Int)):=aL Mq rfl;have Fq:aa (bh.heap[(w:Nat)]?=some (hr:Obj)):=(b3.ay gA);have n9:=I Fq;go_upto_region 5 with (fail);go_cut [8] (λu eD=>u=.pointer (some (bh,0))/\aa (eD.heap[(bh:Nat)]?=some (b.gQ:Obj))/\aa (Z bh eD));case first=>
  have Qr:IntKind.u64.wrap ((b.fX:Int)+1)=((b.fX+1:Nat):Int):=by rw[G5 _ ⟨J,J⟩];rfl
  replace Qr:=I Qr;refine sX (Z bh) (λbd=>?_);refine AU ?_;refine zD 3 (·.ag dU) ?_;refine Jr ?_;refine de 7 ?_;refine zD 8 (·.ag iM) ?_;refine de 9 ?_;refine de 10 ?_;refine de 11 ?_;refine zD 12 (·.ag Dr) ?_;refine de 13 ?_;refine de 14 ?_;refine h9 15 λK aE=>?_;(go_simp;skip;refine zS ?_;intro bd);refine h9 16 λK aE=>?_;go_simp;refine aE _ _ ?_ (λbd=>?_)
  focus ((try dsimp only);exact U)
  clear aE K;refine ej ?_;refine og bQ ?_ _;go_wp2;go_meet;refine⟨rfl,I ?_,U⟩;rw[Qr.out];show(bh.alloc _).heap[(bh:Nat)]? =_;rw[e2 rfl];rfl
 case rest=>
  obtain⟨rfl,eL,_⟩:=hcut;have wF:=eL.out;obtain⟨ct,i1,mv⟩:=jm wF;clear wF dU iM Dr;go_wp2_with fail;refine(b8 _ U).mono ?_;rintro e aN⟨ch,cF,c2,vt,rfl,o0,kc,bq⟩;replace bq:=I bq;have cd:=I (o0.mono (aBw:=(bh:Nat)) (Z.size U));replace kc:=I kc;have oS:=I (bq.ay eL);have cU:=I ((show Z bh aN from U).ay n9);clear o0 ct i1 mv;obtain⟨z,tx⟩:=r;dsimp only at kc ⊢;obtain⟨_,_,_⟩:=jm oS;obtain⟨_,_,_,_⟩:=qu cU;by_cases bp:z=0
  ·subst bp;have Vx:=H.ext (w':=aN) U;have aAA:=aL (o:=8) Vx.box rfl;have aAB:aN.cell? (p,9)=some ↑(ae (b.fX:Int)):=aL Vx.box rfl;have adQ:∀j,aN.frozen? ⟨p,j,none⟩=false:=λj=>nM Vx.box;have ahD:(w:Nat)≠p:=λe=>by have:=bZ H.box;omega
   have Qs:=z_ (show Z w aN from U) (bJ _) (.int .i64 (b.gQ.b)) (ae (b.gQ.l)) (ae (b.gQ.s));have aur:=aup aN (p:=p) (R:=(w:Nat)) (i:=8) (j:=9) (ao ch cF c2) (.int .u64 ((b.fX:Int)+1)) (.int .i64 (b.gQ.b)) (ae (b.gQ.l)) (ae (b.gQ.s)) ahD.symm;obtain⟨P4,wD⟩:=(H.ext Qs).rM (t:=⟨ch,cF,c2⟩) (tx:=tx) (((cd.gE (xS (S:=(·=(w:Nat))) (aI.refl _ aN) (.inl rfl) 0 1 2 (.int .i64 (b.gQ.b)) (ae (b.gQ.l)) (ae (b.gQ.s))) (λx e=>by have:=bZ n9;omega)).b5 (λx k=>fQ (gW x k) (Z.size U))).mono (λw k=>(⟨vt,k,kc⟩:∃ts,tM w ch cF c2 ts/\ts.map ca.tx=tx))) rfl;obtain⟨aus,ahE⟩:=P4.auq (k:=b.fX+1) rfl;have ad:=(wD.trans ahE).block w (fQ (bZ cU) (Nat.le_of_eq (by simp[World.setCell]))) ahD;rw[Ht cU.out,show(((b.fX+1:Nat)):Int)=(b.fX:Int)+1 from rfl]at ad;clear Vx;go_wp2_with fail;try rw[aur]
   obtain⟨z0,cZ,z2⟩:=jm ad;refine ke (v:=.tuple #[b.gQ,av]) (by simp[results,results82,go_sem,z0,cZ,z2]) rfl ?_;have cm:b.pL (0,tx)=(0,{b with tx:=tx,fX:=b.fX+1}):=rfl;have cq:tX 0 b.gQ=b.gQ:=rfl;rw[cm,cq];exact⟨M,D,O,rfl,⟨_,aus⟩,(ik.mW (wD.trans ahE) H.bS.1).cN Qs⟩
  ·have aul:(z !=0)=true:=bne_iff_ne.2 bp;go_wp2_with fail;have Qs:=z_ (show Z w aN from U) (bJ _) av aw aw;have ad:=Ht cU av aw aw;obtain⟨z0,cZ,z2⟩:=jm ad;refine ke (v:=.tuple #[.agg #[av,aw,aw],z]) (by simp[results,results82,go_sem,z0,cZ,z2]) rfl ?_;have cm:b.pL (z,tx)=(z,b):=by unfold aT.pL;exact aV bp
   have cq:tX z b.gQ=⟨0,0,0⟩:=aV bp;rw[cm,cq];exact⟨M,D,O,rfl,⟨v,H.ext Qs⟩,.of Qs⟩
def aut{b:aT}(H:ea w M D O c p q b v)(hk:gu c l R n b)(i:ax)(cl:Int)(fx gb:Nat)(FB:w.heap[fx]?=some (.cells #[p] 103 (0,0)))(w0:w.heap[gb]?=some (.cells #[cl] 3 (0,0)))(aG:gZ (yj i cl)):
  aS 93 #[i,fx,gb] w (wx (oN b.tx ⟨yj i cl,false⟩) w):=by
 refine B_ ?_;intro ts db sq ev qg gD s5 Mu JR;have bk:∀w',Z w w'->aS 94 #[v.tx,i,cl] w' (wx (oN b.tx ⟨yj i cl,false⟩) w'):=λw' X=>sq▸arQ _ _ _ ts i cl w' (db.ext X) ev qg aG;generalize oN b.tx ⟨yj i cl,false⟩=r at bk ⊢;change aa _ at H db;clear hk sq FB w0 aG;go_enter func93,ntmps93;refine Vl ?_;intro _ _ bd;refine l0 4 (·.ay s5) ?_;refine l0 5 (·.ay JR) ?_;refine h9 6 λK aE=>?_;(go_simp;(go_at_call 94;refine C_ ?_;intro aN ch cF c2 vt bq cd kc);refine zS ?_;intro bd);refine de 7 ?_;refine de 8 ?_;refine de 9 ?_;refine de 10 ?_;exact D_
def auu{b:aT}(H:ea w M D O c p q b v)(hk:gu c l R n b)(i:ax)(cl:Int)(u:Nat)(eS:bl)(fn eT:Nat)(jY:List T)(fx gb bW Xz:Nat)(FB:w.heap[fx]?=some (.cells #[p] 103 (0,0)))(w0:w.heap[gb]?=some (.cells #[cl] 3 (0,0)))(nN:w.heap[bW]?=some (.cells #[ae (u:Int)] 41 (0,0)))(Qd:w.heap[Xz]?=some (.cells #[ao eS fn eT] 36 (0,0)))(hF:a7 w 5 T.cs eS fn eT jY)(BK:jY.length<=100)(aK:dY i)(hv:0<=cl/\cl<32)(aG:nE jY=true->gZ (⟨2,i,cl,(u:Int),jY,[]⟩:bb)):
  aS 83 #[i,fx,gb,bW,Xz] w (wx (GF (nE jY) b.tx ⟨(⟨2,i,cl,(u:Int),jY,[]⟩:bb),true⟩) w):=by
 refine B_ ?_;intro ts db sq ev qg gD s5 Mu JR;have Hm:=I (((Z.refl w).alloc i).ay nN);have auv:=I (((Z.refl w).alloc i).ay Qd);have ahF:G8 (Yd (nE jY)) b.tx ⟨(⟨2,i,cl,(u:Int),jY,[]⟩:bb),true⟩=GF (nE jY) b.tx ⟨(⟨2,i,cl,(u:Int),jY,[]⟩:bb),true⟩:=by
  cases bp:nE jY
  ·rfl
  ·refine LR.trans ?_;unfold GF oN;by_cases hs:jJ b.tx i<b.tx.length
   ·rw[bc hs,bc hs]
   ·rw[aV hs,aV hs,aV (by decide:¬(true=false))]
 have bk:∀w',Z w w'->aS 84 #[v.tx,.agg #[bo 2,i.b,ae i.l,ae i.s,cl,ae (u:Int),ao eS fn eT,aP]] w' (wx (GF (nE jY) b.tx ⟨(⟨2,i,cl,(u:Int),jY,[]⟩:bb),true⟩) w'):=λw' X=>by
  rw[<-ahF,<-sq];exact afR (Yd (nE jY)) _ _ _ ts ⟨2,i,cl,(u:Int),⟨eS,fn,eT⟩,⟨none,0,0⟩⟩ (⟨2,i,cl,(u:Int),jY,[]⟩:bb) w' (db.ext X) ev qg ⟨rfl,rfl,rfl,rfl,hF.ext X,⟨[],rfl,⟨a7.nil _ eu.bI,λy hy=>by cases hy⟩⟩⟩ ⟨BK,by simp,λe he=>by cases he⟩ (λey cG=>ac4 _ _ _ _ _ _ _ _ _ _ jY ey aK.b.1 aK.b.2 hv.1 hv.2 (hF.ext (X.trans cG))) (λbp=>aG (by cases bs:nE jY with|true=>rfl|false=>rw[bs]at bp;exact absurd bp ah))
 generalize GF (nE jY) b.tx ⟨(⟨2,i,cl,(u:Int),jY,[]⟩:bb),true⟩=r at bk ⊢;change aa _ at H db;clear hk sq FB w0 nN Qd aG ahF;go_enter func83,ntmps83;refine Vl ?_;intro _ _ bd;refine l0 4 (·.ay s5) ?_;refine l0 5 (·.ay JR) ?_;refine l0 6 (·.ay Hm) ?_;refine l0 7 (·.ay auv) ?_;refine de 8 ?_;refine h9 9 λK aE=>?_;(go_simp;(go_at_call 84;refine C_ ?_;intro aN ch cF c2 vt bq cd kc);refine zS ?_;intro bd);refine Ux ?_;refine de 13 ?_;exact D_
def auw{b:aT}(H:ea w M D O c p q b v)(hk:gu c l R n b)(i:ax)(cl:Int)(u:Nat)(fx gb bW:Nat)(FB:w.heap[fx]?=some (.cells #[p] 103 (0,0)))(w0:w.heap[gb]?=some (.cells #[cl] 3 (0,0)))(nN:w.heap[bW]?=some (.cells #[ae (u:Int)] 41 (0,0)))(aK:dY i)(hv:0<=cl/\cl<32)(aG:gZ (⟨3,i,cl,(u:Int),[],[]⟩:bb)):
  aS 189 #[i,fx,gb,bW] w (wx (oN b.tx ⟨(⟨3,i,cl,(u:Int),[],[]⟩:bb),true⟩) w):=by
 refine B_ ?_;intro ts db sq ev qg gD s5 Mu JR;have Hm:=I (((Z.refl w).alloc i).ay nN);have bk:∀w',Z w w'->aS 84 #[v.tx,.agg #[bo 3,i.b,ae i.l,ae i.s,cl,ae (u:Int),aP,aP]] w' (wx (oN b.tx ⟨(⟨3,i,cl,(u:Int),[],[]⟩:bb),true⟩) w'):=λw' X=>by
  rw[<-LR,<-sq];exact afR 0 _ _ _ ts ⟨3,i,cl,(u:Int),⟨none,0,0⟩,⟨none,0,0⟩⟩ (⟨3,i,cl,(u:Int),[],[]⟩:bb) w' (db.ext X) ev qg ⟨rfl,rfl,rfl,rfl,a7.nil _ T.bI,⟨[],rfl,⟨a7.nil _ eu.bI,λy hy=>by cases hy⟩⟩⟩ ⟨by simp,by simp,λe he=>by cases he⟩ (λey cG=>ac6 _ _ _ _ _ _ _ _ _ ey aK.b.1 aK.b.2 hv.1 hv.2 (a7.nil _ T.bI)) (λ_=>aG)
 generalize oN b.tx ⟨(⟨3,i,cl,(u:Int),[],[]⟩:bb),true⟩=r at bk ⊢;change aa _ at H db;clear hk sq FB w0 nN aG;go_enter func189,ntmps189;refine Vl ?_;intro _ _ bd;refine l0 4 (·.ay s5) ?_;refine l0 5 (·.ay JR) ?_;refine l0 6 (·.ay Hm) ?_;refine de 7 ?_;refine h9 8 λK aE=>?_;(go_simp;(go_at_call 84;refine C_ ?_;intro aN ch cF c2 vt bq cd kc);refine zS ?_;intro bd);refine de 9 ?_;refine Ux ?_;exact D_
def ea.cell{b:aT}{R:Nat}(h:ea w M D O c p q b v)(X:Z w w1)(bB:(w:Nat)<=R)(xT:R<(w1:Nat)):
  ea w1 (k9 M (·=R)) D O c p q b v/\nv w M D O w1 (k9 M (·=R)) D O:=by
 have bk:b4 w M (k9 M (·=R)):=⟨λ_ k=>.inl k,λy hy=>hy.imp id (λe=>(show y=R from e)▸bB)⟩;refine⟨h.step (S:=λ_=>False) (.of X) (λ_ k=>k.elim) (λ_ _ k=>k) bk (λy hy=>?_),⟨.of X,b4.refl _ _,b4.refl _ _,bk⟩⟩;rcases hy with hy|hy
 ·exact fQ (h.b5 y hy) X.size
 ·rw[show y=R from hy];exact xT
def ea.E_{Vy:aC}{iS hW mZ:eZ}{b qc:aT}{v9:gB}{R:Nat}(h:ea w M D O c p q b v)(X:Z w w1)(bB:(w:Nat)<=R)(xT:R<(w1:Nat))(o5:ea dc iS hW mZ c p q qc v9)(hm:ik w1 (k9 M (·=R)) D O dc iS hW mZ)(aj:aI (·=R) dc Vy):∃M',ea Vy M' hW mZ c p q qc v9/\ik w M D O Vy M' hW mZ:=by
 have gW:=h.b5;have auy:iS R:=hm.m.up R (.inr rfl);have auz:¬hW R:=λk=>(hm.d.new R k).elim (λz=>by have:=gW R (h.sm R z);omega) (λz=>by omega);have auA:¬mZ R:=λk=>(hm.o.new R k).elim (λz=>by have:=gW R (h.sub R z);omega) (λz=>by omega)
 have bx:=o5.step aj (λx e=>(show x=R from e)▸auy) (λx cG e=>by
  have e:x=R:=e;subst e
  exact cG.elim auz auA) (b4.ep _ _) (λx k=>fQ (o5.b5 x k) aj.size)
 have fe:=((h.cell X bB xT).2.xj hm).row aj (λx e=>(show x=R from e)▸bB) (b4.ep _ _);exact⟨_,fe.wE bx h.sm h.sub⟩
def auB{b:aT}(H:ea w M D O c p q b v)(b6:gu c l R n b)(cl:Int)(c6:b.xl c cl=true)(hv:b.fX<=1000000)(cJ:gZ (yj b.gQ cl)):
  aS 57 #[p,cl] w (JQ c p q w M D O (tX (b.uy cl).1 b.gQ) (b.uy cl)):=by
 obtain⟨r,cw⟩:∃r,oN b.tx ⟨yj b.gQ cl,false⟩=r:=⟨_,rfl⟩;have zX:b.uy cl=b.pL r:=by rw[<-cw];rfl
 have yC:(b.uy cl).1=r.1:=by rw[zX];unfold aT.pL;split<;>simp_all
 rw[zX]at yC ⊢;rw[yC];unfold JQ;rw[yC];change aa _ at cw;have pj:=I (show(((w.alloc (.cells #[p] 103)).alloc (.cells #[cl] 3)).alloc hr).heap[(w:Nat)]?=some (.cells #[p] 103)from gA);have Qt:=I (show(((w.alloc (.cells #[p] 103)).alloc (.cells #[cl] 3)).alloc hr).heap[(w:Nat)+1]?=some (.cells #[cl] 3)from gA);change aa _ at H b6 cJ;clear zX;go_enter func57,ntmps57;have fs:(w.heap.size+1+1)<(((w.alloc (.cells #[p] 103)).alloc (.cells #[cl] 3)).alloc hr).heap.size:=by simp
 obtain⟨Cj,wB⟩:=H.cell (w1:=(((w.alloc (.cells #[p] 103)).alloc (.cells #[cl] 3)).alloc hr)) (R:=(w.heap.size+1+1)) U J fs;have Hu:=I (show(((w.alloc (.cells #[p] 103)).alloc (.cells #[cl] 3)).alloc hr).heap[(w.heap.size+1+1)]?=some (hr:Obj)from gA);go_wp2_with fail;refine(A_ Cj cl c6 hv 93 #[.pointer (some ⟨w.heap.size,0,none⟩),.pointer (some ⟨w.heap.size+1,0,none⟩)] r (λ_ _=>by kernel_rfl) (λw' X=>cw.out▸aut (Cj.ext X) b6 b.gQ cl w.heap.size (w.heap.size+1) (X.ay pj) (X.ay Qt) cJ)).mono ?_;rintro e dc⟨_,hW,mZ,rfl,⟨v9,jb⟩,lG⟩;have yg:¬n5 D O (w.heap.size+1+1):=λk=>k.elim (λz=>by have:=H.b5 _ (H.sm _ z);omega) (λz=>by have:=H.b5 _ (H.sub _ z);omega);have BB:=(lG.ee.block _ fs yg).trans Hu;change aa _ at jb lG yg;clear Cj wB;refine F_ ?_;intro dS MB z0 cZ z2 mT hF;have fN:=xS (S:=(·=(w.heap.size+1+1))) (aI.refl _ dc) (R:=(w.heap.size+1+1)) (.inl rfl) 0 1 2 dS.b (ae dS.l) (ae dS.s);obtain⟨M',xz,vr⟩:=H.E_ (w1:=(((w.alloc (.cells #[p] 103)).alloc (.cells #[cl] 3)).alloc hr)) (R:=(w.heap.size+1+1)) U J fs jb lG fN;change aa _ at xz vr;clear fN BB;go_wp2_with fail;obtain⟨cA,cR,cS⟩:=jm hF;refine ke (v:=.tuple #[dS,r.1]) (by simp[results,results57,go_sem,cA,cR,cS,yC]) rfl ?_;exact G_
def auC{b:aT}(H:ea w M D O c p q b v)(e3:O0 b.st):
  aS 40 #[p] w (Zu b.st w):=by
 obtain⟨au,ps,dN⟩:=H.c8.st;have Bp:v.s.l.n<=1000000:=by rw[dN.l.aF.neq,<-cx (f:=(·.d)),dN.jI];have:=e3.se;omega
 have o6:v.s.p.n<=1000000:=by rw[dN.p.aF.neq,<-cx (f:=(·.d)),dN.kV];have:=e3.h6;omega
 have xb:v.s.b.n<=10000000:=by rw[dN.b.neq];have:=e3.bW;omega
 have iB:=I (Mb dN.jI (λd aG=>e3.au d aG));have nW:=I (Mb dN.kV (λd aG=>e3.ps d aG));have gD:=I (H.ext (w':=w.alloc lD) U).box;have Fq:=I (show(w.alloc lD).heap[(w:Nat)]?=some (lD:Obj)from gA);replace dN:=I dN;replace H:=I H;clear e3;go_enter func40,ntmps40;go_wp2_with fail;refine Ph 24 (S:=(λw'=>Z (w.alloc lD) w')) bQ ?_ (λbd=>?_)
 ·((try dsimp only);exact U)
 refine P3 ?_;refine l1 4 (·.ay gD) ?_;refine gR 5 ?_;refine gR 6 ?_;refine gR 7 ?_;refine gR 8 ?_;refine l1 9 (·.ay gD) ?_;refine gR 11 ?_;refine gR 12 ?_;refine gR 13 ?_;refine gR 14 ?_;refine l1 15 (·.ay gD) ?_;refine gR 17 ?_;refine gR 18 ?_;refine gR 19 ?_;refine gR 20 ?_;refine l1 21 (·.ay gD) ?_;refine yf (rs:= [10]) bQ (by simp) ?_;refine Fa ?_;intro K aE;go_at_call 72;refine(adZ _ _ _ au _ (dN.l.ext U) iB Bp).mono ?_;rintro e aN⟨ch,cF,c2,ZB,rfl,o0,LL,kc,bq⟩;replace bq:=I bq;have cd:=I (fD.mk o0 LL);replace kc:=I kc;clear o0 LL;refine Qo ?_;clear bd K aE;intro bd;refine yf (rs:= [16]) bQ (by simp) ?_;refine Fa ?_;intro K aE;go_at_call 72;refine(adZ _ _ _ ps _ (dN.p.ext U) nW o6).mono ?_;rintro e a6⟨a3,fI,cV,ZC,rfl,wG,TA,MC,c0⟩;replace c0:=I c0;have cK:=I (fD.mk wG TA);replace MC:=I MC;clear wG TA;refine Qo ?_;clear bd K aE;intro bd;refine yf (rs:= [22]) bQ (by simp) ?_;refine Fa ?_;intro K aE;go_at_call 73;refine(adI _ _ _ b.st.aB _ (dN.b.ext U) xb).mono ?_;rintro e cB⟨a4,mz,dF,rfl,ed,eA⟩;replace eA:=I eA;replace ed:=I ed;refine Qo ?_;clear bd K aE;intro bd;refine gR 23 ?_;have AS:=I ((show Z (w.alloc lD) cB from U).ay Fq);obtain⟨_,_,_,_,_⟩:=C8 AS;refine yf (rs:= [24]) bQ (by simp) ?_;refine Fa ?_;intro K aE;refine aE _ _ (λh=>absurd rfl h) (λ_=>?_);clear aE K;refine ej ?_;refine Ds bQ ?_ _;have f0:=LJ AS (ae v.s.cX) (ao ch cF c2) (ao a3 fI cV) (ao a4 mz dF);have iz:=Dt (S:=λx=>x=(w:Nat)) (aI.refl _ cB) (R:=(w:Nat)) (.inl rfl) (ae v.s.cX) (ao ch cF c2) (ao a3 fI cV) (ao a4 mz dF);have kE:(w:Nat)<(w.alloc lD).drew.heap.size:=by simp[World.drew]
 have oQ:(w.alloc lD).drew.heap.size<=(aN:Nat):=Z.size U;have auD:Z aN cB:=c0.trans eA;have Vz:Z a6 cB:=eA.out;have vq:(aN:Nat)<=(a6:Nat):=Z.size U;have EH:∀x,x=(w:Nat)->x<(w.alloc lD).drew.heap.size:=λx e=>by omega
 obtain⟨z0,cZ,z2,z3⟩:=oX f0;have H_:ox ch a3:=λx y X hy e=>by
  have:=(cd.cj.lt x X).2;have:=(cK.cj.lt y hy).1;omega
 go_wp2;refine ke (v:=.agg #[ae v.s.cX,ao ch cF c2,ao a3 fI cV,ao a4 mz dF]) (by simp[results,results40,go_sem,z0,cZ,z2,z3]) rfl ⟨⟨v.s.cX,⟨ch,cF,c2⟩,⟨a3,fI,cV⟩,⟨a4,mz,dF⟩⟩,ZB,ZC,rfl,⟨dN.cX,((cd.ext auD).gE iz EH).mono J,kc.trans dN.jI,((cK.ext Vz).gE iz (λx e=>by omega)).mono J,MC.trans dN.kV,(ed.gE iz (λx e=>by omega)).mono J,H_⟩,iz.ext (W:=w) (λb ad=>by subst ad;omega) U⟩
def auE(r:List (List cI)×Nat)(w:World)(e:Ending)(w':World):Prop:=∃a n c ys,e=.returned (.tuple #[ao a n c,(r.2:Int),av])/\aH w' w.heap.size 34 1 eu.cs a n c ys/\(∀y,y∈ys->aH w' w.heap.size 77 4 cI.cs y.v.a y.v.n y.v.c y.dt)/\ys.map (·.dt)=r.1/\Z w w'
def auF{s:List nY}{l:List bb}(h:wZ s cl d= []):wi cl n s (d::l)=wi cl (n+1) (zs s d) l:=by show(if _ then _ else _)=_;rw[bc h]
def auG{s:List nY}{l:List bb}(h:wZ s cl d≠ []):wi cl n s (d::l)=(wZ s cl d,n+1):=by show(if _ then _ else _)=_;rw[aV h]
def auH{s:List nY}:wi cl n s []=([],n):=rfl
def auI{b:aT}(H:ea w M D O c p q b v)(fK:∀d,d∈b.st.au->gZ d)(MD:b.st.au.length<=10000)(cl:Int)(Hv:b.xl c cl=true)(fr:Nat)(oU:fr<=b.st.au.length):
  aS 62 #[p,cl,(fr:Int)] w (auE (b.Lr cl fr) w):=by
 refine ahG ?_;intro au ps dh p2 sd er vu lc hv hm FE bg gD bF;obtain⟨rs,gF⟩:∃rs,b.Lr cl fr=rs:=⟨_,rfl⟩;rw[gF];have d0:(fr:Int)<=(au.length:Int):=J;have lP:(0:Int)<=(fr:Int):=J;change aa _ at p2 MD oU H gD bg fK Hv gF;clear dh vu FE sd;go_enter func62,ntmps62;go_wp2_with fail;refine(A' (H.ext U) cl).mono ?_;rintro e _⟨rfl,b3⟩;rw[Hv.out];have kB:=aL (o:=5) (b3.ay gD) rfl;change aa _ at b3;go_wp2_with fail;refine(J' (H.ext U) fK MD fr oU).mono ?_;rintro e _⟨sa,kD,nS,ei,rfl,iB,nW,bz⟩;change aa _ at iB nW bz;clear kB;go_wp2_with fail;go_loopg [10,11] (au.length - fr) (λg e4 dS wr=>∃(k:Nat) (aA:bl) (m aR:Nat) (ys:List cu),g+k=au.length/\fr<=k/\dS=.int .i64 (k:Int)/\e4=.slice aA m aR/\aa (th wr aA m aR ys)/\aa (ys.map cu.d=pK (b.st.au.take k))/\aa (wi cl k (pK (b.st.au.take k)) (b.st.au.drop k)=rs)/\aa (Z w wr));case atStart=>exact⟨fr,sa,kD,nS,ei,J,bJ _,rfl,rfl,iB,nW,gF,U⟩
 case round=>
  obtain⟨k,aA,m,aR,ys,_,_,rfl,rfl,mM,kx,ahH,X⟩:=hrel;by_cases hk:k<au.length
  ·have uV:k<b.st.au.length:=by rw[<-p2.out];exact hk
   obtain⟨fb,o,rfl,al⟩:=bg.aF.get k hk;obtain⟨_,_,c2,cV,_,_,_,_⟩:=nh (w:=wr) (b:=fb) (o:=o+k*8) (x:=au[k].x) (λj v aD=>X.ag (al j v aD));have aG:au[k].d=b.st.au[k]:=by
    have af:(au.map (·.d))[k]? =b.st.au[k]? :=by rw[bF.out]
    rw[nd,eK hk,eK uV]at af;exact w9 af
   have a8:=I (bg.ck au[k] (cT hk));have Fw:=fK.out b.st.au[k] (cT _);rw[<-aG]at Fw;have hlen:m<=10000:=by
    rw[mM.aF.neq,<-cx (f:=cu.d),kx.out];have:=U9 (b.st.au.take k) [];rw[pH,nF]at this;have:=MD.out;unfold pK;omega
   have ev:aa (∀s,s∈ys->s.ts.length<=10000):=λs hs=>ag2;have w3:au[k].d.ts.length<=10000:=ek Fw.r8.ts J;have uh:au[k].d.aX.length<=10000:=ek Fw.r8.aX J;have auJ:aa (∀e,e∈au[k].d.aX->e.length<=10000):=λe he=>ek (Fw.r8.dt e he) J;have pZ:aa (au[k].x.k=au[k].d.k):=a8.k;have hR:=ag1 (l:=b.st.au) (k:=k) uV;rw[<-aG]at hR;have VA:=ahH.out;rw[Ab uV,<-aG,<-kx.out]at VA;have b0:(0:Int)<=(k:Int):=J;have bf:(k:Int)<(au.length:Int):=J;have kB:=aL (o:=5) (X.ay gD) rfl;have pj:aa ((wr.alloc au[k].x).heap[(wr:Nat)]?=some (au[k].x:Obj)):=e2 rfl;change aa _ at hR VA;clear Fw aG al uV;go_wp2_with fail;refine(amI aA m aR ys cl au[k].x au[k].d _ ⟨mM.aF.ext U,λs hs=>(mM.ts s hs).ext U⟩ (a8.ext U) hlen uh auJ).mono ?_;rintro e aN⟨ch,cF,c2,auK,rfl,bE,fW,kL,bq⟩;have G7:=bE.neq;have fc:=I kL;have cA:=bq.ay pj;change aa _ at bE fW bq;obtain⟨_,_,_,_,_,_,_,_⟩:aN.cell? (wr,0)=some ↑au[k].x.k/\aN.cell? (wr,1)=some ↑au[k].x.id.b/\aN.cell? (wr,2)=some ↑(ae au[k].x.id.l)/\aN.cell? (wr,3)=some ↑(ae au[k].x.id.s)/\aN.cell? (wr,4)=some ↑au[k].x.c/\aN.cell? (wr,5)=some ↑(ae au[k].x.u)/\aN.cell? (wr,6)=some ↑au[k].x.f/\aN.cell? (wr,7)=some ↑au[k].x.e:=⟨aL cA rfl,aL cA rfl,aL cA rfl,aL cA rfl,aL cA rfl,aL cA rfl,aL cA rfl,aL cA rfl⟩;clear cA;have zl:aa ((w:Nat)<=(wr.alloc au[k].x).heap.size):=Z.size U;by_cases bp:cF=0
   ·have yp:wZ (ys.map cu.d) cl au[k].d= []:=by
     have af:=eH List.length kL;rw[cx]at af;exact Bk J
    have Dv:=auF (n:=k) (l:=b.st.au.drop (k+1)) yp;rw[VA.out]at Dv;change aa _ at Dv;clear kL G7 yp;subst bp;by_cases nL:au[k].x.k=1
    ·go_wp2;go_roundg (gk - 1);case measure=>omega
     case rel=>exact⟨k+1,aA,m,aR,ys,J,J,by go_num,rfl,mM.ext U,ag3,by rw[hR.out,<-kx.out];exact Dv.symm,U⟩
    ·go_wp2_with fail;refine(abJ aA m aR ys au[k].x au[k].d _ (mM.ext U) (a8.ext U) ev hlen w3).mono ?_;rintro e _⟨a3,fI,cV,I_,rfl,vv,MC,c0⟩;change aa _ at vv MC c0;go_wp2;go_roundg (gk - 1);case measure=>omega
     case rel=>exact⟨k+1,a3,fI,cV,I_,J,J,by go_num,rfl,vv,by rw[hR.out,MC.out,kx.out];unfold zs;rw[aV (by rw[<-pZ.out];exact nL)];exact rfl,by rw[hR.out,<-kx.out];exact Dv.symm,U⟩
   ·have yp:wZ (ys.map cu.d) cl au[k].d≠ []:=λe=>by
     have af:=eH List.length kL;rw[cx,e,pH]at af;omega
    have rU:=auG (n:=k) (l:=b.st.au.drop (k+1)) yp;rw[VA.out]at rU;have g0:(0:Int)<(cF:Int):=J;change aa _ at rU;clear kL G7 yp bp;go_wp2;try rw[pX]
    refine ke (v:=.tuple #[ao ch cF c2,bo ((k:Int)+1),av]) (by simp[results,results62,go_sem]) rfl ?_;refine⟨ch,cF,c2,auK,?_,bE.mono zl,λy hy=>(fW y hy).mono zl,?_,U⟩
    ·rw[rU.out];congr 1
    ·rw[rU.out];exact fc
  ·have cb:k=au.length:=J;have aG:b.st.au.drop k= []:=NC (by have:=p2.out;omega);have J_:=ahH.out;rw[aG,auH]at J_;subst cb;clear aG;go_wp2;refine ke (v:=.tuple #[aP,(au.length:Int),av]) (by simp[results,results62,go_sem]) rfl ?_;refine⟨none,0,0,[],by rw[<-J_],aH.nil _ _ _ eu.bI,(λy hy=>by cases hy),by rw[<-J_];rfl,X⟩
def fp.Qu{P:Program}{k:TypeId}{b s:Nat}(h:fp w P k b n s f):fp w P k b s s f:=by
 obtain⟨D,⟨aX,clock,ad,F,hs,rfl⟩,rfl,rfl⟩:=h;exact⟨_,⟨aX,clock,ad,F,by simp[Maps.size,length_sorted],rfl⟩,rfl,rfl⟩
def AZ.put{kY s fS s':Nat}{e0:List Nat}{gq:Nat->Option dv}{fr:Nat}{x:kz}{m:dv}(an:e0.Nodup/\∀k,k∈e0->k<1000)(aO:s=e0.length)(cC:∀k:Nat,k<1000000->match gq k with|none=>k∉e0/\f (.int .i64 k)=none|some m=>k∈e0/\∃x:kz,f (.int .i64 k)=some (.agg #[x.k,ae x.h,x.v,x.q,x.e,x.p,x.b,x.d])/\cv M w (λw=>tP w x m))(Dz:fr<1000)(hF:fp w' prog 3 kY fS s' (wz f (.int .i64 fr) (some (.agg #[x.k,ae x.h,x.v,x.q,x.e,x.p,x.b,x.d]))))(hs:s'=if (f (.int .i64 fr)).isSome=true then s else s+1)(aj:aI (·=kY) w w')(fe:M kY)(X:cv M w (λw=>tP w x m)):
  AZ w' M kY (λk=>if k=fr then some m else gq k):=by
 have aK:∀P,cv M w P->cv M w' P:=λP k=>k.step (aj.cQ fe) (b4.ep _ _);have dj:∀k:Nat,k≠fr->(Lit.int .i64 (k:Int))≠.int .i64 (fr:Int):=λk hk e=>hk (by injection e with _ e;exact Int.ofNat.inj e);have Hw:=cC fr J;by_cases Bn:fr∈e0
 ·have K_:(f (.int .i64 fr)).isSome=true:=by
   cases az:gq fr with
   |none=>rw[az]at Hw;exact absurd Bn Hw.1
   |some m=>rw[az]at Hw;obtain⟨_,x,h,_⟩:=Hw;rw[h];rfl
  rw[bc K_]at hs;refine⟨s',s',_,e0,hF.Qu,an,by rw[hs,aO],rfl,λk hk=>?_⟩;by_cases lH:k=fr
  ·dsimp only;rw[bc lH];refine⟨by rw[lH];exact Bn,x,by rw[lH,Fi],aK _ X⟩
  ·dsimp only;rw[aV lH];have:=cC k hk;cases az:gq k with
   |none=>rw[az]at this;exact⟨this.1,by rw[yo (dj k lH)];exact this.2⟩
   |some m=>rw[az]at this;obtain⟨af,x,bt,fV⟩:=this;exact⟨af,x,by rw[yo (dj k lH)];exact bt,aK _ fV⟩
 ·have Qg:(f (.int .i64 fr)).isSome=false:=by
   cases az:gq fr with
   |none=>rw[az]at Hw;rw[Hw.2];rfl
   |some m=>rw[az]at Hw;exact absurd Hw.1 Bn
  rw[aV (by rw[Qg];decide)]at hs;refine⟨s',s',_,fr::e0,hF.Qu,⟨IV.2 ⟨Bn,an.1⟩,λk hk=>(oy.1 hk).elim (λe=>e▸Dz) (an.2 k)⟩,by rw[hs,aO];rfl,rfl,λk hk=>?_⟩;by_cases lH:k=fr
  ·dsimp only;rw[bc lH];exact⟨by rw[lH];exact o1,x,by rw[lH,Fi],aK _ X⟩
  ·dsimp only;rw[aV lH];have:=cC k hk;cases az:gq k with
   |none=>rw[az]at this;exact⟨λe=>(oy.1 e).elim lH this.1,by rw[yo (dj k lH)];exact this.2⟩
   |some m=>rw[az]at this;obtain⟨af,x,bt,fV⟩:=this;exact⟨ni _ af,x,by rw[yo (dj k lH)];exact bt,aK _ fV⟩
def auL{e0:List Nat}(an:e0.Nodup/\∀k,k∈e0->k<1000):e0.length<=1000:=by
 have:=Qh e0 (List.range 1000) an.1 (λx X=>xd.2 (an.2 x X))
 rwa [JE]at this
def ea.auM{b:aT}{gq:Nat->Option dv}(h:ea w M D O c p q b v)(aj:aI (·=v.kY) w w')(bm:AZ w' M v.kY gq):ea w' M D O c p q {b with gq:=gq} v/\ik w M D O w' M D O:=by
 obtain⟨L,af,an,aO⟩:=h.cp;have bj:∀x,x=v.kY->M x:=λx e=>e▸h.sub _ h.bS.2.1;have aK:∀P,cv M w P->cv M w' P:=λP k=>k.step (aj.sub bj) (b4.ep _ _);refine⟨⟨(aj.block _ (bZ h.box) (show ¬p=v.kY from h.gT.1)).trans h.box,(aK _ h.l3).mono (λw k=>⟨k.cL,k.ak,k.st,k.tx,k.gP,k.dT⟩),⟨L,af.step aj bj (λx X e=>?_) (b4.ep _ _) (λx k=>fQ (af.b5 x k) aj.size),an,aO⟩,bm,h.yt.ay (aj.block _ h.yt.lt (show ¬v.tm=v.kY from λe=>h.gT.2.2 e.symm)),h.bS,h.sub,h.gL,h.gT⟩,⟨aj.cQ (.inr h.bS.2.1),b4.ep _ _,b4.ep _ _,b4.ep _ _,λ_ k=>.inl k⟩⟩;have e:x=v.kY:=e;subst e;exact X.elim (λk=>h.gL _ k h.bS.2.1) aO.2.1
def auN(c:bK)(b:aT)(fr:Nat):decide ((fr:Int)∈(b.c5 c).map Int.ofNat)=b.TJ c fr:=by
 unfold aT.TJ;rw[wP,jT,List.contains_iff_mem,lU];constructor
 ·rintro ⟨k,hk,e⟩;have:k=fr:=Int.ofNat.inj e;exact this▸hk
 ·exact λh=>⟨fr,h,rfl⟩
def x5.ok{m:dv}(h:x5 (rL l) j9 m):rb m:=⟨h.h,h.oP,h.vs,⟨h.dq.1,λd aG=>(h.dq.2 d aG).1.ok⟩,⟨h.aX.1,λd aG=>(h.aX.2 d aG).ok⟩,⟨h.ps.1,λd aG=>(h.ps.2 d aG).ok⟩,h.aB,h.aU⟩
def auO{b:aT}(h:gu c l R n b){fr:Nat}{m:dv}(hm:x5 (rL l) j9 m):gu c l R n {b with gq:=λk=>if k=fr then some m else b.gq k}:=
 ⟨h.dd,h.fz,λt bm=>(h.tx t bm).ln rfl rfl (bJ _),h.rM,h.sV,λk tv hk=>by
  dsimp only at hk;split at hk
  ·cases hk;exact hm
  ·exact h.gq k tv hk,h.x7,h.dT,h.gP,h.bD⟩
def pR.b5{c:Nat}(h:pR w base a n c aU)(fe:∀b,M b->b<base):∃ps,ps.map (·.d)=aU/\cv M w (λw=>iG w a n c ps):=by
 obtain⟨ps,af,an⟩:=h;exact⟨ps,an,af.b5 fe⟩
def s0.auP{x:kz}{m:dv}(h:s0 w base x m)(fe:∀b,M b->b<base):∃aX ps,aX.map (·.d)=m.aX/\ps.map (·.d)=m.ps/\cv M w (λw=>l_ w x m aX ps):=by
 obtain⟨aX,cm,cq⟩:=h.e.b5 fe;obtain⟨ps,Ah,G0⟩:=h.p.b5 fe;exact⟨aX,ps,cm,Ah,((cq.and G0).and ((h.b.b5 fe).and (h.d.b5 fe))).mono (λw k=>⟨h.h,k.1.1,k.1.2,k.2.1,k.2.2⟩)⟩
def aH.nZ{c:α->List Value}{ys:List α}(h:aH w base e sz c aA n cap ys):∃d,yn (ao aA n cap)=some d:=by
 rcases h.row.2 with ⟨bw,_⟩|⟨g,aR,cur,bw,_⟩;exact ahI;exact ahI
def pR.nZ{c:Nat}(h:pR w base a n c aU):∃d,yn (ao a n c)=some d:=let ⟨_,af,_⟩:=h;af.cj.nZ
def s0.nZ{x:kz}{m:dv}(h:s0 w base x m):∃y,qK (.agg #[x.k,ae x.h,x.v,x.q,x.e,x.p,x.b,x.d])=some y:=by
 obtain⟨lP,af⟩:=h.v.nZ;obtain⟨jE,an⟩:=h.q.nZ;obtain⟨d3,aO⟩:=h.e.nZ;obtain⟨d4,bt⟩:=h.p.nZ;obtain⟨d5,cC⟩:=h.b.nZ;obtain⟨d6,fV⟩:=h.d.nZ;exact⟨(.agg (.agg []:: [.lit (.int .i64 x.k),.lit (.int .u64 x.h),lP,jE,d3,d4,d5,d6]),[]),by simp[qK,af,an,aO,bt,cC,fV,show yn (.int .i64 x.k)=some (.lit (.int .i64 x.k))from rfl,show yn (.int .u64 x.h)=some (.lit (.int .u64 x.h))from rfl]⟩
def auQ{b:aT}(H:ea w M D O c p q b v)(b6:gu c l R n b)(cg:lZ c)(hm:b.dd<c.ps.length)(yh:∀i,i∈R->dY i)(Ci:R.length<=1000000)(fr:Nat)(Dz:fr<1000)(JS:bl)(JT FF:Nat)(m:dv)(ar:a7 w 1 cr JS JT FF (qe m))(dG:x5 (rL l) j9 m)(tL:m.k=2->∀i,i∈m.aB->i∈R)(Ho:b.GK c fr=true->m.k=2->m.h<=1000000\/m.aX= []):
  aS 90 #[p,(fr:Int),ao JS JT FF] w (λe w'=>∃z:Int,xv c p q w M D O z (b.Lq c fr m) e w'):=by
 have kd:aa (∀j,j∈b.bD->dY j):=λj aD=>yh j (b6.bD.2 j aD);have gD:=I H.box;have gW:=I H.b5;have xA:=I H.c8.cL;obtain⟨rs,gF⟩:∃rs,b.Lq c fr m=rs:=⟨_,rfl⟩;rw[gF];unfold aT.Lq at gF;have E1:=auN c b fr;replace H:=I H;replace b6:=I b6;replace cg:=I cg;replace yh:=I yh;replace Ci:=I Ci;replace ar:=I ar;replace dG:=I dG;replace tL:=I tL;replace Ho:=I Ho;replace gF:=I gF;obtain⟨Qv,Qw⟩:∃Qv,b.TJ c fr=Qv:=⟨_,rfl⟩;obtain⟨ip,L_⟩:∃ip,b.GK c fr=ip:=⟨_,rfl⟩;have ME:=I L_;have iq:=gF.out;rw[Qw,L_]at iq;rw[Qw]at E1;rw[L_]at Ho;replace gF:=I iq;clear iq Qw;go_enter func90,ntmps90;go_wp2_with fail;refine(z' (H.ext U) cg.x9 hm).mono ?_;rintro e _⟨_,_,_,rfl,s4,bE⟩;replace bE:=I bE;have c7:=I s4.aF;clear s4;go_wp2_with fail;refine(abF _ _ _ _ (fr:Int) _ (c7.ext U)).mono ?_;rintro e aN⟨rfl,fW⟩;have bq:aa (Z w aN):=U;rw[E1];replace fW:=I fW;clear E1;have De:=gF;go_upto_region 4 with (fail);go_cut [8] (λu eD=>u=.bool ip/\aa (Z aN eD));case first=>
  obtain⟨Ck,Gh⟩:∃Ck,b.lf=Ck:=⟨_,rfl⟩;have VB:=Gh;have M_:=bq.ay gD;have q1:=fu.cell (w:=aN) (a:=(p,0)) (v:=.int .i64 (b.dd:Int)) (aL M_ rfl);have dk:=fu.cell (w:=aN) (a:=(p,1)) (v:=.slice v.cL.a v.cL.n v.cL.c) (aL M_ rfl);have AP:=xA.neq;obtain⟨fb,auR,rW,fR⟩:=xA.get b.dd hm;have VC:=bq.ag (fR 0 c.ps[b.dd] rfl);rw[jd]at VC;have eP:=fu.cell (w:=aN) (a:=(fb,(auR+b.dd+0))) (v:=.int .i64 c.ps[b.dd]) VC;simp only[uo]at eP;rw[rW]at dk;have b0:(0:Int)<=(b.dd:Int):=J;have bf:(b.dd:Int)<(v.cL.n:Int):=J;have VD:ip=(!Ck&&decide ((fr:Int)=c.ps[b.dd])):=by
   rw[<-ME.out];unfold aT.GK;rw[Gh,xk,eK hm];simp[eq_comm]
  replace VB:=I VB;replace VD:=I VD;clear Gh AP fR VC M_ rW;cases Ck with
  |true=>
   refine ahJ ?_;refine Je ?_;intro cW gK;go_wp2;go_meet;exact⟨by rw[VD.out];rfl,gK⟩
  |false=>
   refine ahJ ?_;refine Je ?_;intro cW gK;go_wp2;go_meet;refine⟨?_,gK⟩;rw[VD.out];simp;rw[wP,F1,jT]
 case rest=>
  obtain⟨rfl,_⟩:=hcut;by_cases eO:Qv=false/\ip=false
  ·obtain⟨rfl,rfl⟩:=eO;have iq:=gF.out;rw[aV (by simp),aV (by simp)]at iq;subst iq;go_wp2;go_ret;exact⟨201,M,D,O,rfl,⟨v,H.ext U⟩,.of U⟩
  ·have VE:aa (∀w',Z w w'->aS 157 #[ao JS JT FF] w' (Uy m w')):=λw' X=>asf JS JT FF m w' (ar.ext X) dG.ok;rcases dG.oP with ⟨ho,_⟩|⟨ho,_⟩
   ·cases Qv with
    |false=>
     cases ip with
     |false=>exact absurd ⟨rfl,rfl⟩ eO
     |true=>
      clear eO;go_wp2_with fail;refine(VE _ U).mono ?_;rintro e a6⟨⟨hl,r4,na,mc,lW,sB,sC,sD⟩,rfl,wG,c0⟩;have MF:hl=1:=wG.k.trans ho;exact ahK
    |true=>
     cases ip with
     |false=>
      exact ahL
     |true=>
      exact ahL
   ·cases Qv with
    |false=>
     cases ip with
     |false=>exact absurd ⟨rfl,rfl⟩ eO
     |true=>
      exact ahM
    |true=>
     cases ip with
     |false=>
      clear eO;go_wp2_with fail;refine(VE _ U).mono ?_;rintro e a6⟨⟨hl,r4,na,mc,lW,sB,sC,sD⟩,rfl,wG,c0⟩;have MF:hl=2:=wG.k.trans ho;exact ahK
     |true=>
      exact ahM
def auS{b:aT}(H:ea w M D O c p q b v)(b6:gu c l R n b)(cl:Int)(u:Nat)(eS:bl)(fn eT:Nat)(jY:List T)(eh:a7 w 5 T.cs eS fn eT jY)(BK:jY.length<=100)(c6:b.xl c cl=true)(hv:b.fX<=1000000)(a8:dY b.gQ)(Hg:0<=cl/\cl<32)(cJ:nE jY=true->gZ (⟨2,b.gQ,cl,(u:Int),jY,[]⟩:bb)):
  aS 50 #[p,cl,ae (u:Int),ao eS fn eT] w (JQ c p q w M D O (tX (b.sub cl u jY).1 b.gQ) (b.sub cl u jY)):=by
 obtain⟨r,cw⟩:∃r,GF (nE jY) b.tx ⟨(⟨2,b.gQ,cl,(u:Int),jY,[]⟩:bb),true⟩=r:=⟨_,rfl⟩;have zX:b.sub cl u jY=b.pL r:=by rw[<-cw];rfl
 have yC:(b.sub cl u jY).1=r.1:=by rw[zX];unfold aT.pL;split<;>simp_all
 rw[zX]at yC ⊢;rw[yC];unfold JQ;rw[yC];change aa _ at cw;have pj:=I (show(((((w.alloc (.cells #[p] 103)).alloc (.cells #[cl] 3)).alloc (.cells #[ae (u:Int)] 41)).alloc (.cells #[ao eS fn eT] 36)).alloc hr).heap[(w:Nat)]?=some (.cells #[p] 103)from gA);have Qt:=I (show(((((w.alloc (.cells #[p] 103)).alloc (.cells #[cl] 3)).alloc (.cells #[ae (u:Int)] 41)).alloc (.cells #[ao eS fn eT] 36)).alloc hr).heap[(w:Nat)+1]?=some (.cells #[cl] 3)from gA);have Qx:=I (show(((((w.alloc (.cells #[p] 103)).alloc (.cells #[cl] 3)).alloc (.cells #[ae (u:Int)] 41)).alloc (.cells #[ao eS fn eT] 36)).alloc hr).heap[(w:Nat)+1+1]?=some (.cells #[ae (u:Int)] 41)from gA);have auT:=I (show(((((w.alloc (.cells #[p] 103)).alloc (.cells #[cl] 3)).alloc (.cells #[ae (u:Int)] 41)).alloc (.cells #[ao eS fn eT] 36)).alloc hr).heap[(w:Nat)+1+1+1]?=some (.cells #[ao eS fn eT] 36)from gA);change aa _ at H b6 cJ eh a8;clear zX;go_enter func50,ntmps50;have fs:(w.heap.size+1+1+1+1)<(((((w.alloc (.cells #[p] 103)).alloc (.cells #[cl] 3)).alloc (.cells #[ae (u:Int)] 41)).alloc (.cells #[ao eS fn eT] 36)).alloc hr).heap.size:=by simp
 obtain⟨Cj,wB⟩:=H.cell (w1:=(((((w.alloc (.cells #[p] 103)).alloc (.cells #[cl] 3)).alloc (.cells #[ae (u:Int)] 41)).alloc (.cells #[ao eS fn eT] 36)).alloc hr)) (R:=(w.heap.size+1+1+1+1)) U J fs;have Hu:=I (show(((((w.alloc (.cells #[p] 103)).alloc (.cells #[cl] 3)).alloc (.cells #[ae (u:Int)] 41)).alloc (.cells #[ao eS fn eT] 36)).alloc hr).heap[(w.heap.size+1+1+1+1)]?=some (hr:Obj)from gA);go_wp2_with fail;refine(A_ Cj cl c6 hv 83 #[.pointer (some ⟨w.heap.size,0,none⟩),.pointer (some ⟨w.heap.size+1,0,none⟩),.pointer (some ⟨w.heap.size+1+1,0,none⟩),.pointer (some ⟨w.heap.size+1+1+1,0,none⟩)] r (λ_ _=>by kernel_rfl) (λw' X=>cw.out▸auu (Cj.ext X) b6 b.gQ cl u eS fn eT jY w.heap.size (w.heap.size+1) (w.heap.size+1+1) (w.heap.size+1+1+1) (X.ay pj) (X.ay Qt) (X.ay Qx) (X.ay auT) (eh.ext (Z.trans U X)) BK a8 Hg cJ)).mono ?_;rintro e dc⟨_,hW,mZ,rfl,⟨v9,jb⟩,lG⟩;have yg:¬n5 D O (w.heap.size+1+1+1+1):=λk=>k.elim (λz=>by have:=H.b5 _ (H.sm _ z);omega) (λz=>by have:=H.b5 _ (H.sub _ z);omega);have BB:=(lG.ee.block _ fs yg).trans Hu;change aa _ at jb lG yg;clear Cj wB;refine F_ ?_;intro dS MB z0 cZ z2 mT hF;have fN:=xS (S:=(·=(w.heap.size+1+1+1+1))) (aI.refl _ dc) (R:=(w.heap.size+1+1+1+1)) (.inl rfl) 0 1 2 dS.b (ae dS.l) (ae dS.s);obtain⟨M',xz,vr⟩:=H.E_ (w1:=(((((w.alloc (.cells #[p] 103)).alloc (.cells #[cl] 3)).alloc (.cells #[ae (u:Int)] 41)).alloc (.cells #[ao eS fn eT] 36)).alloc hr)) (R:=(w.heap.size+1+1+1+1)) U J fs jb lG fN;change aa _ at xz vr;clear fN BB;go_wp2_with fail;obtain⟨cA,cR,cS⟩:=jm hF;refine ke (v:=.tuple #[dS,r.1]) (by simp[results,results50,go_sem,cA,cR,cS,yC]) rfl ?_;exact G_
def auU{b:aT}(H:ea w M D O c p q b v)(b6:gu c l R n b)(cl:Int)(u:Nat)(c6:b.xl c cl=true)(hv:b.fX<=1000000)(a8:dY b.gQ)(Hg:0<=cl/\cl<32)(cJ:gZ (⟨3,b.gQ,cl,(u:Int),[],[]⟩:bb)):
  aS 116 #[p,cl,ae (u:Int)] w (JQ c p q w M D O (tX (b.zv cl u).1 b.gQ) (b.zv cl u)):=by
 obtain⟨r,cw⟩:∃r,oN b.tx ⟨(⟨3,b.gQ,cl,(u:Int),[],[]⟩:bb),true⟩=r:=⟨_,rfl⟩;have zX:b.zv cl u=b.pL r:=by rw[<-cw];rfl
 have yC:(b.zv cl u).1=r.1:=by rw[zX];unfold aT.pL;split<;>simp_all
 rw[zX]at yC ⊢;rw[yC];unfold JQ;rw[yC];change aa _ at cw;have pj:=I (show((((w.alloc (.cells #[p] 103)).alloc (.cells #[cl] 3)).alloc (.cells #[ae (u:Int)] 41)).alloc hr).heap[(w:Nat)]?=some (.cells #[p] 103)from gA);have Qt:=I (show((((w.alloc (.cells #[p] 103)).alloc (.cells #[cl] 3)).alloc (.cells #[ae (u:Int)] 41)).alloc hr).heap[(w:Nat)+1]?=some (.cells #[cl] 3)from gA);have Qx:=I (show((((w.alloc (.cells #[p] 103)).alloc (.cells #[cl] 3)).alloc (.cells #[ae (u:Int)] 41)).alloc hr).heap[(w:Nat)+1+1]?=some (.cells #[ae (u:Int)] 41)from gA);change aa _ at H b6 cJ a8;clear zX;go_enter func116,ntmps116;have fs:(w.heap.size+1+1+1)<((((w.alloc (.cells #[p] 103)).alloc (.cells #[cl] 3)).alloc (.cells #[ae (u:Int)] 41)).alloc hr).heap.size:=by simp
 obtain⟨Cj,wB⟩:=H.cell (w1:=((((w.alloc (.cells #[p] 103)).alloc (.cells #[cl] 3)).alloc (.cells #[ae (u:Int)] 41)).alloc hr)) (R:=(w.heap.size+1+1+1)) U J fs;have Hu:=I (show((((w.alloc (.cells #[p] 103)).alloc (.cells #[cl] 3)).alloc (.cells #[ae (u:Int)] 41)).alloc hr).heap[(w.heap.size+1+1+1)]?=some (hr:Obj)from gA);go_wp2_with fail;refine(A_ Cj cl c6 hv 189 #[.pointer (some ⟨w.heap.size,0,none⟩),.pointer (some ⟨w.heap.size+1,0,none⟩),.pointer (some ⟨w.heap.size+1+1,0,none⟩)] r (λ_ _=>by kernel_rfl) (λw' X=>cw.out▸auw (Cj.ext X) b6 b.gQ cl u w.heap.size (w.heap.size+1) (w.heap.size+1+1) (X.ay pj) (X.ay Qt) (X.ay Qx) a8 Hg cJ)).mono ?_;rintro e dc⟨_,hW,mZ,rfl,⟨v9,jb⟩,lG⟩;have yg:¬n5 D O (w.heap.size+1+1+1):=λk=>k.elim (λz=>by have:=H.b5 _ (H.sm _ z);omega) (λz=>by have:=H.b5 _ (H.sub _ z);omega);have BB:=(lG.ee.block _ fs yg).trans Hu;change aa _ at jb lG yg;clear Cj wB;refine F_ ?_;intro dS MB z0 cZ z2 mT hF;have fN:=xS (S:=(·=(w.heap.size+1+1+1))) (aI.refl _ dc) (R:=(w.heap.size+1+1+1)) (.inl rfl) 0 1 2 dS.b (ae dS.l) (ae dS.s);obtain⟨M',xz,vr⟩:=H.E_ (w1:=((((w.alloc (.cells #[p] 103)).alloc (.cells #[cl] 3)).alloc (.cells #[ae (u:Int)] 41)).alloc hr)) (R:=(w.heap.size+1+1+1)) U J fs jb lG fN;change aa _ at xz vr;clear fN BB;go_wp2_with fail;obtain⟨cA,cR,cS⟩:=jm hF;refine ke (v:=.tuple #[dS,r.1]) (by simp[results,results116,go_sem,cA,cR,cS,yC]) rfl ?_;exact G_
section
open Go.RowKit Go.Shelf
attribute [local go_sem] Oper.semAt_some
structure JU (bD:List ax) (left:Lit->Bool) (ei:List ax):Prop where
 ri:ei.Nodup
 sub:∀x,x∈ei->x∈bD
 mem:∀x,x∈bD->(x∈ei↔left (kb x)=false)
def JU.N_{left:Lit->Bool}(h:∀x,x∈bD->left (kb x)=true):JU bD left []:=⟨tG,λx k=>(by cases k),λx X=>⟨λk=>(by cases k),λk=>by rw[h x X]at k;cases k⟩⟩
def auV{j:ax}(aK:dY i)(aD:dY j):(kb i).sameKey (kb j)=decide (i=j):=by
 by_cases h:i=j
 ·subst h;simp[kb,Lit.sameKey]
 ·have:kb i≠kb j:=λe=>h (G' aK aD e);unfold kb at this ⊢;simp only[Lit.sameKey];rw[je h];simpa using this
def JU.step{left:Lit->Bool}{ei:List ax}{x:ax}(h:JU bD left ei)(bm:∀j,j∈bD->dY j)(X:x∈bD)(a1:left (kb x)=true):JU bD (λz=>left z&& !z.sameKey (kb x)) (ei++[x]):=by
 have aq:x∉ei:=λhm=>by rw[(h.mem x X).1 hm]at a1;cases a1
 refine⟨GN h.ri aq,λy hy=>?_,λy hy=>?_⟩
 ·rcases ie.1 hy with k|k
  ·exact h.sub y k
  ·rw[jg.1 k];exact X
 ·rw[ie,jg,h.mem y hy];rw[auV (bm y hy) (bm x X)];by_cases e:y=x
  ·simp[e]
  ·simp[e]
def auW(F:Fence)(n:Nat)(uM:F.fn 308)(sP:F.round=none)(aq:1<=n)(l qk b gO:Nat)(D0:DataW Unit)(bD:List ax)(bm:∀j,j∈bD->dY j)(w3:Maps.size D0=bD.length)(nL:∀x,x∈bD->Maps.has D0 (kb x)=true)(jV:∀eN,Maps.has D0 eN=true->∃i,i∈bD/\eN=kb i)(mn EU:List ax->aC->Prop)(sc:∀cN x W,mn cN W->cN.length<bD.length->YieldAt F (n - 1) prog l #[.agg #[x.b,ae x.l,ae x.s]] W λe W'=>
   (e=.returned (.bool true)/\mn (cN++[x]) W'/\KeepsWalks W W')\/(e=.returned (.bool false)/\EU (cN++[x]) W'))(W:aC)(sA:AbidesFrom W mn)(hm:W.cell? (qk,0)=some (.map (some b)))(aJ:W.ownsMap prog 54 qK b gO D0)(aZ:mn [] W):
  CallsIn F n prog 308 #[.func (.yield l) #[] #[],qk] W λe W'=>(∃v,e=.returned v)/\((∃ei:List ax,(ei.Nodup/\∀x,x∈ei↔x∈bD)/\mn ei W')\/(∃cN:List ax,True/\EU cN W')):=by
 refine callsIn_of_wp func308 rfl uM ?_ sP;simp only[ntmps308,Iv,me,pH,Nat.reduceAdd,Nat.reduceSub,Lk,Ll,Lm,Ln,mN,Gn]
 gi_wp2_with (first
  |(gi_at_range;refine wpListIn_range_own _ rfl _ 158 rfl 54 3 Fu JD _ b gO _ rfl aJ ?_;intro bh auX G1 _)
  |gi_in)
 go_frame
 gi_loopw [3] (λ_ wr=>∃(left:Lit->Bool) (cnt:Nat) (ei:List ax),wr.ranges prog 54 qK b W gO D0 left cnt/\ei.length+cnt<=bD.length/\JU bD left ei/\mn ei wr)
  (λ_ wr=>wr.rangeLeft b (W:Nat))
 case atStart=>
  exact⟨_,_,[],auX,by simp[w3],JU.N_ nL,sA [] W bh none aZ G1 (λr e=>by cases e)⟩
 case round=>
  obtain⟨_,_,ei,O_,_,hC,Lo⟩:=hrel
  gi_wp2_with (first
   |(gi_at_next;refine wpListIn_next_ranges _ rfl _ rfl 54 Fu qK (id:Value->Value) (id:Value->Value) (λkey eN hk=>⟨key,rfl⟩) (λv _ _=>⟨v,rfl⟩) b W gO _ _ _ rfl O_ ?_ ?_)
   |gi_in)
  ·intro _ ZL;gi_wp2;go_end0;exact⟨⟨_,rfl⟩,.inl ⟨ei,⟨hC.ri,λx=>⟨hC.sub x,λX=>(hC.mem x X).2 (ZL _)⟩⟩,Lo⟩⟩
  ·intro x c eN _ _ aN auY uF vl _ j1 auZ fH au0 tw _;obtain⟨i,ahN,Qw⟩:=jV eN (Maps.has_true_of_atKey j1);subst Qw;have Hl:=bm i ahN;have pP:x=.agg #[i.b,ae i.l,ae i.s]:=Fu.inj uF (Hf Hl);subst pP;have au1:mn ei aN:=sA ei wr aN (some (W:Nat)) Lo au0 (λr e=>by cases e;exact⟨bJ _,O_.iter_walk⟩);have oT:aN.grownBy (aN.alloc i) none:=World.grownBy_alloc _ _ _;have IT:mn ei (aN.alloc i):=sA ei aN _ none au1 oT (λr e=>by cases e);have au2:=auZ.alloc i;obtain⟨_,tmps,_,_,hy,bB⟩:=sc ei i _ IT J;clear tw;gi_wp2;refine bB.mono ?_;rintro e _ (⟨rfl,au3,Ii⟩|⟨rfl,YY⟩)
   ·gi_wp2;have ahO:=au2.of_walks Ii;go_roundw;case rel=>exact⟨_,auY,ei++[i],ahO,by simp;omega,hC.step bm ahN vl,au3⟩
    case measure=>rw[ahO.left_eq,O_.left_eq];exact fH
   ·gi_wp2;refine ke (results_none rfl _ _ _) rfl ?_;exact⟨⟨_,rfl⟩,.inr ⟨ei++[i],trivial,YY⟩⟩
def au4(F:Fence)(n:Nat)(uM:F.fn 308)(sP:F.round=none)(aq:1<=n)(qk b gO:Nat)(D0:DataW Unit)(bD:List ax)(bm:∀j,j∈bD->dY j)(w3:Maps.size D0=bD.length)(nL:∀x,x∈bD->Maps.has D0 (kb x)=true)(jV:∀eN,Maps.has D0 eN=true->∃i,i∈bD/\eN=kb i)(w:aC)(Qy:qk<(w:Nat))(hm:w.cell? (qk,0)=some (.map (some b)))(aJ:w.ownsMap prog 54 qK b gO D0):
  SeqStops F n prog 308 #[qk] (λi:ax=>.agg #[i.b,ae i.l,ae i.s]) (λei=>ei.Nodup/\∀x,x∈ei↔x∈bD) (λ_=>True) bD.length w:=λl mn EU W fq sA _ sc aZ=>by
 have pv:W.ownsMap prog 54 qK b gO D0:=by
  have mV:=aJ.lt;obtain⟨aX,clock,ad,au5,hs,jw⟩:=aJ;exact⟨aX,clock,(fq.block b mV).trans ad,au5,hs,jw⟩
 exact auW F n uM sP aq l qk b gO D0 bD bm w3 nL jV mn EU sc W sA ((fq.cell (p:=(qk,0)) Qy).trans hm) pv aZ
def au6{v:Value}{ei:List ax}(h:w.ownsRow base 54 3 v ei.length (ei.flatMap ax.cs)):∃aA cap,v=.slice aA ei.length cap/\aH w base 54 3 ax.cs aA ei.length cap ei:=by
 have ta:=h;rcases h.2 with ⟨rfl,aZ⟩|⟨g,cap,cur,rfl,_⟩
 ·rw[aZ]at ta ⊢;exact⟨none,0,rfl,ta,aZ.symm,ax.bI⟩
 ·exact⟨_,cap,rfl,ta,rfl,ax.bI⟩
def ahP(bD:List ax)(w:World)(e:Ending)(w':World):Prop:=
 ∃aA n cap ei,e=.returned (.slice aA n cap)/\aH w' w.heap.size 54 3 ax.cs aA n cap ei/\(ei.Nodup/\∀x,x∈ei↔x∈bD)/\Below w.heap.size w w'
def au7(qk b gO:Nat)(D0:DataW Unit)(bD:List ax)(bm:∀j,j∈bD->dY j)(w3:Maps.size D0=bD.length)(nL:∀x,x∈bD->Maps.has D0 (kb x)=true)(jV:∀eN,Maps.has D0 eN=true->∃i,i∈bD/\eN=kb i)(w:aC)(hm:w.cell? (qk,0)=some (.map (some b)))(aJ:w.ownsMap prog 54 qK b gO D0)(hs:bD.length<=1000000):
  aS 330 #[aP,(.func (.func 308) #[] #[qk])] w (ahP bD w):=by
 obtain⟨ct,aK,fa,fj,pB⟩:=fB yY;have Qy:=Ee hm;refine(EX (n:=3)).1 ?_;have sP:Fence.wide.round=none:=rfl;refine callsIn_of_wp_marks func330 rfl trivial ?_ sP;simp only[ntmps330,Iv,me,pH,Nat.reduceAdd,Nat.reduceSub,Lk,Ll,Lm,Ln,mN,Gn];gi_wp2;have Ez:=Boxed.new w 31 aP;have Fb:Below w w (w.alloc (.cells #[aP] 31)):=(Below.refl _ w).alloc (bJ _) _;have yZ:(w.alloc (.cells #[aP] 31)).cell? (qk,0)=some (.map (some b)):=(Fb.cell (p:=(qk,0)) Qy).trans hm
 refine wpIn_rangeFunc_ownH sP ah (gf:=308) (lb:=#[qk]) rfl trivial (enters_of func308 bQ rfl)
  (au4 Fence.wide 2 trivial sP ah qk b gO D0 bD bm w3 nL jV _ (by simp;omega) yZ (aJ.alloc _)) walksK_t walksK_b (Below.refl _ _) (λ_=>rfl)
  (fun(cN:List ax) W=>(∃v,Boxed W w 31 v/\W.ownsRow w 54 3 v cN.length (cN.flatMap ax.cs)/\True)/\Below w w W)
  (λ_ _ _=>False)
  (OwnFrom.and (Own.from (holdsRow_own w w 31 54 3 (λcN:List ax=>cN.length) (λcN:List ax=>cN.flatMap ax.cs) (fun(_:List ax) _=>True)) _) (ownFrom_below (bJ _) (by simp)))
  (λ_ _ _ _ _ hs _ _=>hs)
  ⟨⟨_,Ez,World.ownsRow_nil _ _ _ _,trivial⟩,Fb⟩
  (λx ga W=>∃B,ga={tmps:=#[.slice none 0 0,(.func (.func 308) #[] #[.pointer (some ⟨qk,0,none⟩)]),.pointer (some ⟨w.heap.size,0,none⟩),undef,.slice none 0 0,.pointer (some ⟨B,0,none⟩),(.func (.func 308) #[] #[.pointer (some ⟨qk,0,none⟩)]),.agg #[x.b,ae x.l,ae x.s],undef,undef,undef,undef,undef],defers:= []}/\W.heap[B]?=some (x:Obj))
  (λx ga _ W W' row ⟨B,e,ad⟩ bC az=>⟨B,e,(bC.block B (bZ ad) (λk=>by obtain⟨_,o,aM,al⟩:=az B k.symm;rw[ad]at aM;cases aM;cases al)).trans ad⟩) ?assign ?body ?done ?stop
 case assign=>
  rintro l cN x W K⟨⟨v,bw,p6,_⟩,bx⟩ aE;gi_wp2;refine aE _ _ (KeepsFrom.of_grownBy (World.grownBy_alloc W _ none) (λj e=>by cases e)) ?_ ⟨⟨v,bw.alloc _,p6.alloc _,trivial⟩,Below.alloc bx bx.size _⟩ ⟨(W:Nat),rfl,e2 rfl⟩;exact KeepsWalks.alloc _ _
 case body=>
  rintro l cN x _ W _ _⟨⟨v,bw,p6,_⟩,bx⟩ ⟨B,rfl,ad⟩ _;have al:=bw.cell;obtain⟨b0,bf,dA⟩:=jm ad;have vw:∀(j:Nat) (u:Value),(ax.cs x)[j]?=some u->(W.alloc x).cell? (((W,0):Addr).add j)=some u:=λj u aD=>by
   have h:(W.alloc x).heap[(W:Nat)]?=some (x:Obj):=e2 rfl
   match j,aD with
   |0,aD=>cases aD;exact aL h rfl
   |1,aD=>cases aD;exact aL h rfl
   |2,aD=>cases aD;exact aL h rfl
   |j+3,aD=>simp[ax.cs]at aD
  gi_wp2_with (gi_at_builtin;refine wpListIn_append_own _ rfl _ _ 31 rfl w 54 ct _ 3 24 aiL aK fa fj pB rfl ah _ _ _ rfl (p6.alloc _) (W,0) 1 1 (ax.cs x) rfl rfl vw (ax.cQ x) (by simp only[maxLen];omega) J (by have:=bx.size;simp;omega) ?_;intro _ _ pv b2 _;obtain⟨_,_,rfl⟩:=ownsRow_succ pv;obtain⟨EV,Y0,kt,jV,iX⟩:=bw.appended ah p6 bx.size (bJ _) pv b2;have KF:=EV.cell;have apG:=EV.frozen);exact⟨jV.from _,jV.walks,⟨_,Y0,by simpa[vN]using kt,trivial⟩,bx.trans iX⟩
 case done=>
  rintro D ys W jw bj⟨⟨v,bw,p6,_⟩,bx⟩ aE;have al:=bw.cell;gi_wp2;refine⟨by simp,.inl ⟨_,_,rfl,run_takeDeferred aE,?_⟩⟩;have Y1:=ownsRow_putObj p6 (.deferred none) aE rfl;obtain⟨aA,cap,rfl,dX⟩:=au6 Y1;exact⟨_,results_tmp rfl _ _ _,aA,ys.length,cap,ys,rfl,dX,bj,bx.trans (belowK_b (w:=w) (bJ _) W D _ _ (by simp at jw;omega) aE rfl rfl)⟩
 case stop=>
  rintro D c _ W _ _ h _;exact h.elim
end
section
open Go.Shelf
def au8:Go.Shelf.Ren:=⟨fun|6=>307|15=>332|14=>331|28=>348|29=>349|20=>340|21=>341|22=>342|23=>343|24=>344|25=>345|26=>346|27=>347|46=>353|47=>354|48=>355|49=>356|50=>357|57=>365|n=>n,fun|22=>31|24=>54|25=>357|3=>3|39=>213|0=>0|53=>214|55=>41|4=>4|46=>394|45=>393|50=>250|5=>5|9=>9|66=>404|70=>407|76=>409|77=>410|n=>n,fun|n=>n⟩
def ahQ:Go.Proofs.SlLaysF0.n6 prog au8:={
 mixed:=bQ
 f6:=⟨f307.name,ah,func307.trans (eH some bQ)⟩
 f14:=⟨f331.name,ah,func331.trans (eH some bQ)⟩
 f15:=func332.trans (eH some bQ)
 f20:=⟨f340.name,ah,func340.trans (eH some bQ)⟩
 f21:=⟨f341.name,ah,func341.trans (eH some bQ)⟩
 f22:=⟨f342.name,ah,func342.trans (eH some bQ)⟩
 f23:=⟨f343.name,ah,func343.trans (eH some bQ)⟩
 f24:=⟨f344.name,ah,func344.trans (eH some bQ)⟩
 f25:=⟨f345.name,ah,func345.trans (eH some bQ)⟩
 f26:=⟨f346.name,ah,func346.trans (eH some bQ)⟩
 f27:=⟨f347.name,ah,func347.trans (eH some bQ)⟩
 f28:=func348.trans (eH some bQ)
 f29:=func349.trans (eH some bQ)
 f46:=⟨f353.name,ah,func353.trans (eH some bQ)⟩
 f47:=func354.trans (eH some bQ)
 f48:=func355.trans (eH some bQ)
 f49:=⟨f356.name,ah,func356.trans (eH some bQ)⟩
 f50:=⟨f357.name,ah,func357.trans (eH some bQ)⟩
 f57:=⟨f365.name,ah,func365.trans (eH some bQ)⟩
 t0:=underlying0
 a0:=isAgg0
 z0:=sizeOf0
 v0:=zeroValue0
 t3:=ft
 a3:=isAgg3
 z3:=sizeOf3
 v3:=zeroValue3
 t4:=underlying4
 a4:=isAgg4
 z4:=sizeOf4
 v4:=zeroValue4
 t5:=Da
 a5:=isAgg5
 z5:=sizeOf5
 v5:=zeroValue5
 t9:=za
 a9:=isAgg9
 z9:=sizeOf9
 v9:=zeroValue9
 t22:=aiL
 a22:=isAgg31
 z22:=sizeOf31
 v22:=zeroValue31
 t25:=underlying357
 a25:=isAgg357
 z25:=sizeOf357
 v25:=zeroValue357
 t39:=underlying213
 a39:=isAgg213
 z39:=sizeOf213
 v39:=zeroValue213
 t45:=underlying393
 a45:=isAgg393
 z45:=sizeOf393
 v45:=zeroValue393
 t46:=underlying394
 a46:=isAgg394
 z46:=sizeOf394
 v46:=zeroValue394
 t50:=underlying250
 a50:=isAgg250
 z50:=sizeOf250
 v50:=zeroValue250
 t53:=underlying214
 a53:=isAgg214
 z53:=sizeOf214
 v53:=zeroValue214
 t55:=underlying41
 a55:=isAgg41
 z55:=sizeOf41
 v55:=zeroValue41
 t66:=underlying404
 a66:=isAgg404
 z66:=sizeOf404
 v66:=zeroValue404
 t70:=underlying407
 a70:=isAgg407
 z70:=sizeOf407
 v70:=zeroValue407
 t76:=underlying409
 a76:=isAgg409
 z76:=sizeOf409
 v76:=zeroValue409
 t77:=underlying410
 a77:=isAgg410
 z77:=sizeOf410
 v77:=zeroValue410}
end
section
open Go.RowKit Go.Sort Go.Shelf
def uN(w w':World):Prop:=∃q os,w'=grow (w.drewN q) os
def uN.refl(w:aC):uN w w:=⟨0,#[],by rw[grow_empty];rfl⟩
def uN.alloc(h:uN w w')(o:Obj):uN w (w'.alloc o):=by
 obtain⟨q,_,rfl⟩:=h;exact⟨q,_,by rw[alloc_eq_grow,grow_grow]⟩
def uN.drew(h:uN w w'):uN w w'.drew:=by
 obtain⟨q,os,rfl⟩:=h;exact⟨q+1,os,rfl⟩
def uN.ext(h:uN w w'):Z w w':=by
 obtain⟨q,_,rfl⟩:=h;exact⟨rfl,rfl,rfl,by rw[size_grow];exact SU _ _,λk hk=>heap_grow_old _ _ hk⟩
section
variable {α:Type} [Inhabited α]{c:α->List Value}{sz:Nat}
def ahR(hw:∀x,(c x).length=sz)(hs:0<sz){xs:List α}{t:Nat}(h:t<xs.length*sz):(xs.flatMap c)[t]?=some (flatK c sz xs.toArray)[t]! :=by
 have hk:t / sz<xs.length:=SK (by rw[MG];exact h);have aD:t % sz<(c xs[t / sz]).length:=by rw[hw];exact Nat.mod_lt _ hs
 have:=RK hw xs (t / sz) _ (eK hk) (t % sz) _ (eK aD);rw[show t / sz*sz+t % sz=t from by rw[MG];exact Nat.div_add_mod t sz]at this;rw[this,get_flatK _ _ _ _ (by simpa using h),getElem!_pos xs.toArray (t / sz) (by simpa using hk),getElem!_pos (c _) (t % sz) (by simpa using aD)];simp
def au9(hw:∀x,(c x).length=sz)(hs:0<sz){g:Nat}{cur:Array Value}{xs:List α}(bC:w.heap[g]?=some (.cells cur e (0,0)))(Eg:cur.toList.take (n*sz)=xs.flatMap c)(aq:n=xs.length):
  HoldsK c sz w g 0 xs.toArray:=by
 intro j aD;have yQ:j<xs.length*sz:=by simpa using aD
 refine⟨?_,?_⟩
 ·rw[ow];refine aL bC ?_;have:=ahR hw hs yQ;rw[<-Eg,List.getElem?_take_of_lt (by rw[aq];exact yQ)]at this;rw[<-Array.getElem?_toList];exact this
 ·simp only[World.frozen?,bC];simp
def ava(hw:∀x,(c x).length=sz)(hs:0<sz){g:Nat}{cur:Array Value}{m:Nat}{os:Array Obj}{ys:List α}(iV:base<=g)(bC:w.heap[g]?=some (.cells cur e (0,0)))(sx:cur.size=cap*sz)(hle:n<=cap)(vM:cap<=maxLen)(aq:n=ys.length):
  aH (sortWorldK c sz w g 0 m ys.toArray os) base e sz c (some (g,0)) n cap ys:=by
 have DQ:=bZ bC;have xZ:∀l:List α,(l.flatMap c).length=l.length*sz:=λl=>by
  induction l with
  |nil=>simp
  |cons y l cY=>exact R0
 refine⟨⟨by rw[aq];exact xZ ys,.inr ⟨g,cap,putCells id 0 (flatK c sz ys.toArray) cur,rfl,iV,?_,hle,vM,?_,?_⟩⟩,aq,hw⟩
 ·unfold sortWorldK;rw[heap_grow_old _ _ (by rw[show(putRowK c sz (Sort.ahead w m) g 0 ys.toArray).heap.size=(Sort.ahead w m).heap.size from size_putRow _ _ _ _ _];exact DQ)];unfold putRowK putRow mapBlock;show(w.heap.modify g _)[g]? =_;rw[SR,bc rfl,bC];rfl
 ·unfold putCells;rw[Array.size_mapIdx];exact sx
 ·apply LD;intro t;by_cases bm:t<n*sz
  ·have ahS:t<ys.length*sz:=by rw[<-aq];exact bm
   have avb:t<cur.size:=by rw[sx];exact fQ bm (SJ sz hle)
   rw[List.getElem?_take_of_lt bm,ahR hw hs ahS,Array.getElem?_toList];unfold putCells;rw[Array.getElem?_mapIdx,Array.getElem?_eq_getElem avb,Gc,bc ⟨gz _,by simpa using ahS⟩];rfl
  ·rw[zy (by rw[nF];omega),zy (by rw[xZ,<-aq];omega)]
def ahT(w:aC)(g m:Nat)(os:Array Obj)(d:Array α):aI (·=g) w (sortWorldK c sz w g 0 m d os):=by
 refine⟨rfl,rfl,rfl,?_,λk hk dj=>?_⟩
 ·unfold sortWorldK;rw[size_grow];exact ek (by rw[show(putRowK c sz (Sort.ahead w m) g 0 d).heap.size=(Sort.ahead w m).heap.size from size_putRow _ _ _ _ _];exact bJ _) (SU _ _)
 ·unfold sortWorldK;rw[heap_grow_old _ _ (by rw[show(putRowK c sz (Sort.ahead w m) g 0 d).heap.size=(Sort.ahead w m).heap.size from size_putRow _ _ _ _ _];exact hk)];unfold putRowK putRow mapBlock;show(w.heap.modify g _)[k]? =_;rw[SR,aV (λe=>dj e.symm)]
end
def avc{α β:Type}(f:α->β){ei Cl:List β}(h:ei.Perm Cl):∀l:List α,l.map f=Cl->∃l':List α,l'.Perm l/\l'.map f=ei:=by
 induction h with
 |nil=>intro l a1;exact⟨l,List.Perm.refl _,a1⟩
 |cons x _ cY=>
  intro l a1
  match l,a1 with
  |a::l,a1=>
   injection a1 with af an;obtain⟨l',aO,bt⟩:=cY l an;exact⟨a::l',aO.cons a,by rw[sf,bt,af]⟩
 |swap x y l=>
  intro l' a1
  match l',a1 with
  |a::b::l',a1=>
   injection a1 with af an;injection an with an aO;exact⟨b::a::l',List.Perm.swap a b l',by rw[sf,sf,af,an,aO]⟩
 |trans _ _ avd ave=>
  intro l a1;obtain⟨Uc,af,an⟩:=ave l a1;obtain⟨Ik,aO,bt⟩:=avd Uc an;exact⟨Ik,aO.trans af,bt⟩
def MH(a b:Fin n):Int:=nx (a.val:Int) (b.val:Int)
def JV(a b:Fin n):ltOf (MH (n:=n)) a b=decide (a.val<b.val):=by
 unfold ltOf MH nx;by_cases af:a.val<b.val
 ·simp[af]
 ·by_cases an:b.val<a.val
  ·simp[af,an]
  ·simp[af,an]
def avf:SWO (ltOf (MH (n:=n))) where
 irrefl x:=by rw[JV];simp
 trans x y z h k:=by rw[JV]at*;simp at*;omega
 ntrans x y z h k:=by rw[JV]at*;simp at*;omega
def avg{d:List (Fin n)}(h:d.Perm (List.finRange n)):d.mergeSort (λx y=> !(ltOf (MH (n:=n))) y x)=List.finRange n:=by
 refine List.Perm.eq_of_pairwise (le:=λa b:Fin n=>a.val<=b.val) (λa b _ _ af an=>Fin.ext (Nat.le_antisymm af an)) ?_ ?_ ((List.mergeSort_perm _ _).trans h)
 ·refine(List.pairwise_mergeSort (λa b c af an=>?_) (λa b=>?_) d).imp (λ{a b} h=>?_)
  ·simp only[JV,Eo,z7]at*;omega
  ·simp only[JV,vK,Eo,z7];omega
  ·simp only[JV,Eo,z7]at h;omega
 ·exact(List.pairwise_lt_finRange n).imp (λh=>lu h)
def ahU{α:Type}(l:List α):(List.finRange l.length).map (λk=>l[k])=l:=by
 apply Sf
 ·simp
 ·intro i af _;simp
def avh(x:Int)(w:aC):aS 249 #[x] w λe w'=>e=.returned (.bool false)/\w'=w:=by
 go_enter func249,ntmps249;go_wp2;go_ret;exact⟨by simp,rfl⟩
def avi(x y:Int)(w:aC):aS 177 #[x,y] w λe w'=>e=.returned (.int .i64 (nx x y))/\w'=w:=by
 go_enter func177,ntmps177;go_wp2_with (go_at_call 249;refine(avh _ _).mono ?_;rintro e _⟨rfl,rfl⟩);all_goals (go_ret;refine⟨jk Xr,rfl⟩)
def avj(p fx tm n s:Nat)(f:Lit->Option Value)(x y:ax)(i j:Int)(w:aC)(X:dY x)(hy:dY y)(ad:w.cell? (fx,0)=some ↑p)(al:w.cell? (p,12)=some (.map (some tm)))(hF:fp w prog 54 tm n s f)(od:f (kb x)=some ↑i)(ahV:f (kb y)=some ↑j):
  aS 285 #[x,y,fx] w λe w'=>e=.returned (.int .i64 (nx i j))/\uN w w':=by
 have bG:=I (Hf X);have rB:=I (Hf hy);have cn:Z w ((w.alloc x).alloc y):=U;have eh:=I (hF.ext cn);have bn:=I (cn.ag ad);have cg:=I (cn.ag al);have qD:=I (show((w.alloc x).alloc y).heap[(w:Nat)]?=some (x:Obj)from gA);have VF:=I (show((w.alloc x).alloc y).heap[(w:Nat)+1]?=some (y:Obj)from gA);change aa _ at od ahV;clear X hy ad al hF cn;go_enter func285,ntmps285;go_wp2_with fail;refine sX (λw'=>uN ((w.alloc x).alloc y) w') (λbd=>?_) (by(try dsimp only);exact Q_);refine zD 0 (·.ext.ag bn) ?_;refine de 1 ?_;refine de 2 ?_;refine zD 3 (·.ext.ag cg) ?_;refine l0 4 (·.ext.ay qD) ?_;refine de 5 ?_ (hy:=λw fh=>by(try dsimp only at fh);(have dU:=(eh.ext fh.ext).k' Fu JD (U7 _) (y:=_) rfl bG;rw[od.out]at dU);exact A2);refine zD 6 (·.ext.ag bn) ?_;refine de 7 ?_;refine de 8 ?_;refine zD 9 (·.ext.ag cg) ?_;refine l0 10 (·.ext.ay VF) ?_;refine de 11 ?_ (hy:=λw fh=>by(try dsimp only at fh);(have dU:=(eh.ext fh.ext).k' Fu JD (U7 _) (y:=_) rfl rB;rw[ahV.out]at dU);exact A2);refine h9 12 λK aE=>?_;(go_simp;(go_at_call 177;refine(avi _ _ _).mono ?_;rintro e _⟨rfl,rfl⟩);(first|refine aE _ _ (by(try dsimp only);exact Q_) λbd=>ej ?_|(go_wp2_with fail;refine aE _ _ (by(try dsimp only);(repeat (first|exact uN.refl _|refine uN.alloc ?_ _|refine uN.drew ?_))) λbd=>ej ?_)));refine de 13 ?_;refine og bQ ?_ _;go_wp2;go_ret;refine⟨rfl,?_⟩;exact Q_
end
end Go.Proofs.YtfiiblnenhdlhaaGreat
