/- Part. -/
import Derived.Test.YtfiiblnenhdlhaaGreatC7
set_option linter.unusedVariables false
set_option linter.unusedSimpArgs false
set_option linter.defProp false
set_option maxRecDepth 100000
set_option maxHeartbeats 4000000
namespace Go.Proofs.YtfiiblnenhdlhaaGreat
open Go.RowKit Tryz
variable {e0:List Nat}{R:List ax}{cp:List e9}{l:List hE}{f:Lit->Option Value}{B N P b base cap dd k n p q:Nat}{cur p':Nat->Nat}{D F M O O' bX:Nat->Prop}{a:Option Addr}{e:TypeId}{w w':World}{c:bK}{x:bR}{d:bb}{s s':ew}{v:gB}
section
open Go.RowKit Go.Sort Go.Shelf
structure FG (w:World) (bD:List ax) (p fx tm n s:Nat) (f:Lit->Option Value):Prop where
 b:w.cell? ⟨fx,0,none⟩=some (.pointer (some ⟨p,0,none⟩))
 c:w.cell? ⟨p,12,none⟩=some (.map (some tm))
 m:fp w prog 54 tm n s f
 i:∀k (hk:k<bD.length),f (kb bD[k])=some (.int .i64 k)
def FG.ee{S:eZ}{bD:List ax}{fx tm s:Nat}(h:FG w bD p fx tm n s f)(aj:aI S w w')(bj:¬S fx/\¬S p/\¬S tm):FG w' bD p fx tm n s f:=
 ⟨aj.cell h.b bj.1,aj.cell h.c bj.2.1,h.m.ay (aj.block _ h.m.lt bj.2.2),h.i⟩
def FG.ext{bD:List ax}{fx tm s:Nat}(h:FG w bD p fx tm n s f)(X:Z w w'):FG w' bD p fx tm n s f:=⟨X.ag h.b,X.ag h.c,h.m.ext X,h.i⟩
def avk(base:Nat)(aA:bl)(n cap:Nat)(ei bD:List ax)(p fx tm n0 lr:Nat)(f:Lit->Option Value)(w:aC)(dX:aH w base 54 3 ax.cs aA n cap ei)(yd:ei.Nodup)(FA:∀x,x∈ei↔x∈bD)(qg:bD.Nodup)(bm:∀j,j∈bD->dY j)(hY:FG w bD p fx tm n0 lr f)(fH:fx<base/\p<base/\tm<base)(hlen:bD.length<=1000000):
  aS 307 #[ao aA n cap,(.func (.func 285) #[] #[fx])] w λe w'=>e=.returned (.tuple #[])/\aH w' base 54 3 ax.cs aA n cap bD/\aI (λx=>base<=x) w w':=by
 have aY:ei.Perm bD:=(List.perm_ext_iff_of_nodup yd qg).2 FA;have X5:=aY.length_eq;have aq:=dX.neq;by_cases aZ:n=0
 ·have avl:bD= []:=Bk J;have Qn:ei= []:=Bk J;subst aZ;refine(AnyF.slices_SortFunc_none ahQ aA cap _ w).mono ?_;rintro e w'⟨rfl,rfl⟩;refine⟨rfl,?_,aI.refl _ _⟩;rw[avl,<-Qn];exact dX
 ·obtain⟨g,cur,rfl,iV,bC,sx,hle,vM,Eg⟩:∃g cur,aA=some ⟨g,0,none⟩/\base<=g/\w.heap[g]?=some (.cells cur 54 (0,0))/\cur.size=cap*3/\n<=cap/\cap<=maxLen/\cur.toList.take (n*3)=ei.flatMap ax.cs:=by
   rcases dX.row.2 with ⟨bw,aq⟩|⟨g,aR,cur,bw,iV,Bj,hle,vM,sx,Eg⟩
   ·omega
   ·simp only[Value.slice.injEq]at bw;obtain⟨rfl,_,rfl⟩:=bw;exact⟨g,cur,rfl,iV,Bj,sx,hle,vM,Eg⟩
  obtain⟨d,fm,Hk⟩:=avc (λk:Fin bD.length=>bD[k]) aY (List.finRange bD.length) (ahU bD)
  haveI:Inhabited (Fin bD.length):=⟨⟨0,J⟩⟩
  have xL:d.length=n:=by rw[aq,<-Hk,cx]
  have xZ:∀l:List (Fin bD.length),l.flatMap (λk=>ax.cs bD[k])=(l.map (λk=>bD[k])).flatMap ax.cs:=λl=>by rw[List.flatMap_map]
  have vq:∀k:Fin bD.length,(ax.cs bD[k]).length=3:=λ_=>rfl;have hH:HoldsK (λk:Fin bD.length=>ax.cs bD[k]) 3 w g 0 d.toArray:=au9 vq ah bC (by rw[Eg,xZ,Hk]) xL.symm;have avm:CmpLays prog 285 #[fx] (λk:Fin bD.length=>ax.cs bD[k]) 3 MH g 0 d.toArray.size w:=by
   intro m os kH _ x y;have aj:=ahT (c:=λk:Fin bD.length=>ax.cs bD[k]) (sz:=3) w g m os kH;have Qz:=hY.ee aj ⟨by show ¬fx=g;omega,by show ¬p=g;omega,by show ¬tm=g;omega⟩;exact avj p fx tm n0 lr f bD[x] bD[y] (x.val:Int) (y.val:Int) _ (bm _ (cT _)) (bm _ (cT _)) Qz.b Qz.c Qz.m (Qz.i x.val x.isLt) (Qz.i y.val y.isLt)
  have Dy:=AnyQ.slices_SortFunc_total ahQ 3 isAgg54 sizeOf54 (λk:Fin bD.length=>ax.cs bD[k]) vq (λk v bw=>ax.cQ bD[k] v bw) MH avf 285 #[.pointer (some ⟨fx,0,none⟩)] g 0 cap d.toArray w (λ_ _=>by kernel_rfl) avm hH (bZ bC) (by simp;omega) (λx y h k=>by
   rw[JV]at h k;simp only[z7]at h k
   exact Fin.ext J)
  rw[show(d.toArray.size)=n from by simpa using xL]at Dy;refine Dy.mono ?_;rintro e w'⟨rfl,m,os,rfl⟩;rw[show d.toArray.toList=d from rfl,avg fm];refine⟨rfl,?_,(ahT w g m os _).mono (λx _ e=>(show x=g from e)▸iV)⟩;have o0:=ava (c:=λk:Fin bD.length=>ax.cs bD[k]) vq ah (m:=m) (os:=os) (ys:=List.finRange bD.length) iV bC sx hle vM (by rw[List.length_finRange];omega);refine⟨?_,J,ax.bI⟩;have az:=o0.row;rw[xZ,ahU]at az;exact az
def avn(b:Nat)(w:aC):aS 284 #[.map (some b)] w λe w'=>
  e=.returned (.func (.func 308) #[] #[w])/\w'=w.alloc (.cells #[.map (some b)] 158):=by
 go_enter func284,ntmps284;go_wp2;go_ret;exact⟨rfl,rfl⟩
def avo(qk b gO:Nat)(D0:DataW Unit)(bD:List ax)(bm:∀j,j∈bD->dY j)(w3:Maps.size D0=bD.length)(nL:∀x,x∈bD->Maps.has D0 (kb x)=true)(jV:∀eN,Maps.has D0 eN=true->∃i,i∈bD/\eN=kb i)(w:aC)(bF:w.cell? (qk,0)=some (.map (some b)))(bu:w.ownsMap prog 54 qK b gO D0)(hs:bD.length<=1000000):
  aS 306 #[(.func (.func 308) #[] #[qk])] w (ahP bD w):=by
 change aa _ at bF bu;go_enter func306,ntmps306;go_wp2_with fail;refine(au7 qk b gO D0 bD bm w3 nL jV _ bF bu hs).mono ?_;rintro e _⟨aA,n,cap,ei,rfl,H1,dg,fO⟩;change aa _ at H1 dg fO;go_wp2;go_ret;exact⟨aA,n,cap,ei,rfl,H1,dg,fO⟩
def avp(qk b gO:Nat)(bD:List ax)(p fx n0 lr:Nat)(f:Lit->Option Value)(w:aC)(R_:∀j,j∈bD->dY j)(yi:bD.Nodup)(db:FG w bD p fx b n0 lr f)(fs:lr=bD.length)(bk:∀eN v,f eN=some v->∃i,i∈bD/\eN=kb i)(bF:w.cell? (qk,0)=some (.map (some b)))(fH:fx<(w:Nat)/\p<(w:Nat))(hs:bD.length<=1000000):
  aS 283 #[(.func (.func 308) #[] #[qk]),(.func (.func 285) #[] #[fx])] w (qp 54 3 ax.cs bD w):=by
 obtain⟨D,bu,E2,S_⟩:=db.m;have tY:∀x,x∈bD->Maps.has D (kb x)=true:=λx X=>by
  obtain⟨k,hk,rfl⟩:=T6.1 X;rw[<-UJ bu,S_,db.i k hk];rfl
 have JJ:∀eN,Maps.has D eN=true->∃i,i∈bD/\eN=kb i:=λeN h=>by
  rw[<-UJ bu,S_]at h;obtain⟨v,bw⟩:=Option.isSome_iff_exists.1 h;exact bk eN v bw
 have w3:Maps.size D=bD.length:=by rw[E2,fs]
 have mV:=bu.lt;change aa _ at bF bu db tY JJ R_ yi;clear E2 S_;go_enter func283,ntmps283;go_wp2_with fail;refine(avo qk b _ D bD R_ w3 tY JJ _ bF bu hs).mono ?_;rintro e _⟨aA,n,cap,ei,rfl,H1,dg,fO⟩;change aa _ at H1 dg fO;go_wp2_with fail;refine(avk w aA n cap ei bD p fx b n0 lr f _ H1 dg.out.1 dg.out.2 yi R_ (db.ext fO) ⟨fH.1,fH.2,mV⟩ hs).mono ?_;rintro e _⟨rfl,gC,hg⟩;change aa _ at gC hg;go_wp2;go_ret;exact⟨aA,n,cap,rfl,gC,hg.ext (λx h=>h) fO⟩
def avq{b:aT}(H:ea w M D O c p q b v)(hk:gu c l R n b)(az:c.room<=1048576)(kd:∀j,j∈b.bD->dY j)(VG:b.bD.length<=1000000):
  aS 228 #[p] w (Ei 3 ax.cs (b.st.aB++b.bD) w):=by
 obtain⟨_,_,dh⟩:=H.c8.st;have G7:v.s.b.n<=1000000:=by rw[dh.b.neq];have:=(hk.U6 az).2.2;omega
 obtain⟨n0,_,f0,eh,Qn,AQ,gC,hg⟩:=H.yt;subst AQ;have yi:=I hk.bD.1;have bn:=I dh.b;have gD:=I (H.ext (w':=w.alloc (.cells #[p] 103)) U).box;have pj:=I (show(w.alloc (.cells #[p] 103)).heap[(w:Nat)]?=some (.cells #[p] 103)from gA);have U2:=aL (o:=12) gD rfl;have xp:p<(w:Nat):=bZ H.box;obtain⟨dK,eY,e5,e6,e7⟩:=fB yY;replace eY:=I eY;replace e5:=I e5;replace e6:=I e6;replace e7:=I e7;replace H:=I H;replace kd:=I kd;replace eh:=I eh;replace gC:=I gC;replace hg:=I hg;clear hk dh;go_enter func228,ntmps228;go_wp2_with (go_at_call 284;refine(avn _ _).mono ?_;rintro e w'⟨rfl,rfl⟩);have cn:Z w ((w.alloc (Obj.cells #[p] 103)).alloc (Obj.cells #[.map (some v.tm)] 158)):=U;have Qk:FG ((w.alloc (Obj.cells #[p] 103)).alloc (Obj.cells #[.map (some v.tm)] 158)) b.bD p w.heap.size v.tm n0 n0 f0:=⟨aL (show((w.alloc (Obj.cells #[p] 103)).alloc (Obj.cells #[.map (some v.tm)] 158)).heap[w.heap.size]?=some (Obj.cells #[p] 103)from gA) rfl,aL ((H.ext cn).box) rfl,eh.ext cn,gC⟩;have p7:((w.alloc (Obj.cells #[p] 103)).alloc (Obj.cells #[.map (some v.tm)] 158)).heap.size=w.heap.size+1+1:=by simp
 refine(avp (w.heap.size+1) v.tm n0 b.bD p w.heap.size n0 n0 f0 ((w.alloc (Obj.cells #[p] 103)).alloc (Obj.cells #[.map (some v.tm)] 158)) kd yi Qk Qn hg (aL (show((w.alloc (Obj.cells #[p] 103)).alloc (Obj.cells #[.map (some v.tm)] 158)).heap[w.heap.size+1]?=some (Obj.cells #[.map (some v.tm)] 158) by(exact HZ)) rfl) ⟨J,J⟩ VG).mono ?_;rintro e a6⟨_,m,_,rfl,cK,c0⟩;have Qx:=I ((show Z (w.alloc (.cells #[p] 103)) a6 from U).ay pj);have dU:=aL (o:=0) Qx rfl;have lA:=aL (o:=7) ((show Z (w.alloc (.cells #[p] 103)) a6 from U).ay gD) rfl;replace c0:=I c0;replace cK:=I cK;clear cn Qk p7 U2;go_wp2_with fail;refine(adI _ _ _ b.st.aB _ (bn.ext U) J).mono ?_;rintro e cB⟨a4,mz,_,rfl,ed,eA⟩;obtain rfl:mz=b.st.aB.length:=ed.neq;obtain rfl:m=b.bD.length:=cK.neq;have mV:b.st.aB.length<=1000000:=by rw[<-bn.neq];exact G7
 replace eA:=I eA;replace ed:=I ed;go_wp2_with (at_builtin;refine tf rfl λoz mx=>?_;go_must (refine te (c:=ax.cs) (ys0:=b.st.aB) (ys:=b.bD) (.tmp 16) (.tmp 17) 31 54 rfl dK _ 24 aiL eY e5 e6 e7 rfl ah rfl a6 (show Z a6 cB from U) ed rfl (cK.ext (show Z a6 cB from U)).aF ax.cQ J ah ?_);intro uY _ i_ _ Df mC ic DD;subst Df;refine mx _ _ ?_);change aa _ at mC ic;clear DD;go_wp2;go_ret;exact⟨uY,_,i_,rfl,mC.aF,U⟩
end
def ahW(au:List bb)(cl:List Int):∀(l:List bb) (h k:Nat),(zt au cl h l)[k]? =l[k]?.map (nG (pK (au.take (h+k))) cl)
 | [],h,k=>by simp[zt]
 |d::l,h,0=>rfl
 |d::l,h,k+1=>by
  show(zt au cl (h+1) l)[k]? =l[k]?.map _
  rw[ahW au cl l (h+1) k,Nat.add_right_comm h 1 k]
  rfl
def fU.ahX{aBw g:Nat}{ys:List bU}(h:fU w base x d)(az:aH w aBw 66 8 bU.cs (some (g,0)) n cap ys)(aj:aI (·=g) w w'):fU w' base x d:=by
 have hk:∀{β:Type}{cq:TypeId}{Qe:Nat}{c2:β->List Value}{aA:bl}{cF zL:Nat}{Mg:List β},aH w base cq Qe c2 aA cF zL Mg->cq≠66->aH w' base cq Qe c2 aA cF zL Mg:=λo he=>
  aj.bS o (λai ak k=>(o.gT az he) ai (g,0) ak rfl k)
 obtain⟨Mg,cm,cq,fo⟩:=h.e;exact⟨h.k,h.id,h.c,h.u,hk h.f ah,Mg,cm,hk cq ah,λy hy=>hk (fo y hy) ah⟩
def fD.T7{VH g:Nat}{ys:List bU}(h:fD w base (some (g,0)) n cap ys)(k:Nat)(hk:k<ys.length)(y:bU)(hy:fU w VH y.x y.d)(ad:base<=VH):
  fD ((((((((w.setCell ⟨g,k*8,.none⟩ y.x.k).setCell ⟨g,k*8+1,.none⟩ y.x.id.b).setCell ⟨g,k*8+2,.none⟩ (ae y.x.id.l)).setCell ⟨g,k*8+3,.none⟩ (ae y.x.id.s)).setCell ⟨g,k*8+4,.none⟩ y.x.c).setCell ⟨g,k*8+5,.none⟩ (ae y.x.u)).setCell ⟨g,k*8+6,.none⟩ y.x.f).setCell ⟨g,k*8+7,.none⟩ y.x.e) base (some (g,0)) n cap (ys.set k y):=by
 have aj:=T8 (S:=(·=g)) (aI.refl _ w) (R:=g) (k*8) (.inl rfl) y.x.k y.x.id.b (ae y.x.id.l) (ae y.x.id.s) y.x.c (ae y.x.u) y.x.f y.x.e;refine⟨h.cj.T7 k hk y,λz bp=>?_⟩;rcases Gb bp with af|af
 ·exact(h.ck z af).ahX h.cj aj
 ·rw[af];exact(hy.mono ad).ahX h.cj aj
def ahY(h:x.k=d.k/\x.id=d.id/\x.c=d.c/\x.u=d.u/\aH w' base 154 5 T.cs x.f.a x.f.n x.f.c d.ts/\∃ys:List eu,ys.map (·.dt)=d.aX/\aH w' base 34 1 eu.cs x.e.a x.e.n x.e.c ys/\∀y,y∈ys->aH w' base 77 4 cI.cs y.v.a y.v.n y.v.c y.dt):fU w' base x d:=
 let ⟨bH,b1,dJ,eG,h4,ys,pN,qE,qF⟩:=h;⟨bH,b1,dJ,eG,h4,ys,pN,qE,qF⟩
def ahZ{R:Nat}{xs:List ax}(h:a7 w 3 ax.cs a n cap xs)(bB:w.heap[R]?=some (JW:Obj))(aj:aI (·=R) w w'):a7 w' 3 ax.cs a n cap xs:=
 ⟨h.neq,h.len,h.max,h.none,h.bI,λk x hk=>by
  obtain⟨b,o,ak,al⟩:=h.at_ k x hk;refine⟨b,o,ak,λj v aD=>aj.cell (al j v aD) (λe=>?_)⟩;have e:b=R:=e;subst e;have aZ:=al 0 _ rfl;have an:=al 2 _ rfl;simp only[World.cell?,bB]at aZ an;generalize o+k*3=q at aZ an
  match q,aZ,an with
  |0,aZ,an=>simp at an
  |1,aZ,an=>simp at aZ
  |2,aZ,an=>simp at aZ
  |3,aZ,an=>simp at aZ
  |4,aZ,an=>simp at aZ
  |5,aZ,an=>simp at aZ
  |6,aZ,an=>simp at aZ
  |7,aZ,an=>simp at aZ
  |q+8,aZ,an=>simp at aZ⟩
def avr{b:aT}{hx:Nat}{iO:dv}{bw:Nat}{dM:List bb}{dL fJ Cm po:bl}{eC ah0 dO on gg tH Cn mX nQ avs VH:Nat}{ys os:List bU}(af:b.oO hx=iO)(an:min iO.h b.st.au.length=bw)(aO:ys.map (·.d)=zt b.st.au (sT c hx) bw (x2 b.st.au bw))(bt:os.map (·.d)=(dM.take 16).map (nG (pK b.st.au) (sT c hx)))(cC:(if b.lf=true then b.dT else b.st.ps)=dM)(he:eC=ah0)(lE:fD w avs dL eC dO ys)(rT:fD w VH fJ on gg os)(Mm:a7 w 3 ax.cs Cm tH Cn (y2 (b.st.aB++b.bD) (iO.dq.map (·.id))))(VI:a7 w 3 ax.cs po mX nQ (rv (λi=>iP b.st.au i||iP b.st.ps i||iP b.dT i) iO.vs)):
  tP w ⟨2,(bw:Int),⟨none,0,0⟩,⟨none,0,0⟩,⟨dL,ah0,dO⟩,⟨fJ,on,gg⟩,⟨Cm,tH,Cn⟩,⟨po,mX,nQ⟩⟩ (b.BO c hx):=by
 subst af an cC he;exact⟨rfl,rfl,a7.nil _ V.bI,Mf _,⟨ys,lE.sE.aF,lE.sE.ck,aO⟩,⟨os,rT.sE.aF,rT.sE.ck,bt⟩,Mm,VI⟩
def avt{b:aT}(H:ea w M D O c p q b v)(b6:gu c l R n b)(cg:im c)(kd:∀j,j∈b.bD->dY j)(VG:b.bD.length<=1000000)(aq:b.st.au.length<=10000)(hx:Nat)(avu:hx<c.ps.length)(avv:gw (b.oO hx).h):
  aS 153 #[p,(hx:Int)] w λe w'=>∃x:kz,e=.returned (.agg #[x.k,ae x.h,x.v,x.q,x.e,x.p,x.b,x.d])/\tP w' x (b.BO c hx)/\Z w w':=by
 have n1:c.ps.length<=16:=by
  have bm:=cg.x9;unfold j8 at bm;simp only[jS,jT]at bm;exact bm.1.2
 obtain⟨_,lr,_,h2,U8,b9,VJ⟩:=H.iO.get (k:=hx) J;obtain⟨au,ps,dN⟩:=H.c8.st;obtain⟨Vg,fL,xx⟩:=H.c8.dT.sE;have cn:Z w (w.alloc JW):=U;have eh:=I (U8.ext cn);have yy:=I VJ.c8;have oh:=I (DP (k:=(hx:Int)) (uG J J));have fK:aa (∀d,d∈b.st.au->gZ d):=λd aG=>(b6.fz.BR.au d aG).ok;have avw:aa (∀d,d∈b.st.ps->gZ d):=λd aG=>(b6.fz.BR.ps d aG).ok;have avx:aa (∀d,d∈b.dT->gZ d):=λd aG=>(b6.x7 d aG).1.ok;have gD:=I H.box;have qz:=aL (o:=10) (cn.ay gD) rfl;have r6:v.s.l.n=b.st.au.length:=by rw[dN.l.aF.neq,<-dN.jI,cx]
 obtain⟨iO,QA⟩:∃iO,b.oO hx=iO:=⟨_,rfl⟩;have ah1:(b.gq hx).getD TG=iO:=QA;rw[ah1]at yy;rw[QA]at avv;change aa _ at yy;refine ahk ?_;intro ct bO bL bM bP;replace H:=I H;replace b6:=I b6;replace cg:=I cg;replace kd:=I kd;replace b9:=I b9;replace dN:=I dN;replace fL:=I fL;replace xx:=I xx;replace r6:=I r6;replace QA:=I QA;clear U8 VJ ah1;go_enter func153,ntmps153;go_wp2_with (at_lookup;(refine Fj rfl (λK aE=>agu _ _ rfl DO underlying157 _ (agW _) rfl rfl eh rfl oh ?_);rw[b9.out];refine aE _ _ ?_;clear aE K));have dz:Z w ((w.alloc JW).alloc h2):=U;refine(atf (H.ext dz) cg hx avu).mono ?_;rintro e w1⟨vX,Gf,h7,rfl,Mn,bz⟩;have qG:=I Mn.aF;have cU:=I (bz.ay (show((w.alloc JW).alloc h2).heap[(w:Nat)+1]?=some (h2:Obj)from gA));have Hu:=I (bz.ay (show((w.alloc JW).alloc h2).heap[(w:Nat)]?=some (JW:Obj)from gA));have T_:=I (dz.trans bz);have kB:=aL (o:=5) (T_.ay gD) rfl;have eI:w1.cell? (w,1,1)=some ↑(ae (iO.h:Int)):=by rw[<-yy.h];exact aL cU rfl
 replace bz:=I bz;clear Mn cn dz qz;obtain⟨bw,U_⟩:∃bw,min iO.h b.st.au.length=bw:=⟨_,rfl⟩;have aAC:bw<=b.st.au.length:=J;have V_:min (iO.h:Int) (IntKind.u64.wrap (v.s.l.n:Int))=(bw:Int):=by
  have af:=r6.out;have:IntKind.u64.wrap (v.s.l.n:Int)=(v.s.l.n:Int):=G5 _ ⟨J,J⟩;omega
 replace U_:=I U_;replace V_:=I V_;go_wp2_with fail;rw[V_.out];refine(anx v.s.l.a v.s.l.n v.s.l.c au bw _ (dN.l.ext U) (Mb dN.jI fK) (by rw[r6.out];omega)).mono ?_;rintro e _⟨dL,eC,dO,aX,rfl,VK,T5,ah2,bq⟩;have JX:aX.map (·.d)=x2 b.st.au bw:=by rw[ah2,List.map_take,List.map_drop,dN.jI];rfl
 have r9:eC<=4:=by rw[VK.neq,<-cx (f:=(·.d)),JX];unfold x2;rw[nF];omega
 have hf:=I (fD.mk VK T5);have VL:=VK.neq;have aAD:bw+eC<=b.st.au.length:=by rw[VL,<-cx (f:=(·.d)),JX];unfold x2;rw[nF,CM];omega
 replace bq:=I bq;replace JX:=I JX;clear VK T5 ah2 kB eI;go_wp2_with fail;go_loopg [46] eC (λg dS wr=>∃(k:Nat) (ys:List bU),g+k=eC/\dS=.int .i64 (k:Int)/\ys.length=eC/\aa (fD wr w1 dL eC dO ys)/\aa (∀j,j<eC->(ys[j]?).map (·.d)=if j<k then ((x2 b.st.au bw)[j]?).map (nG (pK (b.st.au.take (bw+j))) (sT c hx)) else (x2 b.st.au bw)[j]?)/\aa (Z w1 wr));case atStart=>exact⟨0,aX,J,rfl,VL.symm,hf,λj aD=>by rw[aV (Nat.not_lt_zero _),<-JX.out,nd],bq⟩
 case round=>
  obtain⟨k,ys,bC,rfl,Ur,b7,sc,X⟩:=hrel;by_cases hk:k<eC
  ·obtain⟨hb,rfl⟩:∃hb,dL=some ⟨hb,0,none⟩:=by
    rcases b7.cj.row.2 with ⟨bw,aq⟩|⟨g,aR,cur,bw,_⟩
    ·omega
    ·simp only[Value.slice.injEq]at bw;exact⟨g,bw.1⟩
   have DC:k<ys.length:=J;have A7:(ys[k].d)=(x2 b.st.au bw)[k]'W_:=by
    have af:=sc.out k hk;rw[aV (Nat.lt_irrefl _),eK DC,eK W_]at af;exact w9 af
   have hs:=b7.cj.Ie k DC;obtain⟨cO,c1,c2,cV,dF,dH,eJ,eM⟩:=nh (x:=ys[k].x) hs;have avy:=I (b7.ck _ (cT DC));have FH:gZ ys[k].d:=by rw[A7];exact fK _ (KX (Bt (cT _)))
   have b0:(0:Int)<=(k:Int):=J;have bf:(k:Int)<(eC:Int):=J;have pj:aa ((wr.alloc ys[k].x).heap[(wr:Nat)]?=some (ys[k].x:Obj)):=e2 rfl;have VC:IntKind.i64.wrap (bw:Int)=(bw:Int):=IntWalk.i64_in _ ⟨J,J⟩;have Hx:IntKind.i64.wrap ((bw:Int)+(k:Int))=((bw+k:Nat):Int):=by rw[IntWalk.i64_in _ ⟨J,J⟩];rfl
   replace A7:=I A7;replace FH:=I FH;clear hs;go_wp2_with fail;refine BU 12 (λw'=>Z (wr.alloc ys[k].x) w') (λbd=>?_);refine P3 ?_;refine gR 4 ?_;refine gR 5 ?_;refine gR 6 ?_;refine gR 8 ?_;refine l1 9 (·.ay pj) ?_;refine kW 7 λK aE=>?_;go_simp;go_at_call 99;refine(J' (H.ext U) fK aq (bw+k) J).mono ?_;rintro e a6⟨sa,kD,nS,ei,rfl,iB,nW,c0⟩;have Gz:kD<=10000:=by
    rw[iB.aF.neq,<-cx (f:=cu.d),nW];have:=U9 (b.st.au.take (bw+k)) [];rw[pH,nF]at this;unfold pK;omega
   have ev:=I (show ∀s,s∈ei->s.ts.length<=10000 from λs hs=>by
    have af:s.d∈pK (b.st.au.take (bw+k)):=by rw[<-nW];exact nH hs
    have:s.d.ts.length<=100:=I' fK (bw+k) s.d af
    exact ek this J)
   replace c0:=I c0;replace iB:=I iB;replace nW:=I nW;refine Fs ?_;intro hH bd;refine kW 10 λK aE=>?_;go_simp;go_at_call 226;refine(abS sa kD nS ei vX Gf h7 (sT c hx) ys[k].x ys[k].d _ ⟨iB.aF.ext U,λs hs=>(iB.ts s hs).ext U⟩ (qG.ext U) (avy.ck.ext U) ev Gz (ek FH.r8.ts J) (ek FH.r8.aX J) (λe he=>ek (FH.r8.dt e he) J)).mono ?_;rintro e cB⟨iI,rfl,js,eA⟩;have Vz:(w1:Nat)<=(a6:Nat):=Z.size U;have zY:=I ((ahY js).mono (aBw:=(w1:Nat)) Vz);replace eA:=I eA;clear js Vz;refine Fs ?_;intro hH bd;refine gR 11 ?_;have JY:=I (b7.ext (w':=cB) U);have hs:=I (JY.cj.Ie k DC);obtain⟨lr,gM,kM,oG,aBs,aBt,w6,vW⟩:=nh (x:=ys[k].x) hs;have E3:∀q,cB.frozen? ⟨hb,q,none⟩=false:=λq=>JY.cj.free q;refine kW 12 λK aE=>?_;refine Jf ?_;intro _;have lX:=I (JY.T7 k DC ⟨iI,nG (ei.map cu.d) (sT c hx) ys[k].d⟩ zY (bJ _));have wa:(w1:Nat)<=hb:=(b7.cj.lt _ rfl).1;have avz:=I ((T8 (S:=(·=hb)) (aI.refl _ cB) (R:=hb) (k*8) (.inl rfl) iI.k iI.id.b (ae iI.id.l) (ae iI.id.s) iI.c (ae iI.u) iI.f iI.e).ext (W:=w1) (λb ad=>by have ad:b=hb:=ad;omega) U);clear lr gM kM oG aBs aBt w6 vW;go_wp2;go_roundg (gk - 1);case measure=>omega
   case rel=>
    refine⟨k+1,ys.set k ⟨iI,nG (ei.map cu.d) (sT c hx) ys[k].d⟩,J,by go_num,by rw[CT];exact Ur,lX,λj aD=>?_,avz⟩;rw[GY];by_cases DT:k=j
    ·subst DT;rw[bc rfl,bc DC,bc (QB _),nW.out,A7.out,eK W_];rfl
    ·rw[aV DT,sc.out j aD];by_cases NB:j<k
     ·rw[bc NB,bc J]
     ·rw[aV NB,aV J]
  ·have TD:k=eC:=J;subst TD;have xZ:(x2 b.st.au bw).length=k:=by rw[<-JX.out,cx];exact VL.symm
   have X_:=I (show ys.map (·.d)=zt b.st.au (sT c hx) bw (x2 b.st.au bw) by
    apply LD;intro j;rw[ahW,nd];by_cases aD:j<k
    ·rw[sc.out j aD,bc aD]
    ·rw[zy J,zy J];rfl)
   change aa _ at b7;have hi:=I X;clear sc X xZ;have iy:=(show Z w wr from U).ay gD;obtain⟨-,-,-,-,-,-,avA,-,-,-,-,-,-,ah3⟩:=ak0 iy;clear iy;obtain⟨dM,sh⟩:∃dM,(if b.lf=true then b.dT else b.st.ps)=dM:=⟨_,rfl⟩;replace sh:=I sh;go_wp2_with fail;refine(P1 (H.ext U)).mono ?_;rintro e bA⟨rfl,VM⟩;replace VM:=I VM;go_upto_if 70 with (fail);go_cut [12] (λu eD=>∃(JS:bl) (JT FF:Nat) (mp:List bU),u=.slice JS JT FF/\aa (iG eD JS JT FF mp)/\aa (mp.map (·.d)=dM)/\aa (Z bA eD));case first=>
    have aAE:=(show Z wr bA from U).ag ah3;cases Co:b.lf with
    |true=>
     have zQ:=sh.out;rw[bc Co]at zQ;clear Co;go_wp2;go_meet;exact⟨_,_,_,Vg,rfl,fL.ext U,I (xx.trans zQ),U⟩
    |false=>
     have zQ:=sh.out;rw[aV (by rw[Co];decide)]at zQ;clear Co;go_wp2;go_meet;exact⟨_,_,_,ps,rfl,dN.p.ext U,I (dN.kV.trans zQ),U⟩
   case rest=>
    obtain⟨_,_,FF,mp,rfl,QC,ah4,ah5⟩:=hcut;have ah6:aa (b.st.au.take b.st.au.length=b.st.au):=iU (bJ _);have hle:=r6.out;clear avA ah3;go_wp2_with fail;rw[r6.out];refine(J' (H.ext U) fK aq b.st.au.length (bJ _)).mono ?_;rintro e c4⟨sa,kD,nS,ei,rfl,iB,nW,jr⟩;rw[ah6.out]at nW;have uB:∀d,d∈dM->gZ d:=by
     rw[<-sh.out];split
     ·exact avx
     ·exact avw
    have QD:=QC.aF.neq;have SN:=QC.aF.len;have vM:=QC.aF.max;have Y_:mp.length=dM.length:=by rw[<-ah4.out,cx]
    unfold maxLen at vM;subst QD;obtain⟨xq,Z_⟩:∃xq,min dM.length 16=xq:=⟨_,rfl⟩;have Pg:min (dM.length:Int) 16=(xq:Int):=J;have m0:(0:Int)<=(xq:Int):=J;have m1:(xq:Int)<=(FF:Int):=J;have aAF:xq<=mp.length:=J;replace Z_:=I Z_;have Gz:kD<=10000:=by
     rw[iB.aF.neq,<-cx (f:=cu.d),nW];have:=U9 b.st.au [];rw[pH]at this;unfold pK;omega
    have ev:=I (show ∀s,s∈ei->s.ts.length<=10000 from λs hs=>by
     have af:s.d∈pK (b.st.au.take b.st.au.length):=by rw[ah6.out,<-nW];exact nH hs
     have:s.d.ts.length<=100:=I' fK _ s.d af
     exact ek this J)
    replace jr:=I jr;replace iB:=I iB;replace nW:=I nW;replace uB:=I uB;clear hle;go_wp2_with fail;replace Y_:=I Y_;go_loopg [14,84] xq (λg e4 dS wr=>∃(k:Nat) (fJ:bl) (gg:Nat) (os:List bU),g+k=xq/\dS=.int .i64 (k:Int)/\e4=.slice fJ k gg/\aa (fD wr c4 fJ k gg os)/\aa (os.map (·.d)=(dM.take k).map (nG (pK b.st.au) (sT c hx)))/\aa (Z c4 wr));case atStart=>exact⟨0,none,0,[],J,rfl,rfl,⟨aH.nil _ _ _ bU.bI,λp aY=>by cases aY⟩,rfl,Z.refl _⟩
    case round=>
     obtain⟨k,fJ,gg,os,_,rfl,rfl,dX,ah7,X⟩:=hrel;by_cases hk:k<xq
     ·have Ac:k<mp.length:=J;have uV:k<dM.length:=by rw[<-Y_.out];exact Ac
      obtain⟨fb,o,rfl,fR⟩:=QC.aF.get k Ac;obtain⟨_,_,_,_,_,_,_,_⟩:=nh (w:=wr) (b:=fb) (o:=o+k*8) (x:=mp[k].x) (λj v aD=>(jr.trans X).ag (fR j v aD));have od:=I (QC.ck _ (cT Ac));have k7:mp[k].d=dM[k]:=by
       have af:(mp.map (·.d))[k]? =dM[k]? :=by rw[ah4.out]
       rw[nd,eK Ac,eK uV]at af;exact w9 af
      have FH:=I (show gZ mp[k].d by rw[k7];exact uB _ (cT uV))
      have hR:=I (show(dM.take (k+1)).map (nG (pK b.st.au) (sT c hx))=os.map (·.d)++[nG (ei.map cu.d) (sT c hx) mp[k].d] by
       rw[iv uV,fT,<-ah7.out,nW.out,k7];rfl)
      have b0:(0:Int)<=(k:Int):=J;have bf:(k:Int)<(xq:Int):=J;clear fR k7;go_wp2_with fail;refine(abS sa kD nS ei vX Gf h7 (sT c hx) mp[k].x mp[k].d _ ⟨iB.aF.ext U,λs hs=>(iB.ts s hs).ext U⟩ (qG.ext U) (od.ext U) ev Gz (ek FH.r8.ts J) (ek FH.r8.aX J) (λe he=>ek (FH.r8.dt e he) J)).mono ?_;rintro e dR⟨iI,rfl,js,s8⟩;have ah8:(c4:Nat)<=(wr.alloc mp[k].x).heap.size:=Z.size U;have zY:=I ((ahY js).mono (aBw:=(c4:Nat)) ah8);replace s8:=I s8;clear js ah8;go_wp2_with (at_builtin;refine hc (ys:=os) rfl (.tmp 88) (.tmp 93) 42 rfl ct _ 96 aiM bO bL bM bP rfl ah rfl (dX.cj.ext U) ⟨iI,nG (ei.map cu.d) (sT c hx) mp[k].d⟩ _ rfl (fi (cs:=bU.cs ⟨iI,nG (ei.map cu.d) (sT c hx) mp[k].d⟩) (by simp)) (bU.cQ _) J ah (Z.size U) ?_;intro _ ij dc ha fy);have MI:=dX.ext (w':=dR.alloc iI) U;have jA:=I (MI.qA fy ha (zY.ext U));have pn:=I (fy.ext (W:=c4) MI.cj (bJ _) U);clear ha fy MI;go_wp2;go_roundg (gk - 1);case measure=>omega
      case rel=>exact⟨k+1,_,ij,os++[⟨iI,nG (ei.map cu.d) (sT c hx) mp[k].d⟩],J,by go_num,rfl,jA,by rw[hR.out,fT];exact rfl,pn⟩
     ·have Ac:k=xq:=J;subst Ac
      have avB:=I (show os.map (·.d)=(dM.take 16).map (nG (pK b.st.au) (sT c hx)) by
       rw[ah7.out,List.take_eq_take_iff.2 (show min k dM.length=min 16 dM.length by have:=Z_.out;omega)])
      have mE:aa (Z w1 wr):=U;have ah9:=I ((T_.trans mE).ay gD);have aia:=I (mE.ay cU);have avC:=I (mE.ay Hu);have iZ:(w:Nat)<(w1:Nat):=bZ Hu;go_wp2_with fail;refine BU 19 (Z wr) (λbd=>?_);refine P3 ?_;refine gR 5 ?_;refine l1 6 (·.ay aia) ?_;refine gR 8 ?_;refine gR 9 ?_;refine gR 10 ?_;refine l1 11 (·.ay ah9) ?_;refine gR 12 ?_;refine gR 13 ?_;refine gR 14 ?_;refine l1 15 (·.ay ah9) ?_;refine l1 16 (·.ay aia) ?_;refine kW 4 λK aE=>?_;go_simp;go_at_call 228;refine(avq (H.ext U) b6 cg.room kd VG).mono ?_;rintro e _⟨gv,hU,fP,rfl,Qb,s8⟩;replace s8:=I s8;replace Qb:=I Qb;refine Fs ?_;intro hH bd;obtain⟨dq,P8,Dg⟩:=yy.q.sE;refine kW 7 λK aE=>?_;go_simp;go_at_call 227;refine(anu gv hU fP (b.st.aB++b.bD) _ _ _ (dq.map (·.x)) _ (Qb.ext U) (P8.cD.ext U)).mono ?_;rw[x' P8 Dg];rintro e _⟨Cm,tH,Cn,rfl,am,l2⟩;replace l2:=I l2;replace am:=I am;refine Fs ?_;intro hH bd;refine kW 17 λK aE=>?_;go_simp;go_at_call 229;refine(anb v.s (au.map (·.x)) (ps.map (·.x)) (Vg.map (·.x)) v.dT.a v.dT.n v.dT.c h2 iO.vs _ (dN.l.cD.ext U) (dN.p.cD.ext U) (fL.cD.ext U) (yy.v.ext U)).mono ?_;rw[asU dN.l dN.jI dN.p dN.kV fL.out xx.out];rintro e dc⟨po,mX,nQ,rfl,j6,pn⟩;replace pn:=I pn;replace j6:=I j6;refine Fs ?_;intro hH bd;refine gR 18 ?_;have hI:Z wr dc:=U;replace hI:=I hI;have yk:=I (hI.ay avC);obtain⟨z0,cZ,z2,z3,z4,z5,gx,fE⟩:dc.cell? (w,0)=some ↑av/\dc.cell? (w,1)=some ↑aw/\dc.cell? (w,2)=some ↑aP/\dc.cell? (w,3)=some ↑aP/\dc.cell? (w,4)=some ↑aP/\dc.cell? (w,5)=some ↑aP/\dc.cell? (w,6)=some ↑aP/\dc.cell? (w,7)=some ↑aP:=⟨aL yk rfl,aL yk rfl,aL yk rfl,aL yk rfl,aL yk rfl,aL yk rfl,aL yk rfl,aL yk rfl⟩;have mT:∀j,dc.frozen? ⟨(w:Nat),j,none⟩=false:=λj=>nM yk;refine kW 19 λK aE=>?_;refine Jf ?_;intro _;clear z0 cZ z2 z3 z4 z5 gx fE;have iz:=BF (S:=λx=>x=(w:Nat)) (aI.refl _ dc) (R:=(w:Nat)) (.inl rfl) (bo 2) (ae (bw:Int)) aP aP (ao dL aX.length dO) (ao fJ k gg) (ao Cm tH Cn) (ao po mX nQ);have VN:=PE yk (bo 2) (ae (bw:Int)) aP aP (ao dL aX.length dO) (ao fJ k gg) (ao Cm tH Cn) (ao po mX nQ);have VO:=iz.ext (W:=w) (λb ad=>by subst ad;exact bJ _) (T_.trans (mE.trans hI));have lE:=I ((b7.ext (VM.trans (ah5.trans (jr.trans (X.trans hI))))).gE iz (λx e=>by omega));have rT:=I ((dX.ext hI).gE iz (λx e=>by have:=Z.size (hi.trans (VM.trans (ah5.trans jr)));omega));have Mm:=I (ahZ (am.ext pn) yk iz);have VI:=I (ahZ j6 yk iz);replace VO:=I VO;clear iz;generalize ((((((((dc.setCell (w,0) (bo 2)).setCell (w,1) (ae (bw:Int))).setCell (w,2) aP).setCell (w,3) aP).setCell (w,4) (ao dL aX.length dO)).setCell (w,5) (ao fJ k gg)).setCell (w,6) (ao Cm tH Cn)).setCell (w,7) (ao po mX nQ))=Vy at VN VO lE rT Mm VI ⊢;obtain⟨z0,cZ,z2,z3,z4,z5,gx,fE⟩:=lM VN;replace VN:=I VN;go_wp2;refine ke (v:=.agg #[bo 2,ae (bw:Int),aP,aP,ao dL aX.length dO,ao fJ k gg,ao Cm tH Cn,ao po mX nQ]) (by simp[results,results153,go_sem,z0,cZ,z2,z3,z4,z5,gx,fE]) rfl ?_;exact⟨⟨2,(bw:Int),⟨none,0,0⟩,⟨none,0,0⟩,⟨dL,aX.length,dO⟩,⟨fJ,k,gg⟩,⟨Cm,tH,Cn⟩,⟨po,mX,nQ⟩⟩,rfl,avr QA U_ X_ avB sh VL lE rT Mm VI,VO⟩
structure vA where
 t:Nat
 s:iF
 m:dv
def vA.cs(o:vA):List Value:= [.int .i64 (o.t:Int),.slice o.s.a o.s.n o.s.c]
def vA.bI(o:vA):o.cs.length=2:=rfl
def vA.cQ(o:vA):∀u∈o.cs,u.oneCell'=true:=by
 intro u aj;simp only[vA.cs,oy,tb,ue]at aj;rcases aj with rfl|rfl<;>rfl
def avD:(prog.info? 183).map (λi=>(i.zero,i.size,i.bytes))=some (some (.agg #[av,aP]),2,32):=bQ
structure A8 (w:World) (base:Nat) (a:Option Addr) (n c:Nat) (os:List vA):Prop where
 cj:aH w base 183 2 vA.cs a n c os
 ck:∀o,o∈os->aH w base 5 1 cr o.s.a o.s.n o.s.c (qe o.m)
def A8.ext{c:Nat}{os:List vA}(h:A8 w base a n c os)(X:Z w w'):A8 w' base a n c os:=⟨h.cj.ext X,λo aM=>(h.ck o aM).ext X⟩
def aib(ob:Nat)(a:Option Addr):Nat->Prop:=λx=>x=ob\/FC a x
def aic{ob:Nat}{fJ:bl}{on gg:Nat}{os:List vA}(ir:w.heap[ob]?=some (.cells #[ao fJ on gg] 180))(bu:A8 w base fJ on gg os)(mV:base<=(w:Nat))(C5:on<=1000)(x:kz)(m:dv)(bF:tP w x m)(JN:rb m)(Cl:Nat):
  aS 146 #[(Cl:Int),x,ob] w λe w'=>e=.returned (.tuple #[])/\aI (aib ob fJ) w w'/\
   ∃pT rR s,w'.heap[ob]?=some (.cells #[.slice pT (on+1) rR] 180)/\A8 w' base pT (on+1) rR (os++[⟨Cl,s,m⟩]):=by
 obtain⟨ct,bO,bL,bM,bP⟩:=fB avD;change aa _ at bO bL bM bP ir bu bF JN;have ix:(w.alloc x).heap[(w:Nat)]?=some (x:Obj):=e2 rfl;obtain⟨z0,cZ,z2,z3,z4,z5,gx,fE⟩:=lM ix;have b3:aa (Z w (w.alloc x)):=U;go_enter func146,ntmps146;go_wp2_with fail;refine(ar6 x m _ (bF.ext b3) JN).mono ?_;rintro e w1⟨sa,kD,nS,rfl,iB,br⟩;have bz:=I (b3.trans br);have g0:=aL (o:=0) (bz.ay ir) rfl;have aAG:(w:Nat)<(w1:Nat):=by have:=br.size;simp at this;omega
 change aa _ at iB;clear ix z0 cZ z2 z3 z4 z5 gx fE br;have T':=I (bu.cj.eW ir ah);go_wp2_with (at_builtin;refine hc (ys:=os) rfl (.tmp 14) (.tmp 18) 180 rfl ct _ 32 underlying180 bO bL bM bP rfl ah rfl (bu.cj.ext (w':=w1.alloc (.cells #[(Cl:Int),ao sa kD nS] 183)) U) ⟨Cl,⟨sa,kD,nS⟩,m⟩ _ rfl (fi (cs:=vA.cs ⟨Cl,⟨sa,kD,nS⟩,m⟩) rfl) (vA.cQ _) J ah (by simp;omega) ?_;intro g9 ij dc ha fy;have so:=fy.ay (((Z.refl w1).alloc (.cells #[(Cl:Int),ao sa kD nS] 183)).ay (bz.ay ir)) T';have z0:=aL (o:=0) so rfl;have mT:∀j,dc.frozen? ⟨ob,j,none⟩=false:=(λj=>nM so));change aa _ at ha;have Mi:aa (aI (FC fJ) _ dc):=fy.ee.mono (λ_ _ k=>k);have avE:=I ((aI.of (show Z w (w1.alloc (.cells #[(Cl:Int),ao sa kD nS] 183))from U)).trans Mi);change aa _ at so;clear fy z0 mT g0;go_wp2;go_end0;have e8:aI (·=ob) dc (dc.setCell (ob,0) (.slice (some (g9,0)) (on+1) ij)):=(aI.refl (·=ob) dc).setCell (ob,0) (.inl rfl) _;have fN:aI (aib ob fJ) w (dc.setCell (ob,0) (.slice (some (g9,0)) (on+1) ij)):=(avE.mono (λ_ _ k=>.inr k)).trans (e8.mono (λ_ _ k=>.inl k));refine⟨rfl,fN,some ⟨g9,0,none⟩,ij,⟨sa,kD,nS⟩,en so 0 _,e8.bS ha (ha.eW so ah),λo aM=>?_⟩;rcases ie.1 aM with aM|aM
 ·refine fN.bS (bu.ck o aM) (λai ak k=>k.elim ((bu.ck o aM).eW ir ah ai ak) (fun⟨nJ,cm,cq⟩=>(bu.ck o aM).gT bu.cj ah ai nJ ak cm cq.symm))
 ·obtain rfl:=jg.1 aM;have bH:=iB.ext (w':=w1.alloc (.cells #[(Cl:Int),ao sa kD nS] 183)) U;have b1:=Mi.bS bH (λai ak ⟨nJ,cm,cq⟩=>by have q1:=(bu.cj.lt nJ cm).2;have dk:=(bH.lt ai ak).1;simp at dk;omega);have dJ:=e8.bS b1 (λai ak e=>by have e:ai.block=ob:=e;have q1:=bZ ir;have dk:=(bH.lt ai ak).1;simp at dk;omega);exact dJ.mono (by simp;omega)
def Ns(m k:Nat):Bool:=Nat.testBit m k
def ap{α:Type}(b:Bool)(f:Bool->α):α:=match b with
 |true=>f true
 |false=>f false
def Ay(B:Nat->aT)(n:Nat)(b:aT):Nat->aT:=λk=>if k=n then b else B k
def aAH(B:Nat->aT)(cur:Nat->Nat)(n:Nat)(qB:List (Nat×dv)):ba:=⟨λn=>.up (B n),λx y=>if x=n then (qB.filter (λo=>decide (o.1=y))).map (·.2) else [],cur⟩
section
section
variable {c:bK}{B:Nat->aT}{n:Nat}{cur:Nat->Nat}
def rounds(c:bK):Nat->ba->ba
 |0,w=>w
 |k+1,w=>rounds c k (w.round c)
end
end
def ba.aAJ(c:bK)(w:ba)(cl:Int)(i:ax):Int×Int:=
 match pM c cl with
 |none=>(0,1)
 |some n=>
  match w.bN n with
  |.down _=>(0,210)
  |.up b=>if i.b≠(n:Int) then (0,1) else (b.status i,0)
def ba.tZ(c:bK)(w:ba)(cl:Int):List (List cI)×Int×ba:=
 match pM c cl with
 |none=>([],1,w)
 |some n=>
  match w.bN n with
  |.down _=>([],210,w)
  |.up b=>if b.st.au.length<w.cur cl.toNat then ([],1,w) else ((b.Lr cl (w.cur cl.toNat)).1,0,w.O2 cl.toNat (b.Lr cl (w.cur cl.toNat)).2)
def qC.aBr(h:qC c cp s)(az:c.room<=60000):s.au.length<=10000:=by
 have af:=(Zc h.zA).1;have an:=O8 cp;have aO:=h.p3;simp only[kU,pH]at af;omega
def avF{b:aT}(h:gu c l R n b)(k:Nat):gw (b.oO k).h:=by
 unfold aT.oO;cases az:b.gq k with
 |none=>show gw 0;unfold gw;omega
 |some m=>exact(h.gq k m az).h
def avG{os:List vA}{f:Nat->dv}(hk:k<e0.length){cN:List (Nat×dv)}{o:vA}(h:os.map (λo=>(o.t,o.m))=cN++(e0.take k).map (λk=>(k,f k)))(aM:o.t=e0[k]/\o.m=f e0[k]):(os++[o]).map (λo=>(o.t,o.m))=cN++(e0.take (k+1)).map (λk=>(k,f k)):=by
 rw[fT,h,iv hk,fT,ig];congr 2;simp[aM.1,aM.2]
def avH{b:aT}{Fq:List ax}(H:ea w M D O c p q b v)(b6:gu c l Fq n b)(tY:gu c l R n (b.km c))(cg:im c)(pt:c.room<=60000)(hm:b.dd<c.ps.length)(a2:∀i,i∈R->dY i)(sI:∀i,i∈Fq->dY i)(aid:R.length<=1000000)(iV:∀i,i∈(b.km c).st.aB->i∈R):
  aS 86 #[p] w λe w'=>∃M' bX O' B fJ on gg os,e=.returned (ao fJ on gg)/\sn w' M' bX O' c p q (b.km c)/\ik w M D O w' M' bX O'/\(∀x,M' x->x<B)/\A8 w' B fJ on gg os/\os.map (λo=>(o.t,o.m))=(b.km c).qB c/\∀o,o∈os->rb o.m:=by
 have kd:aa (∀j,j∈b.bD->dY j):=λj aD=>sI j (b6.bD.2 j aD);have aBq:(b.km c).dd=b.dd:=by rw[tY.dd,b6.dd]
 obtain⟨bf,bE⟩:∃bf,b.km c=bf:=⟨_,rfl⟩;rw[bE]at tY iV aBq ⊢;have L7:aa (∀j,j∈bf.bD->dY j):=λj aD=>a2 j (tY.bD.2 j aD);have avI:aa (bf.bD.length<=1000000):=ek (Qh _ _ tY.bD.1 tY.bD.2) aid;have Gg:aa (∀k,rb (bf.BO c k)):=λk=>(aet cg.tolZ tY a2 iV k).1.ok;have yu:aa (rb (bf.GJ c)):=(aes cg.tolZ tY).ok;have P9:=I (tY.fz.aBr pt);have vQ:bf.dd<c.ps.length:=by rw[aBq];exact hm
 clear aBq;have n1:c.ps.length<=16:=by
  have bm:=cg.x9;unfold j8 at bm;simp only[jS,jT]at bm;exact bm.1.2
 replace H:=I H;replace b6:=I b6;replace cg:=I cg;replace bE:=I bE;replace tY:=I tY;clear a2 sI aid iV;go_enter func86,ntmps86;go_wp2_with fail;refine(ahe H b6 cg.tolZ hm kd).mono ?_;rintro e w1⟨nw,Di,r_,rfl,Ai,iD⟩;rw[bE.out]at Ai;obtain⟨v1,yD⟩:=Ai;replace yD:=I yD;replace iD:=I iD;go_wp2_with fail;have bq:aa (Z w1 (w1.alloc (.cells #[aP] 180))):=U;have N':aa ((w1.alloc (.cells #[aP] 180)).heap[(w1:Nat)]?=some (.cells #[aP] 180)):=e2 rfl;refine(P1 (yD.ext U)).mono ?_;rintro e a6⟨rfl,dz⟩;have c0:=I (bq.trans dz);have aiK:=I (dz.ay N');clear dz;go_upto_if 14 with (fail);go_cut [] (λeD=>∃(fJ:bl) (on gg:Nat) (os:List vA),on=os.length/\on<=1/\aa (eD.heap[(w1:Nat)]?=some (.cells #[ao fJ on gg] 180))/\aa (A8 eD (w1.heap.size+1) fJ on gg os)/\aa (os.map (λo=>(o.t,o.m))=(if bf.lf=true then [] else [(uw c bf.dd,bf.GJ c)]))/\aa (∀o,o∈os->rb o.m)/\aa (Z w1 eD));case first=>
  cases Co:bf.lf with
  |true=>
   have avJ:=I (show(if bf.lf=true then [] else [(uw c bf.dd,bf.GJ c)])=([]:List (Nat×dv))from by rw[Co];rfl);go_wp2;go_meet;exact⟨none,0,0,[],rfl,J,aiK,⟨aH.nil _ _ _ vA.bI,λo aM=>(by cases aM)⟩,I avJ.symm,I (λo aM=>(by cases aM)),c0⟩
  |false=>
   have FI:=I ((yD.ext c0).box);obtain⟨fb,_,xA,fR⟩:=yD.c8.cL.get bf.dd vQ;have MJ:=c0.ag (fR 0 c.ps[bf.dd] rfl);rw[jd]at MJ;simp only[uo]at MJ;have AP:=yD.c8.cL.neq;have b0:(0:Int)<=(bf.dd:Int):=J;have avK:(bf.dd:Int)<(v1.cL.n:Int):=J;have GV:c.ps[bf.dd]=(uw c bf.dd:Int):=by
    have aZ:0<bf.dd:=by
     rcases C7 bf.dd with e|e
     ·unfold aT.lf at Co;rw[e]at Co;cases Co
     ·exact e
    have:=(lZ.I6 cg.tolZ vQ aZ).2;rw[xk,eK vQ]at this;exact this
   rw[GV]at MJ;obtain⟨au,ps,dN⟩:=yD.c8.st;have r6:=I (show v1.s.l.n=bf.st.au.length from by rw[dN.l.aF.neq,<-dN.jI,cx]);have hle:=P9.out;have aAK:v1.s.l.n<=10000:=by rw[r6.out];exact hle
   change aa _ at Co;replace MJ:=I MJ;replace xA:=I xA;replace dN:=I dN;clear fR AP GV;go_wp2_with fail;refine rN 33 (Z a6) (λbd=>?_);refine tS ?_;refine dC 3 ?_;refine kG 4 (·.ay FI) ?_;refine dC 5 ?_;refine dC 6 ?_;refine dC 7 ?_;refine kG 8 (·.ay FI) ?_;refine dC 9 ?_ (hy:=λw fh=>by(try dsimp only at fh);(rw[xA.out]);exact A2);refine AO 10 (·.ag MJ) ?_;refine dC 11 ?_;refine dC 12 ?_;refine dC 13 ?_;refine dC 14 ?_;refine kG 15 (·.ay FI) ?_;refine dC 16 ?_;refine dC 17 ?_;refine dC 18 ?_;refine dC 19 ?_;refine dC 20 ?_;refine dC 21 ?_;refine kG 22 (·.ay FI) ?_;refine dC 23 ?_;refine dC 24 ?_;refine dC 25 ?_;refine kG 26 (·.ay FI) ?_;refine dC 27 ?_;refine dC 30 ?_;refine jz 28 λK aE=>?_;go_simp;go_at_call 150;refine(agZ (yD.ext U) cg.x9 vQ).mono ?_;rintro e cB⟨eb,dm,xJ,ms,rfl,DU,Fy,eA⟩;replace eA:=I eA;replace DU:=I DU;replace Fy:=I Fy;refine aE _ _ (λ_ _=>AM) λhH=>ej ?_;have bd:=hH rfl ah;refine jz 29 λK aE=>?_;go_simp;go_at_call 149;refine(anm v1.s.p.a v1.s.p.n v1.s.p.c (ps.map (·.x)) v1.gP.a v1.gP.n v1.gP.c bf.gP eb dm xJ (ms.map pq.hx) _ (dN.p.cD.ext U) (yD.c8.gP.ext U) (DU.ext U).c5).mono ?_;rw[asR dN.p dN.kV,Fy.out];rintro e bA⟨uC,vp,uD,rfl,aiJ,hi⟩;replace hi:=I hi;replace aiJ:=I aiJ;refine aE _ _ (λ_ _=>AM) λhH=>ej ?_;have bd:=hH rfl ah;refine jz 31 λK aE=>?_;go_simp;go_at_call 151;refine(ag8 (yD.ext U) tY L7 cg.x9 vQ).mono ?_;rintro e c4⟨si,rP,sj,dq,rfl,VP,aiI,jr⟩;replace jr:=I jr;replace VP:=I VP;replace aiI:=I aiI;refine aE _ _ (λ_ _=>AM) λhH=>ej ?_;have bd:=hH rfl ah;refine dC 32 ?_;refine jz 33 λK aE=>?_;go_simp;go_at_call 146;have aie:aa (Z a6 c4):=U;rw[show IntKind.u64.wrap (v1.s.l.n:Int)=(v1.s.l.n:Int)from G5 _ ⟨J,J⟩];refine(aic (ob:=(w1:Nat)) (base:=(w1:Nat)+1) (fJ:=none) (on:=0) (gg:=0) (os:= []) (aie.ay aiK) ⟨aH.nil _ _ _ vA.bI,λo aM=>(by cases aM)⟩ ?mV J ⟨1,(v1.s.l.n:Int),⟨uC,vp,uD⟩,⟨si,rP,sj⟩,⟨none,0,0⟩,⟨none,0,0⟩,⟨none,0,0⟩,⟨none,0,0⟩⟩ (bf.GJ c) ?Fv yu (uw c bf.dd)).mono ?_;case mV=>have:=(show Z w1 c4 from U).size;have:=bZ aiK;have:=aie.size;omega
   case Fv=>exact⟨rfl,(by rw[r6.out];rfl),aiJ.ext jr,⟨dq,VP.aF,VP.ck,aiI⟩,Mf _,Mf _,a7.nil _ ax.bI,a7.nil _ ax.bI⟩
   rintro e dR⟨rfl,Hy,be,bi,vW,JZ,ly⟩;replace Hy:=I Hy;replace JZ:=I JZ;replace ly:=I ly;refine J0 ?_;intro _;go_wp2;go_meet;refine⟨be,1,bi,_,rfl,J,JZ,ly,?_,?_,?_⟩
   ·rw[Co.out];exact I rfl
   ·exact I (λo aM=>by rw[jg.1 aM];exact yu)
   ·exact I (Hy.ext (λx X=>X.elim (λe=>by omega) (fun⟨ai,e,_⟩=>by cases e)) (show Z w1 c4 from U))
 case rest=>
  obtain⟨fJ,on,gg,os,_,_,rS,dX,kx,e3,X⟩:=hcut;have b8:=I kx;clear kx;go_wp2_with fail;refine(z' (yD.ext U) cg.x9 vQ).mono ?_;rintro e _⟨eb,_,xJ,rfl,we,eQ⟩;have eA:=I (X.trans eQ);have pF:=we.neq;rw[cx]at pF;have MK:=I (we.mono (aBw:=0) (gz _));have Bq:=I (eQ.ay rS);have ed:=I (dX.ext eQ);have Vd:aa (∀k,k∈bf.c5 c->k<c.ps.length):=λk hk=>xd.1 (pA.1 hk).1;obtain⟨e0,QE⟩:∃e0,bf.c5 c=e0:=⟨_,rfl⟩;rw[QE]at pF MK Vd;have rE:e0.length<=16:=by
   have:e0.length<=c.ps.length:=by rw[<-QE];unfold aT.c5 TH;exact ek (vP _ _) (by simp)
   omega
  obtain rfl:=pF;replace QE:=I QE;clear we eQ rS dX X;go_wp2_with fail;go_loopg [6,52] e0.length (λg K0 dS wr=>∃(k:Nat) (fJ:bl) (on gg:Nat) (os:List vA),g+k=e0.length/\dS=.int .i64 (k:Int)/\on<=1+k/\aa (wr.heap[(w1:Nat)]?=some (.cells #[ao fJ on gg] 180))/\aa (A8 wr (w1.heap.size+1) fJ on gg os)/\aa (os.map (λo=>(o.t,o.m))=(if bf.lf=true then [] else [(uw c bf.dd,bf.GJ c)])++(e0.take k).map (λk=>(k,bf.BO c k)))/\aa (∀o,o∈os->rb o.m)/\aa (aH wr 0 3 1 dP eb e0.length xJ (e0.map Int.ofNat))/\aa (Z w1 wr));case atStart=>exact⟨0,fJ,on,gg,os,J,rfl,J,Bq,ed,I (by rw[b8.out,EC,Lw,nc]),e3,MK,eA⟩
  case round=>
   obtain⟨k,pT,pr,rR,lF,_,rfl,_,rS,dX,kx,aif,FJ,X⟩:=hrel;by_cases hk:k<e0.length
   ·obtain⟨_,o,rfl,fR⟩:=FJ.aF.get k (by rw[cx];exact hk);have k4:=fR 0 _ rfl;rw[E6,jd]at k4;simp only[uo]at k4;have avL:=Vd.out e0[k] (cT hk);have b0:(0:Int)<=(k:Int):=J;have avK:(k:Int)<(e0.length:Int):=J;clear fR;go_wp2_with fail;refine(avt (yD.ext U) tY cg L7 avI P9 e0[k] avL (avF tY e0[k])).mono ?_;rintro e _⟨x,rfl,hi,kP⟩;replace hi:=I hi;replace kP:=I kP;go_wp2_with fail;refine(aic (ob:=(w1:Nat)) (kP.ay rS) (dX.ext kP) ?mV J x (bf.BO c e0[k]) hi (Gg e0[k]) e0[k]).mono ?_;case mV=>have:=bZ rS;have:=kP.size;omega
    rintro e _⟨rfl,Hy,be,bi,_,JZ,ly⟩;replace Hy:=I Hy;replace JZ:=I JZ;replace ly:=I ly;go_wp2;go_roundg (gk - 1);case measure=>omega
    case rel=>
     refine⟨k+1,be,pr+1,bi,_,J,by go_num,J,JZ,ly,I (avG hk kx ⟨rfl,rfl⟩),I (λo aM=>?_),I (Hy.bS (FJ.ext kP) (λai ak q=>q.elim ((FJ.ext kP).eW (kP.ay rS) ah ai ak) (fun⟨nJ,cm,cq⟩=>(FJ.ext kP).gT (dX.cj.ext kP) ah ai nJ ak cm cq.symm))),I (Hy.ext (W:=w1) (λx X=>X.elim (λe=>by omega) (fun⟨ai,e,cq⟩=>by have:=(dX.cj.lt ai e).1;omega)) U)⟩;rcases ie.1 aM with aM|aM
     ·exact aif o aM
     ·rw[jg.1 aM];exact Gg e0[k]
   ·have cb:e0.take k=e0:=iU J;rw[cb]at kx;have lP:=aL (o:=0) rS rfl;clear cb;go_wp2;go_ret;refine⟨nw,Di,r_,(w1:Nat)+1,pT,pr,rR,lF,rfl,⟨v1,yD.ext X⟩,iD.ext X,λx X=>by have:=yD.b5 x X;omega,dX,?_,aif⟩;rw[kx.out];unfold aT.qB;rw[QE.out]
def ce(h:qC c cp s)(az:c.room<=1048576):(∀r,r∈cp->xX r)/\IN (cp.map gi)/\(∀r,r∈cp->(gi r).length<=4000)/\cp.length<=200000:=by
 refine⟨h.r8 az,λx X=>?_,λr Ly=>(UZ (h.GU r Ly)).2,?_⟩
 ·obtain⟨r,Ly,rfl⟩:=lU.1 X;exact UZ (h.GU r Ly)
 ·have an:=O8 cp;have aO:=h.p3;omega
structure ML (c:bK) (cp:List e9) (s s':ew):Prop where
 ok:IN (cp.map gi)
 j3:∀r,r∈cp->xX r
 all:nT kU cp=some s
 Ud:∀r,r∈cp->(gi r).length<=4000
 n:cp.length<=200000
 eq:s'={s with l:=s.l+1}
 l:s.l<1000
 new:qC c (q5 s') s'
 room:c.room<=1048576
def avM(H:lB w D q (gj (cp.map gi)) (gj (cp.map gi)).length c.room)(bg:ML c cp s s')(ar:∀x,D x->M x)(tW:∀x,M x->x<(w:Nat)):
  aS 115 #[q] w λe w'=>∃(eE:Nat) (cf:iJ) (M' bX L O':eZ),e=.returned (.tuple #[eE,cf,av])/\qy w' M' bX L eE q ((q5 s').map gi) (gj ((q5 s').map gi)).length c.room/\
   cv M' w' (λw=>∃au ps,q6 w cf s' au ps)/\aI D w w'/\b4 w D bX/\b4 w M M'/\(∀x,M' x->M x\/bX x\/O' x)/\(∀x,L x->O' x)/\(∀x,O' x->(w:Nat)<=x/\M' x)/\(∀x,bX x->¬O' x):=by
 replace H:=I H;replace bg:=I bg;replace ar:=I ar;replace tW:=I tW;go_enter func115,ntmps115;go_wp2_with fail;have b3:Z w (w.alloc lD):=U;have iN:(w.alloc lD).heap[(w:Nat)]?=some (lD:Obj):=e2 rfl;have iC:(w.alloc lD).heap.size=(w:Nat)+1:=by simp
 obtain⟨bh,eX⟩:∃bh,w.alloc lD=bh:=⟨_,rfl⟩;rw[eX]at b3 iN iC ⊢;replace b3:=I b3;replace iN:=I iN;replace iC:=I iC;have avN:aa (∀x,D x->(λx=>M x\/x=(w:Nat)) x):=λx X=>.inl (ar x X);have Qa:aa (∀x,(λx=>M x\/x=(w:Nat)) x->x<(bh:Nat)):=λx X=>by rw[iC.out];rcases X with k|k;(have:=tW.out x k;omega);omega
 clear eX;refine(adT (λx=>M x\/x=(w:Nat)) D q _ _ c.room bh (H.ext b3) bg.ok avN Qa).mono ?_;rintro e w1⟨eE,rfl,aih,zn,pc,ih,fC⟩;replace pc:=I pc;replace ih:=I ih;replace fC:=I fC;replace aih:=I aih;go_wp2_with fail;refine(adS _ D zn eE q _ _ c.room w1 pc).mono ?_;rintro e aN⟨hD,h5,j3,ys,rfl,fW,BJ,bq⟩;replace fW:=I fW;replace BJ:=I BJ;replace bq:=I bq;go_wp2_with fail;refine(afC hD h5 j3 ys cp s aN fW.v BJ bg.j3 bg.all bg.Ud bg.n).mono ?_;rintro e a6⟨cf,au,ps,rfl,vv,dz⟩;have c0:=I (bq.trans dz);have Dw:=vv.cX;have avO:=bg.l;have VQ:rI a6 (aN:Nat) {cf with cX:=((s.l+1:Nat):Int)} s' au ps:=by rw[bg.eq];exact {vv with cX:=rfl}
 replace VQ:=I VQ;replace vv:=I vv;clear dz;go_wp2_with fail;have cm:(s.l:Int)+1=((s.l+1:Nat):Int):=J;rw[cm];obtain⟨Cb,zH⟩:∃Cb,a6.alloc (.cells #[ae ((s.l+1:Nat):Int),cf.l,cf.p,cf.b] 44)=Cb:=⟨_,rfl⟩;have uq:Z a6 Cb:=by subst zH;exact U
 have Cp:Cb.heap[(a6:Nat)]?=some (.cells #[ae ((s.l+1:Nat):Int),cf.l,cf.p,cf.b] 44 (0,0)):=by subst zH;exact e2 rfl
 rw[zH];clear zH;have e3:=bg.new.DM bg.room;have dj:s'.l≠0:=by rw[bg.eq];exact Nat.succ_ne_zero _
 replace uq:=I uq;replace Cp:=I Cp;refine(arw {cf with cX:=((s.l+1:Nat):Int)} s' au ps Cb (VQ.ext uq).ck e3 dj).mono ?_;rintro e cB⟨aii,ci,aij,VR,rfl,q0,DU,eQ⟩;have VS:=pc.b5;have aAL:(bh:Nat)<=(w1:Nat):=ih.size;have Hz:Z w1 cB:=c0.trans (uq.trans eQ);have avP:(w1:Nat)<=(cB:Nat):=Hz.size;have aAM:(w1:Nat)<=(Cb:Nat):=(c0.trans uq).size;have co:=pc.step (S:=λ_=>False) (aI.of Hz) (λ_ k=>k.elim) (λ_ _ k=>k) (b4.ep _ _) (λb ad=>fQ (VS b ad) avP);have tC:cv (k9 (λx=>M x\/x=(w:Nat)) zn) cB (λw=>xg w aii ci aij VR):=λw' aj=>(q0.ee aj (λb ad=>by have:=VS b ad;omega)).v;have d1:cv (k9 (λx=>M x\/x=(w:Nat)) zn) cB (λw=>q6 w {cf with cX:=((s.l+1:Nat):Int)} s' au ps):=(VQ.ext (uq.trans eQ)).b5 (λb ad=>by have:=VS b ad;have:=bq.size;omega);obtain⟨eI,hn,hL,ib⟩:=ce bg.new bg.room;have De:ci<=200000:=by
  have:=eH List.length DU;rw[cx,cx]at this;have:=q0.cj.neq;omega
 have d2:∀x,x∈VR->1<=x.aB.length/\x.aB.length<=4000:=λx X=>by
  have:x.aB∈(q5 s').map gi:=DU▸nH X;obtain⟨r,az,he⟩:=lU.1 this;rw[<-he];exact UZ (bg.new.GU r az)
 have BK:(gj (VR.map (·.aB))).length<=c.room:=by rw[DU,U0];exact bg.new.p3
 have VT:=(eQ.ay Cp);have sG:cB.heap[(w:Nat)]?=some (lD:Obj):=Hz.ay ((ih.block _ QF (λk=>by have:=tW.out _ (ar _ k);omega)).trans iN);replace co:=I co;replace tC:=I tC;replace d1:=I d1;replace d2:=I d2;replace DU:=I DU;replace VT:=I VT;replace sG:=I sG;replace Hz:=I Hz;clear q0 eQ eI hn hL ib e3 dj Dw avO VS cm;go_wp2_with fail;refine(api _ D zn eE q _ _ c.room aii ci aij VR cB co tC De d2 BK).mono ?_;rintro e bA⟨rfl,bX,la,vB,pG,QG,QH⟩;have zb:=(pG.block _ (bZ sG) (λk=>k.elim (λz=>by have:=tW.out _ (ar _ z);omega) (λz=>by have:=fC.out _ z;have:=iC.out;omega))).trans sG
 have A1:=(pG.block _ (bZ VT) (λk=>by
  have:(w1:Nat)<=(a6:Nat):=c0.size
  have:=pc.b5 _ (pc.sub _ k);omega)).trans VT
 obtain⟨_,_,_,_⟩:=oX A1;obtain⟨_,_,_,_,_⟩:=C8 zb;replace vB:=I vB;replace pG:=I pG;replace QG:=I QG;replace QH:=I QH;replace zb:=I zb;clear A1;go_wp2_with fail;go_region;obtain⟨c4,vC⟩:∃c4,((((bA.setCell (w,0) (.int .u64 ((s.l:Int)+1))).setCell (w,1) cf.l).setCell (w,2) cf.p).setCell (w,3) cf.b)=c4:=⟨_,rfl⟩;have f0:=LJ zb (.int .u64 ((s.l:Int)+1)) cf.l cf.p cf.b;have lI:=Dt (S:=λx=>x=(w:Nat)) (aI.refl _ bA) (R:=(w:Nat)) (.inl rfl) (.int .u64 ((s.l:Int)+1)) cf.l cf.p cf.b;rw[vC]at f0 lI;rw[vC];clear vC;have iz:aI (λx=>x=(w:Nat)) bA c4.drew:=lI.drew;obtain⟨z0,cZ,z2,z3⟩:=oX f0;have fa:=iC.out;have aik:∀x,D x->x<(w:Nat):=λx X=>tW _ (ar _ X);have J1:∀x,bX x->D x\/(w:Nat)+1<=x:=λx X=>(QG.new x X).imp id (λk=>by omega);have zR:∀x,la x->(w:Nat)+1<=x:=λx X=>(QH.new x X).elim (λk=>by have:=fC.out x k;omega) (λk=>by omega);have sA:∀x,k9 (k9 (λx=>M x\/x=(w:Nat)) zn) (n5 bX la) x->M x\/bX x\/x=(w:Nat)\/la x:=λx X=>by
  rcases X with ((k|k)|k)|k|k
  ·exact .inl k
  ·exact .inr (.inr (.inl k))
  ·exact .inr (.inr (.inr (QH.up x k)))
  ·exact .inr (.inl k)
  ·exact .inr (.inr (.inr k))
 have aj:aI D w c4.drew:=by
  have cE:aI (λx=>D x\/zn x\/x=(w:Nat)) w bA:=((aI.of b3).trans (ih.mono (λx _ k=>.inl k))).trans ((aI.of Hz).trans (pG.mono (λx _ k=>k.elim .inl (λz=>.inr (.inl z)))));exact(cE.trans (iz.mono (λx _ k=>.inr (.inr k)))).mono (λx X k=>k.elim id (λk=>k.elim (λz=>by have:=fC.out x z;omega) (λz=>by subst z;omega)))
 have ail:=vB.step iz (M':=k9 (k9 (λx=>M x\/x=(w:Nat)) zn) (n5 bX la)) (λb ad=>.inl (.inl (.inr ad))) (λb ad HA=>by subst HA;exact ad.elim (λk=>(J1 _ k).elim (λz=>by have:=aik _ z;omega) (λz=>by omega)) (λk=>by have:=zR _ k;omega)) (b4.ep _ _) (λb ad=>fQ (vB.b5 b ad) iz.size);rw[DU.out]at ail;have avQ:=((d1.step (pG.mono (S':=k9 (λx=>M x\/x=(w:Nat)) zn) (λx _ k=>pc.sub x k)) (M':=k9 (k9 (λx=>M x\/x=(w:Nat)) zn) (n5 bX la)) ⟨λx k=>.inl k,λx k=>k.elim .inl (λz=>z.elim (λy=>(QG.new x y).imp (λv=>pc.sub x (.inl v)) id) (λy=>(QH.new x y).imp (λv=>pc.sub x (.inr v)) id))⟩).step (iz.mono (λx _ k=>.inl (.inl (.inr k)))) (b4.ep _ _));go_wp2_with fail;refine⟨rfl,_,(by simp[results,results115,go_sem,z0,cZ,z2,z3];rfl),?_⟩;exact⟨eE,{cf with cX:=(s.l:Int)+1},_,bX,la,(λx=>x=(w:Nat)\/la x),rfl,ail,avQ.mono (λw k=>⟨au,ps,k⟩),aj,⟨λx k=>QG.up x k,λx k=>(J1 x k).imp id (λz=>by omega)⟩,⟨λx k=>.inl (.inl (.inl k)),λx k=>(sA x k).elim .inl (λz=>z.elim (λy=>(J1 x y).elim (λv=>.inl (ar x v)) (λv=>.inr J)) (λy=>.inr (y.elim (λv=>by omega) (λv=>by have:=zR x v;omega))))⟩,sA,λx k=>.inr k,λx k=>⟨k.elim (λv=>by omega) (λv=>by have:=zR x v;omega),k.elim (λv=>.inl (.inl (.inr v))) (λv=>.inr (.inr v))⟩,λx k hk=>hk.elim (λz=>(J1 x k).elim (λv=>by have:=aik x v;omega) (λv=>by omega)) (λz=>vB.gL x k z)⟩
section
section
variable {P:Program}{ops:Array Oper}{Q:Exit->Act->World->Prop}{md:Region.Mode}{S:World->Prop}{L:Nat}
def aim:∀(n:Nat) (l:Array Bool) (a:Act) (w:aC),l.getD L true=true->wpAnyH P md ops Q (λ_=>True) n l a w->qa P md ops Q S L n l a w
 |0,_,_,_,_,h=>h
 |n+1,l,_,_,a1,h=>⟨h.1,λi aK=>wpOp_mono (λga w' k=>⟨λe=>(by rw[a1]at e;cases e),aim n _ ga w' (by
   rw[PV,W1]
   rw[PV]at a1
   split
   ·split<;>rfl
   ·exact a1) k.2⟩) (h.2 i aK)⟩
end
end
section
section
variable {P:Program}{n:Nat}{α:Type}{g:Operand}{ps:Array Tmp}{assign body:Code}{Q:Exit->Act->World->Prop}{a:Act}{w:World}
def avR{gf:Nat}{lb:Array Value}(bC:a.eval g=.func (.func gf) #[] lb)(avS:∀args w,(callFunc gf args).run P w=.ok (.enter gf args) w)(VU:α->Array Value)(zM:∀x,(VU x).size=ps.size)(p:α->Prop)(S:List α->Prop)(D:Nat)(jw:(w:Nat)=D)(k0:List α->aC->Prop)(VJ:∀r,k0 [] ((w.alloc (.deferred (some []))).alloc (.loop r)))(el:∀cN W r UL,k0 cN W->W.heap[D+1]?=some (.loop r)->k0 cN (W.putObj (D+1) (.loop UL)))(em:∀(l:Nat) (mn:List α->aC->Prop) (W:aC),(∀cN W,mn cN W->k0 cN W)->(∀cN x iR,p x->mn cN iR->YieldAt Fence.wide (n - 1 - 1) P l (VU x) iR λe W'=>e=.returned (.bool true)/\mn (cN++[x]) W')->mn [] W->
   CallsIn Fence.wide (n - 1) P gf (#[.func (.yield l) #[] #[]]++lb) W λe W'=>(∃v,e=.returned v)/\∃xs,S xs/\mn xs W')(ain:α->Act)(avT:∀(l:Nat) (x:α) (W:aC) (K:Act->aC->Prop),K (ain x) W->
   assign.wpIn (Fence.wide.inRound l) (n - 1 - 1) P (Exit.then K (λ_ _ _=>False)) {tmps:=(ps.zip (VU x)).foldl (λt (p,v)=>t.setIfInBounds p v) a.tmps,defers:= []} W)(avU:∀(l:Nat) (cN:List α) (x:α) (W:aC),p x->k0 cN W->D+1<(W:Nat)->
   body.wpIn (Fence.wide.inRound l) (n - 1 - 1) P (λe _ W'=>e=.normal/\(W'.heap[D]? =W.heap[D]? /\W'.heap[D+1]? =W.heap[D+1]?)/\k0 (cN++[x]) W') (ain x) W)(avV:∀(xs:List α) (W:aC),S xs->k0 xs W->W.heap[D]?=some (.deferred (some []))->Q .normal {a with defers:={target:=.collected D,args:=#[]}::a.defers} W):
  (Code.rangeFunc g ps assign body).wpIn Fence.wide n P Q a w:=by
 subst jw;refine wpIn_rangeFunc ?_;intro fn KH;obtain⟨rec,HB⟩:∃rec:LoopState->Option Code->Loop,rec=λst QI=> {state:=st,pending:=QI,fn,tmps:=a.tmps,params:=ps,assign,body,defers:=(w:Nat)}:=⟨_,rfl⟩;obtain⟨iR,jj⟩:∃iR,(w.alloc (.deferred (some []))).alloc (.loop (rec .ready none))=iR:=⟨_,rfl⟩;have avW:iR.heap[(w:Nat)+1]?=some (.loop (rec .ready none)):=by
  rw[<-jj];have:=World.alloc_heap_new (w.alloc (.deferred (some []))) (.loop (rec .ready none));rwa [World.size_alloc]at this
 have s_:iR.heap[(w:Nat)]?=some (.deferred (some [])):=by
  rw[<-jj];exact(Below.heap_alloc _ _ _ (by simp)).trans (World.alloc_heap_new w _)
 have Vs:k0 [] iR:=by rw[<-jj];exact VJ _
 refine⟨(w:Nat)+1,[{target:=.collected (w:Nat),args:=#[]}],iR,{target:=.fn (.func gf) lb,args:=#[.func (.yield (w.heap.size+1)) #[] #[]]},iR,gf,
  #[.func (.yield (w.heap.size+1)) #[] #[]]++lb,iR,?_,?_,?_,?_,?_,?_⟩
 ·rw[<-jj,HB];exact run_enterLoop_outer _ _ _ _ _
 ·simp only[resolve,bC];simp[go_sem]
 ·intro _ _;trivial
 ·simp[invoke,go_sem,avS]
 ·intro h;cases h
 ·refine(em (w.heap.size+1) (λcN W=>k0 cN W/\W.heap[(w:Nat)+1]?=some (.loop (rec .ready none))/\W.heap[(w:Nat)]?=some (.deferred (some []))) iR (λ_ _ h=>h.1) ?_ ⟨Vs,avW,s_⟩).mono ?_
  ·rintro cN x W X⟨aK,a1,hk⟩;have fH:(w:Nat)+1<(W:Nat):=(Et.1 a1).1;have hy:=run_yield (P:=P) (args:=VU x) a1 (by rw[HB];exact zM x);rw[HB]at hy;refine⟨fn,_,assign,body,hy,roundIn_of_wpIn KH (avT _ x W _ ⟨_,run_beginRound a1 (by rw[HB]),?_⟩)⟩;have o6:(W.putObj (w.heap.size+1) (.loop {rec .ready none with state:=.busy})).heap[(w:Nat)+1]?=some (.loop {rec .ready none with state:=.busy}):=World.putObj_heap_same fH;have jV:(W.putObj (w.heap.size+1) (.loop {rec .ready none with state:=.busy})).heap[(w:Nat)]?=some (.deferred (some [])):=(VV J).trans hk;refine wpIn_mono (avU _ cN x _ X (el _ _ _ _ aK a1) (by simp;exact fH)) ?_;rintro e a3 _⟨rfl,⟨dU,cm⟩,avX⟩;have xb:=cm.trans o6;have az:=run_endRound (P:=P) none xb
   exact⟨_,_,az,rfl,by
    have:=el _ _ _ (rec .ready none) avX xb;rw[HB]at this ⊢
    exact this,by rw[HB];exact World.putObj_heap_same (Et.1 xb).1,(VV J).trans (dU.trans jV)⟩
  ·rintro e _⟨⟨v,rfl⟩,xs,bj,aK,a1,hk⟩;have he:=run_endLoop (P:=P) a1 (by rw[HB];simp);have aY:(rec .ready none).pending=none:=by rw[HB]
   rw[aY]at he;exact⟨none,_,he,avV xs _ bj (el _ _ _ _ aK a1) ((VV J).trans hk)⟩
def avY{F:Fence}{c:Code}(k0:Nat->Act->aC->Prop)(g0:Nat)(aZ:k0 g0 a w)(round:∀k a w,k0 k a w->c.wpIn F n P (Exit.then (λga w'=>∃l7,l7<k/\k0 l7 ga w') Q) a w):(Code.loop c).wpIn F n P Q a w:=by
 have key:∀m k a w,k<m->k0 k a w->Code.roundsIn F n P c Q m a w:=by
  intro m;induction m with
  |zero=>intro k a w h;omega
  |succ m cY=>
   intro k a w _ aK;rw[roundsIn_succ];refine wpIn_mono (round k a w aK) ?_;intro e ga w' h;cases e with
   |normal=>obtain⟨l7,af,an⟩:=h;exact cY l7 ga w' J an
   |ret=>exact h
   |exit id=>exact h
   |goto l=>exact h
   |panic aAN=>exact h
   |outgrown=>exact h
 exact wpIn_loop_rounds (g0+1) (key _ _ _ _ (QB _) aZ)
end
end
section
structure qL where
 cL:iF
 ak:iF
 kp:Value
 aU:iF
 dr:Nat
 fM:iF
 go:iF
def zZ(q:Nat):List Value:= [.pointer (some ⟨q,0,none⟩)]
def zZ.bI(q:Nat):(zZ q).length=1:=rfl
def ua(w:World)(dr N:Nat)(h:Nat->Option Nat):Prop:=∃(s:Nat) (f:Lit->Option Value) (e0:List Nat),fp w prog 3 dr s s f/\(e0.Nodup/\∀k,k∈e0->k<N)/\s=e0.length/\
 ∀k:Nat,k<N->match h k with
  |none=>k∉e0/\f (.int .i64 k)=none
  |some p=>k∈e0/\f (.int .i64 k)=some (.pointer (some ⟨p,0,none⟩))
section
variable {w w':World}{dr N:Nat}{h:Nat->Option Nat}
def ua.lt(k:ua w dr N h):dr<(w:Nat):=by obtain⟨s,f,_,af,_⟩:=k;exact af.lt
def ua.ay(k:ua w dr N h)(ad:w'.heap[dr]? =w.heap[dr]?):ua w' dr N h:=by
 obtain⟨s,f,e0,af,an⟩:=k;exact⟨s,f,e0,af.ay ad,an⟩
def QJ(hk:k≠n):(Lit.int .i64 (k:Int))≠.int .i64 (n:Int):=λe=>hk (by injection e with _ e;exact Int.ofNat.inj e)
def ua.put{s fS s':Nat}{p:Nat}(an:e0.Nodup/\∀k,k∈e0->k<N)(aO:s=e0.length)(cC:∀k:Nat,k<N->match h k with|none=>k∉e0/\f (.int .i64 k)=none|some p=>k∈e0/\f (.int .i64 k)=some (.pointer (some ⟨p,0,none⟩)))(aq:n<N)(qH:N<1000000)(hF:fp w' prog 3 dr fS s' (wz f (.int .i64 n) (some (.pointer (some ⟨p,0,none⟩)))))(hs:s'=if (f (.int .i64 n)).isSome=true then s else s+1):
  ua w' dr N (λk=>if k=n then some p else h k):=by
 have cy:=cC n J;by_cases Bn:n∈e0
 ·have K_:(f (.int .i64 n)).isSome=true:=by
   cases az:h n with
   |none=>rw[az]at cy;exact absurd Bn cy.1
   |some m=>rw[az]at cy;rw[cy.2];rfl
  rw[bc K_]at hs;refine⟨s',_,e0,hF.Qu,an,by rw[hs,aO],λk hk=>?_⟩;by_cases lH:k=n
  ·dsimp only;rw[bc lH];exact⟨by rw[lH];exact Bn,by rw[lH,Fi]⟩
  ·dsimp only;rw[aV lH];have:=cC k hk;cases az:h k with
   |none=>exact aio
   |some m=>exact aio
 ·have Qg:(f (.int .i64 n)).isSome=false:=by
   cases az:h n with
   |none=>rw[az]at cy;rw[cy.2];rfl
   |some m=>rw[az]at cy;exact absurd cy.1 Bn
  rw[aV (by rw[Qg];decide)]at hs;refine⟨s',_,n::e0,hF.Qu,⟨IV.2 ⟨Bn,an.1⟩,λk hk=>(oy.1 hk).elim (λe=>e▸aq) (an.2 k)⟩,by rw[hs,aO];rfl,λk hk=>?_⟩;by_cases lH:k=n
  ·dsimp only;rw[bc lH];exact⟨by rw[lH];exact o1,by rw[lH,Fi]⟩
  ·dsimp only;rw[aV lH];have:=cC k hk;cases az:h k with
   |none=>rw[az]at this;exact⟨λe=>(oy.1 e).elim lH this.1,by rw[yo (QJ lH)];exact this.2⟩
   |some m=>rw[az]at this;exact⟨ni _ this.1,by rw[yo (QJ lH)];exact this.2⟩
def ua.del{s fS s':Nat}(an:e0.Nodup/\∀k,k∈e0->k<N)(aO:s=e0.length)(cC:∀k:Nat,k<N->match h k with|none=>k∉e0/\f (.int .i64 k)=none|some p=>k∈e0/\f (.int .i64 k)=some (.pointer (some ⟨p,0,none⟩)))(aq:n<N)(qH:N<1000000)(hF:fp w' prog 3 dr fS s' (wz f (.int .i64 n) none))(hs:s'=if (f (.int .i64 n)).isSome=true then s - 1 else s):
  ua w' dr N (λk=>if k=n then none else h k):=by
 have cy:=cC n J;have hlen:s'=(e0.erase n).length:=by
  rw[List.length_erase];cases az:h n with
  |none=>rw[az]at cy;rw[cy.2]at hs;rw[aV cy.1,hs,aO];rfl
  |some m=>rw[az]at cy;rw[cy.2]at hs;rw[bc cy.1,hs,aO];rfl
 refine⟨s',_,e0.erase n,hF.Qu,⟨an.1.erase n,λk hk=>an.2 k (List.mem_of_mem_erase hk)⟩,hlen,λk hk=>?_⟩;by_cases lH:k=n
 ·dsimp only;rw[bc lH];exact⟨by rw[lH];exact an.1.not_mem_erase,by rw[lH,Fi]⟩
 ·dsimp only;rw[aV lH];have:=cC k hk;cases az:h k with
  |none=>rw[az]at this;exact⟨λe=>this.1 (List.mem_of_mem_erase e),by rw[yo (QJ lH)];exact this.2⟩
  |some m=>rw[az]at this;exact⟨(List.mem_erase_of_ne lH).2 this.1,by rw[yo (QJ lH)];exact this.2⟩
end
def z1(w:World)(M D O:Nat->Prop)(c:bK)(p q:Nat):oa->Prop
 |.up b=>sn w M D O c p q b
 |.down l=>lB w D q (gj (l.map gi)) (gj (l.map gi)).length c.room/\IN (l.map gi)
def mq(bN:Nat->oa)(p:Nat->Nat)(k:Nat):Option Nat:=match bN k with
 |.up _=>some (p k)
 |.down _=>none
structure mG where
 s:iF
def mG.cs(y:mG):List Value:= [.slice y.s.a y.s.n y.s.c]
def mG.bI(y:mG):y.cs.length=1:=rfl
structure rX (w:World) (W:Nat->Prop) (s:iF) (N:Nat) (cur:Nat->Nat):Prop where
 aAO:∃gs:List mG,aH w 0 133 1 mG.cs s.a s.n s.c gs/\gs.length=N/\(∀y,y∈gs->∃ys:List mG,aH w 0 64 1 mG.cs y.s.a y.s.n y.s.c ys/\∀ai,y.s.a=some ai->W ai.block)/\
  (∀(i j:Nat) (y z:mG) (ai nJ:Addr),gs[i]?=some y->gs[j]?=some z->y.s.a=some ai->z.s.a=some nJ->ai.block=nJ.block->i=j)/\∀k y,gs[k]?=some y->y.s.n<=cur k
 bS:∀ai,s.a=some ai->W ai.block
structure lJ (w:World) (M:Nat->Prop) (c:bK) (P:Nat) (bN:Nat->oa) (cur:Nat->Nat) (v:qL) (p q:Nat->Nat) (D O:Nat->Nat->Prop) (W:Nat->Prop):Prop where
 box:w.heap[P]?=some (.cells #[v.cL,v.ak,v.kp,v.aU,.map (some v.dr),v.fM,v.go] 90 (0,0))
 l3:cv M w (λw=>a7 w 1 dP v.cL.a v.cL.n v.cL.c c.ps/\a7 w 1 dP v.ak.a v.ak.n v.ak.c c.hs/\a7 w 1 zZ v.aU.a v.aU.n v.aU.c ((List.range c.ps.length).map q))
 dr:ua w v.dr c.ps.length (mq bN p)
 ri:∀n,n<c.ps.length->z1 w M (D n) (O n) c (p n) (q n) (bN n)
 fM:aH w 0 3 1 dP v.fM.a v.fM.n v.fM.c ((List.range c.hs.length).map (λk=>(cur k:Int)))
 go:rX w W v.go c.hs.length cur
 bS:W P/\W v.dr/\(∀ai,v.fM.a=some ai->W ai.block)
 qM:∀x,W x->M x
 sub:∀n,n<c.ps.length->∀x,D n x\/O n x->M x
 uO:∀n,n<c.ps.length->∀x,D n x\/O n x->¬W x
 gL:∀n k,n<c.ps.length->k<c.ps.length->k≠n->∀x,D n x\/O n x->¬(D k x\/O k x)
 HC:∀n,n<c.ps.length->∀x,D n x->¬O n x
 b5:∀x,M x->x<w.heap.size
section
variable {w w':World}{M M' D bX O O' S:Nat->Prop}{c:bK}{p q:Nat}{x:oa}
def z1.step(h:z1 w M D O c p q x)(aj:aI S w w')(bj:∀x,S x->M x)(aG:∀x,D x\/O x->¬S x)(bk:b4 w M M')(a1:∀x,M' x->x<(w':Nat)):z1 w' M' D O c p q x:=by
 cases x with
 |up b=>obtain⟨v,k⟩:=h;exact⟨v,k.step aj bj aG bk a1⟩
 |down l=>exact⟨h.1.ee aj (λb ad=>aG b (.inl ad)),h.2⟩
def rX.ee{W:eZ}{s:iF}{N:Nat}{cur:Nat->Nat}(h:rX w W s N cur)(aj:aI S w w')(aG:∀x,W x->¬S x):rX w' W s N cur:=by
 obtain⟨⟨gs,af,an,aO,bt⟩,cC⟩:=h;exact⟨⟨gs,aj.bS af (λai ak=>aG _ (cC ai ak)),an,λy hy=>let ⟨ys,bH,b1⟩:=aO y hy;⟨ys,aj.bS bH (λai ak=>aG _ (b1 ai ak)),b1⟩,bt⟩,cC⟩
def s3.HD{buf:Array Value}{l:List dv}(h:s3 w M buf l)(aj:aI M w w')(bk:b4 w M M'):s3 w' M' buf l:=
 ⟨h.1,λk m hk=>by obtain⟨af,a,n,c,an,aO⟩:=h.2 k m hk;exact⟨af,a,n,c,an,aO.step aj bk⟩⟩
def ko.HD{bW:Nat}{g:Nat->Nat->Nat}{bT:Nat->Nat->List dv}(h:ko w M c bW g bT)(aj:aI S w w')(bj:∀x,S x->M x)(aG:∀x,oq c g x->¬S x)(bk:b4 w M M'):ko w' M' c bW g bT:=
 ⟨h.map.step (aj.sub bj) bk,h.inj,λa b e=>bk.up _ (h.AX a b e),λa b e=>by
  obtain⟨buf,s,r,bH,b1⟩:=h.chan a b e
  exact⟨buf,s,r,(aj.block _ (bZ bH) (aG _ ⟨a,b,e,rfl⟩)).trans bH,b1.HD (aj.sub bj) bk⟩⟩
end
section
variable {w w':World}{M M' W S:Nat->Prop}{c:bK}{P:Nat}{bN:Nat->oa}{cur:Nat->Nat}{v:qL}{p q:Nat->Nat}{D O:Nat->Nat->Prop}
def lJ.step(h:lJ w M c P bN cur v p q D O W)(aj:aI S w w')(bj:∀x,S x->M x)(fq:∀x,W x->¬S x)(aG:∀n,n<c.ps.length->∀x,D n x\/O n x->¬S x)(bk:b4 w M M')(a1:∀x,M' x->x<(w':Nat)):lJ w' M' c P bN cur v p q D O W:=
 ⟨(aj.block _ (bZ h.box) (fq _ h.bS.1)).trans h.box,h.l3.step (aj.sub bj) bk,h.dr.ay (aj.block _ h.dr.lt (fq _ h.bS.2.1)),λn aq=>(h.ri n aq).step aj bj (aG n aq) bk a1,aj.bS h.fM (λai ak=>fq _ (h.bS.2.2 ai ak)),h.go.ee aj fq,h.bS,λx X=>bk.up x (h.qM x X),λn aq x X=>bk.up x (h.sub n aq x X),h.uO,h.gL,h.HC,a1⟩
def lJ.ext(h:lJ w M c P bN cur v p q D O W)(X:Z w w'):lJ w' M c P bN cur v p q D O W:=
 h.step (S:=λ_=>False) (.of X) (λ_ k=>k.elim) (λ_ _ k=>k) (λ_ _ _ _ k=>k) (b4.ep _ _) (λx k=>fQ (h.b5 x k) X.size)
def lJ.node{bX O':eZ}{ns':Nat->oa}(h:lJ w M c P bN cur v p q D O W)(aq:n<c.ps.length)(aj:aI (n5 (D n) (O n)) w w')(jw:b4 w (D n) bX)(dX:∀x,O' x->O n x\/(w:Nat)<=x)(bk:b4 w M M')(a1:∀x,M' x->x<(w':Nat))(hs:∀x,bX x\/O' x->M' x)(yE:∀x,bX x->¬O' x)(qY:z1 w' M' bX O' c (p' n) (q n) (ns' n))(cy:∀k,k≠n->ns' k=bN k)(aY:∀k,k≠n->p' k=p k)(kF:mq ns' p'=mq bN p):
  lJ w' M' c P ns' cur v p' q (λk=>if k=n then bX else D k) (λk=>if k=n then O' else O k) W:=by
 have bj:∀x,n5 (D n) (O n) x->M x:=λx X=>h.sub n aq x X;have fq:∀x,W x->¬n5 (D n) (O n) x:=λx X k=>h.uO n aq x k X;have vw:∀x,bX x\/O' x->(D n x\/O n x)\/(w:Nat)<=x:=λx X=>X.elim (λk=>(jw.new x k).imp .inl id) (λk=>(dX x k).imp .inr id);refine⟨(aj.block _ (bZ h.box) (fq _ h.bS.1)).trans h.box,h.l3.step (aj.sub bj) bk,kF▸h.dr.ay (aj.block _ h.dr.lt (fq _ h.bS.2.1)),λk hk=>?_,aj.bS h.fM (λai ak=>fq _ (h.bS.2.2 ai ak)),h.go.ee aj fq,h.bS,λx X=>bk.up x (h.qM x X),λk hk x X=>?_,λk hk x X hw=>?_,λj k aD hk DT x X hy=>?_,λk hk x X hy=>?_,a1⟩
 ·by_cases e:k=n
  ·subst e;simp only[bc];exact qY
  ·simp only[aV e];rw[cy k e,aY k e];exact(h.ri k hk).step aj bj (λx X=>h.gL k n hk aq (λtc=>e tc.symm) x X) bk a1
 exact aip;exact aiq;exact air;exact ais
end
structure pV (w:World) (M:Nat->Prop) (c:bK) (P:Nat) (aQ:ba) (v:qL) (bW:Nat) (g:Nat->Nat->Nat) (p q:Nat->Nat) (D O:Nat->Nat->Prop) (W:Nat->Prop):Prop where
 dn:lJ w M c P aQ.bN aQ.cur v p q D O W
 qZ:v.kp=.pointer (some ⟨bW,0,none⟩)
 kp:ko w M c bW g aQ.fg
 z6:∀x,oq c g x->¬W x
 A9:∀n,n<c.ps.length->∀x,oq c g x->¬(D n x\/O n x)
 bT:∀a b,nr c a b=false->aQ.fg a b= []
def ub(c:bK)(g:Nat->Nat->Nat)(D O:Nat->Nat->Prop)(W:Nat->Prop)(x:Nat):Prop:=W x\/oq c g x\/∃n,n<c.ps.length/\(D n x\/O n x)
def h0(w:World)(M F:Nat->Prop)(c:bK)(P:Nat)(aQ:ba):Prop:=∃v bW g p q D O W,pV w M c P aQ v bW g p q D O W/\∀x,F x↔ub c g D O W x
structure hj (w:World) (M F:Nat->Prop) (w':World) (M' eF:Nat->Prop):Prop where
 ee:aI F w w'
 f:b4 w F eF
 m:b4 w M M'
def uP(c:bK)(P:Nat)(w:World)(M F:Nat->Prop)(u:Value)(aQ:ba)(e:Ending)(w':World):Prop:=∃M' eF,e=.returned u/\h0 w' M' eF c P aQ/\hj w M F w' M' eF
section
variable {w w' ey:World}{M M' DL F eF Pr:Nat->Prop}
def hj.of(h:Z w w'):hj w M F w' M F:=⟨.of h,b4.refl _ _,b4.refl _ _⟩
def hj.trans(h:hj w M F w' M' eF)(k:hj w' M' eF ey DL Pr):hj w M F ey DL Pr:=
 ⟨h.ee.xj k.ee (λx X=>h.f.new x X),h.f.trans k.f h.ee.size,h.m.trans k.m h.ee.size⟩
def hj.ext(h:hj w M F w' M' eF)(X:Z w' ey):hj w M F ey M' eF:=h.trans (.of X)
def hj.cN(X:Z w w')(h:hj w' M F ey M' eF):hj w M F ey M' eF:=(hj.of X).trans h
def hj.kS{Q:ye}(h:hj w M F w' M' eF)(hs:∀x,F x->M x)(k:cv M w Q):cv M' w' Q:=k.step (h.ee.sub hs) h.m
end
section
variable {w w':World}{M M' W S:Nat->Prop}{c:bK}{P bW:Nat}{aQ:ba}{v:qL}{g:Nat->Nat->Nat}{p q:Nat->Nat}{D O:Nat->Nat->Prop}
def ko.lt{bT:Nat->Nat->List dv}(h:ko w M c bW g bT):∀x,oq c g x->x<(w:Nat):=λx ⟨a,b,e,k⟩=>by
 obtain⟨_,s,r,bH,_⟩:=h.chan a b e;rw[k];exact bZ bH
def pV.ext(h:pV w M c P aQ v bW g p q D O W)(X:Z w w'):pV w' M c P aQ v bW g p q D O W:=⟨h.dn.ext X,h.qZ,h.kp.ext X,h.z6,h.A9,h.bT⟩
def h0.ext{F:eZ}(h:h0 w M F c P aQ)(X:Z w w'):h0 w' M F c P aQ:=let ⟨v,bW,g,p,q,D,O,W,k,e⟩:=h;⟨v,bW,g,p,q,D,O,W,k.ext X,e⟩
def pV.VW(h:pV w M c P aQ v bW g p q D O W)(x:Nat)(X:ub c g D O W x):M x:=X.elim (h.dn.qM x) (λk=>k.elim (fun⟨a,b,e,k⟩=>k▸h.kp.AX a b e) (fun⟨n,aq,k⟩=>h.dn.sub n aq x k))
def h0.sub{F:eZ}(h:h0 w M F c P aQ):∀x,F x->M x:=λx X=>let ⟨v,bW,g,p,q,D,O,W,k,e⟩:=h;k.VW x ((e x).1 X)
def h0.b5{F:eZ}(h:h0 w M F c P aQ):∀x,M x->x<(w:Nat):=let ⟨v,bW,g,p,q,D,O,W,k,e⟩:=h;k.dn.b5
def h0.step{F:eZ}(h:h0 w M F c P aQ)(aj:aI S w w')(bj:∀x,S x->M x)(hF:∀x,F x->¬S x)(bk:b4 w M M')(a1:∀x,M' x->x<(w':Nat)):h0 w' M' F c P aQ:=by
 obtain⟨v,bW,g,p,q,D,O,W,k,e⟩:=h;have af:∀x,ub c g D O W x->¬S x:=λx X=>hF x ((e x).2 X);exact⟨v,bW,g,p,q,D,O,W,⟨k.dn.step aj bj (λx X=>af x (.inl X)) (λn aq x X=>af x (.inr (.inr ⟨n,aq,X⟩))) bk a1,k.qZ,k.kp.HD aj bj (λx X=>af x (.inr (.inl X))) bk,k.z6,k.A9,k.bT⟩,e⟩
def pV.FK{b b':aT}{bX O':eZ}(h:pV w M c P aQ v bW g p q D O W)(aq:n<c.ps.length)(ad:aQ.bN n=.up b)(hm:ik w M (D n) (O n) w' M' bX O')(X:sn w' M' bX O' c (p n) (q n) b'):
  pV w' M' c P (aQ.hz n (.up b')) v bW g p q (λk=>if k=n then bX else D k) (λk=>if k=n then O' else O k) W:=by
 obtain⟨FL,kT⟩:=X;have vw:∀x,bX x\/O' x->(D n x\/O n x)\/(w:Nat)<=x:=λx X=>X.elim (λk=>(hm.d.new x k).imp .inl id) (λk=>(hm.o.new x k).imp .inr id);refine⟨h.dn.node aq hm.ee hm.d hm.o.new hm.m kT.b5 (λx X=>X.elim (kT.sm x) (kT.sub x)) kT.gL (show z1 w' M' bX O' c (p n) (q n) ((aQ.hz n (.up b')).bN n) by rw[uz];exact⟨FL,kT⟩) (λk hk=>zC aQ _ hk) (λ_ _=>rfl) ?_,h.qZ,?_,h.z6,λk hk x X hy=>?_,h.bT⟩
 ·funext k;unfold mq;by_cases e:k=n
  ·subst e;rw[uz,ad]
  ·rw[zC aQ _ e]
 ·exact h.kp.HD hm.ee (λx X=>h.dn.sub n aq x X) (λx X=>h.A9 n aq x X) hm.m
 ·by_cases e:k=n
  ·subst e;simp only[bc]at hy;rcases vw x hy with z|z
   ·exact h.A9 k hk x X z
   ·have:=h.kp.lt x X;omega
  ·simp only[aV e]at hy;exact h.A9 k hk x X hy
def pV.fg{bT:Nat->Nat->List dv}(h:pV w M c P aQ v bW g p q D O W)(qH:ko w' M c bW g bT)(aj:aI (oq c g) w w')(hk:∀a b,nr c a b=false->bT a b= []):pV w' M c P {aQ with fg:=bT} v bW g p q D O W:=
 ⟨h.dn.step aj (λx ⟨a,b,e,k⟩=>k▸h.kp.AX a b e) (λx X k=>h.z6 x k X) (λn aq x X k=>h.A9 n aq x k X) (b4.ep _ _) (λx k=>fQ (h.dn.b5 x k) aj.size),h.qZ,qH,h.z6,h.A9,hk⟩
def VX{bT:Nat->Nat->List dv}{a:Nat}{ms:List dv}(hw:nr c a b=true)(h:∀x y,nr c x y=false->bT x y= []):∀x y,nr c x y=false->mY bT a b ms x y= []:=λx y tQ=>by
 unfold mY;rw[aV (by rintro ⟨rfl,rfl⟩;rw[hw]at tQ;cases tQ)];exact h x y tQ
end
end
section
def QK(w:aC):(zeroValue 103).run prog w=.ok (.pointer none) w:=zeroValue103 w
section
variable {w:World}{M W:Nat->Prop}{c:bK}{P:Nat}{bN:Nat->oa}{cur:Nat->Nat}{v:qL}{p q:Nat->Nat}{D O:Nat->Nat->Prop}
def ua.get{dr:Nat}{h:Nat->Option Nat}(k:ua w dr N h)(aq:n<N):
  ∃(s:Nat) (f:Lit->Option Value) (a:bl),fp w prog 3 dr s s f/\(f (.int .i64 n)).getD (.pointer none)=.pointer a/\a=(h n).map (λp=>⟨p,0,none⟩)/\(f (.int .i64 n)).isSome=(h n).isSome:=by
 obtain⟨s,f,_,af,_,_,bt⟩:=k;have:=bt n aq;cases az:h n with
 |none=>rw[az]at this;exact⟨s,f,none,af,by rw[this.2];rfl,rfl,by rw[this.2];rfl⟩
 |some p=>rw[az]at this;exact⟨s,f,some (p,0),af,by rw[this.2];rfl,rfl,by rw[this.2];rfl⟩
def DV(h:lJ w M c P bN cur v p q D O W)(n:Int):aS 39 #[P,n] w λe w'=>e=.returned (.bool (decide (0<=n/\n<(c.ps.length:Int))))/\Z w w':=by
 have eB:=aL (o:=0) h.box rfl;have aq:=h.l3.c8.1.neq;clear h;obtain⟨r,az⟩:∃r,decide (0<=n/\n<(c.ps.length:Int))=r:=⟨_,rfl⟩;rw[az];by_cases aZ:0<=n
 ·have Md:decide ((0:Int)<=n)=true:=jf aZ;have fm:decide (n<(v.cL.n:Int))=r:=by rw[<-az];exact H3.2 J
  clear aZ aq az;go_enter func39,ntmps39;go_wp2;go_ret;exact⟨by first|rfl|(rw[<-fm];rfl),U⟩
 ·have fm:decide ((0:Int)<=n)=false:=je aZ;rw[je J]at az;subst az;clear aZ aq;go_enter func39,ntmps39;go_wp2;go_ret;exact⟨rfl,U⟩
def es(h:lJ w M c P bN cur v p q D O W)(n:Int):aS 81 #[P,n] w λe w'=>e=.returned (.bool (decide (0<=n/\n<(c.hs.length:Int))))/\Z w w':=by
 have eB:=aL (o:=1) h.box rfl;have aq:=h.l3.c8.2.1.neq;clear h;obtain⟨r,az⟩:∃r,decide (0<=n/\n<(c.hs.length:Int))=r:=⟨_,rfl⟩;rw[az];by_cases aZ:0<=n
 ·have Md:decide ((0:Int)<=n)=true:=jf aZ;have fm:decide (n<(v.ak.n:Int))=r:=by rw[<-az];exact H3.2 J
  clear aZ aq az;go_enter func81,ntmps81;go_wp2;go_ret;exact⟨by first|rfl|(rw[<-fm];rfl),U⟩
 ·have fm:decide ((0:Int)<=n)=false:=je aZ;rw[je J]at az;subst az;clear aZ aq;go_enter func81,ntmps81;go_wp2;go_ret;exact⟨rfl,U⟩
def mH(c:bK)(bN:Nat->oa)(n:Int):Bool:=decide (0<=n/\n<(c.ps.length:Int))&&(match bN n.toNat with|.up _=>true|.down _=>false)
def VY(h:lJ w M c P bN cur v p q D O W)(qH:c.ps.length<=1000000)(n:Int):aS 11 #[P,n] w (cU (.bool (mH c bN n)) w):=by
 have H:=I h;obtain⟨r,az⟩:∃r,mH c bN n=r:=⟨_,rfl⟩;rw[az];unfold mH at az;by_cases aZ:0<=n/\n<(c.ps.length:Int)
 ·obtain⟨k,rfl⟩:∃k:Nat,n=(k:Int):=⟨n.toNat,J⟩;rw[jf aZ,Bool.true_and,kN]at az;obtain⟨s,f,a,eh,b9,ak,hs⟩:=h.dr.get (n:=k) J;have ar:(f (.int .i64 (k:Int))).isSome=r:=by rw[hs,<-az];unfold mq;cases bN k<;>rfl
  have oh:=I (DP (k:=(k:Int)) (uG J J));have cJ:decide (0<=(k:Int)/\(k:Int)<(c.ps.length:Int))=true:=jf aZ;have eG:=aL (o:=4) h.box rfl;replace eh:=I eh;replace b9:=I b9;replace ar:=I ar;replace cJ:=I cJ;clear h aZ az ak hs;go_enter func11,ntmps11;go_wp2_with fail;refine(DV (H.ext U) (k:Int)).mono ?_;rintro e w1⟨rfl,bG⟩;rw[cJ.out];have VZ:=bG.ag eG;replace bG:=I bG;go_wp2_with (at_lookup;(refine ex ?_;intro K aE;clear aE K));go_ret;exact⟨rfl,U⟩
 ·rw[je aZ,CP]at az;subst az;refine V0 ?_;intro cJ;clear h aZ;go_enter func11,ntmps11;go_wp2_with fail;refine(DV (H.ext U) n).mono ?_;rintro e _⟨rfl,bG⟩;rw[cJ.out];replace bG:=I bG;go_wp2;go_ret;exact⟨rfl,U⟩
def qN(c:bK)(bN:Nat->oa)(p:Nat->Nat)(cl:Int):Option Addr×Int:=
 match pM c cl with
 |none=>(none,1)
 |some n=>match bN n with
  |.up _=>(some ⟨p n,0,none⟩,0)
  |.down _=>(none,210)
def QL(h:lJ w M c P bN cur v p q D O W)(al:im c)(cl:Int):aS 49 #[P,cl] w (cU (.tuple #[.pointer (qN c bN p cl).1,bo (qN c bN p cl).2]) w):=by
 have H:=I h;obtain⟨r,az⟩:∃r,qN c bN p cl=r:=⟨_,rfl⟩;rw[az];unfold qN at az;by_cases aZ:0<=cl/\cl<(c.hs.length:Int)
 ·obtain⟨k,rfl⟩:∃k:Nat,cl=(k:Int):=⟨cl.toNat,J⟩;have hk:k<c.hs.length:=J;obtain⟨n,aq⟩:∃n,pM c (k:Int)=some n:=by unfold pM;rw[bc aZ];exact⟨_,rfl⟩
  obtain⟨_,_,_,kA⟩:=al.at_ aq;rw[aq]at az;dsimp only at az;have n1:c.ps.length<=16:=by
   have bm:=al.x9;unfold j8 at bm;simp only[jS,jT]at bm;exact bm.1.2
  obtain⟨s,f,a,eh,b9,ak,hs⟩:=h.dr.get (n:=n) J;have xi:c.hs[k]=(n:Int):=by
   rw[kN,xk,eK hk]at kA;exact kA
  have V1:r=(a,if (f (.int .i64 (n:Int))).isSome=true then 0 else 210):=by
   rw[hs,ak,<-az];unfold mq;cases bN n<;>rfl
  obtain⟨CU,ar⟩:∃CU,(f (.int .i64 (n:Int))).isSome=CU:=⟨_,rfl⟩;rw[ar]at V1;have oh:=I (DP (k:=(n:Int)) (uG J J));have cJ:decide (0<=(k:Int)/\(k:Int)<(c.hs.length:Int))=true:=jf aZ;obtain⟨_,o,rW,fR⟩:=h.l3.c8.2.1.get k hk;have k4:=Bo (x:=c.hs[k]) fR;rw[jd,xi]at k4;have l8:=h.l3.c8.2.1.neq;have bf:(k:Int)<(v.ak.n:Int):=J;have eG:=aL (o:=4) h.box rfl;have bH:=aL (o:=1) h.box rfl;rw[rW]at bH;replace V1:=I V1;have tN:aa (CU=false->a=none):=λe=>by rw[e]at ar;rw[hs]at ar;rw[ak];cases aj:mq bN p n<;>simp_all
  replace eh:=I eh;replace b9:=I b9;replace ar:=I ar;replace cJ:=I cJ;clear h aZ az ak hs fR l8 kA xi rW aq;go_enter func49,ntmps49;go_wp2_with fail;refine(es (H.ext U) (k:Int)).mono ?_;rintro e w1⟨rfl,bG⟩;rw[cJ.out];have gV:=bG.ag eG;have q1:=bG.ag bH;have dV:=bG.ag k4;replace bG:=I bG;clear eG bH k4;go_wp2_with fail;refine rN 11 (Z w1) (λbd=>?_);refine tS ?_;refine AO 3 (·.ag gV) ?_;refine dC 4 ?_;refine dC 5 ?_;refine dC 6 ?_;refine AO 7 (·.ag q1) ?_;refine dC 8 ?_;refine dC 9 ?_;refine AO 10 (·.ag dV) ?_;refine jz 11 λK aE=>?_;refine PS rfl (L4 _ _ rfl DO QM _ (QK _) rfl rfl (eh.ext U) rfl oh ?_);rw[b9.out,ar.out];refine HE ?_;intro _ bd;refine de 12 ?_;refine de 13 ?_;refine de 14 ?_;refine de 15 ?_;refine de 16 ?_;refine og bQ ?_ _;have aAP:=V1.out;cases CU with
  |true=>
   go_wp2;go_ret2;exact⟨rfl,U⟩
  |false=>
   have aq:=tN.out rfl;go_wp2;go_ret2;exact⟨rfl,U⟩
 ·have aq:pM c cl=none:=by unfold pM;rw[aV aZ]
  rw[aq]at az;subst az;have cJ:aa (decide (0<=cl/\cl<(c.hs.length:Int))=false):=je aZ;clear h aZ;go_enter func49,ntmps49;go_wp2_with fail;refine(es (H.ext U) cl).mono ?_;rintro e _⟨rfl,bG⟩;rw[cJ.out];replace bG:=I bG;go_wp2;go_ret2;exact⟨rfl,U⟩
end
end
section
def fd{c:bK}(a b:Nat):ja c (a:Int) (b:Int)=nr c a b:=by
 unfold ja;rw[jf (by omega:(0:Int)<=(a:Int)/\(0:Int)<=(b:Int)),Bool.true_and,kN,kN]
def avZ{c:bK}{w:ba}{a:Nat}{m:dv}(h:∀x y,(w.fg x y).length<=8):∀x y,((w.send c a b m).fg x y).length<=8:=by
 intro x y;unfold ba.send;split
 ·rename_i e;unfold ba.wj;dsimp only;split
  ·exact TU
  ·exact h x y
 ·exact h x y
def ait{c:bK}{a:Nat}:∀(l:List (Nat×dv)) (w:ba),(∀x y,(w.fg x y).length<=8)->∀x y,((w.BP c a l).fg x y).length<=8
 | [],_,h=>h
 |o::l,w,h=>ait l (w.send c a o.1 o.2) (avZ h)
def av0{c:bK}{a:Nat}{w:ba}{l:List (Nat×dv)}(hk:k<l.length):w.BP c a (l.take (k+1))=(w.BP c a (l.take k)).send c a l[k].1 l[k].2:=by
 unfold ba.BP;exact CZ
def av1{c:bK}{w:ba}{a:Nat}{m:dv}:w.send c a b m={w with fg:=if ja c (a:Int) (b:Int)=true/\(w.fg (a:Int).toNat (b:Int).toNat).length<8 then mY w.fg (a:Int).toNat (b:Int).toNat (w.fg (a:Int).toNat (b:Int).toNat++[m]) else w.fg}:=by
 unfold ba.send;rw[fd];simp only[kN];by_cases h:nr c a b=true/\(w.fg a b).length<8
 ·rw[bc h,bc h];rfl
 ·rw[aV h,aV h]
def av2(c:bK)(b:aT):(b.qB c).length<=1+c.ps.length:=by
 unfold aT.qB aT.c5 TH;rw[c9,cx];have af:((if b.lf=true then [] else [(uw c b.dd,b.GJ c)]):List (Nat×dv)).length<=1:=by split<;>simp
 have an:((List.range c.ps.length).filter (λj=>decide (c.ps.getD j 0=(b.dd:Int)))).length<=c.ps.length:=ek (vP _ _) (by simp);omega
def av3{c:bK}(al:lZ c){b:aT}(hm:b.dd<c.ps.length):∀o,o∈b.qB c->o.1<c.ps.length:=by
 intro o aM;unfold aT.qB at aM;rcases ie.1 aM with h|h
 ·cases az:b.lf with
  |true=>rw[az,bc rfl]at h;cases h
  |false=>
   rw[az,aV ah]at h;rw[jg.1 h];have aZ:0<b.dd:=by unfold aT.lf at az;rcases C7 b.dd with e|e;(rw[e]at az;cases az);exact e
   have:=(lZ.I6 al hm aZ).1;show uw c b.dd<_;omega
 ·obtain⟨k,hk,rfl⟩:=lU.1 h;exact xd.1 (pA.1 hk).1
section
variable {w w':World}{M M' W F:Nat->Prop}{c:bK}{P bW:Nat}{aQ:ba}{v:qL}{g:Nat->Nat->Nat}{p q:Nat->Nat}{D O:Nat->Nat->Prop}
def hj.FK(hF:∀x,F x↔ub c g D O W x)(aq:n<c.ps.length)(hm:ik w M (D n) (O n) w' M' bX O'):
  hj w M F w' M' (ub c g (λk=>if k=n then bX else D k) (λk=>if k=n then O' else O k) W):=by
 have np:∀x,ub c g D O W x->ub c g (λk=>if k=n then bX else D k) (λk=>if k=n then O' else O k) W x:=λx X=>by
  rcases X with X|X|⟨k,hk,X⟩
  ·exact .inl X
  ·exact .inr (.inl X)
  ·refine .inr (.inr ⟨k,hk,?_⟩);by_cases e:k=n
   ·subst e;simp only[bc];exact X.imp (hm.d.up x) (hm.o.up x)
   ·simp only[aV e];exact X
 refine⟨hm.ee.mono (λx _ X=>(hF x).2 (.inr (.inr ⟨n,aq,X⟩))),⟨λx X=>np x ((hF x).1 X),λx X=>?_⟩,hm.m⟩;rcases X with X|X|⟨k,hk,X⟩
 ·exact .inl ((hF x).2 (.inl X))
 ·exact .inl ((hF x).2 (.inr (.inl X)))
 ·by_cases e:k=n
  ·subst e;simp only[bc]at X;rcases X with X|X
   ·exact(hm.d.new x X).imp (λz=>(hF x).2 (.inr (.inr ⟨k,hk,.inl z⟩))) id
   ·exact(hm.o.new x X).imp (λz=>(hF x).2 (.inr (.inr ⟨k,hk,.inr z⟩))) id
  ·simp only[aV e]at X;exact .inl ((hF x).2 (.inr (.inr ⟨k,hk,X⟩)))
def hj.kp(hF:∀x,oq c g x->F x)(aj:aI (oq c g) w w'):hj w M F w' M F:=⟨aj.mono (λx _ X=>hF x X),b4.ep _ _,b4.ep _ _⟩
end
def aiu{c:bK}{T:Nat}{w:ba}(al:lZ c)(h:cM c l T w):(et w 0).aB.length<=200000:=by
 cases aj:w.bN 0 with
 |up b=>rw[wm aj];exact((h.up 0 b al.n0 aj).1.fz.DM al.room).bW
 |down cp=>
  have:et w 0=vh cp:=by unfold et;rw[aj];rfl
  rw[this];exact((h.down 0 cp al.n0 aj).DM al.room).bW
def av4{c:bK}{T:Nat}{w:ba}{b:aT}(h:cM c l T w)(aq:n<c.ps.length)(aj:w.bN n=.up b):∀i,i∈b.st.aB->i∈(et w 0).aB:=by
 intro i aK;rcases C7 n with e|e
 ·subst e;rw[wm aj];exact aK
 ·have:=h.aB n aq e;rw[wm aj]at this;rw[this]at aK;cases aK
def DW{c:bK}(h:lZ c):c.ps.length<=16:=by
 have bm:=h.x9;unfold j8 at bm;simp only[jS,jT]at bm;exact bm.1.2
def A8.gE{w w':aC}{S:eZ}{c:Nat}{os:List vA}(h:A8 w base a n c os)(aj:aI S w w')(bj:∀x,S x->x<base):A8 w' base a n c os:=⟨h.cj.gE aj bj,λo aM=>(h.ck o aM).gE aj bj⟩
def av5{c:bK}{w:ba}{b:aT}(h:w.bN n=.up b):w.tick c n=(w.hz n (.up (b.km c))).BP c n ((b.km c).qB c):=by unfold ba.tick;rw[h]
def aiv{c:bK}{w:ba}{l:List e9}(h:w.bN n=.down l):w.tick c n=w:=by unfold ba.tick;rw[h]
def Cq(c:bK)(w:ba)(n:Int):ba:=if 0<=n/\n<(c.ps.length:Int) then w.tick c n.toNat else w
def aiw{w:aC}{M F:eZ}{c:bK}{P:Nat}{aQ:ba}{T:Nat}(h:h0 w M F c P aQ)(al:im c)(aK:cM c l T aQ)(pt:c.room<=60000)(n:Int):
  aS 52 #[P,n] w λe w'=>∃z:Int,(z=0↔mH c aQ.bN n=true)/\uP c P w M F z (Cq c aQ n) e w':=by
 obtain⟨v,bW,g,p,q,D,O,W,h,hF⟩:=h;have H:=I h;have cg:=I al;have jZ:=I hF;by_cases aZ:0<=n/\n<(c.ps.length:Int)
 ·obtain⟨k,rfl⟩:∃k:Nat,n=(k:Int):=⟨n.toNat,J⟩;have hk:k<c.ps.length:=J;have n1:=DW al.tolZ;obtain⟨s,f,a,FM,bk,ak,hs⟩:=h.dn.dr.get (n:=k) J;refine f9 ?_;intro cJ;have eh:=I FM;have b9:=I bk;have oh:=I (DP (k:=(k:Int)) (uG J J));have eG:=aL (o:=4) h.dn.box rfl;have kd:=I (show Cq c aQ (k:Int)=aQ.tick c k from by unfold Cq;rw[bc aZ];rfl);cases cy:aQ.bN k with
  |down cp=>
   have ar:(f (.int .i64 (k:Int))).isSome=false:=by rw[hs];unfold mq;rw[cy];rfl
   change aa _ at ar;have iH:=I (show mH c aQ.bN (k:Int)=false from by unfold mH;rw[kN,cy,wV]);have jK:=I (kd.trans (aiv cy));go_enter func52,ntmps52;go_wp2_with fail;refine(DV (H.dn.ext U) (k:Int)).mono ?_;rintro e w1⟨rfl,bG⟩;rw[cJ.out];have VZ:=bG.ag eG;change aa _ at bG;go_wp2_with (at_lookup;(refine ex ?_;intro K aE;clear aE K));go_ret;refine⟨210,⟨λe=>absurd e ah,λe=>by rw[iH.out]at e;cases e⟩,M,F,rfl,?_,.of U⟩;exact ge
  |up b=>
   have ar:(f (.int .i64 (k:Int))).isSome=true:=by rw[hs];unfold mq;rw[cy];rfl
   have V2:a=some ⟨p k,0,none⟩:=by rw[ak];unfold mq;rw[cy];rfl
   rw[V2]at bk;replace b9:=I bk;have iH:=I (show mH c aQ.bN (k:Int)=true from by unfold mH;rw[kN,cy,jf aZ];rfl);have jK:=I (kd.trans (av5 cy));obtain⟨_,bn⟩:sn w M (D k) (O k) c (p k) (q k) b:=by have:=h.dn.ri k hk;rw[cy]at this;exact this
   have oc:=aK.up k b hk cy;have V3:=Ze al.tolZ aK hk cy oc.1 rfl rfl;have ur:(aQ.hz k (.up (b.km c))).bN k=.up (b.km c):=uz _ _ _;have gt:=(V3.up k _ hk ur).1;have Cp:=I oc.1;have iN:=I (TV al.tolZ aK);have di:=I (TV al.tolZ V3);have Ci:=I (ek (aiu al.tolZ V3) (by omega:200000<=1000000));have ir:=I (av4 V3 hk ur);have PW:aa (∀x y,((aQ.hz k (.up (b.km c))).fg x y).length<=8):=aK.len;change aa _ at cy;have Cd:b.dd<c.ps.length:=by rw[oc.1.dd];exact hk
   have mm:=I h.qZ;change aa _ at ar bn gt;go_enter func52,ntmps52;go_wp2_with fail;refine(DV (H.dn.ext U) (k:Int)).mono ?_;rintro e w1⟨rfl,bG⟩;rw[cJ.out];have VZ:=bG.ag eG;change aa _ at bG;go_wp2_with (at_lookup;(refine ex ?_;intro K aE));refine(avH (bn.ext U) Cp gt cg pt Cd di iN Ci ir).mono ?_;rintro e aN⟨M2,sM,hp,B,fJ,_,gg,os,rfl,fW,kc,tW,cd,Hh,fK⟩;have xx:=(H.ext (w':=w1) U).FK hk cy kc fW;obtain⟨bX,zI⟩:∃bX,bX=(λj=>if j=k then sM else D j):=⟨_,rfl⟩;obtain⟨O',hu⟩:∃O',O'=(λj=>if j=k then hp else O j):=⟨_,rfl⟩;rw[<-zI,<-hu]at xx;have C5:=cd.cj.neq;change aa _ at xx kc fW cd tW Hh fK zI hu;obtain⟨qB,QN⟩:∃qB,(b.km c).qB c=qB:=⟨_,rfl⟩;rw[QN]at Hh;have FN:os.length=qB.length:=by rw[<-Hh.out,cx]
   have V4:os.length<=17:=by
    have:=av2 c (b.km c);rw[QN]at this;omega
   have B9:∀o,o∈qB->o.1<c.ps.length:=by
    rw[<-QN];exact av3 cg.tolZ (by rw[gt.dd];exact hk)
   change aa _ at B9;subst C5;change aa _ at QN FN;go_wp2_with fail;go_loopg [27] os.length (λxa dS wr=>∃(j:Nat),xa+j=os.length/\dS=.int .i64 (j:Int)/\aa (pV wr M2 c P ((aQ.hz k (.up (b.km c))).BP c k (qB.take j)) v bW g p q bX O' W)/\aa (A8 wr B fJ os.length gg os)/\aa (aI (oq c g) aN wr));case atStart=>exact⟨0,J,rfl,by rw[EC];exact xx,cd,aI.refl _ _⟩
   case round=>
    obtain⟨j,_,rfl,fq,dX,fN⟩:=hrel;by_cases aD:j<os.length
    ·obtain⟨fb,o,rfl,fR⟩:=dX.cj.aF.get j aD;obtain⟨_,_⟩:wr.cell? (fb,o+j*2)=some ↑(os[j].t:Int)/\wr.cell? (fb,o+j*2+1)=some ↑os[j].s:=⟨fR 0 _ rfl,fR 1 _ rfl⟩;have hO:j<qB.length:=by rw[<-FN.out];exact aD
     have h1:qB[j]=(os[j].t,os[j].m):=by
      have af:(os.map (λo=>(o.t,o.m)))[j]? =qB[j]? :=by rw[Hh.out]
      rw[nd,eK aD,eK hO]at af;exact(w9 af).symm
     have VG:os[j].t<c.ps.length:=by have:=B9.out _ (cT hO);rw[h1]at this;exact this
     have b0:(0:Int)<=(j:Int):=J;have bf:(j:Int)<(os.length:Int):=J;change aa _ at h1;go_wp2_with fail;have Hm:aa ((wr.alloc (.cells #[(os[j].t:Int),os[j].s] 183)).heap[(wr:Nat)]?=some (.cells #[(os[j].t:Int),os[j].s] 183)):=e2 rfl;have eA:Z wr (wr.alloc (.cells #[(os[j].t:Int),os[j].s] 183)):=U;have av6:=I ((fq.ext eA).dn.box);have V5:=mm.out;change aa _ at eA;refine rN 9 (λw'=>Z (wr.alloc (.cells #[(os[j].t:Int),os[j].s] 183)) w') (λbd=>?_);refine tS ?_;refine kG 3 (·.ay av6) ?_;refine dC 4 ?_;refine dC 5 ?_;refine kG 6 (·.ay Hm) ?_;refine dC 7 ?_;refine kG 8 (·.ay Hm) ?_;refine jz 9 λK aE=>?_;go_simp;go_at_call 87;refine(asu M2 c bW g _ (k:Int) (os[j].t:Int) os[j].s.a os[j].s.n os[j].s.c os[j].m _ ((fq.ext eA).ext U).kp (uG J J) (uG J J) (fK _ (cT aD)) (((dX.ck _ (cT aD)).ext eA).aF.ext U) ((fq.ext eA).ext U).dn.b5 (ait _ _ PW)).mono ?_;rintro e bA⟨⟨z,rfl⟩,Fo,JI⟩
     have av7:=pV.fg (fq.ext U) Fo JI (λx y tQ=>by
      split
      ·rename_i KF;exact VX (tR KF.1) fq.bT x y tQ
      ·exact fq.bT x y tQ)
     have BI:=I (show pV bA M2 c P ((aQ.hz k (.up (b.km c))).BP c k (qB.take (j+1))) v bW g p q bX O' W from by rw[av0 hO,h1.out,av1];exact av7);have aix:aI (oq c g) wr bA:=(aI.of U).trans JI;have pG:=I (fN.trans aix);have hq:=I (dX.gE aix (λx X=>tW x (let ⟨a,b,e,k⟩:=X;k▸fq.kp.AX a b e)));refine J0 ?_;intro _;go_wp2;go_roundg (gk - 1);case measure=>omega
     case rel=>exact⟨j+1,J,by go_num,BI,hq,pG⟩
    ·have av8:qB.take j=qB:=iU (by rw[<-FN.out];omega);rw[av8]at fq;go_wp2;go_ret;refine⟨0,⟨λ_=>iH,λ_=>rfl⟩,M2,ub c g bX O' W,rfl,?_,?_⟩
     ·rw[jK.out,QN.out];exact⟨v,bW,g,p,q,bX,O',W,fq,λx=>Iff.rfl⟩
     ·rw[zI.out,hu.out];exact((hj.FK jZ hk kc).cN U).trans (hj.kp (λx X=>.inr (.inl X)) fN)
 ·refine V0 ?_;intro cJ;have iH:=I (show mH c aQ.bN n=false from by unfold mH;rw[cJ.out,CP]);have kd:=I (show Cq c aQ n=aQ from by unfold Cq;rw[aV aZ]);go_enter func52,ntmps52;go_wp2_with fail;refine(DV (H.dn.ext U) n).mono ?_;rintro e _⟨rfl,bG⟩;rw[cJ.out];change aa _ at bG;go_wp2;go_ret;refine⟨1,⟨λe=>absurd e ah,λe=>by rw[iH.out]at e;cases e⟩,M,F,rfl,?_,.of U⟩;exact ii
end
def yF(c:bK)(w:ba)(a b:Int):ba:=if ja c a b=true then w.xm c a.toNat b.toNat else w
def av9{a:Nat}(h:nr c a b=true):a<c.ps.length/\b<c.ps.length:=by
 unfold nr at h;rw[jS,jT]at h;exact h.1
def awa{h:Nat}{l:List bb}{P:List ax}(s:zx h l P):h<=P.length\/l= []:=by
 cases l with
 |nil=>exact .inr rfl
 |cons d l=>
  have:=s 0 (by simp);rw[uo]at this;exact .inl (lu (ud.1 this).1)
def awb{T:Nat}{w:ba}(al:lZ c)(h:cM c l T w)(aq:n<c.ps.length):(gr (et w n).au).length<=200000:=by
 unfold gr;rw[cx];cases aj:w.bN n with
 |up b=>rw[wm aj];exact((h.up n b aq aj).1.fz.DM al.room).se
 |down cp=>
  have:et w n=vh cp:=by unfold et;rw[aj];rfl
  rw[this];exact((h.down n cp aq aj).DM al.room).se
def aiy{w:World}{M F:Nat->Prop}{c:bK}{P:Nat}{aQ:ba}{l:List hE}{T:Nat}(h:h0 w M F c P aQ)(al:im c)(aK:cM c l T aQ)(a b:Int)(dD:(Lit.int .i64 a).wf=true)(dZ:(Lit.int .i64 b).wf=true):
  aS 54 #[P,a,b] w λe w'=>∃z:Int,uP c P w M F z (yF c aQ a b) e w':=by
 obtain⟨v,bW,g,p,q,D,O,W,h,hF⟩:=h
 have H:=I h
 have cg:=I al
 have jZ:=I hF
 have b1:=aL (o:=2) h.dn.box rfl
 have V5:=h.qZ
 have c3:=I h.kp
 cases hw:ja c a b with
 |false=>
  have cJ:=I (show yF c aQ a b=aQ from by unfold yF;rw[if_neg (by rw[hw];decide)])
  change aa _ at hw
  clear h al aK hF
  go_enter func54,ntmps54
  go_wp2_with fail
  refine(PU M c bW g aQ.fg a b _ (c3.ext U) dD dZ).mono ?_
  rintro e w1 bB
  unfold AY at bB
  rw[if_neg (by rw[hw.out];decide)]at bB
  obtain⟨rfl,bG⟩:=bB
  change aa _ at bG
  go_wp2
  go_ret
  refine⟨140,M,F,rfl,?_,.of U⟩
  rw[cJ.out]
  exact⟨v,bW,g,p,q,D,O,W,H.ext U,jZ⟩
 |true=>
  have QO:=tR hw
  obtain⟨Ut,mV⟩:=av9 QO
  obtain⟨x,rfl⟩:∃x:Nat,a=(x:Int):=⟨a.toNat,by unfold ja at hw;rw[Bool.and_eq_true,decide_eq_true_eq]at hw;omega⟩
  obtain⟨y,rfl⟩:∃y:Nat,b=(y:Int):=⟨b.toNat,by unfold ja at hw;rw[Bool.and_eq_true,decide_eq_true_eq]at hw;omega⟩
  rw[Int.toNat_natCast]at Ut mV
  have n1:=DW al.tolZ
  have MM:yF c aQ (x:Int) (y:Int)=aQ.xm c x y:=by unfold yF;rw[if_pos hw];rfl
  cases a1:aQ.fg x y with
  |nil=>
   have cJ:=I (show yF c aQ (x:Int) (y:Int)=aQ from by rw[MM];unfold ba.xm;rw[a1])
   change aa _ at hw
   have bg:=I a1
   clear h al aK hF MM QO
   go_enter func54,ntmps54
   go_wp2_with fail
   refine(PU M c bW g aQ.fg (x:Int) (y:Int) _ (c3.ext U) dD dZ).mono ?_
   rintro e w1 bB
   unfold AY at bB
   rw[if_pos hw.out,Int.toNat_natCast,Int.toNat_natCast,bg.out]at bB
   obtain⟨rfl,bG⟩:=bB
   change aa _ at bG
   go_wp2
   go_ret
   refine⟨141,M,F,rfl,?_,.of U⟩
   rw[cJ.out]
   exact⟨v,bW,g,p,q,D,O,W,H.ext U,jZ⟩
  |cons m ms=>
   obtain⟨s,f,ai,FM,bk,ak,hs⟩:=h.dn.dr.get (n:=y) J
   have Fv:=aK.x8 x y m (by rw[a1];exact List.mem_cons_self)
   have eh:=I FM
   have b9:=I bk
   have oh:=I (DP (k:=(y:Int)) (uG J J))
   have dW:=I hw
   have bg:=I a1
   have V6:=I QO
   have dG:=I Fv
   cases cy:aQ.bN y with
   |down cp=>
    have ar:(f (.int .i64 (y:Int))).isSome=false:=by rw[hs];unfold mq;rw[cy];rfl
    change aa _ at ar
    have cJ:=I (show yF c aQ (x:Int) (y:Int)=aQ.wj x y ms from by rw[MM];unfold ba.xm;rw[a1];unfold ba.EZ;dsimp only;rw[aer,cy])
    clear h al aK hF hw MM QO a1 FM bk ak hs cy Fv
    go_enter func54,ntmps54
    go_wp2_with fail
    refine(PU M c bW g aQ.fg (x:Int) (y:Int) _ (c3.ext U) dD dZ).mono ?_
    rintro e w1 bB
    unfold AY at bB
    rw[if_pos dW.out,Int.toNat_natCast,Int.toNat_natCast,bg.out]at bB
    obtain⟨sa,kD,nS,rfl,hm,eL,IM,QP⟩:=bB
    have iH:=L5 V6 QP
    have jj:=I ((H.ext (w':=w) (Z.refl _)).fg IM iH (VX V6 H.bT))
    have eG:=aL (o:=4) jj.dn.box rfl
    have rQ:=I (eh.ay (iH.block _ eh.lt (λq=>H.z6 _ q H.dn.bS.2.1)))
    change aa _ at iH
    clear hm eL IM QP
    go_wp2_with (at_lookup;(refine Fj rfl (λK aE=>L4 _ _ rfl DO underlying85 _ (QK _) rfl rfl (rQ.ext U) rfl oh ?_);rw[b9.out,ar.out];refine aE _ _ ?_;clear aE K))
    go_ret
    refine⟨210,M,F,rfl,?_,hj.kp (λx X=>(jZ x).2 (.inr (.inl X))) iH⟩
    rw[cJ.out]
    exact⟨v,bW,g,p,q,D,O,W,jj,jZ⟩
   |up k=>
    have ar:(f (.int .i64 (y:Int))).isSome=true:=by rw[hs];unfold mq;rw[cy];rfl
    have V2:ai=some ⟨p y,0,none⟩:=by rw[ak];unfold mq;rw[cy];rfl
    rw[V2]at bk
    replace b9:=I bk
    have cJ:=I (show yF c aQ (x:Int) (y:Int)=(aQ.wj x y ms).hz y (.up (k.Lq c x m))from by rw[MM];unfold ba.xm;rw[a1];unfold ba.EZ;dsimp only;rw[aer,cy])
    have Cp:=(aK.up y k mV cy).1
    have Cd:k.dd<c.ps.length:=by rw[Cp.dd];exact mV
    have yh:=I (TV al.tolZ aK)
    have Ci:=I (Nat.le_trans (aiu al.tolZ aK) (by omega:200000<=1000000))
    have xA:=I (show k.GK c x=true->m.k=2->m.h<=1000000\/m.aX= []from λaY jV=>by
     unfold aT.GK at aY
     rw[Bool.and_eq_true,decide_eq_true_eq,Cp.dd]at aY
     have aZ:0<y:=by
      have:=aY.1
      unfold aT.lf at this
      rw[Cp.dd]at this
      rcases Nat.eq_zero_or_pos y with e|e
      ·subst e;simp at this
      ·exact e
     have GV:=(lZ.I6 al.tolZ mV aZ).2
     have:uw c y=x:=by rw[GV]at aY;exact Int.ofNat.inj aY.2
     exact(awa ((Fv.2 jV).2 aZ this)).imp (λz=>by have:=awb al.tolZ aK Ut;omega) id)
    change aa _ at cy ar Cp
    clear h al aK hF hw MM QO a1 FM bk ak V2 hs Fv
    go_enter func54,ntmps54
    go_wp2_with fail
    refine(PU M c bW g aQ.fg (x:Int) (y:Int) _ (c3.ext U) dD dZ).mono ?_
    rintro e w1 bB
    unfold AY at bB
    rw[if_pos dW.out,Int.toNat_natCast,Int.toNat_natCast,bg.out]at bB
    obtain⟨sa,kD,nS,rfl,hm,eL,IM,QP⟩:=bB
    have iH:=L5 V6 QP
    have jj:=I ((H.ext (w':=w) (Z.refl _)).fg IM iH (VX V6 H.bT))
    have io:=I eL.c8
    have eG:=aL (o:=4) jj.dn.box rfl
    have rQ:=I (eh.ay (iH.block _ eh.lt (λq=>H.z6 _ q H.dn.bS.2.1)))
    have zX:sn w1 M (D y) (O y) c (p y) (q y) k:=by have:=jj.dn.ri y mV;rw[cy.out]at this;exact this
    obtain⟨FL,bn⟩:=zX
    change aa _ at bn iH
    clear hm eL IM QP
    go_wp2_with (at_lookup;(refine Fj rfl (λK aE=>L4 _ _ rfl DO underlying85 _ (QK _) rfl rfl (rQ.ext U) rfl oh ?_);rw[b9.out,ar.out];refine aE _ _ ?_;clear aE K))
    refine(auQ (bn.ext U) Cp cg.tolZ Cd yh Ci x J sa kD nS m (io.ext U) dG.out.1 (λe=>(dG.out.2 e).1) xA).mono ?_
    rintro e aN⟨z,M2,sM,hp,rfl,CX,kc⟩
    have J2:=I ((jj.ext (w':=w1) (Z.refl _)).FK mV cy kc CX)
    change aa _ at kc
    clear CX
    go_wp2
    go_ret
    refine⟨z,M2,ub c g (λj=>if j=y then sM else D j) (λj=>if j=y then hp else O j) W,rfl,?_,(hj.kp (λx X=>(jZ x).2 (.inr (.inl X))) iH).trans (hj.FK jZ mV kc)⟩
    rw[cJ.out]
    exact⟨v,bW,g,p,q,_,_,W,J2,λx=>Iff.rfl⟩
section
attribute [local go_sem] Oper.semAt_some
def QQ(N k:Nat):List Nat:=(List.range N).reverse.take k
def awc(h:k<N):QQ N (k+1)=QQ N k++[N - 1 - k]:=by
 unfold QQ;rw[iv (by simpa using h),List.getElem_reverse];simp
def awd(N:Nat):QQ N N=(List.range N).reverse:=iU (by simp)
def awe(n:Nat)(aq:1<=n)(l B P N:Nat)(qH:N<=16)(mn:List Nat->aC->Prop)(sA:∀cN W,mn cN W->W.cell? (B,0)=some ↑P/\∃a c,W.cell? (P,0)=some ↑(ao a N c))(sc:∀cN x W,x<N->mn cN W->YieldAt Fence.wide (n - 1) prog l #[(x:Int)] W λe W'=>e=.returned (.bool true)/\mn (cN++[x]) W')(W:aC)(aZ:mn [] W):
  CallsIn Fence.wide n prog 85 #[.func (.yield l) #[] #[],B] W λe W'=>(∃v,e=.returned v)/\∃xs,xs=TK N/\mn xs W':=by
 obtain⟨_,_,_,_⟩:=sA _ _ aZ;refine callsIn_of_wp func85 rfl trivial ?_ rfl;simp only[ntmps85,Iv,me,pH,Nat.reduceAdd,Nat.reduceSub,Lk,Ll,Lm,Ln,mN,Gn];gi_wp2;gi_loopw [3] (λi wr=>∃k:Nat,k<=N/\i=.int .i64 ((N:Int) - 1 - (k:Int))/\mn (QQ N k) wr) (λi _=>(intOf i+1).toNat);case atStart=>exact⟨0,gz _,by first|rfl|(simp;done)|(congr 1;simp only[wrap64];omega),aZ⟩
 case round=>
  obtain⟨k,_,rfl,aD⟩:=hrel;obtain⟨_,_,_,_⟩:=sA _ _ aD;by_cases fH:k<N
  ·obtain⟨fn,tmps,assign,body,hy,bB⟩:=sc _ (N - 1 - k) wr J aD;have X:(N:Int) - 1 - (k:Int)=((N - 1 - k:Nat):Int):=J;rw[X];have b0:(0:Int)<=((N - 1 - k:Nat):Int):=J;have hw:wrap64 (((N - 1 - k:Nat):Int) - 1)=(N:Int) - 1 - ((k+1:Nat):Int):=by simp only[wrap64];omega
   gi_wp2;refine bB.mono ?_;rintro e aiz⟨rfl,IT⟩;gi_wp2;go_roundw;case rel=>exact⟨k+1,J,by first|rfl|(rw[hw];done)|(congr 1;omega),by rw[awc fH];exact IT⟩
   case measure=>simp[intOf]<;>omega
  ·obtain rfl:k=N:=J;have b0:¬(0:Int)<=(k:Int) - 1 - (k:Int):=J;rw[awd]at aD;have wH:=I aD;gi_wp2;gi_loopw [4,24] (λna dS wr=>∃j:Nat,j<=k/\dS=.int .i64 (j:Int)/\mn ((List.range k).reverse++List.range j) wr) (λ_ i _=>k - (intOf i).toNat);case atStart=>exact⟨0,gz _,rfl,by simpa using wH.out⟩
   case round=>
    obtain⟨j,_,rfl,aD⟩:=hrel;by_cases YZ:j<k
    ·obtain⟨_,tmps,_,_,hy,bB⟩:=sc _ j wr YZ aD;have c1:(j:Int)<(k:Int):=J;gi_wp2;refine bB.mono ?_;rintro e _⟨rfl,IT⟩;gi_wp2;go_roundw;case rel=>exact⟨j+1,J,by go_num,by rw[Iy,<-ig];exact IT⟩
     case measure=>simp[intOf]<;>omega
    ·obtain rfl:j=k:=J;gi_wp2;go_end0;exact⟨⟨_,rfl⟩,_,rfl,aD⟩
def awf(w:aC)(P:Nat):aS 51 #[P] w λe w'=>∃B,e=.returned (.func (.func 85) #[] #[.pointer (some (B,0))])/\w'.heap[B]?=some (.cells #[P] 26)/\(w:Nat)<=B/\Z w w':=by
 go_enter func51,ntmps51;go_wp2;go_ret;exact⟨(w:Nat),rfl,e2 rfl,bJ _,U⟩
def Ba(w1:World)(M F:Nat->Prop)(c:bK)(P:Nat)(aQ:ba)(cN:List Nat)(W:World):Prop:=
 ∃M' eF,h0 W M' eF c P (cN.foldl (ba.mW c) aQ)/\hj w1 M F W M' eF/\(M' w1.heap.size/\M' (w1.heap.size+1))/\(¬eF w1.heap.size/\¬eF (w1.heap.size+1))/\w1.heap.size+1<W.heap.size/\∀x,x∈cN->x<c.ps.length
section
variable {w1 W:World}{M F:Nat->Prop}{c:bK}{P:Nat}{aQ:ba}{cN:List Nat}
def aiA(w:aC)(b:Nat)(o:Obj):aI (·=b) w (w.putObj b o):=⟨rfl,rfl,rfl,by simp,λk _ aq=>VV aq⟩
def Ba.N_(h:h0 w1 M F c P aQ)(r:Loop):Ba w1 M F c P aQ [] ((w1.alloc (.deferred (some []))).alloc (.loop r)):=by
 have X:Z w1 ((w1.alloc (.deferred (some []))).alloc (.loop r)):=((Z.refl w1).alloc _).alloc _;have bk:b4 w1 M (λx=>M x\/x=(w1:Nat)\/x=(w1:Nat)+1):=⟨λx h=>.inl h,λx h=>h.imp id (λk=>by omega)⟩;refine⟨λx=>M x\/x=(w1:Nat)\/x=(w1:Nat)+1,F,h.step (S:=λ_=>False) (.of X) (λ_ k=>k.elim) (λ_ _ k=>k) bk (λx k=>?_),⟨.of X,b4.refl _ _,bk⟩,⟨.inr (.inl rfl),.inr (.inr rfl)⟩,⟨λk=>?_,λk=>?_⟩,by simp,λx X=>by cases X⟩
 ·simp;rcases k with k|k
  ·have:=h.b5 x k;omega
  ·omega
 ·have:=h.b5 _ (h.sub _ k);omega
 ·have:=h.b5 _ (h.sub _ k);omega
def Ba.put(h:Ba w1 M F c P aQ cN W){r:Loop}(az:W.heap[(w1:Nat)+1]?=some (.loop r))(o:Obj):Ba w1 M F c P aQ cN (W.putObj (w1.heap.size+1) o):=by
 obtain⟨M',eF,af,an,aO,bt,cC,fV⟩:=h;have aj:=aiA W (w1.heap.size+1) o;refine⟨M',eF,af.step aj (λx e=>?_) (λx X e=>?_) (b4.ep _ _) (λx k=>fQ (af.b5 x k) aj.size),⟨an.ee.xj aj (λx e=>.inr ?_),an.f,an.m⟩,aO,bt,fQ cC aj.size,fV⟩
 ·have e:x=(w1:Nat)+1:=e;rw[e];exact aO.2
 ·have e:x=(w1:Nat)+1:=e;rw[e]at X;exact bt.2 X
 ·have e:x=(w1:Nat)+1:=e;omega
end
def ql(w1 qf:World)(M F:Nat->Prop)(c:bK)(P:Nat)(aQ:ba)(W:World):Prop:=
 ∃M' eF,h0 W M' eF c P aQ/\hj w1 M F W M' eF/\(M' w1.heap.size/\M' (w1.heap.size+1))/\(¬eF w1.heap.size/\¬eF (w1.heap.size+1))/\w1.heap.size+1<W.heap.size/\W.heap[w1.heap.size]? =qf.heap[w1.heap.size]? /\W.heap[w1.heap.size+1]? =qf.heap[w1.heap.size+1]?
section
variable {w1 qf W:World}{M F:Nat->Prop}{c:bK}{P:Nat}{aQ vD:ba}{cN:List Nat}
def Ba.aiB(h:Ba w1 M F c P aQ cN W):ql w1 W M F c P (cN.foldl (ba.mW c) aQ) W:=let ⟨M',eF,af,an,aO,bt,cC,_⟩:=h;⟨M',eF,af,an,aO,bt,cC,rfl,rfl⟩
def Ba.mem(h:Ba w1 M F c P aQ cN W):∀x,x∈cN->x<c.ps.length:=let ⟨_,_,_,_,_,_,_,fV⟩:=h;fV
def ql.aiC{x:Nat}(h:ql w1 qf M F c P (vD.mW c x) W)(aY:cN.foldl (ba.mW c) aQ=vD)(hm:∀x,x∈cN->x<c.ps.length)(X:x<c.ps.length):(W.heap[(w1:Nat)]? =qf.heap[(w1:Nat)]? /\W.heap[(w1:Nat)+1]? =qf.heap[(w1:Nat)+1]?)/\Ba w1 M F c P aQ (cN++[x]) W:=by
 obtain⟨M',eF,af,an,aO,bt,cC,fV,kv⟩:=h;refine⟨⟨fV,kv⟩,M',eF,?_,an,aO,bt,cC,λy hy=>(ie.1 hy).elim (hm y) (λk=>jg.1 k▸X)⟩;rw[Ak,aY];exact af
def ql.cell(h:ql w1 qf M F c P aQ W)(fe:∀x,F x->M x){o:Obj}(ad:w1.heap[b]?=some o)(aq:¬M b):W.heap[b]?=some o:=awg
def ql.qX{M' eF:eZ}(af:hj w1 M F W M' eF)(aO:M' (w1:Nat)/\M' (w1.heap.size+1))(bt:¬eF (w1:Nat)/\¬eF (w1.heap.size+1))(cC:(w1:Nat)+1<(W:Nat))(fV:W.heap[(w1:Nat)]? =qf.heap[(w1:Nat)]?)(kv:W.heap[(w1:Nat)+1]? =qf.heap[(w1:Nat)+1]?){Cc:aC}{M2 sO:eZ}(hw:h0 Cc M2 sO c P vD)(hm:hj W M' eF Cc M2 sO):ql w1 qf M F c P vD Cc:=
 ⟨M2,sO,hw,af.trans hm,⟨hm.m.up _ aO.1,hm.m.up _ aO.2⟩,⟨λk=>(hm.f.new _ k).elim bt.1 (λq=>by omega),λk=>(hm.f.new _ k).elim bt.2 (λq=>by omega)⟩,fQ cC hm.ee.size,(hm.ee.block _ J bt.1).trans fV,(hm.ee.block _ J bt.2).trans kv⟩
def ql.call(h:ql w1 qf M F c P aQ W){f:FuncId}{args:Array Value}{Φ:Int->Prop}(is:∀M' eF,h0 W M' eF c P aQ->aS f args W (λe w'=>∃z,Φ z/\uP c P W M' eF (.int .i64 z) vD e w')):
  aS f args W (λe w'=>∃z:Int,Φ z/\e=.returned z/\ql w1 qf M F c P vD w'):=by
 obtain⟨M',eF,af,an,aO,bt,cC,fV,kv⟩:=h;refine(is M' eF af).mono ?_;rintro e w'⟨z,bp,_,_,he,hw,hm⟩;exact⟨z,bp,he,ql.qX an aO bt cC fV kv hw hm⟩
def ql.ext(h:ql w1 qf M F c P aQ W){Cc:aC}(X:Z W Cc):ql w1 qf M F c P aQ Cc:=by
 obtain⟨_,_,af,an,aO,bt,cC,fV,kv⟩:=h;exact ql.qX an aO bt cC fV kv (af.ext X) (.of X)
def ql.bT(h:ql w1 qf M F c P aQ W){x y:Nat}(a1:0<(aQ.fg x y).length):nr c x y=true:=by
 obtain⟨_,_,⟨v,_,g,p,q,D,O,_,k,_⟩,_⟩:=h;cases hw:nr c x y with
 |true=>rfl
 |false=>rw[k.bT x y hw]at a1;cases a1
def ql.box(h:ql w1 qf M F c P aQ W):(∃a n,W.cell? (P,0)=some ↑(ao a c.ps.length n))/\∃bW,W.cell? (P,2)=some ↑bW/\∀(x y:Nat) w',x<1000000->y<1000000->Z W w'->aS 53 #[bW,(x:Int),(y:Int)] w' λe ey=>e=.returned (.int .i64 ((aQ.fg x y).length:Int))/\Z w' ey:=by
 obtain⟨M',_,⟨v,bW,g,p,q,D,O,_,k,_⟩,_⟩:=h;obtain⟨aZ,-,an⟩:=jm k.dn.box;have aq:=k.dn.l3.c8.1.neq;refine⟨⟨v.cL.a,v.cL.c,by rw[<-aq];exact aZ⟩,bW,?_,λx y w' X hy hw=>?_⟩
 ·rw[<-k.qZ];exact an
 ·refine(ast M' c bW g aQ.fg (x:Int) (y:Int) w' (k.kp.ext hw) (uG J J) (uG J J)).mono ?_;rintro e _⟨rfl,cn⟩;refine⟨?_,cn⟩;rw[fd,kN,kN];cases hw:nr c x y with
  |true=>rw[bc rfl]
  |false=>rw[aV ah,k.bT x y hw];rfl
end
def awh(c:bK)(w:ba)(a b:Nat)(m:dv):(w.EZ c a b m).fg=w.fg:=by unfold ba.EZ;split<;>rfl
def awi{c:bK}{w:ba}{a:Nat}(h:0<(w.fg a b).length):((w.xm c a b).fg a b).length+1=(w.fg a b).length:=by
 unfold ba.xm;cases a1:w.fg a b with
 |nil=>rw[a1]at h;cases h
 |cons m l=>
  dsimp only;rw[awh];show(if a=a/\b=b then l else _).length+1=_;rw[bc ⟨rfl,rfl⟩];rfl
def awj{c:bK}{w:ba}{a:Nat}(h:(w.fg a b).length=0):∀f,ba.drain c f w a b=w
 |0=>rfl
 |f+1=>by unfold ba.drain;rw[bc h]
def awk{c:bK}{w:ba}{a f:Nat}(h:0<(w.fg a b).length):ba.drain c (f+1) w a b=ba.drain c f (w.xm c a b) a b:=by
 show(if (w.fg a b).length=0 then w else _)=_;rw[aV J]
def awl{c:bK}{w:ba}{b:aT}(h:w.bN n=.up b):w.mW c n=(w.tick c n).Y3 c n:=by unfold ba.mW;rw[h]
def awm{c:bK}{w:ba}(h:w.bN n=.down cp):w.mW c n=w:=by unfold ba.mW;rw[h]
def FO(c:bK)(w:ba)(n k:Nat):ba:=(List.range k).foldl (λw dst=>if dst=n then w else ba.drain c 9 w n dst) w
def aiD(c:bK)(w:ba)(n k:Nat):FO c w n (k+1)=if k=n then FO c w n k else ba.drain c 9 (FO c w n k) n k:=by unfold FO;rw[Iy,Ak];rfl
def aiE{c:bK}{l:List hE}{T:Nat}(al:lZ c):∀(cN:List Nat) (w:ba),cM c l T w->(∀x,x∈cN->x<c.ps.length)->cM c l T (cN.foldl (ba.mW c) w)
 | [],_,h,_=>h
 |x::cN,w,h,aY=>aiE al cN _ (aex al h (aY x o1)) (λy hy=>aY y (ni _ hy))
def it{c:bK}{l:List hE}{T n:Nat}(al:lZ c){w:ba}(h:cM c l T w):∀k,k<=c.ps.length->cM c l T (FO c w n k)
 |0,_=>h
 |k+1,hk=>by
  rw[aiD]
  split
  ·exact it al h k J
  ·exact aev al n J 9 (it al h k J)
def aiF{M F:eZ}{c:bK}{P:Nat}{aQ:ba}{T:Nat}(H:h0 w M F c P aQ)(cg:im c)(a8:cM c l T aQ)(pt:c.room<=60000):
  Calls prog 20 #[P] w (uP c P w M F (.tuple #[]) (aQ.round c)):=by
 have n1:=DW cg.tolZ;replace H:=I H;replace cg:=I cg;replace a8:=I a8;refine(EX (n:=4)).1 ?_;refine callsIn_of_wp_marks func20 rfl trivial ?_ rfl;simp only[ntmps20,Iv,me,pH,Nat.reduceAdd,Nat.reduceSub,Lk,Ll,Lm,Ln,mN,Gn];gi_wp2;refine⟨trivial,((EX (n:=3)).2 (awf _ P)).mono ?_⟩;rintro e w1⟨B,rfl,bn,aiG,br⟩;have bz:aa (Z w w1):=(show Z w (w.alloc (.cells #[P] 26))from U).trans br;have cw:aa (w1.heap[(w:Nat)]?=some (.cells #[P] 26)):=br.ay (e2 rfl);have fL:=I (H.ext bz);have iV:w.heap.size<B:=by simp at aiG;omega
 replace bn:=I bn;clear aiG br;gi_wp2
 refine avR (n:=4) (P:=prog) (gf:=85) (lb:=#[B]) rfl (enters_of func85 bQ rfl) (λx:Nat=>#[(x:Int)]) (λ_=>rfl) (λx=>x<c.ps.length) (λxs=>xs=TK c.ps.length) w1 rfl (Ba w1 M F c P aQ) (λr=>Ba.N_ fL r) (λcN W r UL aK az=>aK.put az _) ?em
  (λx:Nat=> {tmps:=#[.pointer (some ⟨P,0,none⟩),.pointer (some ⟨w.heap.size,0,none⟩),.int .i64 (x:Int),undef,.pointer (some ⟨P,0,none⟩),.bool false,.pointer (some ⟨P,0,none⟩),.func (.func 85) #[] #[.pointer (some ⟨B,0,none⟩)],.int .i64 (x:Int),undef,undef,undef,undef,undef,undef,undef,undef,undef,undef,undef,undef,undef,undef,undef,undef,undef,undef,undef,undef,undef,undef,undef,undef,undef,undef,undef,undef,undef,undef],defers:= []}) ?assign ?body ?done
 case em=>
  intro MN mn W awn sc aZ;refine(awe 3 J MN B P c.ps.length n1 mn (λcN W aD=>?_) (λcN x W X aD=>sc cN x W X aD) W aZ).mono ?_
  ·have aiH:=(awn cN W aD).aiB;exact⟨aL (o:=0) (aiH.cell fL.sub bn (λk=>by have:=H.b5 _ k;omega)) rfl,aiH.box.1⟩
  ·rintro e _⟨af,xs,an,aO⟩;exact⟨af,xs,an,aO⟩
 case assign=>
  intro MN x W K aE;gi_wp2;exact aE
 case body=>
  intro MN cN x W X QR fs;have FA:=I QR.mem;have yG:=aiE cg.tolZ cN aQ a8 FA;have QS:=QR.aiB;obtain⟨wp,QT⟩:∃wp,cN.foldl (ba.mW c) aQ=wp:=⟨_,rfl⟩;rw[QT]at QS yG;have QU:=fL.sub;have Jl:¬M w.heap.size:=λk=>by have:=H.b5 _ k;omega
  have gn:=aL (o:=0) (QS.cell QU cw Jl) rfl;replace QS:=I QS;replace yG:=I yG;replace QT:=I QT;replace QU:=I QU;replace Jl:=I Jl;clear QR fs;gi_wp2;refine⟨trivial,(CallsIn.inRound MN ((EX (n:=1)).2 (QS.call (λM' eF hw=>aiw hw cg yG pt (x:Int))))).mono ?_⟩;rintro e _⟨z,bp,rfl,J3⟩;have Eg:Cq c wp (x:Int)=wp.tick c x:=by unfold Cq;rw[bc ⟨J,J⟩];rfl
  rw[Eg]at J3;replace J3:=I J3;clear Eg gn;cases cy:wp.bN x with
  |down cp=>
   have fa:¬z=0:=λe=>by have:=bp.1 e;unfold mH at this;rw[kN,cy,wV]at this;cases this
   have awo:=I (show wp.mW c x=wp.tick c x from by rw[awm cy,aiv cy]);clear bp cy;gi_wp2;have QV:=ql.aiC (x:=x) (by rw[awo.out];exact J3) QT FA X;first|exact⟨rfl,QV⟩|exact QV
  |up b=>
   have fa:z=0:=bp.2 (by unfold mH;rw[kN,cy,jf ⟨J,J⟩];rfl);have awp:=I (awl cy (c:=c));obtain⟨⟨cL,gJ,k4⟩,_⟩:=J3.box;have gn:=aL (o:=0) (J3.cell QU cw Jl) rfl;subst fa;clear bp cy;gi_wp2;clear gn k4;gi_loopw [3,18] (λawq dS wr=>∃k:Nat,k<=c.ps.length/\dS=.int .i64 (k:Int)/\ql w1 W M F c P (FO c (wp.tick c x) x k) wr) (λawq dS wr=>c.ps.length - (intOf dS).toNat);case atStart=>exact⟨0,gz _,rfl,J3⟩
   case round=>
    obtain⟨k,hk,rfl,aD⟩:=hrel;by_cases fH:k<c.ps.length
    ·have b0:(k:Int)<(c.ps.length:Int):=J;change aa _ at aD;gi_wp2;obtain⟨d0,Md⟩:∃d0,FO c (wp.tick c x) x k=d0:=⟨_,rfl⟩;have yP:=it (n:=x) cg.tolZ (Zf cg.tolZ yG X) k hk;rw[Md]at aD yP;have SD:=I (show FO c (wp.tick c x) x (k+1)=if k=x then d0 else ba.drain c 9 d0 x k from by rw[aiD,Md]);replace yP:=I yP;clear Md;refine avY (λf ga w'=>∃(Cr:ba) (u21 u22 u23 u24 u25 u26 u27 u28 u29 u30 u31 u32 u33 u34 u35 u36 u37:Value),(ql w1 W M F c P Cr w'/\cM c l T Cr/\(Cr.fg x k).length<=f/\(if k=x then Cr=d0 else ba.drain c f Cr x k=ba.drain c 9 d0 x k))/\ga={tmps:=#[.pointer (some ⟨P,0,none⟩),.pointer (some ⟨w.heap.size,0,none⟩),.int .i64 (x:Int),.int .i64 (k:Int),.pointer (some ⟨P,0,none⟩),.bool false,.pointer (some ⟨P,0,none⟩),.func (.func 85) #[] #[.pointer (some ⟨B,0,none⟩)],.int .i64 (x:Int),.pointer (some ⟨P,0,none⟩),.int .i64 (x:Int),.int .i64 0,.bool false,.pointer (some ⟨P,0,none⟩),.pointer (some ⟨P,0,none⟩),.pointer (some ⟨P,0,none⟩),.slice cL c.ps.length gJ,.int .i64 (c.ps.length:Int),.int .i64 (k:Int),.bool true,.int .i64 (k:Int),u21,u22,u23,u24,u25,u26,u27,u28,u29,u30,u31,u32,u33,u34,u35,u36,u37,u38],defers:= []}) 9 ?_ ?_
     ·refine⟨d0,u21,u22,u23,u24,u25,u26,u27,u28,u29,u30,u31,u32,u33,u34,u35,u36,u37,⟨aD,yP,ek (yP.len x k) J,?_⟩,rfl⟩;split
      ·rfl
      ·rfl
     ·rintro f _ aws⟨Cr,_,_,_,_,_,_,_,_,_,_,_,_,_,_,_,_,_,⟨wH,V7,hlen,J4⟩,rfl⟩;obtain⟨_,_,_,yw⟩:=wH.box;have gn:=aL (o:=0) (wH.cell QU cw Jl) rfl;replace yw:=I yw;replace wH:=I wH;replace V7:=I V7;by_cases V8:k=x
      ·rw[bc V8]at J4;subst J4;have o4:=I (SD.trans (bc V8));have awt:(k:Int)=(x:Int):=J;have Ac:k+1<=c.ps.length:=J;clear hlen;gi_wp2;refine⟨trivial,?_⟩;gi_wp2;go_roundw;case rel=>exact⟨k+1,Ac,by go_num,by rw[o4.out];exact wH⟩
       case measure=>simp[intOf]<;>omega
      ·rw[aV V8]at J4;have o4:=I (SD.trans (aV V8));have awt:¬(k:Int)=(x:Int):=J;replace J4:=I J4;gi_wp2;refine⟨trivial,(CallsIn.inRound MN ((EX (n:=1)).2 (yw x k aws J J (Z.refl _)))).mono ?_⟩;rintro e aiz⟨rfl,c0⟩;have eI:=c0.ag gn;replace c0:=I c0;clear gn;obtain⟨m,bF⟩:∃m,(Cr.fg x k).length=m:=⟨_,rfl⟩;rw[bF];rw[bF]at hlen;replace bF:=I bF;by_cases a1:0<m
       ·have bg:=I (show 0<(Cr.fg x k).length from by rw[bF.out];exact a1);have o6:(0:Int)<(m:Int):=J;have xb:¬m=0:=J;change aa _ at hlen;gi_wp2;refine⟨trivial,(CallsIn.inRound MN ((EX (n:=1)).2 ((wH.ext c0).call (Φ:=λ_=>True) (λM' eF hw=>(aiy hw cg V7 (x:Int) (k:Int) (uG J J) (uG J J)).mono (λe w' ⟨z,az⟩=>⟨z,trivial,az⟩))))).mono ?_⟩;rintro e _⟨z,-,rfl,V9⟩;have xL:yF c Cr (x:Int) (k:Int)=Cr.xm c x k:=by unfold yF;rw[fd,bc (wH.bT bg.out)];rfl
        rw[xL]at V9;replace V9:=I V9;clear xL;gi_wp2;have af:=awi (c:=c) bg;rw[bF.out]at af;refine⟨f - 1,by have:=hlen.out;omega,Cr.xm c x k,V9,Zh cg.tolZ V7 x J,by have:=hlen.out;omega,?_⟩;rw[<-J4.out];obtain⟨f,rfl⟩:∃g,f=g+1:=⟨f - 1,by have:=hlen.out;omega⟩;rw[awk bg.out];rfl
       ·have aiO:m=0:=J
        have FP:=I (show ql w1 W M F c P (FO c (wp.tick c x) x (k+1)) aiz from by
         rw[o4.out,<-J4.out,awj (by rw[bF.out];exact aiO)]
         exact wH.ext c0)
        have Ac:k+1<=c.ps.length:=J;clear bF;subst aiO;clear a1 hlen;gi_wp2;go_roundw;case rel=>exact⟨k+1,Ac,by go_num,FP⟩
        case measure=>simp[intOf]<;>omega
    ·obtain rfl:k=c.ps.length:=J;have FP:=I (show ql w1 W M F c P (wp.mW c x) wr from by rw[awp.out];exact aD);clear aD;gi_wp2;have QV:=ql.aiC FP QT FA X;first|exact⟨rfl,QV⟩|exact QV
 case done=>
  rintro _ W rfl QR jw;obtain⟨M',eF,af,an,aO,bt,_,_⟩:=QR;have aj:=aiA W w1 (.deferred none);gi_wp2;refine⟨by simp,.inl ⟨_,_,rfl,run_takeDeferred jw,?_⟩⟩;have bj:∀x,x=(w1:Nat)->M' x:=λx e=>e▸aO.1;refine⟨_,results_none rfl _ _ _,M',eF,rfl,af.step aj bj (λx X e=>?_) (b4.ep _ _) (λx k=>fQ (af.b5 x k) aj.size),?_⟩
  ·have e:x=(w1:Nat):=e;rw[e]at X;exact bt.1 X
  ·exact(hj.of bz).trans ⟨an.ee.xj aj (λx e=>.inr (by have e:x=(w1:Nat):=e;omega)),an.f,an.m⟩
end
def awu{w:ba}{a b:Int}:(if ja c a b=true then w.drop a.toNat b.toNat else w)={w with fg:=if ja c a b=true then mY w.fg a.toNat b.toNat (w.fg a.toNat b.toNat).tail else w.fg}:=aiP
def awv{w:ba}{a b:Int}:(if ja c a b=true then w.Dm a.toNat b.toNat else w)={w with fg:=if ja c a b=true then mY w.fg a.toNat b.toNat (Jy (w.fg a.toNat b.toNat)) else w.fg}:=by
 cases hw:ja c a b with
 |true=>
  rw[bc rfl,bc rfl];unfold ba.Dm Jy;by_cases h:(w.fg a.toNat b.toNat).length=0\/(w.fg a.toNat b.toNat).length=8
  ·rw[bc h,bc h,UP]
  ·rw[aV h,aV h];rfl
 |false=>rw[aV ah,aV ah]
def aww{w:ba}{a b:Int}:(if ja c a b=true then w.Ls a.toNat b.toNat else w)={w with fg:=if ja c a b=true then mY w.fg a.toNat b.toNat (UR (w.fg a.toNat b.toNat)) else w.fg}:=aiP
def i2{W:eZ}{bW:Nat}{aQ:ba}{v:qL}{g:Nat->Nat->Nat}{p q:Nat->Nat}{D O:Nat->Nat->Prop}(H:pV w M c P aQ v bW g p q D O W)(jZ:∀x,F x↔ub c g D O W x)(a b:Int)(fn:Nat)(bT:Nat->Nat->List dv)(KH:∀args w,(callFunc fn args).run prog w=.ok (.enter fn args) w)(is:∀w',Z w w'->aS fn #[bW,a,b] w' λe ey=>(∃n:Int,e=.returned n)/\ko ey M c bW g bT/\aI (oq c g) w' ey)(vl:∀x y,nr c x y=false->bT x y= []):
  aS 117 #[P,a,b,.func (.func fn) #[] #[]] w λe w'=>∃z:Int,uP c P w M F z {aQ with fg:=bT} e w':=by
 have b1:=aL (o:=2) H.dn.box rfl;have V5:=H.qZ;rw[show(#[v.cL,v.ak,v.kp,v.aU,.map (some v.dr),v.fM,v.go]:Array Value)[2]=v.kp from rfl,V5]at b1;change aa _ at H jZ;clear V5;go_enter func117,ntmps117;go_wp2_with fail;refine(is _ (Z.refl _)).mono ?_;rintro e _⟨⟨z,rfl⟩,c3,iH⟩;change aa _ at c3 iH;go_wp2;go_ret;exact⟨z,M,F,rfl,⟨v,bW,g,p,q,D,O,W,H.fg c3 iH vl,jZ⟩,hj.kp (λx X=>(jZ x).2 (.inr (.inl X))) iH⟩
def awx{aQ:ba}{T:Nat}(h:h0 w M F c P aQ)(aK:cM c l T aQ)(a b:Int)(dD:(Lit.int .i64 a).wf=true)(dZ:(Lit.int .i64 b).wf=true):
  aS 68 #[P,a,b] w λe w'=>∃z:Int,uP c P w M F z (if ja c a b=true then aQ.drop a.toNat b.toNat else aQ) e w':=by
 obtain⟨v,bW,g,p,q,D,O,W,h,hF⟩:=h;have vl:=h.bT;obtain⟨R,bB⟩:∃R:ba,(if ja c a b=true then aQ.drop a.toNat b.toNat else aQ)=R:=⟨_,rfl⟩;rw[bB];rw[awu]at bB;have dW:=i2 h hF a b 118 _ (λ_ _=>by kernel_rfl) (λw' X=>ass M c bW g aQ.fg a b w' (h.kp.ext X) dD dZ) (λx y tQ=>i3);rw[bB]at dW;replace dW:=I dW;clear h hF vl aK bB;go_enter func68,ntmps68;exact i4
def awy{aQ:ba}{T:Nat}(h:h0 w M F c P aQ)(aK:cM c l T aQ)(a b:Int)(dD:(Lit.int .i64 a).wf=true)(dZ:(Lit.int .i64 b).wf=true):
  aS 69 #[P,a,b] w λe w'=>∃z:Int,uP c P w M F z (if ja c a b=true then aQ.Dm a.toNat b.toNat else aQ) e w':=by
 obtain⟨v,bW,g,p,q,D,O,W,h,hF⟩:=h;have vl:=h.bT;obtain⟨R,bB⟩:∃R:ba,(if ja c a b=true then aQ.Dm a.toNat b.toNat else aQ)=R:=⟨_,rfl⟩;rw[bB];rw[awv]at bB;have dW:=i2 h hF a b 119 _ (λ_ _=>by kernel_rfl) (λw' X=>asx M c bW g aQ.fg a b w' (h.kp.ext X) dD dZ (h.dn.ext X).b5 aK.len) (λx y tQ=>i3);rw[bB]at dW;replace dW:=I dW;clear h hF vl aK bB;go_enter func69,ntmps69;exact i4
def awz{aQ:ba}{T:Nat}(h:h0 w M F c P aQ)(aK:cM c l T aQ)(a b:Int)(dD:(Lit.int .i64 a).wf=true)(dZ:(Lit.int .i64 b).wf=true):
  aS 70 #[P,a,b] w λe w'=>∃z:Int,uP c P w M F z (if ja c a b=true then aQ.Ls a.toNat b.toNat else aQ) e w':=by
 obtain⟨v,bW,g,p,q,D,O,W,h,hF⟩:=h;have vl:=h.bT;obtain⟨R,bB⟩:∃R:ba,(if ja c a b=true then aQ.Ls a.toNat b.toNat else aQ)=R:=⟨_,rfl⟩;rw[bB];rw[aww]at bB;have dW:=i2 h hF a b 120 _ (λ_ _=>by kernel_rfl) (λw' X=>asv M c bW g aQ.fg a b w' (h.kp.ext X) dD dZ aK.len) (λx y tQ=>i3);rw[bB]at dW;replace dW:=I dW;clear h hF vl aK bB;go_enter func70,ntmps70;exact i4
section
def aH.DX{α:Type}{w:aC}{sz:Nat}{c:α->List Value}{aA:bl}{ys:List α}(h:aH w base e sz c aA n cap ys)(ad:∃aX k,w.heap[B]?=some (.map aX k)):∀ai,aA=some ai->¬ai.block=B:=by
 intro _ ak bs;subst ak;obtain⟨_,k,ad⟩:=ad;rcases h.row.2 with ⟨bw,_⟩|⟨g,aR,cur,bw,_,bC,_⟩
 ·cases bw
 ·injection bw with af;injection af with af;subst af;dsimp only at bs;rw[bs,ad]at bC;cases bC
def awA{w:aC}{o:Nat}{v:Value}(h:w.cell? (b,o)=some v)(ad:∃aX k,w.heap[B]?=some (.map aX k)):b≠B:=by
 rintro rfl;obtain⟨_,k,ad⟩:=ad;simp[World.cell?,ad]at h
section
variable {w w':World}{M M' W S F:Nat->Prop}{c:bK}{P bW:Nat}{bN:Nat->oa}{cur:Nat->Nat}{aQ:ba}{v:qL}{g:Nat->Nat->Nat}{p q:Nat->Nat}{D O:Nat->Nat->Prop}
def rX.awB{s:iF}(h:rX w W s N cur)(aj:aI S w w')(bx:∃aX k,w.heap[B]?=some (.map aX k))(aG:∀x,W x->S x->x=B):rX w' W s N cur:=by
 obtain⟨⟨gs,af,an,aO,bt⟩,cC⟩:=h;exact⟨⟨gs,aj.bS af (λai ak k=>af.DX bx ai ak (aG _ (cC ai ak) k)),an,λy hy=>let ⟨ys,bH,b1⟩:=aO y hy;⟨ys,aj.bS bH (λai ak k=>bH.DX bx ai ak (aG _ (b1 ai ak) k)),b1⟩,bt⟩,cC⟩
def lJ.QW{ns':Nat->oa}(h:lJ w M c P bN cur v p q D O W)(aq:n<c.ps.length)(aj:aI (λx=>(D n x\/O n x)\/x=v.dr) w w')(jw:b4 w (D n) bX)(dX:∀x,O' x->O n x\/(w:Nat)<=x)(bk:b4 w M M')(a1:∀x,M' x->x<(w':Nat))(hs:∀x,bX x\/O' x->M' x)(yE:∀x,bX x->¬O' x)(qY:z1 w' M' bX O' c (p' n) (q n) (ns' n))(cy:∀k,k≠n->ns' k=bN k)(aY:∀k,k≠n->p' k=p k)(kF:ua w' v.dr c.ps.length (mq ns' p')):
  lJ w' M' c P ns' cur v p' q (λk=>if k=n then bX else D k) (λk=>if k=n then O' else O k) W:=by
 obtain⟨_,_,_,MO,_⟩:=h.dr;have zN:=MO.j';have bj:∀x,((D n x\/O n x)\/x=v.dr)->M x:=λx X=>X.elim (h.sub n aq x) (λe=>e▸h.qM _ h.bS.2.1);have fq:∀x,W x->((D n x\/O n x)\/x=v.dr)->x=v.dr:=λx X k=>k.elim (λz=>absurd X (h.uO n aq x z)) id;have vw:∀x,bX x\/O' x->(D n x\/O n x)\/(w:Nat)<=x:=λx X=>X.elim (λk=>(jw.new x k).imp .inl id) (λk=>(dX x k).imp .inr id);have H_:∀k,k<c.ps.length->k≠n->∀x,D k x\/O k x->¬((D n x\/O n x)\/x=v.dr):=λk hk pF x X z=>z.elim (λy=>h.gL k n hk aq (λe=>pF e.symm) x X y) (λe=>h.uO k hk x X (e▸h.bS.2.1));refine⟨(aj.block _ (bZ h.box) (λk=>?_)).trans h.box,h.l3.step (aj.sub bj) bk,kF,λk hk=>?_,aj.bS h.fM (λai ak k=>h.fM.DX zN ai ak (fq _ (h.bS.2.2 ai ak) k)),h.go.awB aj zN fq,h.bS,λx X=>bk.up x (h.qM x X),λk hk x X=>?_,λk hk x X hw=>?_,λj k aD hk DT x X hy=>?_,λk hk x X hy=>?_,a1⟩
 ·have e:=fq _ h.bS.1 k;obtain⟨_,_,hm⟩:=zN;rw[<-e,h.box]at hm;cases hm
 ·by_cases e:k=n
  ·subst e;simp only[bc];exact qY
  ·simp only[aV e];rw[cy k e,aY k e];exact(h.ri k hk).step aj bj (H_ k hk e) bk a1
 exact aip;exact aiq;exact air;exact ais
def pV.QW{x:oa}(h:pV w M c P aQ v bW g p q D O W)(hF:∀x,F x↔ub c g D O W x)(aq:n<c.ps.length)(aj:aI (λx=>(D n x\/O n x)\/x=v.dr) w w')(jw:b4 w (D n) bX)(dX:b4 w (O n) O')(bk:b4 w M M')(a1:∀x,M' x->x<(w':Nat))(hs:∀x,bX x\/O' x->M' x)(yE:∀x,bX x->¬O' x)(qY:z1 w' M' bX O' c (p' n) (q n) x)(aY:∀k,k≠n->p' k=p k)(kF:ua w' v.dr c.ps.length (mq (aQ.hz n x).bN p')):
  ∃eF,h0 w' M' eF c P (aQ.hz n x)/\hj w M F w' M' eF:=by
 have vw:∀x,bX x\/O' x->(D n x\/O n x)\/(w:Nat)<=x:=λx X=>X.elim (λk=>(jw.new x k).imp .inl id) (λk=>(dX.new x k).imp .inr id);have Wa:=h.dn.QW (ns':=(aQ.hz n x).bN) (p':=p') aq aj jw dX.new bk a1 hs yE (by rw[uz];exact qY) (λk hk=>zC aQ _ hk) aY kF;have bj:∀x,((D n x\/O n x)\/x=v.dr)->M x:=λx X=>X.elim (h.dn.sub n aq x) (λe=>e▸h.dn.qM _ h.dn.bS.2.1);refine⟨ub c g (λk=>if k=n then bX else D k) (λk=>if k=n then O' else O k) W,⟨v,bW,g,p',q,_,_,W,⟨Wa,h.qZ,?_,h.z6,λk hk y hy bp=>?_,h.bT⟩,λ_=>Iff.rfl⟩,aj.mono (λy _ hy=>(hF y).2 (hy.elim (λz=>.inr (.inr ⟨n,aq,z⟩)) (λe=>.inl (e▸h.dn.bS.2.1)))),⟨λy hy=>?_,λy hy=>?_⟩,bk⟩
 ·exact h.kp.HD aj bj (λy hy k=>k.elim (λz=>h.A9 n aq y hy z) (λe=>h.z6 y hy (e▸h.dn.bS.2.1))) bk
 ·by_cases e:k=n
  ·subst e;simp only[bc]at bp;rcases vw y bp with z|z
   ·exact h.A9 k hk y hy z
   ·have:=h.kp.lt y hy;omega
  ·simp only[aV e]at bp;exact h.A9 k hk y hy bp
 ·rcases (hF y).1 hy with hy|hy|⟨k,hk,hy⟩
  ·exact .inl hy
  ·exact .inr (.inl hy)
  ·by_cases e:k=n
   ·subst e;exact .inr (.inr ⟨k,hk,by simp only[bc];exact hy.imp (jw.up y) (dX.up y)⟩)
   ·exact .inr (.inr ⟨k,hk,by simp only[aV e];exact hy⟩)
 ·rcases hy with hy|hy|⟨k,hk,hy⟩
  ·exact .inl ((hF y).2 (.inl hy))
  ·exact .inl ((hF y).2 (.inr (.inl hy)))
  ·by_cases e:k=n
   ·subst e;simp only[bc]at hy;exact(vw y hy).imp (λz=>(hF y).2 (.inr (.inr ⟨k,hk,z⟩))) id
   ·simp only[aV e]at hy;exact .inl ((hF y).2 (.inr (.inr ⟨k,hk,hy⟩)))
end
def yH(c:bK)(w:ba)(n:Int):ba:=if 0<=n/\n<(c.ps.length:Int) then w.pe n.toNat else w
def i5{w:aC}{M F:eZ}{c:bK}{P:Nat}{aQ:ba}(h:h0 w M F c P aQ)(al:im c)(n ag:Int):
  aS 12 #[P,n,ag] w λe w'=>∃z:Int,(z=0↔mH c aQ.bN n=true)/\uP c P w M F z (yH c aQ n) e w':=by
 obtain⟨v,bW,g,p,q,D,O,W,h,hF⟩:=h;have n1:=DW al.tolZ;have H:=I h;have jZ:=I hF;obtain⟨u,aj⟩:∃u,mH c aQ.bN n=u:=⟨_,rfl⟩;rw[aj];by_cases aZ:0<=n/\n<(c.ps.length:Int)
 ·obtain⟨k,rfl⟩:∃k:Nat,n=(k:Int):=⟨n.toNat,J⟩;have hk:k<c.ps.length:=J;refine f9 ?_;intro cJ;have kd:=I (show yH c aQ (k:Int)=aQ.pe k from by unfold yH;rw[bc aZ];rfl);have iH:=I aj;cases cy:aQ.bN k with
  |down cp=>
   have Cs:u=false:=by rw[<-aj];unfold mH;rw[kN,cy,wV]
   have jK:=I (kd.trans (show aQ.pe k=aQ from by unfold ba.pe;rw[cy]));subst Cs;go_enter func12,ntmps12;refine Wb ?_;intro _ w1 bG _ _ _ _ _ _;rintro e aN⟨rfl,bq⟩;rw[iH.out];replace bq:=I bq;go_wp2;go_ret;refine⟨210,⟨λe=>absurd e ah,λe=>(by cases e)⟩,M,F,rfl,?_,.of U⟩;exact ge
  |up b=>
   have ur:u=true:=by rw[<-aj];unfold mH;rw[kN,cy,jf aZ];rfl
   have jK:=I (kd.trans (show aQ.pe k=aQ.hz k (.down b.fz)from by unfold ba.pe;rw[cy]));subst ur;change aa _ at cy;obtain⟨_,_,_,sh,MK,J5,yS⟩:=h.dn.dr;have oh:=I (DP (k:=(k:Int)) (uG J J));have fH:k<v.aU.n:=by rw[h.dn.l3.c8.2.2.neq];simp;omega
   obtain⟨fb,o,rW,fR⟩:=h.dn.l3.c8.2.2.get k (by simpa using hk);have k4:=fR 0 _ rfl;rw[jd,E6,QX]at k4;simp only[uo]at k4;replace sh:=I sh;replace MK:=I MK;replace J5:=I J5;replace yS:=I yS;go_enter func12,ntmps12;refine Wb ?_;intro _ w1 bG _ _ _ _ _ _;rintro e aN⟨rfl,X⟩;rw[iH.out];have bq:aa (Z w aN):=bG.trans X;have eG:=aL (o:=4) (X.ay (bG.ay H.dn.box)) rfl;have zN:=sh.j';have MP:W v.dr:=H.dn.bS.2.1
   have awC:=I (show ∀a6,aN.mapTurned a6 v.dr->a6.cell? (P,3)=some (.slice (some (fb,o)) v.aU.n v.aU.c)/\a6.cell? (fb,o+k)=some (.pointer (some (q k,0)))/\aI (·=v.dr) w a6 from λa6 A6=>by
    have h8:aI (·=v.dr) w a6:=(aI.of bq).trans (Vr A6)
    have gh:=(h8.block P (bZ H.dn.box) (λe=>by
     have e:P=v.dr:=e;obtain⟨_,_,hm⟩:=zN
     rw[<-e,H.dn.box]at hm;cases hm)).trans H.dn.box
    have dJ:=aL (o:=3) gh rfl;rw[show(#[v.cL,v.ak,v.kp,v.aU,.map (some v.dr),v.fM,v.go]:Array Value)[3]=Value.slice v.aU.a v.aU.n v.aU.c from rfl,rW]at dJ
    exact⟨dJ,h8.cell k4 (show ¬fb=v.dr from awA k4 zN),h8⟩)
   have b0:(0:Int)<=(k:Int):=J;have bf:(k:Int)<(v.aU.n:Int):=J;obtain⟨_,j7⟩:sn w M (D k) (O k) c (p k) (q k) b:=by have:=H.dn.ri k hk;rw[cy.out]at this;exact this
   obtain⟨L,eV,_⟩:=j7.cp;have awD:=I eV.AE;have fK:=I eV.ok;go_wp2_with (at_delete;(refine Fj rfl (λK aE=>asm _ _ rfl DO QM rfl (sh.ext bq) rfl oh ?_);intro a6 UT A6;obtain⟨_,_,iY⟩:=awC a6 A6;have fc:=I (ua.del MK J5 yS hk J UT rfl);have xO:=I (awD.ee iY (λx X e=>H.dn.uO k hk x (.inl X) (by have e:x=v.dr:=e;rw[e];exact MP)));replace iY:=I iY;refine aE _ _ ?_));refine(ao6 (D k) (q k) _ _ c.room ag _ xO rfl).mono ?_;rintro e cB⟨rfl,awE,n3⟩;have aiQ:aI (λx=>(D k x\/O k x)\/x=v.dr) w cB:=(iY.mono (λx _ e=>.inr e)).trans (n3.mono (λx _ e=>.inl (.inl e)));have awF:ua cB v.dr c.ps.length (mq (aQ.hz k (.down b.fz)).bN p):=by
    have af:=fc.ay (n3.block _ fc.lt (λe=>H.dn.uO k hk _ (.inl e) MP));have e:(λj=>if j=k then none else mq aQ.bN p j)=mq (aQ.hz k (.down b.fz)).bN p:=by
     funext j;by_cases aD:j=k
     ·subst aD;unfold mq;rw[bc rfl,uz]
     ·rw[aV aD];unfold mq;rw[zC aQ _ aD]
    rw[<-e];exact af
   obtain⟨eF,J6,DY⟩:=H.QW jZ hk aiQ (b4.ep _ _) (b4.ep _ _) (b4.ep _ _) (λx X=>fQ (H.dn.b5 x X) aiQ.size) (λx X=>H.dn.sub k hk x X) (H.dn.HC k hk) (x:=.down b.fz) ⟨awE,fK⟩ (λ_ _=>rfl) awF;replace J6:=I J6;replace DY:=I DY;go_wp2;go_ret;refine⟨0,⟨λ_=>(by first|trivial|rfl),λ_=>(by first|trivial|rfl)⟩,M,eF,rfl,?_,DY⟩;rw[jK.out];exact J6
 ·have Cs:u=false:=by rw[<-aj];unfold mH;rw[je aZ,CP]
  refine V0 ?_;intro cJ;have kd:=I (show yH c aQ n=aQ from by unfold yH;rw[aV aZ]);subst Cs;go_enter func12,ntmps12;go_wp2_with fail;refine(DV (H.dn.ext U) n).mono ?_;rintro e w1⟨rfl,bG⟩;rw[cJ.out];replace bG:=I bG;go_wp2;go_ret;refine⟨1,⟨λe=>absurd e ah,λe=>(by cases e)⟩,M,F,rfl,?_,.of U⟩;exact ii
end
def awG{v:Value}{t:TypeId}(h:w.heap[b]?=some (.cells #[v] t (0,0))):w.cell? (b,0)=some v:=aL h rfl
def Wc{fv:Nat}{cL:bl}(i:Int)(h:w.heap[B]?=some (.cells #[ao cL n fv] 22 (0,0)))(aq:n<=1000):
  aS 114 #[i,B] w λe w'=>e=.returned (.bool (decide (0<=i/\i<n)))/\Z w w':=by
 have cO:=awG h;go_enter func114,ntmps114;go_wp2_with fail;all_goals (try go_region)
 all_goals (try go_wp2)
 all_goals (try go_ret)
 all_goals (refine⟨?_,Z.refl _⟩;simp;try omega)
def fp.HF{P:Program}{k:TypeId}{s:Nat}(h:fp w P k b n s f):∃aX k,w.heap[b]?=some (.map aX k):=by
 obtain⟨D,⟨aX,clock,af,_⟩,_⟩:=h;exact⟨aX,clock,af⟩
structure wI (bA yI:World) (c:bK) (ef eR eb gG gH gI m7 m8:Nat):Prop where
 ext:Z bA yI
 cL:aH yI bA.heap.size 3 1 dP (some ⟨ef,0,none⟩) eR eb c.ps
 ak:aH yI bA.heap.size 3 1 dP (some ⟨gG,0,none⟩) gH gI c.hs
 f7:fp yI prog 3 m7 0 0 (λ_=>none)
 f8:fp yI prog 54 m8 0 0 (λ_=>none)
 Wd:bA.heap.size<=m7
 MQ:bA.heap.size<=m8
 gT:m7≠m8
def hJ(ef eR eb gG gH gI m7 m8 eE:Nat)(cf:iJ):gB:=⟨⟨some ⟨ef,0,none⟩,eR,eb⟩,⟨some ⟨gG,0,none⟩,gH,gI⟩,eE,cf,⟨none,0,0⟩,m7,⟨none,0,0⟩,m8,⟨none,0,0⟩⟩
def MR(M:Nat->Prop)(p m7 m8:Nat):Nat->Prop:=λx=>M x\/x=p\/x=m7\/x=m8
def wI.QY{bA yI:aC}{ef eR eb gG gH gI m7 m8 eE:Nat}{cf:iJ}{L:eZ}(h:wI bA yI c ef eR eb gG gH gI m7 m8)(hs:s'={s with l:=s.l+1})(eV:qy bA M D L eE q ((q5 s').map gi) (gj ((q5 s').map gi)).length c.room)(bj:cv M bA (λw=>∃au ps,q6 w cf s' au ps))(oM:∀x,L x->O x)(aM:∀x,O x->M x)(yE:∀x,D x->¬O x)(X:Z yI w')(aY:(yI:Nat)<=p)(ad:w'.heap[p]?=some (.cells #[bo ((p8 dd s).dd:Int),.slice (hJ ef eR eb gG gH gI m7 m8 eE cf).cL.a (hJ ef eR eb gG gH gI m7 m8 eE cf).cL.n (hJ ef eR eb gG gH gI m7 m8 eE cf).cL.c,.slice (hJ ef eR eb gG gH gI m7 m8 eE cf).ak.a (hJ ef eR eb gG gH gI m7 m8 eE cf).ak.n (hJ ef eR eb gG gH gI m7 m8 eE cf).ak.c,.pointer (some ((hJ ef eR eb gG gH gI m7 m8 eE cf).eE,0)),ae (hJ ef eR eb gG gH gI m7 m8 eE cf).s.cX,.slice (hJ ef eR eb gG gH gI m7 m8 eE cf).s.l.a (hJ ef eR eb gG gH gI m7 m8 eE cf).s.l.n (hJ ef eR eb gG gH gI m7 m8 eE cf).s.l.c,.slice (hJ ef eR eb gG gH gI m7 m8 eE cf).s.p.a (hJ ef eR eb gG gH gI m7 m8 eE cf).s.p.n (hJ ef eR eb gG gH gI m7 m8 eE cf).s.p.c,.slice (hJ ef eR eb gG gH gI m7 m8 eE cf).s.b.a (hJ ef eR eb gG gH gI m7 m8 eE cf).s.b.n (hJ ef eR eb gG gH gI m7 m8 eE cf).s.b.c,.slice (hJ ef eR eb gG gH gI m7 m8 eE cf).tx.a (hJ ef eR eb gG gH gI m7 m8 eE cf).tx.n (hJ ef eR eb gG gH gI m7 m8 eE cf).tx.c,ae ((p8 dd s).fX:Int),.map (some (hJ ef eR eb gG gH gI m7 m8 eE cf).kY),.slice (hJ ef eR eb gG gH gI m7 m8 eE cf).gP.a (hJ ef eR eb gG gH gI m7 m8 eE cf).gP.n (hJ ef eR eb gG gH gI m7 m8 eE cf).gP.c,.map (some (hJ ef eR eb gG gH gI m7 m8 eE cf).tm),.slice (hJ ef eR eb gG gH gI m7 m8 eE cf).dT.a (hJ ef eR eb gG gH gI m7 m8 eE cf).dT.n (hJ ef eR eb gG gH gI m7 m8 eE cf).dT.c] 160 (0,0))):
  sn w' (MR M p m7 m8) D (MR O p m7 m8) c p q (p8 dd s):=by
 have ez:=h.ext.trans X;have bp:=h.ext.size;have kv:=h.f7.lt;have fG:=h.f8.lt;have xp:=bZ ad;have gW:∀x,M x->x<(bA:Nat):=eV.b5;have awH:∀x,MR M p m7 m8 x->x<(w':Nat):=λx X=>by
  rcases X with k|k|k|k
  ·have:=gW x k;omega
  ·omega
  ·omega
  ·omega
 have bk:b4 bA M (MR M p m7 m8):=⟨λx k=>.inl k,λx k=>k.imp id (λk=>by have:=h.Wd;have:=h.MQ;omega)⟩;have eO:∀{g n k:Nat}{xs:List Int},aH yI bA 3 1 dP (some (g,0)) n k xs->cv (MR M p m7 m8) w' (λw=>a7 w 1 dP (some (g,0)) n k xs):=λ{g n k xs} dX=>by
  refine((dX.ext X).kS (λai ak hm=>?_)).mono (λw k=>k.aF);cases ak;have af:=dX.lt _ rfl;rcases hm with z|z|z|z
  ·have:=gW _ z;omega
  ·omega
  ·exact(dX.DX h.f7.HF) _ rfl z
  ·exact(dX.DX h.f8.HF) _ rfl z
 subst hs;refine⟨hJ ef eR eb gG gH gI m7 m8 eE cf,ad,?_,⟨L,eV.step (S:=λ_=>False) (aI.of ez) (λ_ k=>k.elim) (λ_ _ k=>k) bk awH,λx k=>.inl (oM x k),?_,?_,?_⟩,?_,?_,⟨.inr (.inl rfl),.inr (.inr (.inl rfl)),.inr (.inr (.inr rfl))⟩,?_,?_,⟨?_,?_,h.gT⟩⟩
 ·have dh:cv (MR M p m7 m8) w' (λw=>∃au ps,q6 w cf {s with l:=s.l+1} au ps):=bj.step (aI.of ez) bk;exact(((eO h.cL).and (eO h.ak)).and dh).mono (λw k=>⟨k.1.1,k.1.2,k.2,⟨[],(qI.nil w 0).cj.aF|>λz=>⟨z,λp aY=>by cases aY⟩,rfl⟩,(aH.nil w 0 54 ax.bI).aF,⟨[],(aH.nil w 0 66 bU.bI).aF,(λp aY=>by cases aY),rfl⟩⟩)
 ·intro k;have:=gW _ (aM _ (oM _ k));omega
 ·intro k;have:=gW m7 (aM m7 (oM m7 k));have:=h.Wd;omega
 ·intro k;have:=gW m8 (aM m8 (oM m8 k));have:=h.MQ;omega
 ·exact⟨0,0,λ_=>none,[],h.f7.ext X,⟨tG,λk hk=>by cases hk⟩,rfl,rfl,λk _=>⟨by simp,rfl⟩⟩
 ·exact⟨0,0,λ_=>none,h.f8.ext X,rfl,rfl,λk hk=>absurd hk (Nat.not_lt_zero _),λ_ _ z=>by cases z⟩
 ·exact λx k=>k.imp (aM x) id
 ·intro x aG k;have cC:=gW x (eV.sub x (.inl aG));have fV:=h.Wd;have o5:=h.MQ;rcases k with k|k|k|k
  ·exact yE x aG k
  ·omega
  ·omega
  ·omega
 ·show p≠m7;omega
 ·show p≠m8;omega
def wI.wE{wr bA yI:aC}{ef eR eb gG gH gI m7 m8 eE:Nat}{cf:iJ}{jP mS L:eZ}(h:wI bA yI c ef eR eb gG gH gI m7 m8)(hs:s'={s with l:=s.l+1})(eV:qy bA jP mS L eE q ((q5 s').map gi) (gj ((q5 s').map gi)).length c.room)(bj:cv jP bA (λw=>∃au ps,q6 w cf s' au ps))(oM:∀x,L x->O x)(aM:∀x,O x->(wr:Nat)<=x/\jP x)(yE:∀x,mS x->¬O x)(mB:Z w wr)(aj:aI D wr bA)(aG:b4 wr D mS)(hm:b4 wr M jP)(aD:∀x,jP x->M x\/mS x\/O x)(X:Z yI w')(aY:(yI:Nat)<=p)(ad:w'.heap[p]?=some (.cells #[bo ((p8 dd s).dd:Int),.slice (hJ ef eR eb gG gH gI m7 m8 eE cf).cL.a (hJ ef eR eb gG gH gI m7 m8 eE cf).cL.n (hJ ef eR eb gG gH gI m7 m8 eE cf).cL.c,.slice (hJ ef eR eb gG gH gI m7 m8 eE cf).ak.a (hJ ef eR eb gG gH gI m7 m8 eE cf).ak.n (hJ ef eR eb gG gH gI m7 m8 eE cf).ak.c,.pointer (some ((hJ ef eR eb gG gH gI m7 m8 eE cf).eE,0)),ae (hJ ef eR eb gG gH gI m7 m8 eE cf).s.cX,.slice (hJ ef eR eb gG gH gI m7 m8 eE cf).s.l.a (hJ ef eR eb gG gH gI m7 m8 eE cf).s.l.n (hJ ef eR eb gG gH gI m7 m8 eE cf).s.l.c,.slice (hJ ef eR eb gG gH gI m7 m8 eE cf).s.p.a (hJ ef eR eb gG gH gI m7 m8 eE cf).s.p.n (hJ ef eR eb gG gH gI m7 m8 eE cf).s.p.c,.slice (hJ ef eR eb gG gH gI m7 m8 eE cf).s.b.a (hJ ef eR eb gG gH gI m7 m8 eE cf).s.b.n (hJ ef eR eb gG gH gI m7 m8 eE cf).s.b.c,.slice (hJ ef eR eb gG gH gI m7 m8 eE cf).tx.a (hJ ef eR eb gG gH gI m7 m8 eE cf).tx.n (hJ ef eR eb gG gH gI m7 m8 eE cf).tx.c,ae ((p8 dd s).fX:Int),.map (some (hJ ef eR eb gG gH gI m7 m8 eE cf).kY),.slice (hJ ef eR eb gG gH gI m7 m8 eE cf).gP.a (hJ ef eR eb gG gH gI m7 m8 eE cf).gP.n (hJ ef eR eb gG gH gI m7 m8 eE cf).gP.c,.map (some (hJ ef eR eb gG gH gI m7 m8 eE cf).tm),.slice (hJ ef eR eb gG gH gI m7 m8 eE cf).dT.a (hJ ef eR eb gG gH gI m7 m8 eE cf).dT.n (hJ ef eR eb gG gH gI m7 m8 eE cf).dT.c] 160 (0,0))):
  ∃M' bX O',sn w' M' bX O' c p q (p8 dd s)/\aI D w w'/\b4 w D bX/\b4 w M M'/\(∀x,M' x->M x\/bX x\/O' x)/\(∀x,O' x->(w:Nat)<=x):=by
 have cZ:=mB.size;have z2:=aj.size;have z3:=h.ext.size;have z4:=h.Wd;have z5:=h.MQ;refine⟨_,_,_,h.QY hs eV bj oM (λx k=>(aM x k).2) yE X aY ad,((aI.of mB).trans aj).trans (aI.of (h.ext.trans X)),⟨aG.up,λx k=>(aG.new x k).imp id (λz=>by omega)⟩,⟨λx k=>.inl (hm.up x k),λx k=>?_⟩,λx k=>?_,λx k=>?_⟩
 ·rcases k with k|k
  ·exact(hm.new x k).imp id (λz=>by omega)
  ·exact .inr J
 ·rcases k with k|k
  ·exact(aD x k).imp id (λz=>z.imp id .inl)
  ·exact .inr (.inr (.inr k))
 ·rcases k with k|k
  ·have:=(aM x k).1;omega
  ·omega
structure aiR (c:bK) (dd:Nat):Prop where
 EK:j8 c.ps=true
 dd:dd<c.ps.length
 ps:c.ps.length<=16
 af:1<=c.hs.length
 Hg:c.hs.length<=32
 hs:∀h,h∈c.hs->0<=h/\h<c.ps.length
def awI{gJ fv aq al:Nat}{cL ak:bl}(J7:cv M w (λw=>a7 w 1 dP cL gJ fv c.ps))(J8:cv M w (λw=>a7 w 1 dP ak aq al c.hs))(yG:aiR c dd)(H:lB w D q (gj (cp.map gi)) (gj (cp.map gi)).length c.room)(bg:ML c cp s s')(ar:∀x,D x->M x)(tW:∀x,M x->x<(w:Nat)):
  aS 66 #[(dd:Int),ao cL gJ fv,ao ak aq al,q] w λe w'=>∃(p:Nat) (M' bX O':eZ),e=.returned (.tuple #[p,av])/\sn w' M' bX O' c p q (p8 dd s)/\
   aI D w w'/\b4 w D bX/\b4 w M M'/\(∀x,M' x->M x\/bX x\/O' x)/\(∀x,O' x->(w:Nat)<=x):=by
 obtain rfl:=J7.c8.neq;obtain rfl:=J8.c8.neq;have xA:=I J7.c8;have MS:=I J8.c8;have Cd:=yG.dd;have zM:=yG.ps;have MT:=yG.af;have We:=yG.Hg;replace yG:=I yG;replace H:=I H;replace bg:=I bg;replace ar:=I ar;replace tW:=I tW;replace J7:=I J7;replace J8:=I J8;go_enter func66,ntmps66;go_wp2_with fail;have b3:Z w (w.alloc (.cells #[ao cL c.ps.length fv] 22)):=U;have fZ:(w.alloc (.cells #[ao cL c.ps.length fv] 22)).heap[(w:Nat)]?=some (.cells #[ao cL c.ps.length fv] 22):=e2 rfl;obtain⟨bh,eX⟩:∃bh,w.alloc (.cells #[ao cL c.ps.length fv] 22)=bh:=⟨_,rfl⟩;have iC:(bh:Nat)=(w:Nat)+1:=by subst eX;simp
 rw[eX]at b3 fZ ⊢;replace b3:=I b3;replace fZ:=I fZ;replace iC:=I iC;clear eX;refine(Li cL c.ps.length fv c.ps _ (xA.ext b3)).mono ?_;rintro e _⟨rfl,bz⟩;rw[yG.EK];have DI:Dj true=0:=rfl;rw[DI];replace bz:=I bz;clear DI;go_wp2_with fail;refine(Wc (dd:Int) ((bz.ay fZ)) J).mono ?_;rintro e _⟨rfl,cn⟩;rw[show decide ((0:Int)<=dd/\(dd:Int)<c.ps.length)=true from jf ⟨J,J⟩];have bq:=I (bz.trans cn);clear cn;go_wp2_with fail;go_loopg [13,43] (c.hs.length) (λg bw dS wr=>∃k:Nat,g+k=c.hs.length/\dS=.int .i64 (k:Int)/\aa (Z bh wr));case atStart=>exact⟨0,J,rfl,bq⟩
 case round=>
  obtain⟨k,_,rfl,X⟩:=hrel;by_cases hk:k<c.hs.length
  ·obtain⟨_,o,rfl,fR⟩:=MS.get k hk;have d0:=Bo (x:=c.hs[k]) fR;rw[jd]at d0;replace d0:=(b3.trans X).ag d0;have b0:(0:Int)<=(k:Int):=J;have bf:(k:Int)<(c.hs.length:Int):=J;obtain⟨g0,g1⟩:=yG.hs _ (cT hk);clear fR;go_wp2_with fail;refine(Wc c.hs[k] (X.ay fZ) J).mono ?_;rintro e _⟨rfl,eA⟩;rw[jf ⟨g0,g1⟩];replace eA:=I eA;go_wp2;go_roundg (gk - 1);case measure=>omega
   case rel=>exact⟨k+1,J,by go_num,X.trans eA⟩
  ·have hi:=I X;clear X;have pZ:¬((k:Int)<(c.hs.length:Int)):=J;go_wp2_with fail;have yv:=I (b3.trans hi);refine(avM (M:=M) (D:=D) (c:=c) (q:=q) (cp:=cp) (s:=s) (s':=s') (w:=wr) (H.ext yv) bg ar (λx X=>fQ (tW x X) yv.size)).mono ?_;rintro e bA⟨_,cf,_,_,_,_,rfl,vB,QZ,pG,rF,zV,Q0,Q1,hq,Q2⟩;replace vB:=I vB;replace QZ:=I QZ;replace pG:=I pG;replace rF:=I rF;replace zV:=I zV;replace Q0:=I Q0;replace Q1:=I Q1;replace hq:=I hq;replace Q2:=I Q2;go_wp2_with fail;obtain⟨dT,wy⟩:∃dT,bA.alloc cf=dT:=⟨_,rfl⟩;have s6:=I (show Z bA dT from by subst wy;exact U);have iy:Z bA dT:=s6.out;have wA:=I (show dT.heap[(bA:Nat)]?=some (cf:Obj)from by subst wy;exact e2 rfl);rw[wy];clear wy;have A1:bA.heap[(w:Nat)]?=some (.cells #[ao cL c.ps.length fv] 22):=(pG.block _ (bZ (hi.ay fZ)) (λk=>by have:=tW.out _ (ar _ k);omega)).trans (hi.ay fZ);have PX:aa (dT.cell? (w,0)=some ↑(ao cL c.ps.length fv)):=aL (o:=0) (iy.ay A1) rfl;have i6:aI M w bA:=(aI.of yv).trans (pG.mono (λx _ k=>ar x k));have rU:=I ((J7 bA i6).ext iy);have i7:=I ((J8 bA i6).ext iy);clear i6;clear A1 iy;obtain⟨ct,bO,bL,bM,bP⟩:=fB TF;replace bO:=I bO;replace bL:=I bL;replace bM:=I bM;replace bP:=I bP;refine sX (λw'=>w'.cell? (w,0)=some ↑(ao cL c.ps.length fv)/\w'.heap[(bA:Nat)]?=some (cf:Obj)) (λbd=>?_) (by(try dsimp only);exact⟨Z.ag (W:=dT) U PX,Z.ay (W:=dT) U wA⟩);refine de 0 ?_;refine zD 1 (·.1) ?_;refine de 3 ?_;refine de 5 ?_;refine l0 6 (·.2) ?_;obtain⟨aQ,J9⟩:∃aQ,dT.drew=aQ:=⟨_,rfl⟩;have aAQ:=I (show Z dT aQ from by subst J9;exact U);rw[J9]at bd ⊢;clear J9;refine zE (rs:= [2,7,8]) bQ (by simp) ?_;refine AllReadyH.cons rfl (λK aE=>?_) (AllReadyH.cons rfl (λK aE=>?_) (AllReadyH.cons rfl (λK aE=>?_) AllReadyH.nil))
   ·
    refine IP (ys0:= []) (ys:=c.ps) (c:=dP) rfl (.const aP) (.tmp 62) 22 3 rfl ct _ 8 yW bO bL bM bP rfl ah rfl (aH.nil (aQ) bA 3 dP.tD) (show Z bA _ from U).size rfl (rU.ext U) dP.nD J ah J ?_;intro ef eb dD mI b2;simp only[ow]at mI ⊢;have HG:=I (b2.ext (aH.nil (aQ) (aQ).heap.size 3 dP.tD) (bJ _) (Z.refl (aQ)));replace mI:=I mI;clear b2;refine jC ?_;intro bd;refine zE (rs:= [4,7,8]) bQ (by simp) ?_;refine AllReadyH.cons rfl (λK aE=>?_) (AllReadyH.cons rfl (λK aE=>?_) (AllReadyH.cons rfl (λK aE=>?_) AllReadyH.nil))
    ·
     refine Q3 ?_;intro hb kT dZ tV ir;refine jC ?_;intro bd;refine zE (rs:= [7,8]) bQ (by simp) ?_;refine AllReadyH.cons rfl (λK aE=>?_) (AllReadyH.cons rfl (λK aE=>?_) AllReadyH.nil)
     ·
      refine uQ ?_;refine i8 ?_;intro dR iu yJ;refine jC ?_;intro bd;refine h9 8 λK aE=>?_;refine uQ ?_;refine i9 ?_;intro e1 jL vo;refine jC ?_;intro bd;have k1:wI bA (e1) c ef c.ps.length eb hb c.hs.length kT (dZ).heap.size (dR).heap.size:=⟨U,mI.ext U,ir.ext U,iu.ext U,jL.ext U,(show Z bA (dZ)from U).size,(show Z bA (dR)from U).size,vc (fQ iu.lt (show Z dR (dR)from U).size)⟩;replace k1:=I k1;refine yr ?_;intro K aE;refine jC ?_;intro bd;exact jp
     ·
      refine uQ ?_;refine kw ?_;intro e1 jL vo;refine jC ?_;intro bd;refine h9 7 λK aE=>?_;refine uQ ?_;refine ld ?_;intro dR iu yJ;refine jC ?_;intro bd;have k1:wI bA (dR) c ef c.ps.length eb hb c.hs.length kT (e1).heap.size (dZ).heap.size:=⟨U,mI.ext U,ir.ext U,iu.ext U,jL.ext U,(show Z bA (e1)from U).size,(show Z bA (dZ)from U).size,MU (fQ jL.lt (show Z e1 (e1)from U).size)⟩;replace k1:=I k1;refine yr ?_;intro K aE;refine jC ?_;intro bd;exact li
    ·
     refine uQ ?_;refine aiS ?_;intro dR iu yJ;refine jC ?_;intro bd;refine zE (rs:= [4,8]) bQ (by simp) ?_;refine AllReadyH.cons rfl (λK aE=>?_) (AllReadyH.cons rfl (λK aE=>?_) AllReadyH.nil)
     ·
      refine lm ?_;intro hb kT dZ tV ir;refine jC ?_;intro bd;refine h9 8 λK aE=>?_;refine uQ ?_;refine kw ?_;intro e1 jL vo;refine jC ?_;intro bd;have k1:wI bA (e1) c ef c.ps.length eb hb c.hs.length kT (dD).heap.size (dZ).heap.size:=⟨U,mI.ext U,ir.ext U,iu.ext U,jL.ext U,(show Z bA (dD)from U).size,(show Z bA (dZ)from U).size,vc (fQ iu.lt (show Z dR (dZ)from U).size)⟩;replace k1:=I k1;refine yr ?_;intro K aE;refine jC ?_;intro bd;exact jp
     ·
      refine uQ ?_;refine i9 ?_;intro e1 jL vo;refine jC ?_;intro bd;refine h9 4 λK aE=>?_;refine ls ?_;intro hb kT dZ tV ir;refine jC ?_;intro bd;have k1:wI bA (dZ) c ef c.ps.length eb hb c.hs.length kT (dD).heap.size (dR).heap.size:=⟨U,mI.ext U,ir.ext U,iu.ext U,jL.ext U,(show Z bA (dD)from U).size,(show Z bA (dR)from U).size,vc (fQ iu.lt (show Z dR (dR)from U).size)⟩;replace k1:=I k1;refine yr ?_;intro K aE;refine jC ?_;intro bd;exact MV
    ·
     refine uQ ?_;refine aiT ?_;intro e1 jL vo;refine jC ?_;intro bd;refine zE (rs:= [4,7]) bQ (by simp) ?_;refine AllReadyH.cons rfl (λK aE=>?_) (AllReadyH.cons rfl (λK aE=>?_) AllReadyH.nil)
     ·
      refine ls ?_;intro hb kT dZ tV ir;refine jC ?_;intro bd;refine h9 7 λK aE=>?_;refine uQ ?_;refine i8 ?_;intro dR iu yJ;refine jC ?_;intro bd;have k1:wI bA (dR) c ef c.ps.length eb hb c.hs.length kT (dZ).heap.size (dD).heap.size:=⟨U,mI.ext U,ir.ext U,iu.ext U,jL.ext U,(show Z bA (dZ)from U).size,(show Z bA (dD)from U).size,MU (fQ jL.lt (show Z e1 (dZ)from U).size)⟩;replace k1:=I k1;refine yr ?_;intro K aE;refine jC ?_;intro bd;exact li
     ·
      refine uQ ?_;refine ld ?_;intro dR iu yJ;refine jC ?_;intro bd;refine h9 4 λK aE=>?_;refine lm ?_;intro hb kT dZ tV ir;refine jC ?_;intro bd;have k1:wI bA (dZ) c ef c.ps.length eb hb c.hs.length kT (e1).heap.size (dD).heap.size:=⟨U,mI.ext U,ir.ext U,iu.ext U,jL.ext U,(show Z bA (e1)from U).size,(show Z bA (dD)from U).size,MU (fQ jL.lt (show Z e1 (e1)from U).size)⟩;replace k1:=I k1;refine yr ?_;intro K aE;refine jC ?_;intro bd;exact MV
   ·
    refine uQ ?_;obtain⟨dR,kI⟩:∃qT,(aQ).alloc (.map #[] 0)=qT:=⟨_,rfl⟩;have iu:=I (show fp dR prog 3 (aQ).heap.size 0 0 (λ_=>none)from by subst kI;exact fp.DG _ _ _);have yJ:=I (show Z (aQ) dR from by subst kI;exact U);rw[kI];clear kI;refine jC ?_;intro bd;refine zE (rs:= [2,8]) bQ (by simp) ?_;refine AllReadyH.cons rfl (λK aE=>?_) (AllReadyH.cons rfl (λK aE=>?_) AllReadyH.nil)
    ·
     refine aiU ?_;intro ef eb dD HG mI;refine jC ?_;intro bd;refine zE (rs:= [4,8]) bQ (by simp) ?_;refine AllReadyH.cons rfl (λK aE=>?_) (AllReadyH.cons rfl (λK aE=>?_) AllReadyH.nil)
     ·
      refine Q3 ?_;intro hb kT dZ tV ir;refine jC ?_;intro bd;refine h9 8 λK aE=>?_;refine uQ ?_;refine kw ?_;intro e1 jL vo;refine jC ?_;intro bd;have k1:wI bA (e1) c ef c.ps.length eb hb c.hs.length kT (aQ).heap.size (dZ).heap.size:=⟨U,mI.ext U,ir.ext U,iu.ext U,jL.ext U,(show Z bA (aQ)from U).size,(show Z bA (dZ)from U).size,vc (fQ iu.lt (show Z dR (dZ)from U).size)⟩;replace k1:=I k1;refine yr ?_;intro K aE;refine jC ?_;intro bd;exact jp
     ·
      refine uQ ?_;refine aiT ?_;intro e1 jL vo;refine jC ?_;intro bd;refine h9 4 λK aE=>?_;refine ls ?_;intro hb kT dZ tV ir;refine jC ?_;intro bd;have k1:wI bA (dZ) c ef c.ps.length eb hb c.hs.length kT (aQ).heap.size (dD).heap.size:=⟨U,mI.ext U,ir.ext U,iu.ext U,jL.ext U,(show Z bA (aQ)from U).size,(show Z bA (dD)from U).size,vc (fQ iu.lt (show Z dR (dD)from U).size)⟩;replace k1:=I k1;refine yr ?_;intro K aE;refine jC ?_;intro bd;exact MV
    ·
     refine uQ ?_;refine i9 ?_;intro e1 jL vo;refine jC ?_;intro bd;refine h9 2 λK aE=>?_;refine aiV ?_;intro ef eb dD HG mI;refine jC ?_;intro bd;refine h9 4 λK aE=>?_;refine Q3 ?_;intro hb kT dZ tV ir;refine jC ?_;intro bd;have k1:wI bA (dZ) c ef c.ps.length eb hb c.hs.length kT (aQ).heap.size (dR).heap.size:=⟨U,mI.ext U,ir.ext U,iu.ext U,jL.ext U,(show Z bA (aQ)from U).size,(show Z bA (dR)from U).size,vc (fQ iu.lt (show Z dR (dR)from U).size)⟩;replace k1:=I k1;refine yr ?_;intro K aE;refine jC ?_;intro bd;exact MV
   ·
    refine uQ ?_;obtain⟨e1,kI⟩:∃qT,(aQ).alloc (.map #[] 0)=qT:=⟨_,rfl⟩;have jL:=I (show fp e1 prog 54 (aQ).heap.size 0 0 (λ_=>none)from by subst kI;exact fp.DG _ _ _);have vo:=I (show Z (aQ) e1 from by subst kI;exact U);rw[kI];clear kI;refine jC ?_;intro bd;refine zE (rs:= [2,7]) bQ (by simp) ?_;refine AllReadyH.cons rfl (λK aE=>?_) (AllReadyH.cons rfl (λK aE=>?_) AllReadyH.nil)
    ·
     refine aiV ?_;intro ef eb dD HG mI;refine jC ?_;intro bd;refine zE (rs:= [4,7]) bQ (by simp) ?_;refine AllReadyH.cons rfl (λK aE=>?_) (AllReadyH.cons rfl (λK aE=>?_) AllReadyH.nil)
     ·
      refine Q3 ?_;intro hb kT dZ tV ir;refine jC ?_;intro bd;refine h9 7 λK aE=>?_;refine uQ ?_;refine i8 ?_;intro dR iu yJ;refine jC ?_;intro bd;have k1:wI bA (dR) c ef c.ps.length eb hb c.hs.length kT (dZ).heap.size (aQ).heap.size:=⟨U,mI.ext U,ir.ext U,iu.ext U,jL.ext U,(show Z bA (dZ)from U).size,(show Z bA (aQ)from U).size,MU (fQ jL.lt (show Z e1 (dZ)from U).size)⟩;replace k1:=I k1;refine yr ?_;intro K aE;refine jC ?_;intro bd;exact li
     ·
      refine uQ ?_;refine aiS ?_;intro dR iu yJ;refine jC ?_;intro bd;refine h9 4 λK aE=>?_;refine lm ?_;intro hb kT dZ tV ir;refine jC ?_;intro bd;have k1:wI bA (dZ) c ef c.ps.length eb hb c.hs.length kT (dD).heap.size (aQ).heap.size:=⟨U,mI.ext U,ir.ext U,iu.ext U,jL.ext U,(show Z bA (dD)from U).size,(show Z bA (aQ)from U).size,MU (fQ jL.lt (show Z e1 (dD)from U).size)⟩;replace k1:=I k1;refine yr ?_;intro K aE;refine jC ?_;intro bd;exact MV
    ·
     refine uQ ?_;refine ld ?_;intro dR iu yJ;refine jC ?_;intro bd;refine h9 2 λK aE=>?_;refine aiU ?_;intro ef eb dD HG mI;refine jC ?_;intro bd;refine h9 4 λK aE=>?_;refine Q3 ?_;intro hb kT dZ tV ir;refine jC ?_;intro bd;have k1:wI bA (dZ) c ef c.ps.length eb hb c.hs.length kT (e1).heap.size (aQ).heap.size:=⟨U,mI.ext U,ir.ext U,iu.ext U,jL.ext U,(show Z bA (e1)from U).size,(show Z bA (aQ)from U).size,MU (fQ jL.lt (show Z e1 (e1)from U).size)⟩;replace k1:=I k1;refine yr ?_;intro K aE;refine jC ?_;intro bd;exact MV
def sn.dp{b:aT}(h:sn w M D O c p q b)(hs:∀x,O x->O' x)(hm:∀x,O' x->M x)(aG:∀x,D x->¬O' x):sn w M D O' c p q b:=by
 obtain⟨v,h⟩:=h;obtain⟨L,af,an,aO⟩:=h.cp;exact⟨v,h.box,h.l3,⟨L,af,λx k=>hs x (an x k),aO⟩,h.iO,h.yt,⟨hs _ h.bS.1,hs _ h.bS.2.1,hs _ h.bS.2.2⟩,hm,aG,h.gT⟩
def awJ(al:im c)(aq:n<c.ps.length):aiR c n:=⟨al.tolZ.x9,aq,DW al.tolZ,al.aq.1,al.aq.2,al.xl⟩
structure lw (w w':World) (M M':Nat->Prop) (c:bK) (n:Nat) (bN ns':Nat->oa) (v:qL) (p q:Nat->Nat) (D O:Nat->Nat->Prop) (gJ:Nat) (bX O':Nat->Prop):Prop where
 aj:aI (λx=>(D n x\/O n x)\/x=v.dr) w w'
 jw:b4 w (D n) bX
 dX:b4 w (O n) O'
 bk:b4 w M M'
 a1:∀x,M' x->x<w'.heap.size
 hs:∀x,bX x\/O' x->M' x
 yE:∀x,bX x->¬O' x
 qY:z1 w' M' bX O' c gJ (q n) (ns' n)
 kF:ua w' v.dr c.ps.length (mq ns' (λk=>if k=n then gJ else p k))
def Ct(bN:Nat->oa)(n:Nat)(x:oa):Nat->oa:=λk=>if k=n then x else bN k
def aiW{bN:Nat->oa}{v:qL}{p q:Nat->Nat}{D O:Nat->Nat->Prop}{W:eZ}(H:lJ w M c P bN cur v p q D O W)(cg:im c)(aq:n<c.ps.length)(cy:bN n=.down cp)(bg:ML c cp s s'):
  aS 31 #[P,(n:Int)] w λe w'=>∃M' bX O' gJ,e=.returned av/\lw w w' M M' c n bN (Ct bN n (.up (p8 n s))) v p q D O gJ bX O':=by
 have n1:=DW cg.tolZ;have yd:lB w (D n) (q n) (gj (cp.map gi)) (gj (cp.map gi)).length c.room/\IN (cp.map gi):=by have:=H.ri n aq;rw[cy]at this;exact this
 have mt:=I yd.1;have fH:n<v.aU.n:=by rw[H.l3.c8.2.2.neq];simp;omega
 obtain⟨_,o,rW,fR⟩:=H.l3.c8.2.2.get n (by simpa using aq);have rh:=fR 0 _ rfl;rw[jd,E6,QX]at rh;simp only[uo]at rh;have oh:=I (DP (k:=(n:Int)) (uG J J));have b0:(0:Int)<=(n:Int):=J;have bf:(n:Int)<(v.aU.n:Int):=J;have aiX:=I (aL (o:=0) H.box rfl);have tY:=I (aL (o:=1) H.box rfl);have Bb:=aL (o:=3) H.box rfl;rw[show(#[v.cL,v.ak,v.kp,v.aU,.map (some v.dr),v.fM,v.go]:Array Value)[3]=Value.slice v.aU.a v.aU.n v.aU.c from rfl,rW]at Bb;replace Bb:=I Bb;have J7:=I (H.l3.mono (λw k=>k.1));have J8:=I (H.l3.mono (λw k=>k.2.1));replace H:=I H;replace cg:=I cg;replace bg:=I bg;replace rh:=I rh;clear yd rW fR;go_enter func31,ntmps31;go_wp2_with fail;refine rN 16 (Z w) (λbd=>?_);refine tS ?_;refine aiY ?_;intro K aE;obtain⟨w1,kE⟩:∃w1,w.drew=w1:=⟨_,rfl⟩;have bz:Z w w1:=by subst kE;exact U
 rw[kE]at bd ⊢;clear kE;refine(awI (M:=M) (D:=D n) (c:=c) (w:=w1) (J7.step (aI.of bz) (b4.ep _ _)) (J8.step (aI.of bz) (b4.ep _ _)) (awJ cg aq) (mt.ext bz) bg (λx X=>H.sub n aq x (.inl X)) (λx X=>fQ (H.b5 x X) bz.size)).mono ?_;rintro e cB⟨gJ,jP,mS,yl,rfl,A1,JI,Q4,Fz,awK,He⟩;replace bz:=I bz;have MP:W v.dr:=H.bS.2.1;have gW:=H.b5;have fj:=bz.size;have m9:¬D n v.dr:=λk=>H.uO n aq _ (.inl k) MP;have aiZ:¬D n P:=λk=>H.uO n aq _ (.inl k) H.bS.1;have Wf:aI (D n) w cB:=(aI.of bz).trans JI;obtain⟨Wg,ap,awL,MO,FJ,ne,j1⟩:=H.dr;have nl:=MO.ay (Wf.block _ MO.lt m9);have aAR:=aL (o:=4) ((Wf.block _ (bZ H.box) aiZ).trans H.box) rfl;have aAS:Wg<=16:=by
  rw[ne];have:=Qh awL (List.range c.ps.length) FJ.1 (λx X=>xd.2 (FJ.2 x X));rw[JE]at this;omega
 have no:∀(bA:aC) (aBt:Nat),fp bA prog 3 v.dr (Wg+1) aBt (wz ap (.int .i64 n) (some (.pointer (some ⟨gJ,0,none⟩))))->aBt=(if (ap (.int .i64 n)).isSome=true then Wg else Wg+1)->cB.mapTurned bA v.dr->
   lw w bA M jP c n bN (Ct bN n (.up (p8 n s))) v p q D O gJ mS (λx=>O n x\/yl x):=λbA aBt DK PH Fm=>by
  have o8:=Vr Fm;obtain⟨v5,ad⟩:=A1;have mV:=MO.lt;have aj:aI (λx=>(D n x\/O n x)\/x=v.dr) w bA:=(Wf.mono (λx _ k=>.inl (.inl k))).trans (o8.mono (λx _ e=>.inr e));have awM:∀x,O n x->x<w.heap.size:=λx k=>gW x (H.sub n aq x (.inr k));have mM:∀x,O n x\/yl x->jP x:=λx k=>k.elim (λz=>Fz.up x (H.sub n aq x (.inr z))) (ad.sub x);have yE:∀x,mS x->¬(O n x\/yl x):=λx k hk=>hk.elim (λz=>(Q4.new x k).elim (λy=>H.HC n aq x y z) (λy=>by have:=awM x z;omega)) (ad.gL x k);have Qy:sn cB jP mS (λx=>O n x\/yl x) c gJ (q n) (p8 n s):=sn.dp ⟨v5,ad⟩ (λx k=>.inr k) mM yE
  have qY:z1 bA jP mS (λx=>O n x\/yl x) c gJ (q n) (.up (p8 n s)):=z1.step (x:=.up (p8 n s)) Qy o8 (λx e=>by rw[show x=v.dr from e];exact Fz.up _ (H.qM _ MP)) (λx k e=>by
   have e:x=v.dr:=e;subst e;rcases k with k|k|k
   ·exact(Q4.new _ k).elim m9 (λy=>by omega)
   ·exact H.uO n aq _ (.inr k) MP
   ·have:=He _ k;omega) (b4.ep _ _) (λx k=>fQ (ad.b5 x k) o8.size)
  have kF:ua bA v.dr c.ps.length (mq (Ct bN n (.up (p8 n s))) (λk=>if k=n then gJ else p k)):=by
   have af:=ua.put FJ ne j1 aq J DK PH;have e:(λk=>if k=n then some gJ else mq bN p k)=mq (Ct bN n (.up (p8 n s))) (λk=>if k=n then gJ else p k):=by
    funext j;by_cases aD:j=n
    ·subst aD;unfold mq Ct;simp
    ·rw[aV aD];unfold mq Ct;simp only[aV aD]
   rw[<-e];exact af
  exact⟨aj,⟨Q4.up,λx k=>(Q4.new x k).imp id (λz=>by omega)⟩,⟨λx k=>.inl k,λx k=>k.imp id (λz=>by have:=He x z;omega)⟩,⟨Fz.up,λx k=>(Fz.new x k).imp id (λz=>by omega)⟩,λx k=>fQ (ad.b5 x k) o8.size,λx k=>k.elim (ad.sm x) (mM x),yE,by unfold Ct;rw[bc rfl];exact qY,kF⟩
 replace no:=I no;replace nl:=I nl;clear MO FJ ne j1 A1 JI Q4 Fz awK He Wf m9 aiZ gW fj;refine HE ?_;intro _ bd;refine de 17 ?_;refine de 18 ?_;refine de 19 ?_;refine de 20 ?_;refine de 21 ?_;refine og bQ ?_ _;go_wp2_with (at_mapUpdate;(refine Fj rfl (λK aE=>PR _ _ _ rfl DO QM rfl (nl.ext U) Ix rfl rfl oh rfl ?_);intro bA DK Fm;have OD:=I (no bA _ DK rfl Fm);clear DK Fm;refine aE _ _ ?_;clear aE K));go_ret;exact⟨jP,mS,_,gJ,rfl,OD⟩
def awN{aQ:ba}(h:h0 w M F c P aQ)(al:im c)(aq:n<c.ps.length)(cy:aQ.bN n=.down cp)(a1:ML c cp s s'):
  aS 31 #[P,(n:Int)] w (uP c P w M F av (aQ.hz n (.up (p8 n s)))):=by
 obtain⟨v,_,g,p,q,D,O,W,h,hF⟩:=h;refine(aiW h.dn al aq cy a1).mono ?_;rintro e bA⟨jP,mS,yl,gJ,rfl,k⟩;have qY:z1 bA jP mS yl c gJ (q n) (.up (p8 n s)):=by have:=k.qY;unfold Ct at this;rw[bc rfl]at this;exact this
 obtain⟨eF,rO,yZ⟩:=h.QW hF aq (p':=λk=>if k=n then gJ else p k) (O':=yl) k.aj k.jw k.dX k.bk k.a1 k.hs k.yE (x:=.up (p8 n s)) (by show z1 bA jP mS _ c (if n=n then gJ else p n) (q n) _;rw[bc rfl];exact qY) (λk hk=>aV hk) k.kF;exact⟨jP,eF,rfl,rO,yZ⟩
end Go.Proofs.YtfiiblnenhdlhaaGreat
