/- Part. -/
import Derived.Test.YtfiiblnenhdlhaaGreatG4
set_option linter.unusedVariables false
set_option linter.unusedSimpArgs false
set_option linter.defProp false
set_option maxRecDepth 100000
set_option maxHeartbeats 4000000
namespace Go.Proofs.YtfiiblnenhdlhaaGreat
open Go.RowKit Tryz
variable {ops:Array Oper}{Q:Exit->Act->World->Prop}{ay:List UInt8}{base cap gM k n q room sz:Nat}{M O S:Nat->Prop}{a aw sa:Option Addr}{P:Program}{α:Type}{w w':World}
def N8{R:Nat}(h:aG S w w')(bC:S R\/(w:Nat)<=R)(v0 v1 v2 v3 v4 v5 v6 gy iC v9 v10 v11 v12:Value):aG S w (((((((((((((w'.setCell (R,0) v0).setCell (R,1) v1).setCell (R,2) v2).setCell (R,3) v3).setCell (R,4) v4).setCell (R,5) v5).setCell (R,6) v6).setCell (R,7) gy).setCell (R,8) iC).setCell (R,9) v9).setCell (R,10) v10).setCell (R,11) v11).setCell (R,12) v12):=
 (((((AZ h bC v0 v1 v2 v3 v4 v5 v6 gy).setCell ⟨R,8,none⟩ bC iC).setCell ⟨R,9,none⟩ bC v9).setCell ⟨R,10,none⟩ bC v10).setCell ⟨R,11,none⟩ bC v11).setCell ⟨R,12,none⟩ bC v12
def aqS{R:Nat}(h:aG S w w')(bC:S R\/(w:Nat)<=R)(v0 v1 v2 v3 v4 v5 v6 gy:Value):aG S w ((((((((w'.setCell (R,2) v0).setCell (R,3) v1).setCell (R,4) v2).setCell (R,5) v3).setCell (R,6) v4).setCell (R,7) v5).setCell (R,8) v6).setCell (R,9) gy):=
 (((((((h.setCell ⟨R,2,none⟩ bC v0).setCell ⟨R,3,none⟩ bC v1).setCell ⟨R,4,none⟩ bC v2).setCell ⟨R,5,none⟩ bC v3).setCell ⟨R,6,none⟩ bC v4).setCell ⟨R,7,none⟩ bC v5).setCell ⟨R,8,none⟩ bC v6).setCell ⟨R,9,none⟩ bC gy
def fO.j8{B:Nat}{x:b1}{d:bg}{cs:Array Value}{t:TypeId}{fr:Nat×Nat}(h:fO w base x d)(aa:w.heap[B]?=some (.cells cs t fr))(ae:154≠t)(ak:34≠t)(aM:77≠t)(al:aG (λx=>x=B) w w'):fO w' base x d:=
 let ⟨ys,q,o,a⟩:=h.e
 ⟨h.k,h.id,h.c,h.u,al.bI h.f (h.f.eQ aa ae),ys,q,al.bI o (o.eQ aa ak),λy hy=>al.bI (a y hy) ((a y hy).eQ aa aM)⟩
def Ky(r:gJ)(w:World)(e:Ending)(w':World):Prop:=∃x:b1,e=.returned (.tuple #[.agg #[r.k,ad (r.n:Int),x.k,x.id.b,ad x.id.l,ad x.id.s,x.c,ad x.u,x.f,x.e,r.id.b,ad r.id.l,ad r.id.s],ar])/\fO w' w.heap.size x r.e/\(r.k≠2/\r.k≠3->x=rI)/\Z w w'
def aqT(a:bk)(n cap:Nat)(m:Nat)(w:aC)(av:a1 w 1 cp a n cap (cJ 1++(cJ m++[])))(an:n<=100000)(hm:gv m):
  aR 77 #[aq a n cap] w (Ky (my m) w):=by
 change Hid _ at av;refine XR ?_;intro w1 p ng fg mO bw c6 km _ _ _ _;refine(AY p 1 6 _ _ c6 af af).mono ?_;refine Kv ?_;intro aN mP eW kn
 have hQ:l6 w (aN.alloc (.cells #[bh 1,au,ar,ar,au,au,ar,au,aH,aH,ar,au,au] 169)) 169 p w (aN:Nat) #[bh 1,au,ar,ar,au,au,ar,au,aH,aH,ar,au,au] #[ar,au,ar,ar,au,au,ar,au,aH,aH,ar,au,au] _:=
  ⟨mP.ext ((Z.refl aN).alloc _),(((Z.refl aN).alloc _).block _ (bT kn)).trans kn,heap_alloc_new _ _,(eW.ext (λb aa=>by subst aa;exact lr mO) bw).alloc _,lr mO,bA _,eh bw.size eW.size,sv (bT kn),af,af⟩
 change Hid _ at hQ;go_wp2_with fail;refine(oy p m _ _ hQ.hn qc).mono ?_;rintro e aY⟨rfl,tW,h4⟩;have mQ:=hQ.oB tW h4;obtain⟨cF,cP,cQ,dd,ds,dm,dt,du,jy,yX,yY,yZ,y0,e7⟩:=q7 (show aY.heap[(aN:Nat)]?=some (.cells #[bh 1,au,ar,ar,au,au,ar,au,aH,aH,ar,au,au] _ _)from mQ.b);have kS:=mQ.jF 1 (ad (m:Int)) rfl;change Hid _ at kS;go_wp2_with fail;refine(zM p _ kS.hn).mono ?_;rintro e eb⟨rfl,jl⟩;have kT:=kS.qd jl;change Hid _ at jl;obtain⟨cF,cP,cQ,dd,ds,dm,dt,du,jy,yX,yY,yZ,y0,e7⟩:=q7 (show eb.heap[(aN:Nat)]?=some (.cells #[bh 1,ad (m:Int),ar,ar,au,au,ar,au,aH,aH,ar,au,au] _ _)from kT.b);change Hid _ at kT;go_wp2_with fail;refine(aeA m _).mono ?_;rintro e cG⟨rfl,oC⟩;have jY:=kT.qd oC;change Hid _ at oC;obtain⟨_,_,_,_,_,_,_,_,_,_,_,_,_,_⟩:=q7 (show cG.heap[(aN:Nat)]?=some (.cells #[bh 1,ad (m:Int),ar,ar,au,au,ar,au,aH,aH,ar,au,au] _ _)from jY.b);refine XS ?_;intro z0 cU z2 z3 z4 z5 ga fk rb z9 H3 H4 z12 mx di;change Hid _ at jY;go_wp2_with fail;have iy:=N8 (S:=λx=>x=w.heap.size) (aG.refl _ cG) (R:=w.heap.size) (.inl rfl) (.int .i64 1) (.int .u64 (m:Int)) (.int .i64 0) (.int .i64 0) (.int .u64 0) (.int .u64 0) (.int .i64 0) (.int .u64 0) (Value.slice none 0 0) (Value.slice none 0 0) (.int .i64 0) (.int .u64 0) (.int .u64 0);refine bodyPost_ret (v:=.tuple #[.agg #[bh 1,ad (m:Int),ar,ar,au,au,ar,au,aH,aH,ar,au,au],ar]) N9 rfl ⟨rI,rfl,⟨rfl,rfl,rfl,rfl,Own.nil _ _ _ T.bH,[],rfl,Own.nil _ _ _ eJ.bH,λy hy=>by cases hy⟩,λ_=>rfl,iy.ext (λb aa=>by subst aa;exact bA _) jY.ext⟩
def aqU(a:bk)(n cap:Nat)(i:aA)(w:aC)(av:a1 w 1 cp a n cap (cJ 4++(cJ 0++(ia i++[]))))(an:n<=100000)(aO:dx i):
  aR 77 #[aq a n cap] w (Ky (nV i) w):=by
 change Hid _ at av;refine XR ?_;intro w1 p ng fg mO bw c6 km _ _ _ _;refine(AY p 4 6 _ _ c6 af af).mono ?_;refine Kv ?_;intro aN mP eW kn
 have hQ:l6 w (aN.alloc (.cells #[bh 4,au,ar,ar,au,au,ar,au,aH,aH,ar,au,au] 169)) 169 p w (aN:Nat) #[bh 4,au,ar,ar,au,au,ar,au,aH,aH,ar,au,au] #[ar,au,ar,ar,au,au,ar,au,aH,aH,ar,au,au] _:=
  ⟨mP.ext ((Z.refl aN).alloc _),(((Z.refl aN).alloc _).block _ (bT kn)).trans kn,heap_alloc_new _ _,(eW.ext (λb aa=>by subst aa;exact lr mO) bw).alloc _,lr mO,bA _,eh bw.size eW.size,sv (bT kn),af,af⟩
 change Hid _ at hQ;go_wp2_with fail;refine(oy p 0 _ _ hQ.hn qc).mono ?_;rintro e aY⟨rfl,tW,h4⟩;have mQ:=hQ.oB tW h4;obtain⟨cF,cP,cQ,dd,ds,dm,dt,du,jy,yX,yY,yZ,y0,e7⟩:=q7 (show aY.heap[(aN:Nat)]?=some (.cells #[bh 4,au,ar,ar,au,au,ar,au,aH,aH,ar,au,au] _ _)from mQ.b);have kS:=mQ.jF 1 au rfl;change Hid _ at kS;go_wp2_with fail;refine(N3 p i [] _ kS.hn aO).mono ?_;rintro e b3⟨rfl,vL,nT⟩;have oV:=kS.oB vL nT;obtain⟨cF,cP,cQ,dd,ds,dm,dt,du,jy,yX,yY,yZ,y0,e7⟩:=q7 (show b3.heap[(aN:Nat)]?=some (.cells #[bh 4,au,ar,ar,au,au,ar,au,aH,aH,ar,au,au] _ _)from oV.b);have k9:=((oV.jF 10 i.b (cs':=#[bh 4,au,ar,ar,au,au,ar,au,aH,aH,i.b,au,au]) rfl).jF 11 (ad i.l) (cs':=#[bh 4,au,ar,ar,au,au,ar,au,aH,aH,i.b,ad i.l,au]) rfl).jF 12 (ad i.s) (cs':=#[bh 4,au,ar,ar,au,au,ar,au,aH,aH,i.b,ad i.l,ad i.s]) rfl;change Hid _ at k9;go_wp2_with fail;refine(zM p _ k9.hn).mono ?_;rintro e eb⟨rfl,jl⟩;have kT:=k9.qd jl;change Hid _ at jl;obtain⟨cF,cP,cQ,dd,ds,dm,dt,du,jy,yX,yY,yZ,y0,e7⟩:=q7 (show eb.heap[(aN:Nat)]?=some (.cells #[bh 4,au,ar,ar,au,au,ar,au,aH,aH,i.b,ad i.l,ad i.s] _ _)from kT.b);change Hid _ at kT;go_wp2_with fail;refine(aeE i _ aO.b.1 aO.b.2).mono ?_;rintro e cG⟨rfl,oC⟩;have jY:=kT.qd oC;change Hid _ at oC;obtain⟨_,_,_,_,_,_,_,_,_,_,_,_,_,_⟩:=q7 (show cG.heap[(aN:Nat)]?=some (.cells #[bh 4,au,ar,ar,au,au,ar,au,aH,aH,i.b,ad i.l,ad i.s] _ _)from jY.b);refine XS ?_;intro z0 cU z2 z3 z4 z5 ga fk rb z9 H3 H4 z12 mx di;change Hid _ at jY;go_wp2_with fail;have iy:=N8 (S:=λx=>x=w.heap.size) (aG.refl _ cG) (R:=w.heap.size) (.inl rfl) (.int .i64 4) (.int .u64 0) (.int .i64 0) (.int .i64 0) (.int .u64 0) (.int .u64 0) (.int .i64 0) (.int .u64 0) (Value.slice none 0 0) (Value.slice none 0 0) (.int .i64 i.b) (.int .u64 i.l) (.int .u64 i.s);refine bodyPost_ret (v:=.tuple #[.agg #[bh 4,au,ar,ar,au,au,ar,au,aH,aH,i.b,ad i.l,ad i.s],ar]) N9 rfl ⟨rI,rfl,⟨rfl,rfl,rfl,rfl,Own.nil _ _ _ T.bH,[],rfl,Own.nil _ _ _ eJ.bH,λy hy=>by cases hy⟩,λ_=>rfl,iy.ext (λb aa=>by subst aa;exact bA _) jY.ext⟩
def aqV(a:bk)(n cap:Nat)(i:aA)(w:aC)(av:a1 w 1 cp a n cap (cJ 5++(cJ 0++(ia i++[]))))(an:n<=100000)(aO:dx i):
  aR 77 #[aq a n cap] w (Ky (yW i) w):=by
 change Hid _ at av;refine XR ?_;intro w1 p ng fg mO bw c6 km _ _ _ _;refine(AY p 5 6 _ _ c6 af af).mono ?_;refine Kv ?_;intro aN mP eW kn
 have hQ:l6 w (aN.alloc (.cells #[bh 5,au,ar,ar,au,au,ar,au,aH,aH,ar,au,au] 169)) 169 p w (aN:Nat) #[bh 5,au,ar,ar,au,au,ar,au,aH,aH,ar,au,au] #[ar,au,ar,ar,au,au,ar,au,aH,aH,ar,au,au] _:=
  ⟨mP.ext ((Z.refl aN).alloc _),(((Z.refl aN).alloc _).block _ (bT kn)).trans kn,heap_alloc_new _ _,(eW.ext (λb aa=>by subst aa;exact lr mO) bw).alloc _,lr mO,bA _,eh bw.size eW.size,sv (bT kn),af,af⟩
 change Hid _ at hQ;go_wp2_with fail;refine(oy p 0 _ _ hQ.hn qc).mono ?_;rintro e aY⟨rfl,tW,h4⟩;have mQ:=hQ.oB tW h4;obtain⟨cF,cP,cQ,dd,ds,dm,dt,du,jy,yX,yY,yZ,y0,e7⟩:=q7 (show aY.heap[(aN:Nat)]?=some (.cells #[bh 5,au,ar,ar,au,au,ar,au,aH,aH,ar,au,au] _ _)from mQ.b);have kS:=mQ.jF 1 au rfl;change Hid _ at kS;go_wp2_with fail;refine(N3 p i [] _ kS.hn aO).mono ?_;rintro e b3⟨rfl,vL,nT⟩;have oV:=kS.oB vL nT;obtain⟨cF,cP,cQ,dd,ds,dm,dt,du,jy,yX,yY,yZ,y0,e7⟩:=q7 (show b3.heap[(aN:Nat)]?=some (.cells #[bh 5,au,ar,ar,au,au,ar,au,aH,aH,ar,au,au] _ _)from oV.b);have k9:=((oV.jF 10 i.b (cs':=#[bh 5,au,ar,ar,au,au,ar,au,aH,aH,i.b,au,au]) rfl).jF 11 (ad i.l) (cs':=#[bh 5,au,ar,ar,au,au,ar,au,aH,aH,i.b,ad i.l,au]) rfl).jF 12 (ad i.s) (cs':=#[bh 5,au,ar,ar,au,au,ar,au,aH,aH,i.b,ad i.l,ad i.s]) rfl;change Hid _ at k9;go_wp2_with fail;refine(zM p _ k9.hn).mono ?_;rintro e eb⟨rfl,jl⟩;have kT:=k9.qd jl;change Hid _ at jl;obtain⟨cF,cP,cQ,dd,ds,dm,dt,du,jy,yX,yY,yZ,y0,e7⟩:=q7 (show eb.heap[(aN:Nat)]?=some (.cells #[bh 5,au,ar,ar,au,au,ar,au,aH,aH,i.b,ad i.l,ad i.s] _ _)from kT.b);change Hid _ at kT;go_wp2_with fail;refine(aeG i _ aO.b.1 aO.b.2).mono ?_;rintro e cG⟨rfl,oC⟩;have jY:=kT.qd oC;change Hid _ at oC;obtain⟨_,_,_,_,_,_,_,_,_,_,_,_,_,_⟩:=q7 (show cG.heap[(aN:Nat)]?=some (.cells #[bh 5,au,ar,ar,au,au,ar,au,aH,aH,i.b,ad i.l,ad i.s] _ _)from jY.b);refine XS ?_;intro z0 cU z2 z3 z4 z5 ga fk rb z9 H3 H4 z12 mx di;change Hid _ at jY;go_wp2_with fail;have iy:=N8 (S:=λx=>x=w.heap.size) (aG.refl _ cG) (R:=w.heap.size) (.inl rfl) (.int .i64 5) (.int .u64 0) (.int .i64 0) (.int .i64 0) (.int .u64 0) (.int .u64 0) (.int .i64 0) (.int .u64 0) (Value.slice none 0 0) (Value.slice none 0 0) (.int .i64 i.b) (.int .u64 i.l) (.int .u64 i.s);refine bodyPost_ret (v:=.tuple #[.agg #[bh 5,au,ar,ar,au,au,ar,au,aH,aH,i.b,ad i.l,ad i.s],ar]) N9 rfl ⟨rI,rfl,⟨rfl,rfl,rfl,rfl,Own.nil _ _ _ T.bH,[],rfl,Own.nil _ _ _ eJ.bH,λy hy=>by cases hy⟩,λ_=>rfl,iy.ext (λb aa=>by subst aa;exact bA _) jY.ext⟩
def aqW(a:bk)(n cap:Nat)(m:Nat)(d:bg)(w:aC)(a8:a1 w 1 cp a n cap (cJ 2++(cJ m++(gi (hA d)++[]))))(an:n<=100000)(hm:gv m)(aT:(hA d).length<=n)(aD:hP d):
  aR 77 #[aq a n cap] w (Ky (hR m d) w):=by
 refine aeL ?_;intro av c5 w1 p ng xC fg mO Kz bw c6 km _ _ _ _;refine(AY p 2 6 _ _ c6.out af af).mono ?_;rintro e aN⟨rfl,mP,eW⟩;have kn:=(eW.block _ (bT km.out) J).trans km.out
 have sw:l6 w (aN.alloc (.cells #[bh 2,au,ar,ar,au,au,ar,au,aH,aH,ar,au,au] 169)) 169 p w (aN:Nat) #[bh 2,au,ar,ar,au,au,ar,au,aH,aH,ar,au,au] #[ar,au,ar,ar,au,au,ar,au,aH,aH,ar,au,au] _:=
  ⟨mP.ext ((Z.refl aN).alloc _),(((Z.refl aN).alloc _).block _ (bT kn)).trans kn,heap_alloc_new _ _,(eW.ext (λb aa=>by subst aa;exact lr mO) bw.out).alloc _,lr mO,bA _,eh bw.out.size eW.size,sv (bT kn),af,af⟩
 have hQ:=I sw;go_wp2_with fail;refine(oy p m _ _ hQ.out.hn qc).mono ?_;rintro e aY⟨rfl,tW,h4⟩;have mQ:=hQ.out.oB tW h4;obtain⟨cF,cP,cQ,dd,ds,dm,dt,du,jy,yX,yY,yZ,y0,e7⟩:=q7 (show aY.heap[(aN:Nat)]?=some (.cells #[bh 2,au,ar,ar,au,au,ar,au,aH,aH,ar,au,au] _ _)from mQ.b);have XT:=mQ.jF 1 (ad (m:Int)) rfl;have kS:=I XT;go_wp2_with fail;refine(DU p (n:Int) (hA d) [] _ kS.out.hn J J J).mono ?_;rintro e _⟨_,_,rfl,vN,vL,nT⟩;have oV:=kS.out.oB vL nT;have dW:=I vN;have k9:=I oV;go_wp2_with fail;refine(SH _ _ _ d _ dW.out.aF c5.out J).mono ?_;rintro e bp⟨x,rfl,Na,iv⟩;have nU:=k9.out.qd iv;have aeM:=Na.mono (aDn:=(w:Nat)) k9.out.ext.size;have Oa:=k9.out.qd iv;obtain⟨cF,cP,cQ,dd,ds,dm,dt,du,jy,yX,yY,yZ,y0,e7⟩:=q7 (show bp.heap[(aN:Nat)]?=some (.cells #[bh 2,ad (m:Int),ar,ar,au,au,ar,au,aH,aH,ar,au,au] _ _)from Oa.b);have F1:=bT Oa.b;have XU:=nU.jF 2 x.k (cs':=#[bh 2,ad (m:Int),x.k,ar,au,au,ar,au,aH,aH,ar,au,au]) rfl;have XV:=XU.jF 3 x.id.b (cs':=#[bh 2,ad (m:Int),x.k,x.id.b,au,au,ar,au,aH,aH,ar,au,au]) rfl;have XW:=XV.jF 4 (ad x.id.l) (cs':=#[bh 2,ad (m:Int),x.k,x.id.b,ad x.id.l,au,ar,au,aH,aH,ar,au,au]) rfl;have XX:=XW.jF 5 (ad x.id.s) (cs':=#[bh 2,ad (m:Int),x.k,x.id.b,ad x.id.l,ad x.id.s,ar,au,aH,aH,ar,au,au]) rfl;have XY:=XX.jF 6 x.c (cs':=#[bh 2,ad (m:Int),x.k,x.id.b,ad x.id.l,ad x.id.s,x.c,au,aH,aH,ar,au,au]) rfl;have XZ:=XY.jF 7 (ad x.u) (cs':=#[bh 2,ad (m:Int),x.k,x.id.b,ad x.id.l,ad x.id.s,x.c,ad x.u,aH,aH,ar,au,au]) rfl;have X0:=XZ.jF 8 x.f (cs':=#[bh 2,ad (m:Int),x.k,x.id.b,ad x.id.l,ad x.id.s,x.c,ad x.u,x.f,aH,ar,au,au]) rfl;have aeN:=X0.jF 9 x.e (cs':=#[bh 2,ad (m:Int),x.k,x.id.b,ad x.id.l,ad x.id.s,x.c,ad x.u,x.f,x.e,ar,au,au]) rfl;refine aeO ?_;intro F4 SJ alr zP;go_wp2_with fail;refine(zM p _ alr.out.hn).mono ?_;rintro e eb⟨rfl,uJ⟩;have Ob:=alr.out.qd uJ;have jl:=I uJ;obtain⟨cF,cP,cQ,dd,ds,dm,dt,du,jy,yX,yY,yZ,y0,e7⟩:=q7 (show eb.heap[(aN:Nat)]?=some (.cells #[bh 2,ad (m:Int),x.k,x.id.b,ad x.id.l,ad x.id.s,x.c,ad x.u,x.f,x.e,ar,au,au] _ _)from Ob.b);have kT:=I Ob;go_wp2_with fail;refine(aeB m x d _ (zP.out.ct.ext jl.out) c5.out).mono ?_;rintro e cG⟨rfl,td⟩;have ib:=kT.out.qd td;have oC:=I td;obtain⟨_,_,_,_,_,_,_,_,_,_,_,_,_,_⟩:=q7 (show cG.heap[(aN:Nat)]?=some (.cells #[bh 2,ad (m:Int),x.k,x.id.b,ad x.id.l,ad x.id.s,x.c,ad x.u,x.f,x.e,ar,au,au] _ _)from ib.b);obtain⟨z0,cU,z2,z3,z4,z5,ga,fk,rb,z9,H3,H4,z12,_⟩:=q7 (show cG.heap[(w:Nat)]?=some (.cells #[ar,au,ar,ar,au,au,ar,au,aH,aH,ar,au,au] _ _)from ib.r);have di:=ib.fI;have jY:=I ib;go_wp2_with fail;have iy:=N8 (S:=λx=>x=(w:Nat)) (aG.refl _ cG) (R:=(w:Nat)) (.inl rfl) (bh 2) (ad (m:Int)) x.k x.id.b (ad x.id.l) (ad x.id.s) x.c (ad x.u) x.f x.e ar au au;refine bodyPost_ret (v:=.tuple #[.agg #[bh 2,ad (m:Int),x.k,x.id.b,ad x.id.l,ad x.id.s,x.c,ad x.u,x.f,x.e,ar,au,au],ar]) N9 rfl ⟨x,rfl,(zP.out.ext (jl.out.trans oC.out)).j8 jY.out.r af af af iy,λh=>absurd rfl h.1,iy.ext (λb aa=>by subst aa;exact bA _) jY.out.ext⟩
def aqX(a:bk)(n cap:Nat)(d:bg)(w:aC)(a8:a1 w 1 cp a n cap (cJ 3++(cJ 0++(gi (hA d)++[]))))(an:n<=100000)(aT:(hA d).length<=n)(aD:hP d):
  aR 77 #[aq a n cap] w (Ky (jx d) w):=by
 refine aeL ?_;intro av c5 w1 p ng xC fg mO Kz bw c6 km _ _ _ _;refine(AY p 3 6 _ _ c6.out af af).mono ?_;rintro e aN⟨rfl,mP,eW⟩;have kn:=(eW.block _ (bT km.out) J).trans km.out
 have sw:l6 w (aN.alloc (.cells #[bh 3,au,ar,ar,au,au,ar,au,aH,aH,ar,au,au] 169)) 169 p w (aN:Nat) #[bh 3,au,ar,ar,au,au,ar,au,aH,aH,ar,au,au] #[ar,au,ar,ar,au,au,ar,au,aH,aH,ar,au,au] _:=
  ⟨mP.ext ((Z.refl aN).alloc _),(((Z.refl aN).alloc _).block _ (bT kn)).trans kn,heap_alloc_new _ _,(eW.ext (λb aa=>by subst aa;exact lr mO) bw.out).alloc _,lr mO,bA _,eh bw.out.size eW.size,sv (bT kn),af,af⟩
 have hQ:=I sw;go_wp2_with fail;refine(oy p 0 _ _ hQ.out.hn qc).mono ?_;rintro e aY⟨rfl,tW,h4⟩;have mQ:=hQ.out.oB tW h4;obtain⟨cF,cP,cQ,dd,ds,dm,dt,du,jy,yX,yY,yZ,y0,e7⟩:=q7 (show aY.heap[(aN:Nat)]?=some (.cells #[bh 3,au,ar,ar,au,au,ar,au,aH,aH,ar,au,au] _ _)from mQ.b);have XT:=mQ.jF 1 au rfl;have kS:=I XT;go_wp2_with fail;refine(DU p (n:Int) (hA d) [] _ kS.out.hn J J J).mono ?_;rintro e _⟨_,_,rfl,vN,vL,nT⟩;have oV:=kS.out.oB vL nT;have dW:=I vN;have k9:=I oV;go_wp2_with fail;refine(SH _ _ _ d _ dW.out.aF c5.out J).mono ?_;rintro e bp⟨x,rfl,Na,iv⟩;have nU:=k9.out.qd iv;have aeM:=Na.mono (aDn:=(w:Nat)) k9.out.ext.size;have Oa:=k9.out.qd iv;obtain⟨cF,cP,cQ,dd,ds,dm,dt,du,jy,yX,yY,yZ,y0,e7⟩:=q7 (show bp.heap[(aN:Nat)]?=some (.cells #[bh 3,au,ar,ar,au,au,ar,au,aH,aH,ar,au,au] _ _)from Oa.b);have F1:=bT Oa.b;have XU:=nU.jF 2 x.k (cs':=#[bh 3,au,x.k,ar,au,au,ar,au,aH,aH,ar,au,au]) rfl;have XV:=XU.jF 3 x.id.b (cs':=#[bh 3,au,x.k,x.id.b,au,au,ar,au,aH,aH,ar,au,au]) rfl;have XW:=XV.jF 4 (ad x.id.l) (cs':=#[bh 3,au,x.k,x.id.b,ad x.id.l,au,ar,au,aH,aH,ar,au,au]) rfl;have XX:=XW.jF 5 (ad x.id.s) (cs':=#[bh 3,au,x.k,x.id.b,ad x.id.l,ad x.id.s,ar,au,aH,aH,ar,au,au]) rfl;have XY:=XX.jF 6 x.c (cs':=#[bh 3,au,x.k,x.id.b,ad x.id.l,ad x.id.s,x.c,au,aH,aH,ar,au,au]) rfl;have XZ:=XY.jF 7 (ad x.u) (cs':=#[bh 3,au,x.k,x.id.b,ad x.id.l,ad x.id.s,x.c,ad x.u,aH,aH,ar,au,au]) rfl;have X0:=XZ.jF 8 x.f (cs':=#[bh 3,au,x.k,x.id.b,ad x.id.l,ad x.id.s,x.c,ad x.u,x.f,aH,ar,au,au]) rfl;have aeN:=X0.jF 9 x.e (cs':=#[bh 3,au,x.k,x.id.b,ad x.id.l,ad x.id.s,x.c,ad x.u,x.f,x.e,ar,au,au]) rfl;refine aeO ?_;intro F4 SJ alr zP;go_wp2_with fail;refine(zM p _ alr.out.hn).mono ?_;rintro e eb⟨rfl,uJ⟩;have Ob:=alr.out.qd uJ;have jl:=I uJ;obtain⟨cF,cP,cQ,dd,ds,dm,dt,du,jy,yX,yY,yZ,y0,e7⟩:=q7 (show eb.heap[(aN:Nat)]?=some (.cells #[bh 3,au,x.k,x.id.b,ad x.id.l,ad x.id.s,x.c,ad x.u,x.f,x.e,ar,au,au] _ _)from Ob.b);have kT:=I Ob;go_wp2_with fail;refine(aeD x d _ (zP.out.ct.ext jl.out) c5.out).mono ?_;rintro e cG⟨rfl,td⟩;have ib:=kT.out.qd td;have oC:=I td;obtain⟨_,_,_,_,_,_,_,_,_,_,_,_,_,_⟩:=q7 (show cG.heap[(aN:Nat)]?=some (.cells #[bh 3,au,x.k,x.id.b,ad x.id.l,ad x.id.s,x.c,ad x.u,x.f,x.e,ar,au,au] _ _)from ib.b);obtain⟨z0,cU,z2,z3,z4,z5,ga,fk,rb,z9,H3,H4,z12,_⟩:=q7 (show cG.heap[(w:Nat)]?=some (.cells #[ar,au,ar,ar,au,au,ar,au,aH,aH,ar,au,au] _ _)from ib.r);have di:=ib.fI;have jY:=I ib;go_wp2_with fail;have iy:=N8 (S:=λx=>x=(w:Nat)) (aG.refl _ cG) (R:=(w:Nat)) (.inl rfl) (bh 3) au x.k x.id.b (ad x.id.l) (ad x.id.s) x.c (ad x.u) x.f x.e ar au au;refine bodyPost_ret (v:=.tuple #[.agg #[bh 3,au,x.k,x.id.b,ad x.id.l,ad x.id.s,x.c,ad x.u,x.f,x.e,ar,au,au],ar]) N9 rfl ⟨x,rfl,(zP.out.ext (jl.out.trans oC.out)).j8 jY.out.r af af af iy,λh=>absurd rfl h.2,iy.ext (λb aa=>by subst aa;exact bA _) jY.out.ext⟩
def aqY(a:bk)(n cap:Nat)(r:gJ)(w:aC)(a8:a1 w 1 cp a n cap (gl r))(ax:xI r)(an:n<=100000):
  aR 77 #[aq a n cap] w (Ky r w):=by
 have lW:=a8.neq;rcases ax with ⟨m,rfl,hm⟩|⟨m,d,rfl,hm,aD⟩|⟨d,rfl,aD⟩|⟨i,rfl,aO⟩|⟨i,rfl,aO⟩
 ·exact aqT a n cap m w a8 an hm
 ·have e:gl (hR m d)=cJ 2++(cJ m++(gi (hA d)++[])):=by rw[mH];rfl
  rw[e]at a8 lW;exact aqW a n cap m d w a8 an hm XP aD
 ·have e:gl (jx d)=cJ 3++(cJ 0++(gi (hA d)++[])):=by rw[mH];rfl
  rw[e]at a8 lW;exact aqX a n cap d w a8 an XP aD
 ·have e:gl (nV i)=cJ 4++(cJ 0++(ia i++[])):=by rw[mH];rfl
  rw[e]at a8;exact aqU a n cap i w a8 an aO
 ·have e:gl (yW i)=cJ 5++(cJ 0++(ia i++[])):=by rw[mH];rfl
  rw[e]at a8;exact aqV a n cap i w a8 an aO
def X1(x:b1)(r:gJ)(w:aC)(fE:h0 w x r.e)(bf:r.k≠2/\r.k≠3->x=rI)(ax:xI r):
  aR 134 #[.agg #[r.k,ad (r.n:Int),x.k,x.id.b,ad x.id.l,ad x.id.s,x.c,ad x.u,x.f,x.e,r.id.b,ad r.id.l,ad r.id.s]] w (wN (gl r) w):=by
 rcases ax with ⟨m,rfl,hm⟩|⟨m,d,rfl,hm,aD⟩|⟨d,rfl,aD⟩|⟨i,rfl,aO⟩|⟨i,rfl,aO⟩
 ·obtain rfl:=bf ⟨show(1:Int)≠2 by decide,show(1:Int)≠3 by decide⟩;exact aqN m w hm
 ·exact aqO m x d w hm fE aD
 ·exact aqP x d w fE aD
 ·obtain rfl:=bf ⟨show(4:Int)≠2 by decide,show(4:Int)≠3 by decide⟩;exact aqQ i w aO
 ·obtain rfl:=bf ⟨show(5:Int)≠2 by decide,show(5:Int)≠3 by decide⟩;exact aqR i w aO
def Oc(s:Int):Int:=if bits BinOp.and IntKind.u32 s 1=1 then bits BinOp.xor IntKind.u32 (s / 2) 3945912366 else s / 2
def D2:Nat->Int->Int
 |0,s=>s
 |k+1,s=>Oc (D2 k s)
def aqZ(s:Int)(c:UInt8):Int:=D2 8 (bits BinOp.xor IntKind.u32 s (c.toNat:Int))
def KA(l:List UInt8):Int:=l.foldl aqZ 4294967295
def A1(l:List UInt8):Int:=bits BinOp.xor IntKind.u32 IntKind.u32.max (KA l)
def aq0{l:dR}(hk:k<l.length):KA (l.take (k+1))=D2 8 (bits BinOp.xor IntKind.u32 (KA (l.take k)) (l[k].toNat:Int)):=by
 unfold KA;exact Ca
def X2(l:dR):0<=A1 l/\A1 l<4294967296:=by
 unfold A1 bits;have h:=λz:Int=>(show IntKind.u32.wrap z=z % 4294967296 from by simp[IntKind.wrap_u32]);rw[h];omega
def aeP(a:bk)(n cap:Nat)(xs:dR)(w:aC)(av:a1 w 1 cp a n cap xs):
  aR 124 #[aq a n cap] w (cM (.int .u32 (A1 xs)) w):=by
 obtain rfl:=av.neq;refine wB ?_;intro hm aT;change Hid _ at av;go_enter func124,ntmps124;go_wp2_with fail;go_loopg [3,9] (xs.length) (λg cu dN wr=>∃k:Nat,g+k=xs.length/\dN=.int .i64 (k:Int)/\cu=.int .u32 (KA (xs.take k))/\Hid (Z w wr));case atStart=>exact⟨0,J,rfl,rfl,X⟩
 case round=>
  obtain⟨k,_,rfl,rfl,U⟩:=hrel;by_cases hk:k<xs.length
  ·obtain⟨b,o,rfl,ao⟩:=av.get k hk;have d0:wr.cell? (b,o+k*1)=some (.int .u8 (xs[k].toNat:Int)):=U.ah (ao 0 _ rfl);rw[jT]at d0;clear ao;refine kt ?_;intro b0 bd;obtain⟨_,A2⟩:∃v,v=wr:=⟨_,rfl⟩;subst A2;obtain⟨aq1,aq2⟩:∃v,v=gk:=⟨_,rfl⟩;subst aq2;have F3:((xs[k].toNat:Int)) % 4294967296=(xs[k].toNat:Int):=by have:=xs[k].toNat_lt;omega
   have hS:=I (aq0 hk);obtain⟨S,F5⟩:∃S,S=bits BinOp.xor IntKind.u32 (KA (xs.take k)) (xs[k].toNat:Int):=⟨_,rfl⟩;change Hid _ at F5;go_wp2_with fail;rw[<-F5.out];clear F3;go_loopg [3,17] 8 (λg cu dN wr=>∃j:Nat,g+j=8/\dN=.int .i64 (j:Int)/\cu=.int .u32 (D2 j S)/\Hid (Z w wr));case atStart=>exact⟨0,rfl,rfl,rfl,X⟩
   case round=>
    obtain⟨j,_,rfl,rfl,_⟩:=hrel;by_cases aCk:j<8
    ·have hv:(j:Int)<8:=J;obtain⟨C,cn⟩:∃C,C=D2 j S:=⟨_,rfl⟩;rw[<-cn];change Hid _ at cn;by_cases aeQ:bits BinOp.and IntKind.u32 C 1=1
     ·have bB:=I aeQ;go_wp2_with fail;go_roundg (gk - 1);case measure=>omega
      case rel=>exact⟨j+1,J,by go_num,(by rw[show D2 (j+1) S=Oc (D2 j S)from rfl,<-cn.out];unfold Oc;rw[if_pos bB.out]),X⟩
     ·have bB:=I aeQ;go_wp2_with fail;go_roundg (gk - 1);case measure=>omega
      case rel=>exact⟨j+1,J,by go_num,(by rw[show D2 (j+1) S=Oc (D2 j S)from rfl,<-cn.out];unfold Oc;rw[if_neg bB.out]),X⟩
    ·have hv:¬(j:Int)<8:=J;obtain rfl:j=8:=J;go_wp2_with fail;go_roundg (aq1 - 1);case measure=>omega
     case rel=>exact⟨k+1,J,by go_num,(by rw[hS.out,F5.out]),X⟩
  ·refine se ?_;intro b9;go_wp2;go_ret;refine⟨rfl,?_⟩;exact X
def aq3(W:World)(B:Nat)(ys:List UInt8)(e:Ending)(w':World):Prop:=
 e=.returned (.tuple #[])/\∃aw n c,w'.heap[B]?=some (.cells #[aq aw n c] 107 (0,0))/\Own w' W.heap.size 5 1 cp aw n c ys/\Z W w'/\n<=5000
def Own.nh{B j:Nat}{e t:TypeId}{c:α->List Value}{ys:List α}{cs:Array Value}{fr:Nat×Nat}(h:Own w base e sz c aw n cap ys)(aa:w.heap[B]?=some (.cells cs t fr))(di:e≠t)(v:Value):Own (w.setCell (B,j) v) base e sz c aw n cap ys:=
 (aG.setCell (S:=λx=>x=B) (aG.refl _ w) (B,j) (.inl rfl) v).bI h (h.eQ aa di)
def aeR(W:aC)(B L n:Nat)(aw:bk)(m cap:Nat)(ys:dR)(w:aC)(bB:w.heap[B]?=some (.cells #[aq aw m cap] 107 (0,0)))(br:(W:Nat)<=B)(ba:Own w W 5 1 cp aw m cap ys)(bU:Z W w)(fH:L<=4)(an:n<4294967296)(hm:m+L<=5000):
  aR 326 #[.int .u32 (n:Int),(L:Int),B] w (aq3 W B (ys++jJ n L)):=by
 obtain⟨ca,bJ,bF,bG,bK⟩:=info_parts HO;change Hid _ at bJ bF bG bK bB ba bU;go_enter func326,ntmps326;go_wp2_with fail;go_loopg [5] L (λs8 dN wr=>∃(j:Nat) (cK:bk) (uW aQ:Nat),s8+j=L/\dN=.int .i64 ((L:Int) - 1 - (j:Int))/\uW=m+j/\Hid (wr.heap[B]?=some (.cells #[aq cK uW aQ] 107 (0,0)))/\Hid (Own wr W 5 1 cp cK uW aQ (ys++(jJ n L).take j))/\Hid (Z W wr));case atStart=>exact⟨0,aw,m,cap,J,by simp,rfl,bB,(by rw[DS,mH];exact ba),bU⟩
 case round=>
  obtain⟨j,cK,_,aQ,_,rfl,aq4,ko,b7,bz⟩:=hrel;subst aq4;by_cases aJ:j<L
  ·have sx:=ko.out;have nR:=cell_of_one sx;have aq5:=lt_of_block sx;obtain⟨q,bq⟩:∃q:Nat,(L:Int) - 1 - (j:Int)=(q:Int):=⟨L - 1 - j,J⟩;have aCl:L - 1 - j=q:=J;have AQ:Hid (∀ai,cK=some ai->ai.block≠B):=λai aj k=>b7.eQ sx af ai aj k;have aq6:q=0\/q=1\/q=2\/q=3:=J;rcases aq6 with rfl|rfl|rfl|rfl
   ·skip;have vO:(L:Int) - 1 - (j:Int)=0:=J;change Hid _ at bq;rw[vO];change Hid _ at vO;have iL:IntKind.i64.wrap 0=0:=af;go_wp2_with fail;go_region_law (first|(refine vE (ys:=ys++(jJ n L).take j) rfl (.tmp 12) (.tmp 18) 107 rfl ca _ 1 underlying107 bJ bF bG bK rfl af rfl (b7.ext X) (vH n 0) _ rfl (by rw[show cp (vH n 0)= [.int .u8 (IntKind.u8.wrap (n:Int))]from by unfold cp;rw[HM];simp[IntKind.wrap_u8]];exact fc rfl) (cp.cN _) J af (Z.size (bz.trans X)) ?_;intro g dL aY fY bW;have cz:=I fY;have oQ:=bW.aB (((Z.refl _).alloc _).aB sx) AQ;have Nw:=cell_of_one oQ;have Nx:=free_of_one oQ;have cv:=I bW;clear fY bW))
    all_goals
     go_wp2_with fail
     go_roundg (gk - 1)
     case measure=>omega
     case rel=>
      refine⟨j+1,_,_,_,J,SK,rfl,one_setCell oQ,?_,(cv.ext (b7.ext X) (bA _) (bz.trans X)).setCell br _⟩
      rw[NJ aJ,show L - 1 - j=0 from by have:=vO.out;omega,<-iI]
      exact cz.nh oQ af _
   ·skip;have vO:(L:Int) - 1 - (j:Int)=1:=J;change Hid _ at bq;rw[vO];change Hid _ at vO;have iL:IntKind.i64.wrap 8=8:=af;go_wp2_with fail;go_region_law (first|(refine vE (ys:=ys++(jJ n L).take j) rfl (.tmp 12) (.tmp 18) 107 rfl ca _ 1 underlying107 bJ bF bG bK rfl af rfl (b7.ext X) (vH n 1) _ rfl (by rw[show cp (vH n 1)= [.int .u8 (IntKind.u8.wrap ((n:Int) / 256))]from by unfold cp;rw[HM];simp[IntKind.wrap_u8]];exact fc rfl) (cp.cN _) J af (Z.size (bz.trans X)) ?_;intro g dL aY fY bW;have cz:=I fY;have oQ:=bW.aB (((Z.refl _).alloc _).aB sx) AQ;have Nw:=cell_of_one oQ;have Nx:=free_of_one oQ;have cv:=I bW;clear fY bW))
    all_goals
     go_wp2_with fail
     go_roundg (gk - 1)
     case measure=>omega
     case rel=>
      refine⟨j+1,_,_,_,J,SK,rfl,one_setCell oQ,?_,(cv.ext (b7.ext X) (bA _) (bz.trans X)).setCell br _⟩
      rw[NJ aJ,show L - 1 - j=1 from by have:=vO.out;omega,<-iI]
      exact cz.nh oQ af _
   ·skip;have vO:(L:Int) - 1 - (j:Int)=2:=J;change Hid _ at bq;rw[vO];change Hid _ at vO;have iL:IntKind.i64.wrap 16=16:=af;go_wp2_with fail;go_region_law (first|(refine vE (ys:=ys++(jJ n L).take j) rfl (.tmp 12) (.tmp 18) 107 rfl ca _ 1 underlying107 bJ bF bG bK rfl af rfl (b7.ext X) (vH n 2) _ rfl (by rw[show cp (vH n 2)= [.int .u8 (IntKind.u8.wrap ((n:Int) / 65536))]from by unfold cp;rw[HM];simp[IntKind.wrap_u8]];exact fc rfl) (cp.cN _) J af (Z.size (bz.trans X)) ?_;intro g dL aY fY bW;have cz:=I fY;have oQ:=bW.aB (((Z.refl _).alloc _).aB sx) AQ;have Nw:=cell_of_one oQ;have Nx:=free_of_one oQ;have cv:=I bW;clear fY bW))
    all_goals
     go_wp2_with fail
     go_roundg (gk - 1)
     case measure=>omega
     case rel=>
      refine⟨j+1,_,_,_,J,SK,rfl,one_setCell oQ,?_,(cv.ext (b7.ext X) (bA _) (bz.trans X)).setCell br _⟩
      rw[NJ aJ,show L - 1 - j=2 from by have:=vO.out;omega,<-iI]
      exact cz.nh oQ af _
   ·skip;have vO:(L:Int) - 1 - (j:Int)=3:=J;change Hid _ at bq;rw[vO];change Hid _ at vO;have iL:IntKind.i64.wrap 24=24:=af;go_wp2_with fail;go_region_law (first|(refine vE (ys:=ys++(jJ n L).take j) rfl (.tmp 12) (.tmp 18) 107 rfl ca _ 1 underlying107 bJ bF bG bK rfl af rfl (b7.ext X) (vH n 3) _ rfl (by rw[show cp (vH n 3)= [.int .u8 (IntKind.u8.wrap ((n:Int) / 16777216))]from by unfold cp;rw[HM];simp[IntKind.wrap_u8]];exact fc rfl) (cp.cN _) J af (Z.size (bz.trans X)) ?_;intro g _ _ fY bW;have cz:=I fY;have oQ:=bW.aB (((Z.refl _).alloc _).aB sx) AQ;have Nw:=cell_of_one oQ;have Nx:=free_of_one oQ;have cv:=I bW;clear fY bW))
    all_goals
     go_wp2_with fail
     go_roundg (gk - 1)
     case measure=>omega
     case rel=>
      refine⟨j+1,_,_,_,J,SK,rfl,one_setCell oQ,?_,(cv.ext (b7.ext X) (bA _) (bz.trans X)).setCell br _⟩
      rw[NJ aJ,show L - 1 - j=3 from by have:=vO.out;omega,<-iI]
      exact cz.nh oQ af _
  ·go_wp2_with fail;go_end0;have b9:(jJ n L).take j=jJ n L:=ir (by rw[s7];omega);have h:=b7.out;rw[b9]at h;exact⟨rfl,cK,m+j,aQ,ko,h,bz,J⟩
def xJ(l:List UInt8):List UInt8:=jJ l.length 2++(jJ (A1 l).toNat 4++l)
def KB(l:dR):(xJ l).length=6+l.length:=by
 unfold xJ;rw[cH,cH,s7,s7];omega
def aq7(a:bk)(n cap:Nat)(xs:dR)(w:aC)(av:a1 w 1 cp a n cap xs)(aW:1<=n)(bn:n<=4000):
  aR 294 #[aq a n cap] w (wN (xJ xs) w):=by
 refine Xn ?_;intro ca bJ bF bG bK;have sm:=I av.neq;replace av:=I av;have gn:((n:Int)==0)=false:=by simp;omega
 have q1:¬(4000:Int)<(n:Int):=J;go_enter func294,ntmps294;go_wp2_with (refine Xm rfl (.const ar) (.tmp 16) 107 5 rfl underlying107 bJ bF bG (n:=0) (m:=6+n) rfl (by rw[FX];rfl) J (by rw[bK.out];omega) J ?_)
 have aeS:Own (w.alloc (.cells (madeCells #[.int .u8 0] (6+n)) 5)) w 5 1 cp (some (w,0)) 0 (6+n) []:=
  ⟨⟨rfl,.inr ⟨(w:Nat),6+n,_,rfl,Nat.le_refl _,heap_alloc_new _ _,J,by unfold maxLen;omega,by rw[size_madeCells,Nat.mul_one],rfl⟩⟩,rfl,cp.bH⟩
 have Od:=I (aeS.ext ((Z.refl _).alloc (.cells #[.slice (some (w,0)) 0 (6+n)] 107)));clear aeS;have alq:((w.alloc (.cells (madeCells #[.int .u8 0] (6+n)) 5)).alloc (.cells #[.slice (some (w,0)) 0 (6+n)] 107)).heap[(w:Nat)+1]?=some (.cells #[.slice (some (w,0)) 0 (6+n)] 107 (0,0)):=by
  have h:=heap_alloc_new (w.alloc (.cells (madeCells #[.int .u8 0] (6+n)) 5)) (.cells #[.slice (some (w,0)) 0 (6+n)] 107);rw[show(w.alloc (.cells (madeCells #[.int .u8 0] (6+n)) 5)).heap.size=(w:Nat)+1 from by simp]at h;exact h
 have aCm:IntKind.u32.wrap (n:Int)=(n:Int):=by simp only[IntKind.wrap_u32];omega
 replace alq:=I alq;go_wp2_with fail;refine(aeR w (w.heap.size+1) 2 n _ 0 (6+n) [] _ alq J Od X J J J).mono ?_;rintro e _⟨rfl,cE,cZ,c2,gj,b7,bz,-⟩;have k5:cZ=2:=by rw[b7.neq,lq,s7]
 replace gj:=I gj;replace b7:=I b7;replace bz:=I bz;go_wp2_with fail;refine(aeP _ _ _ xs _ (av.ext bz)).mono ?_;rintro e _⟨rfl,c9⟩;replace c9:=I c9;have ax:=X2 xs;obtain⟨S,F6⟩:∃S:Nat,A1 xs=(S:Int):=⟨(A1 xs).toNat,J⟩;rw[F6]at ax;rw[F6];replace F6:=I F6;go_wp2_with fail;refine(aeR w (w.heap.size+1) 4 S cE cZ c2 _ _ (c9.aB gj) J (b7.ext c9) (bz.trans c9) J J J).mono ?_;rintro e _⟨rfl,a4,_,_,oT,dW,eX,_⟩;have bQ:=cell_of_one oT;replace dW:=I dW;replace eX:=I eX;clear oT;go_wp2_with (at_builtin;refine wpList_plain rfl λoL ns=>?_;refine wC (c:=cp) (ys0:= []++jJ n 2++jJ S 4) (ys:=xs) (.tmp 28) (.tmp 29) 107 5 rfl ca _ 1 underlying107 bJ bF bG bK rfl af rfl w eX dW rfl (av.ext eX) cp.cN J af ?_;intro e6 gF da _ vJ fY dE RB;refine ns _ _ ?_;have cz:=I fY;have ic:=I dE;have SL:=I vJ;clear fY dE RB vJ);go_ret2;refine⟨e6,gF,da,by first|rfl|(rw[SL.out];rfl),?_,ic⟩;have h:=cz.out;unfold xJ;rw[lq,iI,sm.out]at h;rw[F6.out];exact h
def gb(l:List (List UInt8)):List UInt8:=l.flatMap xJ
def aq8(a:bk)(n cap:Nat)(xs:dR)(w:aC)(av:a1 w 1 cp a n cap xs)(an:n<=10000000):
  aR 125 #[aq a n cap] w (p3 5 1 cp xs w):=by
 obtain⟨ca,bJ,bF,bG,bK⟩:=info_parts HO;have lW:=I av.neq;have aT:=av.len;have hm:=av.max;unfold maxLen at hm;change Hid _ at av bJ bF bG bK;have Wy:=@Lib.run_eql_slice_nil prog;cases a with
 |none=>
  have ao:=av.none rfl;obtain rfl:cap=0:=ao;obtain rfl:n=0:=J;have U:xs= []:=xj lW.symm;subst U;go_enter func125,ntmps125;go_wp2;go_ret;exact⟨none,0,0,rfl,Own.nil _ _ _ cp.bH,X⟩
 |some ai=>
  go_enter func125,ntmps125;exact aeT
def SM(a:bk)(n cap:Nat)(xs:dR)(w:aC)(av:a1 w 1 cp a n cap xs)(an:n<=10000000):
  aR 74 #[aq a n cap] w (p3 5 1 cp xs w):=by
 obtain⟨ca,bJ,bF,bG,bK⟩:=info_parts HO;have lW:=I av.neq;have aT:=av.len;have hm:=av.max;unfold maxLen at hm;change Hid _ at av bJ bF bG bK;have Wy:=@Lib.run_eql_slice_nil prog;cases a with
 |none=>
  have ao:=av.none rfl;obtain rfl:cap=0:=ao;obtain rfl:n=0:=J;have U:xs= []:=xj lW.symm;subst U;go_enter func74,ntmps74;go_wp2;go_ret;exact⟨none,0,0,rfl,Own.nil _ _ _ cp.bH,X⟩
 |some ai=>
  go_enter func74,ntmps74;exact aeT
def aeU(a:bk)(n cap:Nat)(xs:List aA)(w:aC)(av:a1 w 3 aA.cs a n cap xs)(an:n<=10000000):
  aR 73 #[aq a n cap] w (p3 54 3 aA.cs xs w):=by
 obtain⟨ca,bJ,bF,bG,bK⟩:=info_parts zE;have lW:=I av.neq;have aT:=av.len;have hm:=av.max;unfold maxLen at hm;change Hid _ at av bJ bF bG bK;have Wy:=@Lib.run_eql_slice_nil prog;cases a with
 |none=>
  have ao:=av.none rfl;obtain rfl:cap=0:=ao;obtain rfl:n=0:=J;have U:xs= []:=xj lW.symm;subst U;go_enter func73,ntmps73;go_wp2;go_ret;exact⟨none,0,0,rfl,Own.nil _ _ _ aA.bH,X⟩
 |some ai=>
  go_enter func73,ntmps73;go_wp2_with (at_builtin;refine wpList_plain rfl λoL ns=>?_;refine wC (c:=aA.cs) (ys0:= []) (ys:=xs) _ _ 31 54 rfl ca _ 24 underlying31 bJ bF bG bK rfl af rfl w X (Own.empty hT (by simp) aA.bH) rfl (av.ext X) aA.cN J af ?_;intro cK dv uK _ hY jt U p4;refine ns _ _ ?_;have dn:=I jt;have hy:=I U;have fu:=I hY;clear jt U p4 hY);go_ret;exact⟨cK,dv,uK,rfl,dn,hy⟩
structure gL where
 v:iY
 ay:List UInt8
def gL.cs(x:gL):List Value:= [.slice x.v.a x.v.n x.v.c]
def gL.bH(x:gL):x.cs.length=1:=rfl
def gL.cN(x:gL):∀u∈x.cs,u.oneCell'=true:=by
 intro u al;simp only[gL.cs,nK,sW,tJ]at al;rcases al with rfl;rfl
structure wP (w:World) (a:Option Addr) (n c:Nat) (xs:List gL):Prop where
 aF:a1 w 1 gL.cs a n c xs
 ay:∀x,x∈xs->a1 w 1 cp x.v.a x.v.n x.v.c x.ay
def wP.ext{c:Nat}{xs:List gL}(h:wP w a n c xs)(U:Z w w'):wP w' a n c xs:=⟨h.aF.ext U,λx hm=>(h.ay x hm).ext U⟩
structure rJ (w:World) (base:Nat) (a:Option Addr) (n c:Nat) (xs:List gL):Prop where
 cg:Own w base 107 1 gL.cs a n c xs
 ay:∀x,x∈xs->Own w base 5 1 cp x.v.a x.v.n x.v.c x.ay
def rJ.v{c:Nat}{xs:List gL}(h:rJ w base a n c xs):wP w a n c xs:=⟨h.cg.aF,λx U=>(h.ay x U).aF⟩
def rJ.ext{c:Nat}{xs:List gL}(h:rJ w base a n c xs)(U:Z w w'):rJ w' base a n c xs:=⟨h.cg.ext U,λx hm=>(h.ay x hm).ext U⟩
def rJ.nil(w:aC)(base:Nat):rJ w base none 0 0 []:=⟨Own.nil _ _ _ gL.bH,λx U=>by cases U⟩
def SN:(prog.info? 107).map (λi=>(i.zero,i.size,i.bytes))=some (some ↑aH,1,24):=bV
def aq9{a z:Nat}(bf:z<256)(aj:a*256+z<4294967296):bits BinOp.or IntKind.i64 ((a:Int)*256) (z:Int)=((a*256+z:Nat):Int):=by
 have bS:(a:Int)*256=((a*256:Nat):Int):=J;have dK:(BitVec.ofInt 64 ((a*256:Nat):Int)).toNat=a*256:=by
  rw[BitVec.ofInt_natCast,BitVec.toNat_ofNat];exact HN (Nat.lt_trans (NI (Sk (a*256) z) aj) af)
 refine ad2 ?_;intro NP;rw[bS];have h:=Nat.two_pow_add_eq_or_of_lt (show z<2 ^ 8 from bf) a;have ae:(2:Nat) ^ 8*a=a*256:=J;rw[ae]at h;unfold bits;have eV:(BitVec.ofInt IntKind.i64.bits ((a*256:Nat):Int)|||BitVec.ofInt IntKind.i64.bits (z:Int)).toNat=a*256+z:=by
  show(BitVec.ofInt 64 ((a*256:Nat):Int)|||BitVec.ofInt 64 (z:Int)).toNat=a*256+z;rw[BitVec.toNat_or,dK,NP,h]
 have ak:IntKind.i64.wrap ((a*256+z:Nat):Int)=((a*256+z:Nat):Int):=by rw[IntKind.wrap_i64];omega
 simp only[eV,ak]
def aeV{rest:List Oper}{o:Oper}{a:Act}(np:o.guard=none)(x NM aO:Operand)(t e:TypeId)(aK:o.op=.slice t x (some NM) (some aO) none)(a6:P.underlying t=some (.slice e))(fS:(P.info? e).map (·.size)=some 1){b ks l h:Nat}{kk X3:IntKind}(U:a.eval x=.slice (some (b,ks)) n cap)(aT:a.eval NM=.int kk (l:Int))(b5:a.eval aO=.int X3 (h:Int))(aCn:l<=h)(hk:h<=cap)(bq:∀NN,(l<cap->NN=ks+l)->wpList P ops Q rest (a.put o.dst (.slice (some (b,NN)) (h - l) (cap - l))) w):wpList P ops Q (o::rest) a w:=by
 refine adX ?_;intro K aL he hs;have mG:=run_slice_lh (P:=P) w t (some (b,ks)) n cap (by rw[he];exact a6) kk X3 l h J J J;have jR:=run_sliceAt_slice (P:=P) w t (.slice (some (b,ks)) n cap) (some (.int kk (l:Int))) (some (.int X3 (h:Int))) none (by rw[he];exact a6);rw[mG,he,hs]at jR;by_cases kC:cap=l
 ·simp only[Result.andThen,sliced,nQ,bm kC]at jR;unfold Oper.wp;simp[execOp,aK,U,aT,b5,jR,Result.andThen];exact aL _ _ (bq ks (λk=>by omega))
 ·simp only[Result.andThen,sliced,nQ,bj kC,FL,jT]at jR;have NO:((b,ks):Addr).add l=(b,ks+l):=by unfold Addr.add;split<;>simp_all
  rw[NO]at jR;unfold Oper.wp;simp[execOp,aK,U,aT,b5,jR,Result.andThen];exact aL _ _ (bq (ks+l) (λ_=>rfl))
def aeW(R b o n cap f L:Nat)(xs:dR)(w:aC)(aa:w.cell? (R,0)=some (.slice (some (b,o)) n cap))(a8:a1 w 1 cp (some (b,o)) n cap xs)(bc:f+L<=n)(an:n<=10000000)(fH:L<=4):
  aR 123 #[(f:Int),(L:Int),R] w (cM (.int .i64 (vI ((xs.drop f).take L):Nat)) w):=by
 have eu:=a8.neq;have ara:=a8.len;have cn:∀i (aO:f+i<xs.length),w.cell? (b,o+f+i)=some (.int .u8 (xs[f+i].toNat:Int)):=λi aO=>by rw[Nat.add_assoc];exact Sc a8 (f+i) aO
 change Hid _ at cn;clear a8;go_enter func123,ntmps123;go_wp2_with (refine aeV rfl (.tmp 9) (.tmp 10) (.tmp 13) 107 5 rfl underlying107 DQ (l:=f) (h:=f+L) rfl rfl (by rw[FX];rfl) J J ?_;intro _ pI);have xK:f+L - f=L:=J;try rw[xK]
 change Hid _ at eu;go_loopg [6,16] L (λg tR dN wr=>∃i:Nat,g+i=L/\dN=.int .i64 (i:Int)/\tR=.int .i64 (vI ((xs.drop f).take i):Nat)/\Hid (Z w wr));case atStart=>exact⟨0,J,rfl,rfl,X⟩
 case round=>
  obtain⟨i,_,rfl,rfl,U⟩:=hrel;by_cases aO:i<L
  ·obtain rfl:=pI J;have fM:f+i<xs.length:=by rw[<-eu.out];omega
   have d0:=U.ah (cn i fM);have b0:(0:Int)<=(i:Int):=J;have bd:(i:Int)<(L:Int):=J;have bN:vI ((xs.drop f).take (i+1))=vI ((xs.drop f).take i)*256+xs[f+i].toNat:=by
    rw[iX (by rw[Dx];omega),Xl,List.getElem_drop]
   have arb:vI ((xs.drop f).take (i+1))<256 ^ 4:=gw (adR _) (Nat.pow_le_pow_right af (by rw[o9];omega));rw[bN]at arb;have bf:=xs[f+i].toNat_lt;change Hid _ at bN;go_wp2_with fail;rw[aq9 bf J,<-bN.out];exact ad5
  ·obtain rfl:i=L:=J;go_wp2;go_ret;refine⟨rfl,?_⟩;exact X
def arc(l r:dR):(xJ l++r).take 2=jJ l.length 2/\((xJ l++r).drop 2).take 4=jJ (A1 l).toNat 4/\((xJ l++r).drop 6).take l.length=l:=by
 unfold xJ;refine⟨?_,?_,?_⟩
 ·rw[iI,List.take_left' (s7 2 _)]
 ·rw[iI,List.drop_left' (s7 2 _),iI,List.take_left' (s7 4 _)]
 ·rw[iI,iI,<-iI,List.drop_left' (by rw[cH,s7,s7]),List.take_left]
def ard{l:List (dR)}(hk:k<l.length):gb l=gb (l.take k)++(xJ l[k]++gb (l.drop (k+1))):=by
 unfold gb;rw[<-nI,<-Dv hk,<-xk,List.take_append_drop]
def are{l:List (dR)}(hk:k<l.length){m:Nat}(hm:m=(gb (l.take k)).length):
  ((gb l).drop m).take 2=jJ l[k].length 2/\((gb l).drop (m+2)).take 4=jJ (A1 l[k]).toNat 4/\((gb l).drop (m+6)).take l[k].length=l[k]/\(gb l).length=m+(6+l[k].length)+(gb (l.drop (k+1))).length/\(gb (l.take (k+1))).length=m+(6+l[k].length):=by
 obtain⟨ae,ak,aM⟩:=arc l[k] (gb (l.drop (k+1)));have e:=ard hk;have d:∀j,(gb l).drop (m+j)=(xJ l[k]++gb (l.drop (k+1))).drop j:=λj=>by
  rw[e,<-Oe,List.drop_left' hm.symm]
 refine⟨?_,?_,?_,?_,?_⟩
 ·have:=d 0;rw[uY,List.drop_zero]at this;rw[this];exact ae
 ·rw[d 2];exact ak
 ·rw[d 6];exact aM
 ·rw[e,cH,cH,KB,<-hm];omega
 ·unfold gb at hm ⊢;rw[iX hk,xk,MK,cH,KB,<-hm]
def arf(l:List (List UInt8))(z:Nat)(w:World)(e:Ending)(w':World):Prop:=∃a n c ys,e=.returned (.tuple #[aq a n c,(z:Int)])/\rJ w' w.heap.size a n c ys/\ys.map (·.ay)=l/\Z w w'
def KC:∀(l:List (dR)),6*l.length<=(gb l).length
 | []=>by simp[gb]
 |x::l=>by
  have h:=KC l
  unfold gb at h ⊢
  rw[nI,cH,KB,mv]
  omega
def arh(a:bk)(n cap:Nat)(l:List (dR))(w:aC)(av:a1 w 1 cp a n cap (gb l))(bL:∀x,x∈l->1<=x.length/\x.length<=4000)(an:n<=1048576):
  aR 75 #[aq a n cap] w (arf l n w):=by
 obtain⟨dc,eo,dB,ej,fe⟩:=info_parts SN;have eu:=av.neq;have ara:=av.len;replace av:=I av;replace bL:=I bL;replace eu:=I eu;replace eo:=I eo;replace dB:=I dB;replace ej:=I ej;replace fe:=I fe;go_enter func75,ntmps75;refine J1 ?_;intro _ _;go_loopg [4,5] (l.length) (λg e1 ari wr=>∃(k M:Nat) (ab:bk) (m c:Nat) (ys:List gL),g+k=l.length/\ari=.int .i64 (M:Int)/\e1=.slice ab m c/\k=m/\Hid (M=(gb (l.take k)).length)/\Hid (rJ wr (w.heap.size+1) ab m c ys/\ys.map (·.ay)=l.take k)/\Hid (Z (w.alloc (.cells #[aq a n cap] 107)) wr));case atStart=>exact⟨0,0,none,0,0,[],J,rfl,rfl,rfl,rfl,⟨rJ.nil _ _,rfl⟩,Z.refl _⟩
 case round=>
  obtain⟨k,M,ab,m,c,ys,_,rfl,rfl,hi,fy,aE,U⟩:=hrel;subst hi;have gh:wr.cell? (w,0)=some ↑(aq a n cap):=U.out.ah (by simp);by_cases hk:k<l.length
  ·obtain⟨te,y1,X4,f4,X5⟩:=are hk fy.out;obtain⟨ae,bn⟩:=bL.out l[k] (c7 hk);obtain⟨cK,X6,rfl,-⟩:=av.out.get 0 J;have MZ:M+(6+l[k].length)<=n:=by rw[eu.out,f4];omega
   have Of:=av.out.ext (((Z.refl w).alloc _).trans U.out);have aCo:6*k<=M:=by have h:=KC (l.take k);rw[<-fy.out,o9]at h;omega
   replace te:=I te;replace y1:=I y1;replace X4:=I X4;replace X5:=I X5;replace Of:=I Of;clear f4;have c1:(6:Int)<(n:Int) - (M:Int):=J;go_wp2_with fail;refine(aeW w cK X6 n cap M 2 _ _ gh Of.out J J af).mono ?_;rintro e aN⟨rfl,cj⟩;rw[te.out,R8,HN J];obtain⟨L,qJ⟩:∃L,L=l[k].length:=⟨_,rfl⟩;rw[<-qJ]at MZ ae bn;rw[<-qJ];replace qJ:=I qJ;have eF:=cj.ah gh;replace cj:=I cj;have c2:((L:Int)==0)=false:=by simp;omega
   have da:¬(4000:Int)<(L:Int):=J;have dJ:¬(n:Int) - ((M:Int)+6)<(L:Int):=J;go_wp2_with (refine aeV rfl (.tmp 35) (.tmp 36) (.tmp 39) 107 5 rfl underlying107 DQ (l:=M+6) (h:=M+6+L) rfl (by rw[FX];rfl) (by rw[FX,FX];rfl) J J ?_;intro _ pI);obtain rfl:=pI J;have SO:a1 aN 1 cp (some (cK,X6+(M+6))) L (cap - (M+6)) l[k]:=by
    have h:=((Of.out.ext cj.out).acz (M+6) J).take L J;rw[qJ.out,X4.out]at h;rw[qJ.out];exact h
   replace SO:=I SO;clear pI;obtain⟨S,F5⟩:∃S:Nat,A1 l[k]=(S:Int):=⟨(A1 l[k]).toNat,by have:=X2 l[k];omega⟩;have arj:S<4294967296:=by have:=X2 l[k];omega
   replace F5:=I F5;rw[show(M:Int)+2=((M+2:Nat):Int)from by omega];refine(aeW w cK X6 n cap (M+2) 4 _ _ eF (Of.out.ext cj.out) J J af).mono ?_;rintro e _⟨rfl,dE⟩;rw[y1.out,R8,F5.out,nQ,HN arj];have fN:=dE.ah eF;replace dE:=I dE;have aCp:IntKind.u32.wrap (S:Int)=(S:Int):=by simp only[IntKind.wrap_u32];omega
   go_wp2_with fail;refine(aeP _ _ _ l[k] _ (SO.out.ext dE.out)).mono ?_;rintro e _⟨he,fv⟩;rw[F5.out]at he;subst he;have hx:=fv.ah fN;replace fv:=I fv;go_wp2_with fail;refine(aq8 _ _ _ l[k] _ (SO.out.ext (dE.out.trans fv.out)) J).mono ?_;rintro e bp⟨a5,jc,dw,rfl,xL,iv⟩;have ic:=I ((((Z.refl w).alloc _).trans U.out).trans ((cj.out.trans (dE.out.trans fv.out)).trans iv));have aeX:=I (U.out.trans ((cj.out.trans (dE.out.trans fv.out)).trans iv));have hj:=I (xL.mono (aDn:=(w:Nat)+1) (by have h:=Z.size (U.out.trans (cj.out.trans (dE.out.trans fv.out)));simpa using h));have A3:=I (aE.out.1.ext ((cj.out.trans (dE.out.trans fv.out)).trans iv));clear xL iv;go_wp2_with (at_builtin;refine hf (ys:=ys) rfl (.tmp 49) (.tmp 52) 114 rfl dc _ 24 underlying114 eo.out dB.out ej.out fe.out rfl af rfl (A3.out.cg.ext ((Z.refl _).alloc _)) ⟨⟨a5,jc,dw⟩,l[k]⟩ _ rfl (fc (cs:=gL.cs ⟨⟨a5,jc,dw⟩,l[k]⟩) rfl) (gL.cN _) J af (by have h:=Z.size (aeX.out.trans ((Z.refl _).alloc (.cells #[aq a5 jc dw] 107)));simpa using h) ?_;intro _ _ _ hb fq);change Hid _ at fq hb;go_wp2_with fail;go_roundg (gk - 1);case measure=>omega
   case rel=>
    have q4:=A3.out.cg.ext ((Z.refl bp).alloc (.cells #[aq a5 jc dw] 107));refine⟨k+1,M+6+L,_,_,_,ys++[⟨⟨a5,jc,dw⟩,l[k]⟩],J,(by rw[FX,FX];rfl),rfl,rfl,(I (by have ae:=X5.out;have ak:=qJ.out;omega)),⟨⟨hb.out,λy hy=>?_⟩,?_⟩,fq.out.ext q4 (by simp) (aeX.out.trans ((Z.refl _).alloc _))⟩;exact X7
    ·rw[gS,aE.out.2,iX hk];rfl
  ·have b9:l.take k=l:=ir J;have rK:=fy.out;have ba:=aE.out;rw[b9]at rK ba;rw[<-eu.out]at rK;replace ba:=I ba;clear b9 aE fy;subst rK;have c1:¬(6:Int)<(M:Int) - (M:Int):=J;go_wp2_with fail;go_ret2;exact⟨ab,k,c,ys,rfl,⟨ba.out.1.cg.mono (oN _),λx U=>(ba.out.1.ay x U).mono (oN _)⟩,ba.out.2,((Z.refl w).alloc _).trans U.out⟩
def aeY{c:α->List Value}{ys0 ys:List α}{rest:List Oper}{o:Oper}{a:Act}(np:o.guard=none)(s x:Operand)(t e:TypeId)(aK:o.op=.call {callee:=.builtin .append,args:=#[s,x],argTypes:=#[t,t]})(i:TypeInfo)(z:Value)(bytes:Nat)(a6:P.underlying t=some (.slice e))(aO:P.info? e=some i)(bf:i.zero=some z)(yB:i.size=sz)(wy:i.bytes=bytes)(yC:z.cells.size=sz)(fS:0<sz){n0 wD:Nat}(hs:a.eval s=.slice aw n0 wD)(aE:Own w base e sz c aw n0 wD ys0)(BX:base<=(w:Nat))(U:a.eval x=.slice sa n cap)(a8:a1 w sz c sa n cap ys)(ae:∀y,∀u∈c y,u.oneCell'=true)(an:(n0+n)*bytes<=140737488355328)(j4:0<bytes)(DD:0<n)(h:∀g dL w',Own w' base e sz c (some (g,0)) (n0+n) dL (ys0++ys)->lH w w' aw g->wpList P ops Q rest (a.put o.dst (.slice (some (g,0)) (n0+n) dL)) w'):wpList P ops Q (o::rest) a w:=by
 have hbound:n0+n<=(n0+n)*bytes:=MQ _ j4;cases sa with
 |none=>have:=a8.none rfl;have:=a8.len;omega
 |some ai=>
  refine wpList_append_lies w np s x t aK base e i z sz bytes a6 aO bf yB wy yC fS (aq aw n0 wD) n0 _ hs aE.row ai n cap (ys.flatMap c) U a8.Wv (a8.MP fS) ?_ DD (by simp only[maxLen];omega) an BX _ rfl ?_;exact Rx
  ·intro g dL w' o6 bW jR _;rw[<-xk]at o6;have hlen:n0+n=(ys0++ys).length:=by rw[cH,<-aE.neq,<-a8.neq]
   refine h g dL w' ⟨o6,hlen,a8.bH⟩ ⟨bW.os,bW.tape,bW.output,bW.size,λb aa di=>bW.block b aa (λe=>?_),?_⟩;exact Ri;exact Rj
structure b4 (w:World) (O bZ:Nat->Prop):Prop where
 up:∀b,O b->bZ b
 new:∀b,bZ b->O b\/w.heap.size<=b
def b4.refl(w:aC)(O:ff):b4 w O O:=⟨λ_ h=>h,λ_ h=>.inl h⟩
def b4.trans{bZ F7:ff}(h:b4 w O bZ)(k:b4 w' bZ F7)(hs:(w:Nat)<=(w':Nat)):b4 w O F7:=
 ⟨λb aa=>k.up b (h.up b aa),λb aa=>(k.new b aa).elim (h.new b) (λq=>.inr (eh hs q))⟩
structure ly (w:World) (O:Nat->Prop) (q:Nat) (ay:List UInt8) (gM room:Nat):Prop where
 ct:∃aw n cap,w.heap[q]?=some (.cells #[aq aw n cap,(gM:Int),(room:Int)] 144 (0,0))/\Own w 0 5 1 cp aw n cap ay/\(∀ai,aw=some ai->O ai.block)
 q:O q
 max:room<=1048576
 qK:ay.length<=room
 cx:∀b,O b->b<w.heap.size
def ly.ah(h:ly w O q ay gM room)(bf:(w:Nat)<=(w':Nat))(aa:∀b,b<(w:Nat)->O b->w'.heap[b]? =w.heap[b]?):ly w' O q ay gM room:=
 let ⟨aw,n,cap,ae,ak,aM⟩:=h.ct
 ⟨⟨aw,n,cap,(aa q (bT ae) h.q).trans ae,ak.ah (λai aj=>aa _ (ak.lt ai aj).2 (aM ai aj)),aM⟩,h.q,h.max,h.qK,λb aa=>gw (h.cx b aa) bf⟩
def ly.ext(h:ly w O q ay gM room)(U:Z w w'):ly w' O q ay gM room:=h.ah U.size λb aa _=>U.block b aa
def ly.dT(h:ly w O q ay gM room)(U:aG S w w')(aD:∀b,O b->¬S b):ly w' O q ay gM room:=h.ah U.size λb aa aK=>U.block b aa (aD b aK)
def aeZ(room:Nat)(w:aC)(ax:room<=1048576):aR 30 #[(room:Int)] w λe w'=>e=.returned (.tuple #[(w:Nat),ar])/\ly w' (λb=>b=(w:Nat)) (w:Nat) [] 0 room/\Z w w':=by
 have aW:¬(room:Int)<0:=J;have ae:¬(1048576:Int)<(room:Int):=J;go_enter func30,ntmps30;go_wp2;go_ret2;exact⟨rfl,⟨⟨none,0,0,heap_alloc_new _ _,Own.nil _ _ _ cp.bH,λai aj=>by cases aj⟩,rfl,ax,by simp,λb aa=>by subst aa;simp⟩,X⟩
def ae0(O:ff)(q:Nat)(ay:dR)(gM room:Nat)(w:aC)(h:ly w O q ay gM room):aR 42 #[q] w (p3 5 1 cp ay w):=by
 refine X8 ?_;intro aw n cap h3 l7 ba eI bQ bY Cp;have sy:=(h).max;have vM:=(h).qK;have re:=l7.neq;have SP:n<=room:=J;change Hid _ at h3 l7 ba re;go_enter func42,ntmps42;go_wp2_with fail;refine(SM _ _ _ ay _ l7.aF J).mono ?_;rintro e _⟨cL,dv,c1,rfl,dn,U⟩;change Hid _ at dn U;go_wp2;go_ret;exact⟨cL,dv,c1,rfl,dn,U⟩
def ark(O:ff)(q:Nat)(ay:dR)(gM room:Nat)(w:aC)(h:ly w O q ay gM room):aR 312 #[q] w λe w'=>e=.returned ar/\ly w' O q ay ay.length room/\aG O w w':=by
 refine Og ?_;intro aw n cap h3 l7 ba eI bQ bY Cp tf sy vM A4 re;change Hid _ at h3 l7 ba re;go_enter func312,ntmps312;go_wp2;go_ret;refine⟨rfl,⟨⟨aw,n,cap,?_,l7.nh h3 af _,ba⟩,tf,sy,vM,λb aa=>by have:=A4.out b aa;simpa[World.setCell]using this⟩,(aG.refl _ w).setCell _ (.inl tf) _⟩;rw[<-re.out];exact er h3 1 _
def ae1(O:ff)(q:Nat)(ay xs:dR)(gM room:Nat)(sa:bk)(kU nX:Nat)(w:aC)(h:ly w O q ay gM room)(av:a1 w 1 cp sa kU nX xs)(aW:0<kU)(bc:ay.length+kU<=room):aR 41 #[q,aq sa kU nX] w λe w'=>e=.returned ar/\∃bZ,ly w' bZ q (ay++xs) gM room/\aG O w w'/\b4 w O bZ:=by
 obtain⟨ca,bJ,bF,bG,bK⟩:=info_parts HO;refine Og ?_;intro aw n cap h3 l7 ba eI bQ bY Cp tf sy vM A4 re;have SP:n<=room:=J;change Hid _ at h3 l7 ba re;have F8:=I av.neq;have DG:n+kU<=room:=by have:=re.out;omega
 change Hid _ at bJ bF bG bK av;clear h bc;go_enter func41,ntmps41;go_wp2_with fail;go_step3;go_wp2_with fail;go_quiet (fail);go_wp2_with (at_builtin;refine aeY (ys0:=ay) (ys:=xs) (c:=cp) rfl (.tmp 24) (.tmp 25) 107 5 rfl ca _ 1 underlying107 bJ bF bG bK rfl af rfl (l7.ext X) (hX _) rfl (av.ext X) cp.cN J af aW ?_;intro g _ aY fY yQ;have fp:=yQ.aB ((show Z w _ from X).aB h3) (λai aj k=>l7.eQ h3 af ai aj k);have aCq:aY.cell? (q,0)=some ↑(aq aw n cap):=aI fp rfl;have aCr:∀j,aY.frozen? ⟨q,j,none⟩=false:=(λj=>nS fp));rw[nJ];go_ret;have AA:=fY.lt _ rfl;simp only at AA;have arl:=yQ.at_;refine⟨rfl,λb=>O b\/b=g,⟨⟨_,_,_,er fp 0 _,fY.nh fp af _,λai aj=>by cases aj;exact .inr rfl⟩,.inl tf,sy,by rw[cH,<-re.out,<-F8.out];omega,λb aa=>by have zT:=yQ.size;simp at zT;rcases aa with aa|aa<;>first|(have tQ:=A4.out b aa;simp[World.setCell];omega)|(subst aa;simpa[World.setCell]using AA.2)⟩,?_,⟨λb aa=>.inl aa,λb aa=>?_⟩⟩
 ·refine aG.setCell (S:=O) ?_ (q,0) (.inl tf) _;exact aG.trans (aG.of X) ⟨yQ.os,yQ.tape,yQ.output,yQ.size,λb aa pH=>yQ.block b aa (λai aj e=>pH (e▸ba.out ai aj))⟩
 ·rcases aa with aa|rfl
  ·exact .inl aa
  ·rcases arl with ⟨ai,aj,e⟩|h
   ·exact .inl (e▸ba.out ai aj)
   ·exact .inr (by have:=h;simp at this;omega)
def arn(O:ff)(q:Nat)(ay xs:dR)(gM room:Nat)(sa:bk)(kU nX:Nat)(w:aC)(h:ly w O q ay gM room)(a8:a1 w 1 cp sa kU nX xs)(bc:room<ay.length+kU):aR 41 #[q,aq sa kU nX] w (cM (bh 90) w):=by
 refine X8 ?_;intro aw n cap h3 l7 ba eI bQ bY Cp;have sy:=(h).max;have vM:=(h).qK;have re:=l7.neq;have SP:n<=room:=J;change Hid _ at h3 l7 ba re;have hle:(room:Int) - (n:Int)<(kU:Int):=by have:=re.out;omega
 clear h a8 bc;go_enter func41,ntmps41;go_wp2_with fail;refine wp_scope_jumps 0 (λhU w'=>Z w w'/\∃u0 u1 u2 u3 u4 u5 u6 u7 u8 u9 u10 u11 u12 u13 u14 u15 u16 u17 u18 u19 u20 u21 u22 u23 u24 u25 u26 u27 u28:Value,hU={tmps:=#[u0,u1,u2,u3,u4,u5,u6,u7,u8,u9,u10,u11,u12,u13,u14,u15,u16,u17,u18,u19,u20,u21,u22,u23,u24,u25,u26,u27,u28],defers:= []}) (λ_ _=>0) rfl ?_ ?_
 ·go_wp2_with fail;go_quiet (fail);go_wp2_with fail;go_step3;refine⟨rfl,?_,_,_,_,_,_,_,_,_,_,_,_,_,_,_,_,_,_,_,_,_,_,_,_,_,_,_,_,_,_,rfl⟩;exact X
 ·rintro _ w'⟨U,_,_,_,_,_,_,_,_,_,_,_,_,_,_,_,_,_,_,_,_,_,_,_,_,_,_,_,_,_,rfl⟩;go_wp2;unfold Exit.jump;go_ret;exact⟨rfl,U⟩
def aro(O:ff)(q:Nat)(ay:dR)(gM room:Nat)(w:aC)(h:ly w O q ay gM room):aR 76 #[q,(ay.length:Int)] w λe w'=>e=.returned ar/\ly w' O q ay ay.length room/\aG O w w':=by
 refine Og ?_;intro aw n cap h3 l7 ba eI bQ bY Cp tf sy vM A4 re;change Hid _ at h3 l7 ba re;refine ae2 ?_;intro gV HC;rw[<-re.out];clear h;go_enter func76,ntmps76;go_wp2_with (refine adY rfl (.tmp 24) (.tmp 25) 107 5 rfl underlying107 DQ (k:=n) rfl rfl J HC ?_);go_ret;refine⟨rfl,⟨⟨aw,n,cap,?_,(l7.nh h3 af _).nh (er h3 0 _) af _,ba⟩,tf,sy,vM,λb aa=>by have:=A4.out b aa;simpa[World.setCell]using this⟩,((aG.refl _ w).setCell (q,0) (.inl tf) _).setCell (q,1) (.inl tf) _⟩;exact er (er h3 0 _) 1 _
def arp(O:ff)(q:Nat)(ay xs:dR)(gM room:Nat)(sa:bk)(kU nX:Nat)(w:aC)(h:ly w O q ay gM room)(av:a1 w 1 cp sa kU nX xs)(bc:kU<=room):aR 254 #[q,aq sa kU nX] w λe w'=>e=.returned ar/\∃bZ,ly w' bZ q xs xs.length room/\aG O w w'/\b4 w O bZ:=by
 refine Og ?_;intro aw n cap h3 l7 ba eI bQ bY Cp tf sy vM A4 re;have SP:n<=room:=J;change Hid _ at h3 l7 ba re;have F8:=I av.neq;have hle:¬(room:Int)<(kU:Int):=J;change Hid _ at av;clear h;go_enter func254,ntmps254;go_wp2_with fail;go_step3;go_wp2_with fail;refine(SM _ _ _ xs _ (av.ext X) J).mono ?_;rintro e w1⟨cL,dv,c1,rfl,aK,aa⟩;have hV:=aa.aB ((show Z w _ from X).aB h3);have k2:w1.cell? (q,0)=some ↑(aq aw n cap):=aI hV rfl;have kf:w1.cell? (q,1)=some ↑(gM:Int):=aI hV rfl;have arq:∀j,w1.frozen? ⟨q,j,none⟩=false:=λj=>nS hV;have cm:Z w w1:=Z.trans X aa;have dn:=I (aK.mono (aDn:=(w:Nat)) (Z.size X));change Hid _ at cm hV;clear aK aa;go_wp2_with fail;rw[nJ];go_ret;refine⟨rfl,λb=>O b\/∃ai,cL=some ai/\ai.block=b,⟨⟨cL,dv,c1,?_,((dn.mono (hX _)).nh hV af _).nh (er hV 0 _) af _,λai aj=>.inr ⟨ai,aj,rfl⟩⟩,.inl tf,sy,by rw[<-F8.out];omega,λb aa=>by have cU:=cm.size;rcases aa with aa|⟨ai,aj,aa⟩<;>first|(have:=A4.out b aa;simp[World.setCell];omega)|(subst aa;have:=(dn.lt ai aj).2;simpa[World.setCell]using this)⟩,((aG.of cm).setCell (q,0) (.inl tf) _).setCell (q,1) (.inl tf) _,⟨λb aa=>.inl aa,λb aa=>?_⟩⟩
 ·rw[<-F8.out];exact er (er hV 0 _) 1 _
 ·rcases aa with aa|⟨ai,aj,rfl⟩
  ·exact .inl aa
  ·exact .inr (dn.lt ai aj).1
def ars{P:Program}(t e:TypeId)(a6:P.underlying t=some (.slice e)){sz:Nat}(fS:(P.info? e).map (·.size)=some sz){sa:Option Addr}{n cap k:Nat}{kk:IntKind}(hk:k<=cap)(adZ:∀ai,sa=some ai->ai.spot=none)(w:World):
  (Instr.slice t (aq sa n cap) none (some (.int kk (k:Int))) none).run P w=.ok (aq sa k cap) w:=by
 have he:P.elem t=e:=by simp[Program.elem,a6]
 have hs:(sizeOf e).run P w=.ok sz w:=by
  cases bq:P.info? e with
  |none=>simp[bq]at fS
  |some i=>
        have:i.size=sz:=by simpa[bq]using fS
        simp[sizeOf,typeInfo,bq,this]
 have mG:=run_slice_h (P:=P) w t sa n cap (by rw[he];exact a6) kk k J J
 rw[he,hs]at mG
 have bf:(if cap=0 then sa else sa.map (·.add (0*sz)))=sa:=by
  split
  ·rfl
  ·cases sa with
   |none=>rfl
   |some ai=>
    obtain⟨b,o,q⟩:=ai
    have:=adZ _ rfl
    simp only at this
    subst this
    simp[Addr.add]
 simp only[Result.andThen,sliced,Int.toNat_natCast,Nat.sub_zero,bf]at mG
 exact mG
theorem art (O:Nat->Prop) (q:Nat) (ay:List UInt8) (gM room:Nat) (ah:Int) (w:World) (h:ly w O q ay gM room) (aT:gM=ay.length):aR 46 #[q,ah] w λe w'=>e=.returned (.tuple #[])/\ly w' O q ay ay.length room/\aG O w w':=by
 obtain⟨aw,n,cap,h3,l7,ba⟩:=(h).ct
 obtain⟨eI,bQ,bY,Cp⟩:=sn (show w.heap[q]?=some (.cells #[aq aw n cap,(gM:Int),(room:Int)] _ _)from h3)
 have tf:=(h).q
 have sy:=(h).max
 have vM:=(h).qK
 have A4:=I (h).cx
 have re:=l7.neq
 have SP:n<=room:=J
 change Hid _ at h3 l7 ba re
 have gV:=l7.aF.len
 have HC:∀ai,aw=some ai->ai.spot=none:=by
  intro ai aj
  subst aj
  rcases l7.row.2 with ⟨bo,_⟩|⟨g,aQ,cur,bo,_⟩
  ·cases bo
  ·simp only[Value.slice.injEq,Option.some.injEq]at bo
   rw[bo.1]
 obtain rfl:gM=n:=aT.trans re.symm
 clear h
 clear aT
 have F9:gM<=cap:=gV
 have Xt:=λW=>ars (P:=prog) 107 5 underlying107 DQ (sa:=aw) (n:=gM) (cap:=cap) (k:=gM) (kk:=.i64) F9 HC W
 have n0:(0:Int)<=(gM:Int):=J
 have dv:(gM:Int)<=(cap:Int):=J
 rcases Int.lt_trichotomy ah 0 with hk|hk|hk
 ·have m0:(if ah<0 then (0:Int) else ah)=0:=if_pos hk
  have m1:max ah 0=0:=J
  have m3:min (0:Int) 0=0:=rfl
  go_enter func46,ntmps46
  go_wp2_with fail
  go_quiet (fail)
  go_wp2_with fail
  go_region_law (fail)
  all_goals
   go_end0
   have bS:=((Z.refl w).drewN nq).aB h3
   have bE:=((Z.refl ((w.drewN nq).setCell (q,1) (gM:Int))).drew).aB (er bS 1 (gM:Int))
   have o2:=((l7.ext ((Z.refl w).drewN nq)).nh bS af (j:=1) (gM:Int)).ext ((Z.refl _).drew)
   refine⟨rfl,⟨⟨aw,gM,cap,?_,o2.nh bE af _,ba⟩,tf,sy,vM,λb aa=>by have:=A4.out b aa;simpa[World.setCell]using this⟩,((((aG.refl O w).drewN nq).setCell ⟨q,1,none⟩ (.inl tf) (.int .i64 (gM:Int))).drew).setCell ⟨q,0,none⟩ (.inl tf) _⟩
   rw[<-re.out]
   exact er bE 0 _
 ·subst hk
  go_enter func46,ntmps46
  go_wp2_with fail
  go_quiet (fail)
  go_wp2_with fail
  go_region_law (fail)
  all_goals
   go_end0
   have bS:=((Z.refl w).drewN nq).aB h3
   have bE:=((Z.refl ((w.drewN nq).setCell (q,1) (gM:Int))).drew).aB (er bS 1 (gM:Int))
   have o2:=((l7.ext ((Z.refl w).drewN nq)).nh bS af (j:=1) (gM:Int)).ext ((Z.refl _).drew)
   refine⟨rfl,⟨⟨aw,gM,cap,?_,o2.nh bE af _,ba⟩,tf,sy,vM,λb aa=>by have:=A4.out b aa;simpa[World.setCell]using this⟩,((((aG.refl O w).drewN nq).setCell ⟨q,1,none⟩ (.inl tf) (.int .i64 (gM:Int))).drew).setCell ⟨q,0,none⟩ (.inl tf) _⟩
   rw[<-re.out]
   exact er bE 0 _
 ·have m0:(if ah<0 then (0:Int) else ah)=ah:=if_neg J
  have m1:max ah 0=ah:=J
  have m3:min ah 0=0:=J
  go_enter func46,ntmps46
  go_wp2_with fail
  go_quiet (fail)
  go_wp2_with fail
  go_region_law (fail)
  all_goals
   go_end0
   have bS:=((Z.refl w).drewN nq).aB h3
   have bE:=((Z.refl ((w.drewN nq).setCell (q,1) (gM:Int))).drew).aB (er bS 1 (gM:Int))
   have o2:=((l7.ext ((Z.refl w).drewN nq)).nh bS af (j:=1) (gM:Int)).ext ((Z.refl _).drew)
   refine⟨rfl,⟨⟨aw,gM,cap,?_,o2.nh bE af _,ba⟩,tf,sy,vM,λb aa=>by have:=A4.out b aa;simpa[World.setCell]using this⟩,((((aG.refl O w).drewN nq).setCell ⟨q,1,none⟩ (.inl tf) (.int .i64 (gM:Int))).drew).setCell ⟨q,0,none⟩ (.inl tf) _⟩
   rw[<-re.out]
   exact er bE 0 _
def ae3(l:List (List UInt8))(w:World)(e:Ending)(w':World):Prop:=∃a n c ys,e=.returned (.slice a n c)/\rJ w' w.heap.size a n c ys/\ys.map (·.ay)=l/\Z w w'
def Ya(a:bk)(n cap:Nat)(xs:List gL)(w:aC)(av:wP w a n cap xs)(an:n<=200000)(bL:∀x,x∈xs->x.ay.length<=4000):
  aR 79 #[aq a n cap] w (ae3 (xs.map (·.ay)) w):=by
 obtain⟨dc,eo,dB,ej,fe⟩:=info_parts SN;obtain rfl:=av.aF.neq;have aCs:xs.length<=2 ^ 63 - 1:=J;replace eo:=I eo;replace dB:=I dB;replace ej:=I ej;replace fe:=I fe;replace av:=I av;replace bL:=I bL;go_enter func79,ntmps79;go_wp2_with (refine Xm rfl (.const ar) (.tmp 7) 114 107 rfl underlying114 eo.out dB.out ej.out (n:=0) (m:=xs.length) rfl rfl J (by rw[fe.out];omega) J ?_)
 have Od:Own (w.alloc (.cells (madeCells #[aH] xs.length) 107)) w 107 1 gL.cs (some (w,0)) 0 xs.length []:=
  ⟨⟨rfl,.inr ⟨(w:Nat),xs.length,_,rfl,Nat.le_refl _,heap_alloc_new _ _,J,by unfold maxLen;omega,by rw[size_madeCells,Nat.mul_one],rfl⟩⟩,rfl,gL.bH⟩
 replace Od:=I Od;go_loopg [3,11] (xs.length) (λg e1 dN wr=>∃(k:Nat) (ab:bk) (m c:Nat) (ys:List gL),g+k=xs.length/\dN=.int .i64 (k:Int)/\e1=.slice ab m c/\k=m/\Hid (rJ wr w ab m c ys/\ys.map (·.ay)=(xs.take k).map (·.ay))/\Hid (Z w wr));case atStart=>exact⟨0,_,0,_,[],J,rfl,rfl,rfl,⟨⟨Od.out,λy hy=>by cases hy⟩,rfl⟩,X⟩
 case round=>
  obtain⟨k,ab,m,c,ys,_,rfl,rfl,hi,aE,U⟩:=hrel;subst hi;by_cases hk:k<xs.length
  ·obtain⟨b,o,rfl,ao⟩:=av.out.aF.get k hk;have d0:wr.cell? (b,o+k*1)=some ↑xs[k].v:=U.out.ah (ao 0 _ rfl);rw[jT]at d0;have jK:=(av.out.ay xs[k] (c7 hk)).ext U.out;have AJ:=bL.out xs[k] (c7 hk);have hY:xs[k].v.n<=4000:=by rw[jK.neq];exact AJ
   replace jK:=I jK;clear ao AJ;refine kt ?_;intro b0 bd;go_wp2_with fail;refine(SM _ _ _ xs[k].ay _ jK.out J).mono ?_;rintro e bp⟨a5,jc,dw,rfl,xL,ic⟩;have hj:=I (xL.mono (aDn:=(w:Nat)) U.out.size);have A3:=I (aE.out.1.ext ic);replace ic:=I ic;clear xL;go_wp2_with (at_builtin;refine hf (ys:=ys) rfl (.tmp 15) (.tmp 18) 114 rfl dc _ 24 underlying114 eo.out dB.out ej.out fe.out rfl af rfl (A3.out.cg.ext ((Z.refl _).alloc _)) ⟨⟨a5,jc,dw⟩,xs[k].ay⟩ _ rfl (fc (cs:=gL.cs ⟨⟨a5,jc,dw⟩,xs[k].ay⟩) rfl) (gL.cN _) J af (Z.size X) ?_;intro _ _ _ hb fq);change Hid _ at fq hb;go_wp2_with fail;go_roundg (gk - 1);case measure=>omega
   case rel=>
    have q4:=A3.out.cg.ext ((Z.refl bp).alloc (.cells #[aq a5 jc dw] 107));refine⟨k+1,_,_,_,ys++[⟨⟨a5,jc,dw⟩,xs[k].ay⟩],J,by go_num,rfl,rfl,⟨⟨hb.out,λy hy=>?_⟩,?_⟩,fq.out.ext q4 (bA _) (U.out.trans (ic.out.trans ((Z.refl _).alloc _)))⟩;exact X7
    ·rw[gS,aE.out.2,iX hk,gS];rfl
  ·refine se ?_;intro b9;rw[b9]at aE;clear b9;go_wp2;go_ret;exact⟨ab,k,c,ys,rfl,aE.out.1,aE.out.2,U.out⟩
def aru(W:World)(B:Nat)(ys:List UInt8)(e:Ending)(w':World):Prop:=
 e=.returned (.int .i64 0)/\∃aw n c,w'.heap[B]?=some (.cells #[aq aw n c] 107 (0,0))/\Own w' W.heap.size 5 1 cp aw n c ys/\Z W w'
def arv(W:aC)(B:Nat)(aw:bk)(m cap:Nat)(ys:dR)(a:bk)(n c:Nat)(xs:dR)(w:aC)(bB:w.heap[B]?=some (.cells #[aq aw m cap] 107 (0,0)))(br:(W:Nat)<=B)(ba:Own w W 5 1 cp aw m cap ys)(bU:Z W w)(av:a1 w 1 cp a n c xs)(aW:1<=n)(bn:n<=4000)(hm:m<=1000000000):
  aR 293 #[aq a n c,B] w (aru W B (ys++xJ xs)):=by
 refine Xn ?_;intro ca bJ bF bG bK;replace bB:=I bB;replace ba:=I ba;replace bU:=I bU;have sm:=I av.neq;replace av:=I av;go_enter func293,ntmps293;go_wp2_with fail;refine(aq7 _ _ _ xs _ av aW bn).mono ?_;rintro e w1⟨cL,dv,_,rfl,dn,bx⟩;have hY:0<dv/\dv<=4006:=by rw[dn.neq,KB,<-sm.out];omega
 have hV:=bx.aB bB;have bQ:=cell_of_one hV;replace hV:=I hV;replace dn:=I dn;replace bx:=I bx;have DD:0<dv:=J;have jH:(W:Nat)<=(w1:Nat):=(bU.trans bx).size;go_wp2_with (at_builtin;refine aeY (ys0:=ys) (ys:=xJ xs) (c:=cp) rfl (.tmp 11) (.tmp 12) 107 5 rfl ca _ 1 underlying107 bJ bF bG bK rfl af rfl (ba.ext bx) jH rfl dn.aF cp.cN J af DD ?_;intro g _ _ fY yQ;have fp:=yQ.aB hV (λai aj k=>(ba.ext bx).eQ hV af ai aj k);have ew:=cell_of_one fp;have fm:=free_of_one fp);go_ret;have ch:=yQ.ext (ba.ext bx) (bA _) (bU.trans bx);exact⟨rfl,_,_,_,er fp 0 _,fY.nh fp af _,ch.setCell br _⟩
def arw(l:List (dR))(x:dR):gb (l++[x])=gb l++xJ x:=by unfold gb;rw[List.flatMap_append,List.flatMap_singleton]
def Yb(a:bk)(n cap:Nat)(xs:List gL)(w:aC)(av:wP w a n cap xs)(an:n<=200000)(bL:∀x,x∈xs->1<=x.ay.length/\x.ay.length<=4000):
  aR 253 #[aq a n cap] w (wN (gb (xs.map (·.ay))) w):=by
 obtain rfl:=av.aF.neq;change Hid _ at av bL;go_enter func253,ntmps253;go_wp2_with fail;go_loopg [12] (xs.length) (λg dN wr=>∃(k:Nat) (ab:bk) (m c:Nat),g+k=xs.length/\dN=.int .i64 (k:Int)/\m<=4006*k/\Hid (wr.heap[(w:Nat)]?=some (.cells #[aq ab m c] 107 (0,0)))/\Hid (Own wr w 5 1 cp ab m c (gb ((xs.take k).map (·.ay))))/\Hid (Z w wr));case atStart=>exact⟨0,none,0,0,J,rfl,J,heap_alloc_new _ _,Own.nil _ _ _ cp.bH,X⟩
 case round=>
  obtain⟨k,ab,m,c,_,rfl,hm,ko,aE,U⟩:=hrel;have bQ:=cell_of_one ko;by_cases hk:k<xs.length
  ·obtain⟨b,o,rfl,ao⟩:=av.aF.get k hk;have d0:wr.cell? (b,o+k*1)=some ↑xs[k].v:=U.ah (ao 0 _ rfl);rw[jT]at d0;have jK:=(av.ay xs[k] (c7 hk)).ext U;obtain⟨ae,bn⟩:=bL xs[k] (c7 hk);rw[<-jK.neq]at ae bn;change Hid _ at jK;clear ao;refine kt ?_;intro b0 bd;go_wp2_with fail;refine(arv w w ab m c _ _ _ _ xs[k].ay _ ko (bA _) aE U jK ae bn J).mono ?_;rintro e _⟨rfl,cE,cZ,c2,ih,pI,cj⟩;have k5:cZ<=4006*(k+1):=by
    have bS:=pI.neq;rw[cH,<-aE.neq,KB,<-jK.neq]at bS;omega
   go_wp2_with fail;go_roundg (gk - 1);case measure=>omega
   case rel=>exact⟨k+1,cE,cZ,c2,J,by go_num,k5,ih,(by rw[iX hk,gS,List.map_singleton,arw];exact pI),cj⟩
  ·refine se ?_;intro b9;rw[b9]at aE;clear b9;go_wp2_with fail;go_ret2;exact⟨ab,m,c,rfl,aE,U⟩
section
def dq(M:Nat->Prop)(w:World)(P:World->Prop):Prop:=∀w',aG M w w'->P w'
section
variable {M M' O bZ:Nat->Prop}{w w':World}{P Q:World->Prop}
def dq.dQ(h:dq M w P):P w:=h w (aG.refl _ _)
def dq.step(h:dq M w P)(al:aG M w w')(bc:b4 w M M'):dq M' w' P:=λfj hk=>
 h fj ⟨hk.os.trans al.os,hk.tape.trans al.tape,hk.output.trans al.output,eh al.size hk.size,λb aa an=>
  (hk.block b (gw aa al.size) (λm=>(bc.new b m).elim an (λq=>by omega))).trans (al.block b aa an)⟩
def dq.mono(h:dq M w P)(k:∀w,P w->Q w):dq M w Q:=λw' al=>k w' (h w' al)
def dq.and(h:dq M w P)(k:dq M w Q):dq M w (λw=>P w/\Q w):=λw' al=>⟨h w' al,k w' al⟩
def Own.pJ{e:TypeId}{c:α->List Value}{ys:List α}(h:Own w base e sz c aw n cap ys)(an:∀ai,aw=some ai->¬M ai.block):dq M w (λw=>Own w base e sz c aw n cap ys):=λ_ al=>al.bI h an
def la(M O:Nat->Prop):Nat->Prop:=λb=>M b\/O b
def aG.sub(h:aG O w w')(dO:∀b,O b->M b):aG M w w':=h.mono λb _ aa=>dO b aa
end
end
def H5(jd:List (List UInt8)):Prop:=∀x,x∈jd->1<=x.length/\x.length<=4000
structure qf (w:World) (M D L:Nat->Prop) (p q:Nat) (jd:List (List UInt8)) (gM room:Nat):Prop where
 zU:ly w D q (gb jd) gM room
 ct:∃c0 hl jv ys,w.heap[p]?=some (.cells #[q,aq c0 hl jv] 167 (0,0))/\Own w 0 107 1 gL.cs c0 hl jv ys/\(∀ai,c0=some ai->L ai.block)/\ys.map (·.ay)=jd/\dq M w (λw=>∀y,y∈ys->Own w 0 5 1 cp y.v.a y.v.n y.v.c y.ay)
 p:L p
 sub:∀b,D b\/L b->M b
 cx:∀b,M b->b<w.heap.size
 gK:∀b,D b->¬L b
 ok:H5 jd
def oE(D L:Nat->Prop):Nat->Prop:=λb=>D b\/L b
def qf.step{M' D L:ff}{p:Nat}{jd:List (dR)}(h:qf w M D L p q jd gM room)(al:aG S w w')(a8:∀b,S b->M b)(aD:∀b,D b\/L b->¬S b)(bc:b4 w M M')(ho:∀b,M' b->b<(w':Nat)):qf w' M' D L p q jd gM room:=by
 obtain⟨c0,hl,jv,ys,ae,ak,aM,bn,cb⟩:=h.ct;exact⟨h.zU.dT al (λb aa=>aD b (.inl aa)),⟨c0,hl,jv,ys,(al.block _ (bT ae) (aD _ (.inr h.p))).trans ae,al.bI ak (λai aj=>aD _ (.inr (aM ai aj))),aM,bn,cb.step (al.sub a8) bc⟩,h.p,λb aa=>bc.up b (h.sub b aa),ho,h.gK,h.ok⟩
def rJ.dT{c:Nat}{xs:List gL}(h:rJ w base a n c xs)(al:aG S w w')(a8:∀b,S b->b<base):rJ w' base a n c xs:=
 ⟨al.bI h.cg (λai aj k=>by have:=(h.cg.lt ai aj).1;have:=a8 _ k;omega),λx U=>al.bI (h.ay x U) (λai aj k=>by have:=((h.ay x U).lt ai aj).1;have:=a8 _ k;omega)⟩
def rJ.pJ{c:Nat}{xs:List gL}(h:rJ w base a n c xs)(fy:∀b,M b->b<base\/(∃ai,a=some ai/\ai.block=b)\/(∃cs t fr,w.heap[b]?=some (.cells cs t fr)/\5≠t)):dq M w (λw=>∀y,y∈xs->Own w 0 5 1 cp y.v.a y.v.n y.v.c y.ay):=by
 intro w' al y hy;refine al.bI ((h.ay y hy).mono (hX _)) (λai aj k=>?_);rcases fy _ k with q|⟨nw,pK,q⟩|⟨cs,t,fr,aa,di⟩
 ·have:=((h.ay y hy).lt ai aj).1;omega
 ·exact(h.ay y hy).gQ h.cg af ai nw aj pK q.symm
 ·exact(h.ay y hy).eQ aa di ai aj rfl
def ae4(M D L:ff)(p q:Nat)(jd:List (dR))(gM room:Nat)(w:aC)(h:qf w M D L p q jd gM room):aR 45 #[p] w (ae3 jd w):=by
 obtain⟨c0,hl,jv,ys,ae,ak,aM,gu,cb⟩:=h.ct;have bQ:w.cell? (p,1)=some ↑(aq c0 hl jv):=aI ae rfl;have bN:wP w c0 hl jv ys:=⟨ak.aF,λx U=>(cb.dQ x U).aF⟩;have bL:hl=jd.length:=by rw[ak.neq,<-gu,cr]
 have ax:jd.length<=200000:=by have:=KC jd;have:=h.zU.qK;have:=h.zU.max;omega
 have eU:=h.ok;change Hid _ at bN gu bL;clear h ae ak aM cb;go_enter func45,ntmps45;go_wp2_with fail;refine(Ya _ _ _ ys _ bN (by rw[bL.out];exact ax) (λx U=>(eU x.ay (by rw[<-gu.out];exact mJ U)).2)).mono ?_;rintro e _⟨cL,dv,c1,cq,rfl,ba,eM,bB⟩;rw[gu.out]at eM;change Hid _ at ba eM bB;go_wp2;go_ret;exact⟨cL,dv,c1,cq,rfl,ba,eM,bB⟩
def ae5(M O:ff)(q:Nat)(jd:List (dR))(gM room:Nat)(w:aC)(H:ly w O q (gb jd) gM room)(eU:H5 jd)(nN:∀b,O b->M b)(ho:∀b,M b->b<(w:Nat)):
  aR 43 #[.pointer (some (q,0))] w λe w'=>∃p,e=.returned (.tuple #[.pointer (some (p,0)),.int .i64 0])/\(w:Nat)<=p/\∃lf,qf w' (la M lf) O lf p q jd (gb jd).length room/\aG O w w'/\(∀b,lf b->(w:Nat)<=b):=by
 have Yc:=H.max;have vM:=H.qK;replace H:=I H;go_enter func43,ntmps43;go_wp2_with fail;refine(ae0 O q _ _ _ _ H).mono ?_;rintro e w1⟨cL,_,_,rfl,dn,cm⟩;have fu:=dn.neq;replace dn:=I dn;replace cm:=I cm;replace fu:=I fu;go_wp2_with fail;refine(arh _ _ _ jd _ dn.aF eU (by rw[fu.out];omega)).mono ?_;rintro e _⟨cE,cZ,c2,ys,rfl,b7,A5,ih⟩;replace b7:=I b7;replace A5:=I A5;have gj:=I (cm.trans ih);clear ih;rw[fu.out];go_wp2_with fail;refine(aro O q _ _ _ _ (H.ext gj)).mono ?_;rintro e aY⟨rfl,kS,iK⟩;replace kS:=I kS;replace iK:=I iK;go_wp2_with fail;go_ret2;have cU:=cm.size;have z2:=gj.size;have z3:=iK.size;have ae6:∀b,O b->b<(w:Nat):=λb aa=>ho b (nN b aa);have KD:rJ aY w1 cE cZ c2 ys:=b7.dT iK (λb aa=>by have:=ae6 b aa;omega);have SU:=KD.ext ((Z.refl aY).alloc (.cells #[q,aq cE cZ c2] 167));have pL:∀ai,cE=some ai->(w1:Nat)<=ai.block/\ai.block<(aY:Nat):=λai aj=>KD.cg.lt ai aj;refine⟨aY.heap.size,rfl,J,λb=>b=aY.heap.size\/∃ai,cE=some ai/\ai.block=b,⟨kS.ext ((Z.refl _).alloc _),⟨cE,cZ,c2,ys,heap_alloc_new _ _,SU.cg.mono (hX _),λai aj=>.inr ⟨ai,aj,rfl⟩,A5,SU.pJ (λb aa=>?_)⟩,.inl rfl,λb aa=>aa.elim (λk=>.inl (nN b k)) .inr,λb aa=>?_,λb aa aT=>?_,eU⟩,((aG.of gj).trans iK).alloc _,λb aa=>?_⟩
 ·rcases aa with aa|rfl|⟨ai,aj,rfl⟩
  ·have:=ho b aa;exact .inl J
  ·exact .inr (.inr ⟨_,_,_,heap_alloc_new _ _,af⟩)
  ·exact .inr (.inl ⟨ai,aj,rfl⟩)
 ·have bf:(aY.alloc (.cells #[q,aq cE cZ c2] 167)).heap.size=(aY:Nat)+1:=by simp
  rw[bf];rcases aa with aa|rfl|⟨ai,aj,rfl⟩
  ·have:=ho b aa;omega
  ·omega
  ·have:=pL ai aj;omega
 ·have:=ae6 b aa;rcases aT with rfl|⟨ai,aj,rfl⟩
  ·omega
  ·have:=pL ai aj;omega
 ·rcases aa with rfl|⟨ai,aj,rfl⟩
  ·omega
  ·have:=pL ai aj;omega
def H6{c:α->List Value}{ys0 ys:List α}{o:Oper}{a:Act}{K:Act->aC->Prop}{E:Prop}(np:o.guard=none)(s x:Operand)(t e:TypeId)(aK:o.op=.call {callee:=.builtin .append,args:=#[s,x],argTypes:=#[t,t]})(i:TypeInfo)(z:Value)(bytes:Nat)(a6:P.underlying t=some (.slice e))(aO:P.info? e=some i)(bf:i.zero=some z)(yB:i.size=sz)(wy:i.bytes=bytes)(yC:z.cells.size=sz)(fS:0<sz){n0 wD:Nat}(hs:a.eval s=.slice aw n0 wD)(aE:Own w base e sz c aw n0 wD ys0)(BX:base<=(w:Nat))(U:a.eval x=.slice sa n cap)(a8:a1 w sz c sa n cap ys)(ae:∀y,∀u∈c y,u.oneCell'=true)(an:(n0+n)*bytes<=140737488355328)(j4:0<bytes)(DD:0<n)(h:∀g dL w',Own w' base e sz c (some (g,0)) (n0+n) dL (ys0++ys)->lH w w' aw g->K (a.put o.dst (.slice (some (g,0)) (n0+n) dL)) w'):if Region.wanted o (yielded ops a.tmps)=true then Oper.wp P o a w K Q else E:=by
 have hbound:n0+n<=(n0+n)*bytes:=MQ _ j4;cases sa with
 |none=>have:=a8.none rfl;have:=a8.len;omega
 |some ai=>
  refine step_append_lies w np s x t aK base e i z sz bytes a6 aO bf yB wy yC fS (aq aw n0 wD) n0 _ hs aE.row ai n cap (ys.flatMap c) U a8.Wv (a8.MP fS) ?_ DD (by simp only[maxLen];omega) an BX _ rfl ?_;exact Rx
  ·intro g dL w' o6 bW jR _;rw[<-xk]at o6;have hlen:n0+n=(ys0++ys).length:=by rw[cH,<-aE.neq,<-a8.neq]
   refine h g dL w' ⟨o6,hlen,a8.bH⟩ ⟨bW.os,bW.tape,bW.output,bW.size,λb aa di=>bW.block b aa (λe=>?_),?_⟩;exact Ri;exact Rj
def arx(M D L:ff)(p q:Nat)(jd:List (dR))(gM room:Nat)(a:bk)(n c:Nat)(xs:List gL)(w:aC)(H:qf w M D L p q jd gM room)(tg:dq M w (λw=>wP w a n c xs))(aW:0<n)(an:n<=1000)(eU:∀x,x∈xs->1<=x.ay.length/\x.ay.length<=4000)(bc:(gb jd).length+(gb (xs.map (·.ay))).length<=room):
  aR 311 #[p,aq a n c] w λe w'=>e=.returned ar/\∃bP lf,qf w' (la M (oE bP lf)) bP lf p q (jd++xs.map (·.ay)) gM room/\aG (oE D L) w w'/\b4 w D bP/\b4 w L lf:=by
 obtain⟨dc,eo,dB,ej,fe⟩:=info_parts SN;obtain⟨c0,hl,jv,ys,H1,dZ,fK,gu,hh⟩:=H.ct;have eI:w.cell? (p,0)=some ↑q:=aI H1 rfl;have bN:=tg.dQ;have Yd:=bN.aF.neq;have ae7:Hid (∀cq:List gL,cq.map (·.ay)=xs.map (·.ay)->cq.length=n):=λcq bf=>by have:=eP List.length bf;rw[cr,cr]at this;omega
 have aCt:hl<=200000:=by
  have bS:=KC jd;have eV:=H.zU.max;have gU:=dZ.neq;have kD:=eP List.length gu;rw[cr]at kD;omega
 replace eo:=I eo;replace dB:=I dB;replace ej:=I ej;replace fe:=I fe;replace bN:=I bN;replace tg:=I tg;replace H:=I H;replace H1:=I H1;replace dZ:=I dZ;replace fK:=I fK;replace gu:=I gu;replace hh:=I hh;replace Yd:=I Yd;go_enter func311,ntmps311;go_wp2_with fail;refine(Yb _ _ _ xs _ bN J eU).mono ?_;rintro e _⟨cL,dv,_,rfl,dn,cm⟩;have fu:=dn.neq;have ary:0<dv:=by have:=KC (xs.map (·.ay));rw[cr,<-Yd.out]at this;omega
 have wQ:=cm.ah eI;replace dn:=I dn;replace fu:=I fu;replace cm:=I cm;go_wp2_with fail;refine(ae1 D q _ _ _ _ _ _ _ _ (H.zU.ext cm) dn.aF ary (by rw[fu.out];exact bc)).mono ?_;rintro e aN⟨rfl,sw,hQ,eW,rC⟩;have KE:=H.gK;have l8:=(eW.block p (bT (cm.aB H1)) (λk=>KE p k H.p)).trans (cm.aB H1);have de:=eW.bI (dZ.ext cm) (λai aj k=>KE _ k (fK ai aj));have aCu:aN.cell? (p,1)=some ↑(aq c0 hl jv):=aI l8 rfl;have jk:aG D w aN:=(aG.of cm).trans eW;have lM:=I (tg aN (jk.sub (λb aa=>H.sub b (.inl aa))));replace hQ:=I hQ;replace jk:=I jk;replace rC:=I rC;replace l8:=I l8;replace de:=I de;have bx:=I cm.size;clear eW eI wQ;go_wp2_with fail;go_region_law (first|(refine H6 (ys0:=ys) (ys:=cq) (c:=gL.cs) rfl (.tmp 31) (.tmp 33) 114 107 rfl dc _ 24 underlying114 eo dB ej fe rfl af rfl (de.ext (fT.trans X)) (hX _) rfl (cz.cg.aF.ext X) gL.cN (by have:=ae7.out cq D3;have:=cz.cg.neq;omega) af (by have:=ae7.out cq D3;have:=cz.cg.neq;omega) ?_;intro g dJ b3 qM Ye;have SV:=Ye.aB ((show Z aY _ from X).aB qN) (λai aj k=>de.eQ l8 af ai aj k);have aCv:=aI (o:=1) SV rfl;have aCw:∀j,b3.frozen? ⟨p,j,none⟩=false:=(λj=>nS SV);have dW:=I qM;have zV:=I Ye;have ae8:=I SV;clear qM Ye SV)|(rw[bm (show _=true by simp[Region.wanted])];go_simp;go_at_call 79;refine(Ya _ _ _ xs _ (lM.ext X) J (λx U=>(eU x U).2)).mono ?_;rintro e aY⟨a3,gF,_,cq,rfl,Ga,zT,jV⟩;have qN:=jV.aB ((show Z aN _ from X).aB l8);have aCx:=aI (o:=1) qN rfl;have cz:=I Ga;have D3:=I zT;have fT:=I (Z.trans (show Z aN _ from X) jV);replace qN:=I qN;clear Ga zT jV))
 all_goals
  go_wp2_with fail
  go_ret
  have pM:(w:Nat)<=(aN:Nat):=jk.size
  have H7:=hQ.cx
  have D4:∀b,L b->b<(w:Nat):=λb aa=>H.cx b (H.sub b (.inr aa))
  have Oh:=H.cx
  have Gb:=fT.size
  have vN:=dW.lt _ rfl
  simp only at vN
  have arz:=zV.at_
  have Yf:aG L aN (b3.setCell (p,1) (.slice (some (g,0)) (hl+gF) dJ)):=by
   refine aG.setCell (S:=L) ?_ (p,1) (.inl H.p) _
   have jV:=fT.out
   exact aG.trans (aG.of (show Z aN _ from by exact X)) ⟨zV.os,zV.tape,zV.output,zV.size,λb aa pH=>zV.block b aa (λai aj e=>pH (e▸fK.out ai aj))⟩
  have Yg:aG L aY (b3.setCell (p,1) (.slice (some (g,0)) (hl+gF) dJ)):=by
   refine aG.setCell (S:=L) ?_ (p,1) (.inl H.p) _
   exact aG.trans (aG.of (show Z aY _ from by exact X)) ⟨zV.os,zV.tape,zV.output,zV.size,λb aa pH=>zV.block b aa (λai aj e=>pH (e▸fK.out ai aj))⟩
  have g3:=zV.size
  have KF:∀b,sw b->¬L b:=λb aa aT=>(rC.new b aa).elim (λk=>KE b k aT) (λk=>by have:=D4 b aT;have:=bx.out;omega)
  have wR:L g\/g=(aY:Nat):=arz.imp (fun⟨ai,aj,e⟩=>e▸fK.out ai aj) id
  have Yh:(b3.setCell (p,1) (.slice (some (g,0)) (hl+gF) dJ)).heap.size=(b3:Nat):=by simp[World.setCell]
  have pL:=dW.nh ae8 (j:=1) af (.slice (some (g,0)) (hl+gF) dJ)
  have KG:=cz.dT Yg (λb aa=>by have:=D4 b aa;show b<(aN:Nat);omega)
  have A6:b4 w M (la M (oE sw (λb=>L b\/b=g))):=⟨λb aa=>.inl aa,λb aa=>by
   rcases aa with aa|aa|aa|aa
   ·exact .inl aa
   ·exact(rC.new b aa).elim (λk=>.inl (H.sub b (.inl k))) (λk=>.inr (eh bx k))
   ·exact .inl (H.sub b (.inr aa))
   ·subst aa
    exact wR.elim (λk=>.inl (H.sub _ (.inr k))) (λk=>.inr J)⟩
  have arA:=hh.step ((jk.sub (λb aa=>H.sub b (.inl aa))).trans (Yf.sub (λb aa=>H.sub b (.inr aa)))) A6
  have Yi:=KG.pJ (M:=la M (oE sw (λb=>L b\/b=g))) (λb aa=>by
   rcases aa with aa|aa|aa|aa
   ·have:=Oh b aa;exact .inl (show b<(aN:Nat) by omega)
   ·exact .inl (H7 b aa)
   ·have:=D4 b aa;exact .inl (show b<(aN:Nat) by omega)
   ·subst aa
    rcases pL.row.2 with ⟨bo,_⟩|⟨FE,aQ,cur,bo,_,bu,_⟩
    ·cases bo
    ·simp only[Value.slice.injEq,Option.some.injEq,Addr.mk.injEq,FJ]at bo
     obtain⟨rfl,_⟩:=bo
     exact .inr (.inr ⟨_,_,_,bu,af⟩))
  refine⟨rfl,sw,λb=>L b\/b=g,⟨?_,⟨some (g,0),hl+gF,dJ,ys++cq,er ae8 1 _,pL,λai aj=>by cases aj;exact .inr rfl,by rw[gS,gu.out,D3.out],λw' al y hy=>(iR.1 hy).elim (λk=>arA w' al y k) (λk=>Yi w' al y k)⟩,.inl H.p,λb aa=>.inr aa,λb aa=>?_,λb aa aT=>?_,?_⟩,(jk.sub (λb aa=>.inl aa)).trans (Yf.sub (λb aa=>.inr aa)),⟨rC.up,λb aa=>(rC.new b aa).imp id (λk=>eh bx k)⟩,⟨λb aa=>.inl aa,λb aa=>?_⟩⟩
  ·have e:gb (jd++xs.map (·.ay))=gb jd++gb (xs.map (·.ay)):=by unfold gb;rw[List.flatMap_append]
   rw[e]
   exact hQ.dT Yf KF
  ·rw[Yh]
   rcases aa with aa|aa|aa|aa
   ·have:=Oh b aa;omega
   ·have:=H7 b aa;omega
   ·have:=D4 b aa;omega
   ·subst aa;exact vN.2
  ·rcases aT with aT|aT
   ·exact KF b aa aT
   ·subst aT
    have:=H7 _ aa
    exact wR.elim (λk=>KF _ aa k) (λk=>by omega)
  ·intro x U
   rcases iR.1 U with U|U
   ·exact H.ok x U
   ·obtain⟨y,hy,rfl⟩:=kN.1 U
    exact eU y hy
  ·rcases aa with aa|aa
   ·exact .inl aa
   ·subst aa
    exact wR.elim .inl (λk=>.inr J)
def arB(M D L:ff)(p q:Nat)(jd:List (dR))(gM room:Nat)(a:bk)(n c:Nat)(xs:List gL)(w:aC)(H:qf w M D L p q jd gM room)(DN:dq M w (λw=>wP w a n c xs))(an:n<=1000)(eU:∀x,x∈xs->1<=x.ay.length/\x.ay.length<=4000)(bc:room<(gb jd).length+(gb (xs.map (·.ay))).length):
  aR 311 #[p,aq a n c] w (cM (bh 90) w):=by
 obtain⟨_,_,_,_,ae,ak,aM,bn,cb⟩:=H.ct;have eI:w.cell? (p,0)=some ↑q:=aI ae rfl;have bN:=I DN.dQ;replace H:=I H;clear DN ae ak aM bn cb;go_enter func311,ntmps311;go_wp2_with fail;refine(Yb _ _ _ xs _ bN J eU).mono ?_;rintro e _⟨cL,_,_,rfl,dn,cm⟩;have fu:=dn.neq;have wQ:=cm.ah eI;replace dn:=I dn;replace fu:=I fu;replace cm:=I cm;go_wp2_with fail;refine(arn D q _ _ _ _ _ _ _ _ (H.zU.ext cm) dn.aF (by rw[fu.out];exact bc)).mono ?_;rintro e _⟨rfl,gj⟩;replace gj:=I gj;go_wp2_with fail;go_ret;exact⟨rfl,cm.trans gj⟩
def aG.wS{ae9:ff}{w1 aN:aC}(h:aG S w w1)(k:aG ae9 w1 aN)(bc:∀b,ae9 b->S b\/(w:Nat)<=b):aG S w aN:=
 ⟨k.os.trans h.os,k.tape.trans h.tape,k.output.trans h.output,eh h.size k.size,λb aa an=>(k.block b (gw aa h.size) (λq=>(bc b q).elim an (λz=>by omega))).trans (h.block b aa an)⟩
def qf.arC{D L:ff}{p:Nat}{jd:List (dR)}{m:Nat}(h:qf w M D L p q jd gM room)(aD:ly w' D q (gb jd) m room)(al:aG D w w'):qf w' M D L p q jd m room:=by
 obtain⟨c0,hl,jv,ys,ae,ak,aM,bn,cb⟩:=h.ct;exact⟨aD,⟨c0,hl,jv,ys,(al.block _ (bT ae) (λk=>h.gK p k h.p)).trans ae,al.bI ak (λai aj k=>h.gK _ k (aM ai aj)),aM,bn,cb.step (al.sub (λb aa=>h.sub b (.inl aa))) (b4.refl _ _)⟩,h.p,h.sub,λb aa=>gw (h.cx b aa) al.size,h.gK,h.ok⟩
def arD(M D L:ff)(p q:Nat)(jd:List (dR))(gM room:Nat)(a:bk)(n c:Nat)(xs:List gL)(w:aC)(H:qf w M D L p q jd gM room)(tg:dq M w (λw=>wP w a n c xs))(aW:0<n)(an:n<=1000)(eU:∀x,x∈xs->1<=x.ay.length/\x.ay.length<=4000)(bc:(gb jd).length+(gb (xs.map (·.ay))).length<=room):
  aR 288 #[p,aq a n c] w λe w'=>e=.returned ar/\∃bP lf,qf w' (la M (oE bP lf)) bP lf p q (jd++xs.map (·.ay)) (gb (jd++xs.map (·.ay))).length room/\aG (oE D L) w w'/\b4 w D bP/\b4 w L lf:=by
 change Hid _ at H tg;go_enter func288,ntmps288;go_wp2_with fail;refine(arx M D L p q jd gM room a n c xs _ H tg aW an eU bc).mono ?_;rintro e w1⟨rfl,Cq,y2,wT,h8,oR,afa⟩;obtain⟨_,_,_,_,ae,-⟩:=wT.ct;have eI:w1.cell? (p,0)=some ↑q:=aI ae rfl;change Hid _ at wT h8 oR afa;clear ae;go_wp2_with fail;refine(ark Cq q _ _ _ _ wT.zU).mono ?_;rintro e _⟨rfl,hQ,jk⟩;change Hid _ at hQ jk;go_wp2_with fail;go_ret;refine⟨rfl,Cq,y2,wT.arC hQ jk,h8.wS jk (λb aa=>(oR.new b aa).imp .inl id),oR,afa⟩
def arE(M D L:ff)(p q:Nat)(jd:List (dR))(gM room:Nat)(a:bk)(n c:Nat)(xs:List gL)(w:aC)(H:qf w M D L p q jd gM room)(tg:dq M w (λw=>wP w a n c xs))(an:n<=1000)(eU:∀x,x∈xs->1<=x.ay.length/\x.ay.length<=4000)(bc:room<(gb jd).length+(gb (xs.map (·.ay))).length):
  aR 288 #[p,aq a n c] w (cM (bh 90) w):=by
 change Hid _ at H tg;go_enter func288,ntmps288;go_wp2_with fail;refine qA (arB M D L p q jd gM room a n c xs _ H tg an eU bc) λw1 bB=>?_;go_wp2_with fail;go_ret;exact⟨rfl,bB⟩
def arF(M D L:ff)(p q:Nat)(jd:List (dR))(gM room:Nat)(a:bk)(n c:Nat)(xs:List gL)(w:aC)(H:qf w M D L p q jd gM room)(tg:dq M w (λw=>wP w a n c xs))(an:n<=200000)(eU:∀x,x∈xs->1<=x.ay.length/\x.ay.length<=4000)(bc:(gb (xs.map (·.ay))).length<=room):
  aR 188 #[p,aq a n c] w λe w'=>e=.returned ar/\∃bP lf,qf w' (la M (oE bP lf)) bP lf p q (xs.map (·.ay)) (gb (xs.map (·.ay))).length room/\aG (oE D L) w w'/\b4 w D bP/\b4 w L lf:=by
 obtain⟨_,_,_,_,H1,ak,aM,bn,cb⟩:=H.ct;have eI:w.cell? (p,0)=some ↑q:=aI H1 rfl;have bN:=I tg.dQ;replace tg:=I tg;replace H:=I H;replace H1:=I H1;clear ak aM bn cb;go_enter func188,ntmps188;go_wp2_with fail;refine(Yb _ _ _ xs _ bN J eU).mono ?_;rintro e _⟨cL,_,_,rfl,dn,cm⟩;have fu:=dn.neq;have wQ:=cm.ah eI;replace dn:=I dn;replace fu:=I fu;replace cm:=I cm;go_wp2_with fail;refine(arp D q _ (gb (xs.map (·.ay))) _ _ _ _ _ _ (H.zU.ext cm) dn.aF (by rw[fu.out];exact bc)).mono ?_;rintro e aN⟨rfl,sw,hQ,eW,rC⟩;have KE:=H.gK;have l8:=(eW.block p (bT (cm.aB H1)) (λk=>KE p k H.p)).trans (cm.aB H1);have jk:aG D w aN:=(aG.of cm).trans eW;have lM:=I (tg aN (jk.sub (λb aa=>H.sub b (.inl aa))));replace hQ:=I hQ;replace jk:=I jk;replace rC:=I rC;replace l8:=I l8;have bx:=I cm.size;clear eW eI wQ;go_wp2_with fail;refine(Ya _ _ _ xs _ lM J (λx U=>(eU x U).2)).mono ?_;rintro e aY⟨a3,gF,da,cq,rfl,cz,D3,fT⟩;have qN:=fT.aB l8;obtain⟨_,_,_⟩:=Sj qN;replace cz:=I cz;replace D3:=I D3;replace fT:=I fT;replace qN:=I qN;go_wp2_with fail;go_ret;have pM:(w:Nat)<=(aN:Nat):=jk.size;have H7:=hQ.cx;have D4:∀b,L b->b<(w:Nat):=λb aa=>H.cx b (H.sub b (.inr aa));have Oh:=H.cx;have Gb:=fT.size;have Oi:aG L aN (aY.setCell (p,1) (aq a3 gF da)):=aG.setCell (S:=L) (aG.of fT) (p,1) (.inl H.p) _;have Yg:aG L aY (aY.setCell (p,1) (aq a3 gF da)):=aG.setCell (S:=L) (aG.refl _ aY) (p,1) (.inl H.p) _;have Yh:(aY.setCell (p,1) (aq a3 gF da)).heap.size=(aY:Nat):=by simp[World.setCell]
 have KF:∀b,sw b->¬L b:=λb aa aT=>(rC.new b aa).elim (λk=>KE b k aT) (λk=>by have:=D4 b aT;have:=bx.out;omega);have KG:=cz.dT Yg (λb aa=>by have:=D4 b aa;omega)
 have Yi:=KG.pJ (M:=la M (oE sw (λb=>L b\/∃ai,a3=some ai/\ai.block=b))) (λb aa=>by
  rcases aa with aa|aa|aa|aa
  ·have:=Oh b aa;exact .inl J
  ·exact .inl (H7 b aa)
  ·have:=D4 b aa;exact .inl J
  ·exact .inr (.inl aa))
 refine⟨rfl,sw,λb=>L b\/∃ai,a3=some ai/\ai.block=b,⟨hQ.dT Oi KF,⟨a3,gF,da,cq,er qN 1 _,KG.cg.mono (hX _),λai aj=>.inr ⟨ai,aj,rfl⟩,D3,Yi⟩,.inl H.p,λb aa=>.inr aa,λb aa=>?_,λb aa aT=>?_,λx U=>?_⟩,(jk.sub (λb aa=>.inl aa)).trans (Oi.sub (λb aa=>.inr aa)),⟨rC.up,λb aa=>(rC.new b aa).imp id (λk=>eh bx k)⟩,⟨λb aa=>.inl aa,λb aa=>?_⟩⟩
 ·rw[Yh];rcases aa with aa|aa|aa|⟨ai,aj,rfl⟩
  ·have:=Oh b aa;omega
  ·have:=H7 b aa;omega
  ·have:=D4 b aa;omega
  ·exact(cz.cg.lt ai aj).2
 ·rcases aT with aT|⟨ai,aj,rfl⟩
  ·exact KF b aa aT
  ·have:=H7 _ aa;have:=(cz.cg.lt ai aj).1;omega
 ·obtain⟨y,hy,rfl⟩:=kN.1 U;exact eU y hy
 ·rcases aa with aa|⟨ai,aj,rfl⟩
  ·exact .inl aa
  ·have:=(cz.cg.lt ai aj).1;exact .inr J
def SX(x:b1)(d:bg)(w:aC)(bb:h0 w x d)(hs:mo d):aR 138 #[x] w (Nh d w):=by
 refine Ni ?_;intro ca bJ bF bG bK dc eo dB ej fe eI mZ na nb nc dz kv kg dp a6 he aj;obtain⟨hL,mK,hM,mL,⟨fA,fn,fB⟩,⟨dK,_,dM⟩⟩:=x;dsimp only at dp kg ⊢;obtain rfl:=kg.aF.neq;refine Nj ?_;intro hm Kc Kd dA;replace bb:=I bb;replace dp:=I dp;replace kg:=I kg;replace kv:=I kv;replace bJ:=I bJ;replace bF:=I bF;replace bG:=I bG;replace bK:=I bK;replace eo:=I eo;replace dB:=I dB;replace ej:=I ej;replace fe:=I fe;replace mZ:=I mZ;replace na:=I na;replace nb:=I nb;replace nc:=I nc;clear a6 he aj hs;go_enter func138,ntmps138;refine Nk ?round;intro aw dL w1 cT c1 c2 da dJ dw eC eK gh dr eF fN hx kx nO tM uM yJ dn bx AL s3 _ _ gk wr u3 u5 u13 u14 u15 u16 u17 u18 u19 u20 u21 u22 hrel _ _ _ _;case round=>
  obtain⟨k,ab,m,aQ,ys,_,rfl,rfl,aE,U⟩:=hrel;refine Nl ?_;intro hk
  ·refine Ke ?_;intro b9;rw[b9]at aE;refine Nn ?_;clear cT c1 c2 da dJ dw eC eK gh dr eF fN hx kx nO tM uM yJ;intro gn q1 dP fp iw ov xu DJ lN e3 ju oP uR s4 uS tP Kf Kg DK jI;go_wp2_with fail;refine bodyPost_ret (v:=.agg #[hL,mK.b,ad mK.l,ad mK.s,hM,ad mL,aq aw fn dL,aq ab m aQ]) (by simp[results,results138,go_sem,lN,e3,ju,oP,uR,s4,uS,tP]) rfl ⟨⟨hL,mK,hM,mL,⟨aw,fn,dL⟩,⟨ab,m,aQ⟩⟩,rfl,⟨bb.out.k,bb.out.id,bb.out.c,bb.out.u,Own.mono (base:=(w:Nat)+1+1) ?_ (No (oN _)),ys,by rw[aE.out.2.1,kv.out],Own.mono (base:=(w1:Nat)) ?_ (lr s3),λy hy=>Own.mono (base:=(w1:Nat)) ?_ (lr s3)⟩,?_⟩;exact Np;exact Nq;exact Nr;exact Ns
def arG(x:b1)(d:bg)(w:aC)(bb:h0 w x d)(hs:mo d):aR 122 #[x] w (Nh d w):=by
 refine Ni ?_;intro ca bJ bF bG bK dc eo dB ej fe eI mZ na nb nc dz kv kg dp a6 he aj;obtain⟨hL,mK,hM,mL,⟨fA,fn,fB⟩,⟨dK,_,dM⟩⟩:=x;dsimp only at dp kg ⊢;obtain rfl:=kg.aF.neq;refine Nj ?_;intro hm Kc Kd dA;replace bb:=I bb;replace dp:=I dp;replace kg:=I kg;replace kv:=I kv;replace bJ:=I bJ;replace bF:=I bF;replace bG:=I bG;replace bK:=I bK;replace eo:=I eo;replace dB:=I dB;replace ej:=I ej;replace fe:=I fe;replace mZ:=I mZ;replace na:=I na;replace nb:=I nb;replace nc:=I nc;clear a6 he aj hs;go_enter func122,ntmps122;refine Nk ?round;intro aw dL w1 cT c1 c2 da dJ dw eC eK gh dr eF fN hx kx nO tM uM yJ dn bx AL s3 _ _ gk wr u3 u5 u13 u14 u15 u16 u17 u18 u19 u20 u21 u22 hrel _ _ _ _;case round=>
  obtain⟨k,ab,m,aQ,ys,_,rfl,rfl,aE,U⟩:=hrel;refine Nl ?_;intro hk
  ·refine Ke ?_;intro b9;rw[b9]at aE;refine Nn ?_;clear cT c1 c2 da dJ dw eC eK gh dr eF fN hx kx nO tM uM yJ;intro gn q1 dP fp iw ov xu DJ lN e3 ju oP uR s4 uS tP Kf Kg DK jI;go_wp2_with fail;refine bodyPost_ret (v:=.agg #[hL,mK.b,ad mK.l,ad mK.s,hM,ad mL,aq aw fn dL,aq ab m aQ]) (by simp[results,results122,go_sem,lN,e3,ju,oP,uR,s4,uS,tP]) rfl ⟨⟨hL,mK,hM,mL,⟨aw,fn,dL⟩,⟨ab,m,aQ⟩⟩,rfl,⟨bb.out.k,bb.out.id,bb.out.c,bb.out.u,Own.mono (base:=(w:Nat)+1+1) ?_ (No (oN _)),ys,by rw[aE.out.2.1,kv.out],Own.mono (base:=(w1:Nat)) ?_ (lr s3),λy hy=>Own.mono (base:=(w1:Nat)) ?_ (lr s3)⟩,?_⟩;exact Np;exact Nq;exact Nr;exact Ns
def SY(x:b1)(d:bg)(w:aC)(bb:h0 w x d)(hs:mo d):aR 160 #[x] w (Nh d w):=by
 refine Ni ?_;intro ca bJ bF bG bK dc eo dB ej fe eI mZ na nb nc dz kv kg dp a6 he aj;obtain⟨hL,mK,hM,mL,⟨fA,fn,fB⟩,⟨dK,_,dM⟩⟩:=x;dsimp only at dp kg ⊢;obtain rfl:=kg.aF.neq;refine Nj ?_;intro hm Kc Kd dA;replace bb:=I bb;replace dp:=I dp;replace kg:=I kg;replace kv:=I kv;replace bJ:=I bJ;replace bF:=I bF;replace bG:=I bG;replace bK:=I bK;replace eo:=I eo;replace dB:=I dB;replace ej:=I ej;replace fe:=I fe;replace mZ:=I mZ;replace na:=I na;replace nb:=I nb;replace nc:=I nc;clear a6 he aj hs;go_enter func160,ntmps160;refine Nk ?round;intro aw dL w1 cT c1 c2 da dJ dw eC eK gh dr eF fN hx kx nO tM uM yJ dn bx AL s3 _ _ gk wr u3 u5 u13 u14 u15 u16 u17 u18 u19 u20 u21 u22 hrel _ _ _ _;case round=>
  obtain⟨k,ab,m,aQ,ys,_,rfl,rfl,aE,U⟩:=hrel;refine Nl ?_;intro hk
  ·refine Ke ?_;intro b9;rw[b9]at aE;refine Nn ?_;clear cT c1 c2 da dJ dw eC eK gh dr eF fN hx kx nO tM uM yJ;intro gn q1 dP fp iw ov xu DJ lN e3 ju oP uR s4 uS tP Kf Kg DK jI;go_wp2_with fail;refine bodyPost_ret (v:=.agg #[hL,mK.b,ad mK.l,ad mK.s,hM,ad mL,aq aw fn dL,aq ab m aQ]) (by simp[results,results160,go_sem,lN,e3,ju,oP,uR,s4,uS,tP]) rfl ⟨⟨hL,mK,hM,mL,⟨aw,fn,dL⟩,⟨ab,m,aQ⟩⟩,rfl,⟨bb.out.k,bb.out.id,bb.out.c,bb.out.u,Own.mono (base:=(w:Nat)+1+1) ?_ (No (oN _)),ys,by rw[aE.out.2.1,kv.out],Own.mono (base:=(w1:Nat)) ?_ (lr s3),λy hy=>Own.mono (base:=(w1:Nat)) ?_ (lr s3)⟩,?_⟩;exact Np;exact Nq;exact Nr;exact Ns
section
attribute [local go_sem ↓] Go.wp_at_zero Go.wp_at_succ
def afb(fG:bk)(ei lc:Nat)(xs:List bO)(w:aC)(bU:ja w fG ei lc xs)(DM:∀p,p∈xs->mo p.d)(k5:ei<=1000000):
  aR 72 #[aq fG ei lc] w (R0 (xs.map (·.d)) w):=by
 obtain⟨ca,bJ,bF,bG,bK⟩:=info_parts AM;obtain rfl:=bU.aF.neq;have hm:=bU.aF.max;have aT:=bU.aF.len;unfold maxLen at hm;change Hid _ at bU DM bJ bF bG bK;go_enter func72,ntmps72;go_wp2_with fail;refine adt ?round;intro gk wr u3 u5 u8 u9 u10 u11 u12 u13 u14 u15 u16 u17 hrel _ _ _ _;case round=>
  obtain⟨k,aw,m,aQ,ys,_,rfl,rfl,aE,U⟩:=hrel;by_cases hk:k<xs.length
  ·obtain⟨b,o,rfl,ao⟩:=bU.aF.get k hk;refine W6 ?_;intro cT c1 c2 da dJ dw eC eK bN eH;refine adu ?_;intro hi;obtain rfl:k=m:=hi.symm;refine adv ?_;intro lp;clear ao;refine kt ?_;intro b0 bd;go_wp2_with (first|(go_at_call 122;refine(arG xs[k].x xs[k].d _ (bN.ext X) eH).mono ?_;rintro e w'⟨bX,rfl,ki,cw⟩;have j4:=cw.size;change Hid _ at ki cw)|(at_builtin;refine hf (ys:=ys) rfl _ _ 42 rfl ca _ 96 underlying42 bJ bF bG bK rfl af rfl (aE.out.1.ext X) ⟨bX,xs[k].d⟩ _ rfl (fc (cs:=bO.cs ⟨bX,xs[k].d⟩) rfl) (bO.cN _) J af (Z.size X) ?_;intro g _ _ fY bW;have cz:=I fY;have cv:=I bW;clear fY bW));exact adw
  ·refine se ?_;intro b9;exact adx
end
def A7(ps:List Int)(n:Nat):Bool:=decide (n=0)||decide (0<=ps.getD n 0/\ps.getD n 0<(n:Int))
def jn(ps:List Int):Bool:=decide (1<=ps.length/\ps.length<=16)&&(decide (ps.getD 0 0=-1)&&(List.range ps.length).all (A7 ps))
def Cr(b:Bool):Int:=if b=true then 0 else 120
def arH{ps:List Int}(h:¬(1<=ps.length/\ps.length<=16)):(120:Int)=Cr (jn ps):=by unfold jn;rw[decide_eq_false h];rfl
def arI{ps:List Int}(h:¬ps.getD 0 0=-1):(120:Int)=Cr (jn ps):=by unfold jn;rw[decide_eq_false h,Bool.false_and,Bool.and_false];rfl
def arJ{ps:List Int}(hk:k<ps.length)(h:A7 ps k=false):(120:Int)=Cr (jn ps):=by
 have:(List.range ps.length).all (A7 ps)=false:=JZ.2 ⟨k,qI.2 hk,by rw[h];decide⟩;unfold jn;rw[this,Bool.and_false,Bool.and_false];rfl
def arK{ps:List Int}(h:1<=ps.length/\ps.length<=16)(aW:ps.getD 0 0=-1)(k:(List.range ps.length).all (A7 ps)=true):(0:Int)=Cr (jn ps):=by unfold jn;rw[decide_eq_true h,decide_eq_true aW,k];rfl
def D5{ps:List Int}(hk:k<ps.length):ps.getD k 0=ps[k]:=by rw[xO,fz hk];rfl
def Yj{b o:Nat}{xs:List Int}(h:a1 w 1 dD (some (b,o)) n cap xs)(k:Nat)(hk:k<xs.length):w.cell? (b,o+k)=some ↑xs[k]:=adS
def KH(a:bk)(n cap:Nat)(ps:List Int)(w:aC)(av:a1 w 1 dD a n cap ps):
  aR 29 #[aq a n cap] w (cM (.int .i64 (Cr (jn ps))) w):=by
 obtain rfl:=av.neq;have hm:=av.max;unfold maxLen at hm;change Hid _ at av;by_cases ae:1<=ps.length/\ps.length<=16
 ·obtain⟨ae,ny⟩:=ae;have i1:¬(ps.length:Int)<1:=J;have ht:¬(16:Int)<(ps.length:Int):=J;obtain⟨b,o,rfl,ao⟩:=av.get 0 J;have cT:=Yj av 0 J;rw[uY]at cT;clear ao;by_cases aW:ps[0]=-1
  ·have Yk:=I aW;rw[aW]at cT;clear aW;go_enter func29,ntmps29;go_wp2_with fail;go_loopg [3] (ps.length) (λg dN wr=>∃k:Nat,g+k=ps.length+1/\(1<=k/\k<=ps.length)/\dN=.int .i64 (k:Int)/\Hid ((List.range k).all (A7 ps)=true)/\Hid (Z w wr));case atStart=>exact⟨1,J,J,rfl,I (by simp[A7]),X⟩
   case round=>
    obtain⟨k,_,_,rfl,eU,U⟩:=hrel;by_cases hk:k<ps.length
    ·have arL:=U.ah (Yj av k hk);have hv:(k:Int)<(ps.length:Int):=J;have b0:(0:Int)<=(k:Int):=J;by_cases pn:ps[k]<0;exact afc
     ·by_cases aCy:ps[k]>=(k:Int);exact afc
      ·go_wp2;go_roundg (gk - 1);case measure=>omega
       case rel=>exact⟨k+1,J,J,by go_num,Xx eU (by unfold A7;rw[D5 hk];simp;omega),X⟩
    ·have SZ:k=ps.length:=J;rw[SZ]at eU;clear SZ;go_wp2;go_ret;refine⟨jC (arK ⟨ae,ny⟩ (by rw[D5 J];exact Yk) eU),?_⟩;exact X
  ·have Yk:=I aW;go_enter func29,ntmps29;go_wp2;go_ret;refine⟨jC (arI (by rw[D5 J];exact Yk)),?_⟩;exact X
 ·have H1:=I ae;by_cases aqq:ps.length<1
  ·have i1:(ps.length:Int)<1:=J;exact afd
  ·have i1:¬(ps.length:Int)<1:=J;have ht:(16:Int)<(ps.length:Int):=J;exact afd
def afe{ps:List Int}(h:jn ps=true):(1<=ps.length/\ps.length<=16)/\∀k (hk:k<ps.length),(k=0/\ps[k]=-1)\/(0<k/\0<=ps[k]/\ps[k]<(k:Int)):=by
 unfold jn at h;simp only[ke,jQ,uL,qI]at h;refine⟨h.1,λk hk=>?_⟩;have ak:=h.2.2 k hk;unfold A7 at ak;rw[D5 hk]at ak;by_cases eI:k=0
 ·subst eI;have:=h.2.1;rw[D5 hk]at this;exact .inl ⟨rfl,this⟩
 ·simp[eI]at ak;exact .inr ⟨J,ak.1,ak.2⟩
def Yl(a:bk)(n cap m:Nat)(ps:List Int)(w:aC)(av:a1 w 1 dD a n cap ps)(dp:jn ps=true)(hm:m<n):
  aR 277 #[aq a n cap,(m:Int)] w (cM (.bool true) w):=by
 have b0:(0:Int)<=(m:Int):=J;have bd:(m:Int)<(n:Int):=J;change Hid _ at av dp;go_enter func277,ntmps277;go_wp2_with fail;refine(KH _ _ _ ps _ av).mono ?_;rintro e _⟨he,U⟩;rw[dp.out]at he;have he:e=.returned ar:=he;subst he;change Hid _ at U;go_wp2;go_ret;refine⟨rfl,?_⟩;exact X
def y3(ps:List Int)(a:Nat):Nat->Int->Bool
 |0,_=>false
 |f+1,b=>if b<0 then false else if (a:Int)=b then true else y3 ps a f (ps.getD b.toNat 0)
def qO(ps:List Int)(a b:Nat):Bool:=y3 ps a (ps.length+1) (b:Int)
def arM(s:bk)(n cap a b:Nat)(ps:List Int)(w:aC)(av:a1 w 1 dD s n cap ps)(dp:jn ps=true)(aj:a<n)(aa:b<n):
  aR 279 #[aq s n cap,(a:Int),(b:Int)] w (cM (.bool (qO ps a b)) w):=by
 obtain rfl:=av.neq;have hm:=av.max;unfold maxLen at hm;change Hid _ at av dp;go_enter func279,ntmps279;go_wp2_with fail;go_step3;go_wp2_with fail;refine qA (Yl _ _ _ a ps _ av dp aj) λw1 bw=>?_;go_wp2_with fail;refine qA (Yl _ _ _ b ps _ (av.ext bw) dp aa) λaN cj=>?_;go_wp2_with fail;go_step3;go_wp2_with fail;obtain⟨⟨ae,_⟩,aV⟩:=afe dp;go_loopg [2,7] (ps.length+1) (λg bv lu wr=>∃(f:Nat) (v:Int),g=f/\bv=.int .i64 v/\lu=.bool false/\v<(f:Int)/\v<(ps.length:Int)/\Hid (y3 ps a f v=qO ps a b)/\Hid (Z w wr));case atStart=>exact⟨ps.length+1,(b:Int),rfl,rfl,rfl,J,J,rfl,X⟩
 case round=>
  obtain⟨f,v,rfl,rfl,rfl,bc,_,qg,U⟩:=hrel;by_cases aW:v<0
  ·have aCz:¬0<=v:=J;go_wp2_with fail;go_ret;refine⟨iW ?_,?_⟩
   ·rw[<-qg.out];cases gk with
    |zero=>rfl
    |succ f=>show false=(if v<0 then false else _);rw[bm aW]
   ·exact X
  ·obtain⟨k,rfl⟩:∃k:Nat,v=(k:Int):=⟨v.toNat,J⟩;have hk:k<ps.length:=J;obtain⟨Gc,rfl⟩:∃Gc,gk=Gc+1:=⟨gk - 1,J⟩;have H8:=qg.out;rw[show y3 ps a (Gc+1) (k:Int)=(if (k:Int)<0 then false else if (a:Int)=(k:Int) then true else y3 ps a Gc (ps.getD (k:Int).toNat 0))from rfl,bj aW,nQ,D5 hk]at H8;change Hid _ at H8;clear qg;by_cases jS:a=k
   ·subst jS;go_wp2_with fail;go_ret;refine⟨iW (by rw[<-H8.out];simp),?_⟩;exact X
   ·obtain⟨_,_,rfl,ao⟩:=av.get k hk;have arL:=U.ah (Yj av k hk);have b0:(0:Int)<=(k:Int):=J;have Oj:¬(a:Int)=(k:Int):=J;have fM:=aV k hk;clear ao;go_wp2_with fail;go_roundg Gc;case measure=>omega
    case rel=>exact⟨Gc,ps[k],rfl,rfl,rfl,J,J,I (by rw[<-H8.out,bj Oj]),X⟩
end Go.Proofs.YtfiiblnenhdlhaaGreat
