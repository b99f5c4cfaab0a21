/- Part. -/
import Derived.Test.YtfiiblnenhdlhaaGreatG6
import Derived.Test.YtfiiblnenhdlhaaGreatG8
set_option linter.unusedVariables false
set_option linter.unusedSimpArgs false
set_option linter.defProp false
set_option maxRecDepth 100000
set_option maxHeartbeats 4000000
namespace Go.Proofs.YtfiiblnenhdlhaaGreat
open Go.RowKit Tryz
variable {buf:Array Value}{ps:List bO}{aX:List bg}{dI:Lit}{B b base cap k n p q sz:Nat}{D M O S:Nat->Prop}{fr:Nat×Nat}{a aw:Option Addr}{α:Type}{e t:TypeId}{key:Value}{w w':World}{d:bg}{c:bt}{r:gJ}
section
structure mC (w:World) (q p:Nat) (L:Int) (xs:List UInt8):Prop where
 box:w.heap[q]?=some (.cells #[p,L,.bool false] 314 (0,0))
 hn:jW w p xs
section
variable {w w':World}{q p R:Nat}{L:Int}{xs ys:List UInt8}
def mC.gQ(h:mC w q p L xs):q≠p:=by
 obtain⟨b,o,n,ae,_⟩:=h.hn.ct;rintro rfl;have:=h.box.symm.trans ae;simp at this
def mC.ext(h:mC w q p L xs)(U:Z w w'):mC w' q p L xs:=⟨U.aB h.box,h.hn.ext U⟩
def mC.oB(h:mC w q p L xs)(ax:jW w' p ys)(al:aG (·=p) w w'):mC w' q p L ys:=⟨(al.block _ (bT h.box) h.gQ).trans h.box,ax⟩
def mC.jD{cs:Array Value}(h:mC w q p L xs)(al:aG (·=R) w w')(bC:w.heap[R]?=some (.cells cs t fr))(ae:t≠274)(ak:t≠5)(aM:t≠314):mC w' q p L xs:=by
 refine⟨(al.block _ (bT h.box) ?_).trans h.box,h.hn.jD al bC ae ak⟩;rintro rfl;have:=h.box.symm.trans bC;simp only[Option.some.injEq,Obj.cells.injEq]at this;exact aM this.2.1.symm
end
def II(q p m lim:Nat)(L:Int)(xs:dR)(w:aC)(H:mC w q p L (cJ m++xs))(hm:m<lim)(aT:lim<=1000):
  aR 231 #[q,ad (lim:Int)] w λe w'=>e=.returned (ad (m:Int))/\mC w' q p L xs/\aG (·=p) w w':=by
 change Hid _ at H;obtain⟨cT,c1,c2⟩:=iE (H.box);have Th:¬(lim:Int)<=(m:Int):=J;go_enter func231,ntmps231;go_wp2_with fail;refine(oy p m xs _ H.hn uZ).mono ?_;rintro e _⟨rfl,H1,dZ⟩;change Hid _ at H1 dZ;clear cT c1 c2;go_wp2;go_ret;exact⟨rfl,H.oB H1 dZ,dZ⟩
def ahA(gn p:Nat)(Zs:Int)(i:aA)(xs:dR)(w:aC)(cR:mC w gn p Zs (ia i++xs))(aO:dx i):
  Calls prog 237 #[gn] w λe w'=>e=.returned (.agg #[i.b,ad i.l,ad i.s])/\mC w' gn p Zs xs/\aG (·=p) w w':=by
 obtain⟨b,l,s⟩:=i;obtain⟨aa,aT,hs⟩:=aO;dsimp only at aa aT hs ⊢;obtain⟨q,rfl⟩:∃q:Nat,b=(q:Int):=⟨b.toNat,J⟩;obtain⟨L,rfl⟩:∃q:Nat,l=(q:Int):=⟨l.toNat,by unfold kP at aT;omega⟩;obtain⟨S,rfl⟩:∃q:Nat,s=(q:Int):=⟨s.toNat,by unfold kP at hs;omega⟩;refine SE ?_;intro fH zR;unfold ia at cR;simp only[iI,nQ]at cR;have aV:=cR.hn.lt;change Hid _ at cR;clear aT hs;go_enter func237,ntmps237;go_wp2_with fail;refine(II gn p q 16 Zs (cJ L++(cJ S++xs)) _ (cR.ext X) J af).mono ?_;rintro e w1⟨rfl,c6,tV⟩;have km:w1.heap[(w:Nat)]?=some (kR:Obj):=(tV.block _ (by simp) J).trans (heap_alloc_new _ _);have xG:=c6.hn.lt;have h8:aG (·=p) w w1:=((aG.refl _ w).alloc _).trans tV;have agC:IntKind.i64.wrap (q:Int)=(q:Int):=by simp only[IntKind.wrap_i64];omega
 obtain⟨cT,c1,c2⟩:=iE ((c6.ext ((Z.refl w1).alloc (.cells #[(q:Int),au,au] 54))).box);change Hid _ at c6 h8 km;clear tV;go_wp2_with fail;refine(oy p L (cJ S++xs) _ (c6.ext X).hn fH).mono ?_;rintro e aN⟨rfl,ahB,eW⟩;have mP:=(c6.ext ((Z.refl w1).alloc (.cells #[(q:Int),au,au] 54))).oB ahB eW;refine aep ?_;intro tb tc;have rm:aG (·=p) w aN:=(h8.alloc _).trans eW;have ft:=h8.size;have jk:aG (·=p) w (aN.setCell ⟨w1.heap.size,1,none⟩ (.int .u64 (L:Int))):=rm.setCell ⟨w1.heap.size,1,none⟩ (.inr ft) _;have lM:aG (λx=>x=w1.heap.size) aN (aN.setCell ⟨w1.heap.size,1,none⟩ (.int .u64 (L:Int))):=aG.setCell (S:=λx=>x=w1.heap.size) (aG.refl _ aN) ⟨w1.heap.size,1,none⟩ (.inl rfl) _;have de:=mP.jD lM tc af af af;clear cT c1 c2 ahB;obtain⟨cT,c1,c2⟩:=iE (de.box);obtain⟨cF,cP,cQ,e7⟩:=sn (show aN.heap[(w1:Nat)]?=some (.cells #[(q:Int),au,au] _ _)from tc);have Co:=bT tc;have di:¬(w:Nat)=(w1:Nat):=sv (bT km);change Hid _ at de jk lM tb tc;clear mP eW rm;go_wp2_with fail;refine(oy p S xs _ de.hn zR).mono ?_;rintro e aY⟨rfl,ahC,h4⟩;have h9:=de.oB ahC h4;have H0:aY.heap[(w1:Nat)]?=some (.cells #[(q:Int),ad (L:Int),au] 54):=(h4.block _ (gw Co lM.size) J).trans (er tc 1 _);have DY:aY.heap[(w:Nat)]?=some (kR:Obj):=(h4.block _ (gw (bT tb) lM.size) J).trans ((lM.block _ (bT tb) di).trans tb);have iK:=jk.trans h4;clear cF cP cQ e7 cT c1 c2 ahC;obtain⟨_,_,_,_⟩:=sn (show aY.heap[(w1:Nat)]?=some (.cells #[(q:Int),ad (L:Int),au] _ _)from H0);obtain⟨z0,cU,z2,_⟩:=sn (show aY.heap[(w:Nat)]?=some (.cells #[ar,au,au] _ _)from DY);change Hid _ at h9 iK DY H0;clear h4;go_wp2_with fail;refine aer ?_;intro yV;have oA:=h9.jD yV H0 af af af;have fN:=(yV.block _ (bT DY) di).trans DY;refine bodyPost_ret (v:=.agg #[(q:Int),ad (L:Int),ad (S:Int)]) (by simp[results,results237,go_sem,z0,cU,z2,di]) rfl ⟨rfl,oA.jD (zK (S:=λx=>x=w.heap.size) (aG.refl _ _) (R:=w.heap.size) (.inl rfl) 0 1 2 _ _ _) fN af af af,zK (iK.setCell ⟨w1.heap.size,2,none⟩ (.inr ft) _) (.inr (bA _)) 0 1 2 _ _ _⟩
end
def auf(q p:Nat)(L:Int)(v:V)(xs:dR)(w:aC)(cR:mC w q p L (uh v++xs))(bb:dx v.id):
  Calls prog 233 #[q] w λe w'=>e=.returned (.agg #[v.id.b,ad v.id.l,ad v.id.s,v.kO])/\mC w' q p L xs/\aG (·=p) w w':=by
 obtain⟨i,y⟩:=v;dsimp only at bb ⊢;unfold uh at cR;rw[iI]at cR;have aV:=cR.hn.lt;change Hid _ at cR bb;go_enter func233,ntmps233;go_wp2_with fail;refine(ahA q p L i _ _ (cR.ext X) bb).mono ?_;rintro e w1⟨rfl,c6,tV⟩;have km:w1.heap[(w:Nat)]?=some (.cells #[ar,au,au,.bool false] 294):=(tV.block _ (by simp) J).trans (heap_alloc_new _ _);have h8:aG (·=p) w w1:=((aG.refl _ w).alloc _).trans tV;change Hid _ at c6 h8 km;go_wp2_with fail;refine(II q p _ 2 L xs _ (c6.ext X) (by split<;>decide) af).mono ?_;rintro e aN⟨rfl,mP,eW⟩;have tb:=(eW.block _ (by have:=bT km;simp;omega) J).trans ((((Z.refl w1).alloc (.cells #[i.b,ad i.l,ad i.s,.bool false] 294)).block _ (bT km)).trans km);have tc:aN.heap[(w1:Nat)]?=some (.cells #[i.b,ad i.l,ad i.s,.bool false] 294):=(eW.block _ (by simp) (by have:=h8.size;omega)).trans (heap_alloc_new _ _);have jk:aG (·=p) w aN:=(h8.alloc _).trans eW;have ft:=h8.size;have di:¬(w:Nat)=(w1:Nat):=sv (bT km);have de:=I ((c6.ext ((Z.refl w1).alloc (.cells #[i.b,ad i.l,ad i.s,.bool false] 294))).oB mP.hn eW);obtain⟨_,_,_,_⟩:=vx tc;obtain⟨z0,cU,z2,z3⟩:=vx tb;have e7:∀j,aN.frozen? ⟨(w1:Nat),j,none⟩=false:=λj=>nS tc;have mx:∀j,aN.frozen? ⟨(w:Nat),j,none⟩=false:=λj=>nS tb;change Hid _ at jk tb tc;cases y with
 |true=>
  rw[bm rfl];go_wp2_with fail;have yV:aG (λx=>x=(w1:Nat)) aN (aN.setCell (w1,3) (.bool true)):=aG.setCell (S:=λx=>x=(w1:Nat)) (aG.refl _ aN) (w1,3) (.inl rfl) _;have oA:=de.jD yV tc af af af;have fN:=(yV.block _ (bT tb) di).trans tb;refine bodyPost_ret (v:=.agg #[i.b,ad i.l,ad i.s,.bool true]) (by simp[results,results233,go_sem,z0,cU,z2,z3,di]) rfl ⟨rfl,oA.jD (CE (S:=λx=>x=w.heap.size) (aG.refl _ _) (R:=w.heap.size) (.inl rfl) _ _ _ _) fN af af af,CE (jk.setCell ⟨w1.heap.size,3,none⟩ (.inr ft) _) (.inr (bA _)) _ _ _ _⟩
 |false=>
  rw[bj af];go_wp2_with fail;have yV:aG (λx=>x=(w1:Nat)) aN (aN.setCell (w1,3) (.bool false)):=aG.setCell (S:=λx=>x=(w1:Nat)) (aG.refl _ aN) (w1,3) (.inl rfl) _;have oA:=de.jD yV tc af af af;have fN:=(yV.block _ (bT tb) di).trans tb;refine bodyPost_ret (v:=.agg #[i.b,ad i.l,ad i.s,.bool false]) (by simp[results,results233,go_sem,z0,cU,z2,z3,di]) rfl ⟨rfl,oA.jD (CE (S:=λx=>x=w.heap.size) (aG.refl _ _) (R:=w.heap.size) (.inl rfl) _ _ _ _) fN af af af,CE (jk.setCell ⟨w1.heap.size,3,none⟩ (.inr ft) _) (.inr (bA _)) _ _ _ _⟩
def fO.ahD{x:b1}{cs:Array Value}(h:fO w base x d)(aa:w.heap[B]?=some (.cells cs 66 fr))(al:aG (λx=>x=B) w w'):fO w' base x d:=
 let ⟨ys,q,o,a⟩:=h.e
 ⟨h.k,h.id,h.c,h.u,al.bI h.f (h.f.eQ aa af),ys,q,al.bI o (o.eQ aa af),λy hy=>al.bI (a y hy) ((a y hy).eQ aa af)⟩
def aug(q p:Nat)(L:Int)(d:bg)(xs:dR)(w:aC)(cR:mC w q p L (gi (hA d)++xs))(c5:hP d)(bL:((hA d).length:Int)<=L/\L<=10000000):
  aR 235 #[q] w λe w'=>∃x:b1,e=.returned (.agg #[x.k,x.id.b,ad x.id.l,ad x.id.s,x.c,ad x.u,x.f,x.e])/\fO w' w x d/\mC w' q p L xs/\aG (·=p) w w':=by
 have aV:=cR.hn.lt;replace cR:=I cR;replace c5:=I c5;replace bL:=I bL;go_enter func235,ntmps235;go_wp2_with fail;have hB:=I (cR.ext (((Z.refl w).alloc qo).drew));have iB:Hid ((w.alloc qo).drew.heap[(w:Nat)]?=some (qo:Obj)):=fi rfl;have wO:Hid (aG (·=p) w (w.alloc qo).drew):=((aG.refl _ w).alloc _).drew;have IJ:(w.alloc qo).drew.heap.size=(w:Nat)+1:=by simp[World.drew]
 refine sI (λw'=>w'.heap[q]?=some (.cells #[p,L,.bool false] 314)) (λa7=>?_) (by(try dsimp only);exact hB.box);generalize (w.alloc qo).drew=bs at hB iB wO IJ a7 ⊢;replace IJ:=I IJ;refine Ag ?_;refine lA 3 id ?_;refine Lm ?_;refine lA 7 id ?_;refine wpAnyH_ready (rs:= [8,13]) bV (by simp) ?_;refine AllReadyH.cons rfl (λK aL=>?_) (AllReadyH.cons rfl (λK aL=>?_) AllReadyH.nil)
 ·skip;go_simp;go_at_call 130;refine(DU p L (hA d) xs _ (hB).hn (by have:=bL.out.1;omega) bL.out.1 bL.out.2).mono ?_;rintro e bp⟨g5,dw,rfl,xL,jm,qT⟩;have Bo:=I ((hB).oB jm qT);have Bp:=I xL.aF;replace qT:=I qT;clear xL jm;refine aL _ _ (by(try dsimp only);exact Bo.box) λa7=>eY ?_;have O8:=I ((qT.block _ (by have:=IJ.out;omega) J).trans iB);have pj:=I (wO.trans qT);have O9:(w:Nat)<(bp:Nat):=bT O8;refine wpAnyH_ready (rs:= [9,13]) bV (by simp) ?_;refine AllReadyH.cons rfl (λK aL=>?_) (AllReadyH.cons rfl (λK aL=>?_) AllReadyH.nil)
  ·skip;refine ahE ?_;intro cV x w5 rX a7;refine hE 13 λK aL=>?_;go_simp;refine aL _ _ (by(try dsimp only);exact((Bo.ext rX).ext ((Z.refl cV).alloc qo)).box) λa7=>eY ?_;have TQ:=rX.size;have br:(cV.alloc qo).heap[(cV:Nat)]?=some (qo:Obj):=fi rfl;have iG:Z bp (cV.alloc qo):=rX.alloc _;have dO:fO (cV.alloc qo) w x d:=(w5.mono J).ext ((Z.refl cV).alloc _);have fM:(w:Nat)<(cV:Nat):=J;generalize (cV.alloc qo)=df at br iG dO a7 ⊢;generalize (cV:Nat)=B at br fM a7 ⊢;exact Zt
  ·skip;go_simp;refine aL _ _ (by(try dsimp only);exact(Bo.ext ((Z.refl bp).alloc qo)).box) λa7=>eY ?_;have Ey:(bp.alloc qo).heap[(bp:Nat)]?=some (qo:Obj):=fi rfl;have IK:Z bp (bp.alloc qo):=(Z.refl bp).alloc _;have TQ:=IK.size;generalize (bp.alloc qo)=aCD at Ey IK TQ a7 ⊢;have cS:=I IK;refine hE 9 λK aL=>?_;go_simp;go_at_call 129;refine(SH _ _ _ d _ (Bp.ext cS) c5 (by have:=Kx c5;omega)).mono ?_;rintro e cV⟨x,rfl,w5,rX⟩;replace w5:=I w5;replace rX:=I rX;refine aL _ _ (by(try dsimp only);exact((Bo.ext cS).ext rX).box) λa7=>eY ?_;refine Zu ?_;have br:=rX.aB Ey;have iG:Z bp cV:=cS.trans rX;have dO:fO cV w x d:=w5.mono J;have fM:(w:Nat)<(bp:Nat):=J;generalize cV=df at br iG dO a7 ⊢;generalize (bp:Nat)=B at br fM a7 ⊢;exact Zt
 ·skip;go_simp;refine aL _ _ (by(try dsimp only);exact(hB.ext ((Z.refl bs).alloc qo)).box) λa7=>eY ?_;have Ey:(bs.alloc qo).heap[(bs:Nat)]?=some (qo:Obj):=fi rfl;have IK:Z bs (bs.alloc qo):=(Z.refl bs).alloc _;have TQ:=IK.size;generalize (bs.alloc qo)=aCE at Ey IK TQ a7 ⊢;have cS:=I IK;refine hE 8 λK aL=>?_;go_simp;go_at_call 130;refine(DU p L (hA d) xs _ (hB.ext cS).hn (by have:=bL.out.1;omega) bL.out.1 bL.out.2).mono ?_;rintro e bp⟨_,_,rfl,xL,jm,qT⟩;have Bo:=I ((hB.ext cS).oB jm qT);have Bp:=I xL.aF;replace qT:=I qT;clear xL jm;refine aL _ _ (by(try dsimp only);exact Bo.box) λa7=>eY ?_;have zD:=(qT.block _ (bT Ey) (by have:=IJ.out;omega)).trans Ey;have O8:=I ((qT.block _ (by have:=IJ.out;omega) J).trans (cS.aB iB));have pj:=I ((wO.trans (.of cS)).trans qT);have O9:(w:Nat)<(bp:Nat):=bT O8;refine hE 9 λK aL=>?_;refine ahE ?_;intro cV x w5 rX a7;have br:=rX.aB zD;have iG:Z bp cV:=rX.out;have dO:fO cV w x d:=w5.mono J;have fM:(w:Nat)<(bs:Nat):=by have:=IJ.out;omega
  generalize cV=df at br iG dO a7 ⊢;generalize (bs:Nat)=B at br fM a7 ⊢;exact Zt
def auh:(prog.info? 294).map (λi=>(i.zero,i.size,i.bytes))=some (some (.agg #[ar,au,au,.bool false]),4,32):=bV
def mC.grow{g:Nat}{L:Int}{xs:dR}{c:α->List Value}{ys:List α}(h:mC w q p L xs)(bu:lH w w' aw g)(aK:Own w base e sz c aw n cap ys)(ae:e≠274)(ak:e≠5)(aM:e≠314):mC w' q p L xs:=by
 obtain⟨b,o,m,bQ,⟨cs,fr,ew⟩,bY,fm⟩:=h.hn.ct;have kV:=bu.aB ew (λai aj=>aK.eQ ew ak ai aj);exact⟨bu.aB h.box (λai aj=>aK.eQ h.box aM ai aj),b,o,m,bu.aB bQ (λai aj=>aK.eQ bQ ae ai aj),⟨cs,fr,kV⟩,bu.dT.aF bY (λai aj ax=>by cases aj;obtain⟨Bk,bE,eV⟩:=ax;exact aK.eQ ew ak Bk bE eV),fm⟩
def Own.gA{c:α->List Value}{ys:List α}(h:Own w base e sz c aw n cap ys)(al:aG S w w')(hs:∀b,S b->b<base):Own w' base e sz c aw n cap ys:=
 al.bI h (λai aj a8=>by have ae:=(h.lt ai aj).1;have ak:=hs _ a8;omega)
def fO.gA{x:b1}(h:fO w base x d)(al:aG S w w')(hs:∀b,S b->b<base):fO w' base x d:=
 let ⟨ys,q,o,a⟩:=h.e
 ⟨h.k,h.id,h.c,h.u,h.f.gA al hs,ys,q,o.gA al hs,λy hy=>(a y hy).gA al hs⟩
def fx.gA{c:Nat}(h:fx w base a n c ps)(al:aG S w w')(hs:∀b,S b->b<base):fx w' base a n c ps:=
 ⟨h.cg.gA al hs,λp aV=>(h.ct p aV).gA al hs⟩
def ahF(q p:Nat)(L:Int)(xs:List aA)(rest:dR)(w:aC)(cR:mC w q p L (kb ia xs++rest))(an:xs.length<=16)(fP:∀i,i∈xs->dx i):
  aR 236 #[q,.func (.func 237) #[] #[]] w λe w'=>∃a n c,e=.returned (aq a n c)/\Own w' w 54 3 aA.cs a n c xs/\mC w' q p L rest/\aG (·=p) w w':=by
 obtain⟨dc,eo,dB,ej,fe⟩:=info_parts zE;change Hid _ at eo dB ej fe;unfold kb at cR;rw[iI]at cR;have aV:=cR.hn.lt;change Hid _ at fP cR;go_enter func236,ntmps236;go_wp2_with fail;refine(II q p xs.length 17 L (xs.flatMap (ia)++rest) _ ((cR.ext X)) J af).mono ?_;rintro e _⟨rfl,c6,h8⟩;change Hid _ at c6 h8;go_wp2_with fail;go_loopg [5,8] (xs.length) (λg e1 st wr=>∃(k:Nat) (ab:bk) (m aQ:Nat),g+k=xs.length/\e1=.slice ab m aQ/\st=.int .u64 k/\Hid (mC wr q p L ((xs.drop k).flatMap (ia)++rest))/\Hid (Own wr w 54 3 aA.cs ab m aQ (xs.take k))/\Hid (aG (·=p) w wr));case atStart=>exact⟨0,none,0,0,J,rfl,rfl,c6,Own.nil _ _ _ (λ_=>rfl),h8⟩
 case round=>
  obtain⟨k,ab,m,aQ,_,rfl,rfl,bC,aE,al⟩:=hrel;by_cases hk:k<xs.length
  ·refine Zv ?_;intro bd zf;have ud:=I (show m<=16 from by have:=aE.neq;rw[o9]at this;omega);rw[Dv hk,nI,iI]at bC;go_wp2_with fail;refine(ahA q p L xs[k] _ _ bC (fP _ (c7 hk))).mono ?_;rintro e _⟨rfl,de,eW⟩;change Hid _ at de;have b7:=I (eW.bI aE (λai aj=>by have:=(aE.lt ai aj).1;omega));have jk:=I (al.trans eW);clear eW;go_wp2_with (at_builtin;refine hf (ys:=xs.take k) (c:=aA.cs) rfl (.tmp 10) (.tmp 14) 31 rfl dc _ 24 underlying31 eo dB ej fe rfl af rfl (b7.ext X) xs[k] _ rfl (fc (cs:=aA.cs xs[k]) rfl) (aA.cN _) TG af Zw ?_;intro g _ _ qM bW;have cv:=I bW;have dW:=I qM;clear qM bW);exact ahG
  exact ahH
def aui(q p:Nat)(L:Int)(xs:List V)(rest:dR)(w:aC)(cR:mC w q p L (kb uh xs++rest))(an:xs.length<=16)(fP:∀v,v∈xs->dx v.id):
  aR 232 #[q,.func (.func 233) #[] #[]] w λe w'=>∃a n c,e=.returned (aq a n c)/\Own w' w 294 4 V.cs a n c xs/\mC w' q p L rest/\aG (·=p) w w':=by
 obtain⟨dc,eo,dB,ej,fe⟩:=info_parts auh;change Hid _ at eo dB ej fe;unfold kb at cR;rw[iI]at cR;have aV:=cR.hn.lt;change Hid _ at fP cR;go_enter func232,ntmps232;go_wp2_with fail;refine(II q p xs.length 17 L (xs.flatMap (uh)++rest) _ ((cR.ext X)) J af).mono ?_;rintro e _⟨rfl,c6,h8⟩;change Hid _ at c6 h8;go_wp2_with fail;go_loopg [5,8] (xs.length) (λg e1 st wr=>∃(k:Nat) (ab:bk) (m aQ:Nat),g+k=xs.length/\e1=.slice ab m aQ/\st=.int .u64 k/\Hid (mC wr q p L ((xs.drop k).flatMap (uh)++rest))/\Hid (Own wr w 294 4 V.cs ab m aQ (xs.take k))/\Hid (aG (·=p) w wr));case atStart=>exact⟨0,none,0,0,J,rfl,rfl,c6,Own.nil _ _ _ (λ_=>rfl),h8⟩
 case round=>
  obtain⟨k,ab,m,aQ,_,rfl,rfl,bC,aE,al⟩:=hrel;by_cases hk:k<xs.length
  ·refine Zv ?_;intro bd zf;have ud:=I (show m<=16 from by have:=aE.neq;rw[o9]at this;omega);rw[Dv hk,nI,iI]at bC;go_wp2_with fail;refine(auf q p L xs[k] _ _ bC (fP _ (c7 hk))).mono ?_;rintro e _⟨rfl,de,eW⟩;change Hid _ at de;have b7:=I (eW.bI aE (λai aj=>by have:=(aE.lt ai aj).1;omega));have jk:=I (al.trans eW);clear eW;go_wp2_with (at_builtin;refine hf (ys:=xs.take k) (c:=V.cs) rfl (.tmp 10) (.tmp 14) 230 rfl dc _ 32 underlying230 eo dB ej fe rfl af rfl (b7.ext X) xs[k] _ rfl (fc (cs:=V.cs xs[k]) rfl) (V.cN _) TG af Zw ?_;intro g _ _ qM bW;have cv:=I bW;have dW:=I qM;clear qM bW);exact ahG
  exact ahH
def Zx(q p:Nat)(L:Int)(xs:List bg)(rest:dR)(w:aC)(cR:mC w q p L (kb qn xs++rest))(an:xs.length<=16)(fP:∀d,d∈xs->hP d)(bL:(∀d,d∈xs->((hA d).length:Int)<=L)/\L<=10000000):
  aR 234 #[q,.func (.func 235) #[] #[]] w λe w'=>∃a n c ps,e=.returned (aq a n c)/\fx w' w a n c ps/\ps.map (·.d)=xs/\mC w' q p L rest/\aG (·=p) w w':=by
 obtain⟨ca,bJ,bF,bG,bK⟩:=info_parts AM;change Hid _ at bJ bF bG bK;unfold kb at cR;rw[iI]at cR;have aV:=cR.hn.lt;change Hid _ at fP bL cR;go_enter func234,ntmps234;go_wp2_with fail;refine(II q p xs.length 17 L (xs.flatMap qn++rest) _ ((cR.ext X)) J af).mono ?_;rintro e _⟨rfl,c6,h8⟩;change Hid _ at c6 h8;go_wp2_with fail;go_loopg [5,8] (xs.length) (λg e1 st wr=>∃(k:Nat) (ab:bk) (m aQ:Nat) (ps:List bO),g+k=xs.length/\e1=.slice ab m aQ/\st=.int .u64 k/\Hid (mC wr q p L ((xs.drop k).flatMap qn++rest))/\Hid (fx wr w ab m aQ ps/\ps.map (·.d)=xs.take k)/\Hid (aG (·=p) w wr));case atStart=>exact⟨0,none,0,0,[],J,rfl,rfl,c6,⟨fx.nil _ _,rfl⟩,h8⟩
 case round=>
  obtain⟨k,ab,m,aQ,ps,_,rfl,rfl,bC,aE,al⟩:=hrel;by_cases hk:k<xs.length
  ·refine Zv ?_;intro bd zf;have ud:=I (show m<=16 from by have ae:=aE.out.1.cg.neq;have ak:=eP List.length aE.out.2;rw[cr,o9]at ak;omega);rw[Dv hk,nI,iI]at bC;go_wp2_with fail;refine(aug q p L xs[k] _ _ bC (fP _ (c7 hk)) ⟨bL.out.1 _ (c7 hk),bL.out.2⟩).mono ?_;rintro e aN⟨x,rfl,cj,de,eW⟩;change Hid _ at de;have bz:=I (cj.mono (aDn:=(w:Nat)) al.size);have b7:Hid (fx aN w ab m aQ ps):=⟨eW.bI aE.out.1.cg (λai aj=>by have:=(aE.out.1.cg.lt ai aj).1;omega),λy hy=>(aE.out.1.ct y hy).gA eW (λb aa=>by have:b=p:=aa;omega)⟩;have jk:=I (al.trans eW);have bM:=I aE.out.2;clear eW cj aE;go_wp2_with (at_builtin;refine hf (ys:=ps) (c:=bO.cs) rfl (.tmp 10) (.tmp 14) 42 rfl ca _ 96 underlying42 bJ bF bG bK rfl af rfl (b7.cg.ext X) ⟨x,xs[k]⟩ _ rfl (fc (cs:=bO.cs ⟨x,xs[k]⟩) rfl) (bO.cN _) TG af Zw ?_;intro g _ _ qM bW;have cv:=I bW;have dW:=I qM;clear qM bW);go_roundg (gk - 1);case measure=>omega
   case rel=>
    refine⟨k+1,_,_,_,ps++[⟨x,xs[k]⟩],J,rfl,by go_num,?_,⟨?_,?_⟩,?_⟩
    ·exact(de.ext X).grow cv (b7.cg.ext X) af af af
    ·exact(b7.ext (w':=aN.alloc x) X).ri cv dW (bz.ext X)
    ·rw[gS,bM.out,iX hk];rfl
    ·exact((jk.alloc _).wS cv.dT (λb aa=>by obtain⟨ai,aj,rfl⟩:=aa;exact .inr (b7.cg.lt ai aj).1))
  ·have nR:xs.take k=xs:=ir J;rw[nR]at aE;rw[NW J]at bC;clear nR;go_wp2;go_ret;exact⟨ab,m,aQ,ps,rfl,aE.out.1,aE.out.2,bC,al⟩
section
def pw(w:World)(base:Nat)(a:Option Addr)(n c:Nat)(aX:List bg):Prop:=∃ps,fx w base a n c ps/\ps.map (·.d)=aX
def pw.nil(w:aC)(base:Nat):pw w base none 0 0 []:=⟨[],fx.nil _ _,rfl⟩
def pw.gA{w w':aC}{base:Nat}{c:Nat}(h:pw w base a n c aX)(al:aG S w w')(hs:∀b,S b->b<base):pw w' base a n c aX:=let ⟨ps,ae,ak⟩:=h;⟨ps,ae.gA al hs,ak⟩
def pw.mono{w:aC}{base aDn:Nat}{c:Nat}(h:pw w base a n c aX)(aa:aDn<=base):pw w aDn a n c aX:=let ⟨ps,ae,ak⟩:=h;⟨ps,ae.mono aa,ak⟩
def pw.ext{w w':aC}{base:Nat}{c:Nat}(h:pw w base a n c aX)(U:Z w w'):pw w' base a n c aX:=let ⟨ps,ae,ak⟩:=h;⟨ps,ae.ext U,ak⟩
def pw.view{w:aC}{base:Nat}{c:Nat}(h:pw w base a n c aX):w4 w a n c aX:=let ⟨ps,ae,ak⟩:=h;⟨ps,ae.cg.aF,λp aV=>(ae.ct p aV).ct,ak⟩
structure sM (w:World) (base:Nat) (x:ky) (m:dC):Prop where
 k:x.k=m.k
 h:x.h=(m.h:Int)
 v:Own w base 294 4 V.cs x.v.a x.v.n x.v.c m.vs
 q:pw w base x.q.a x.q.n x.q.c m.c3
 e:pw w base x.e.a x.e.n x.e.c m.aS
 p:pw w base x.p.a x.p.n x.p.c m.ps
 b:Own w base 54 3 aA.cs x.b.a x.b.n x.b.c m.ay
 d:Own w base 54 3 aA.cs x.d.a x.d.n x.d.c m.aX
section
variable {w w':World}{base aDn:Nat}{x:ky}{m:dC}
def sM.view(h:sM w base x m):tu w x m:=⟨h.k,h.h,h.v.aF,h.q.view,h.e.view,h.p.view,h.b.aF,h.d.aF⟩
def sM.gA(h:sM w base x m)(al:aG S w w')(hs:∀b,S b->b<base):sM w' base x m:=⟨h.k,h.h,h.v.gA al hs,h.q.gA al hs,h.e.gA al hs,h.p.gA al hs,h.b.gA al hs,h.d.gA al hs⟩
def sM.mono(h:sM w base x m)(aa:aDn<=base):sM w aDn x m:=⟨h.k,h.h,h.v.mono aa,h.q.mono aa,h.e.mono aa,h.p.mono aa,h.b.mono aa,h.d.mono aa⟩
def sM.ext(h:sM w base x m)(U:Z w w'):sM w' base x m:=⟨h.k,h.h,h.v.ext U,h.q.ext U,h.e.ext U,h.p.ext U,h.b.ext U,h.d.ext U⟩
end
def TR(m:dC)(w:World)(e:Ending)(w':World):Prop:=∃x:ky,e=.returned (.tuple #[x,ar])/\sM w' w.heap.size x m/\Z w w'
def Zy{m:dC}(h:ue m):(ui m).length<=10000000:=by
 unfold ui;have ae:=hg m.k.toNat;have ak:=hg m.h;have bd:=Bn (f:=uh) (l:=m.vs) (λv _=>ahz v);have hv:=Bn (f:=qn) (l:=m.c3) (λd aD=>Ll (h.c3.2 d aD));have e6:=Bn (f:=qn) (l:=m.aS) (λd aD=>Ll (h.aS.2 d aD));have e2:=Bn (f:=qn) (l:=m.ps) (λd aD=>Ll (h.ps.2 d aD));have wF:=Bn (f:=ia) (l:=m.ay) (λi _=>AW i);have vz:=Bn (f:=ia) (l:=m.aX) (λi _=>AW i);have:=h.vs.1;have:=h.c3.1;have:=h.aS.1;have:=h.ps.1;have:=h.ay.1;have:=h.aX.1;split<;>simp only[cH]<;>omega
def Zz{l:List bg}(h:d∈l):(hA d).length<=(kb qn l).length:=by
 unfold kb;rw[cH];have:(hA d).length<=(l.flatMap qn).length:=by
  obtain⟨s,t,rfl⟩:=List.append_of_mem h;rw[xk,nI,cH,cH];have:(hA d).length<=(qn d).length:=by unfold qn;rw[yP];omega
  omega
 omega
def auj(a:bk)(n c:Nat)(m:dC)(w:aC)(av:a1 w 1 cp a n c (cJ 1++(cJ m.h++(kb uh m.vs++(kb qn m.c3++[])))))(bM:ue m)(b8:m.k=1)(an:(ui m).length=n):
  aR 157 #[aq a n c] w (TR m w):=by
 have Ln:=I bM.h;have HR:=I (show n<=10000000 by have:=Zy bM;omega)
 have qJ:=I (show(∀d,d∈m.c3->((hA d).length:Int)<=(n:Int))/\(n:Int)<=10000000 from⟨λd aD=>by
  have ae:=Zz aD;have ak:=av.neq;simp only[cH]at ak
  omega,by have:=HR.out;omega⟩)
 replace av:=I av;replace bM:=I bM;replace b8:=I b8;refine ahI ?_;intro w1 p IL bx nY c6 _ _ _ _ bq;have fa:mC (w1.alloc (Obj.cells #[.pointer (some ⟨p,0,none⟩),.int .i64 n,.bool false] 314)) w1.heap.size p n (cJ 1++(cJ m.h++(kb uh m.vs++(kb qn m.c3++[])))):=⟨bq,c6.ext X⟩;refine(II w1.heap.size p 1 3 n _ _ fa af af).mono ?_;refine ahJ ?_;clear bq fa;intro aN jk q s9 Lo xG de po bz;obtain⟨cT,c1,c2⟩:=iE (de.ext ((Z.refl aN).alloc (.cells #[bh 1,au,aH,aH,aH,aH,aH,aH] 232))).box;go_wp2_with fail;refine(oy p m.h _ _ (de.ext X).hn Ln).mono ?_;rintro e aY⟨rfl,Pa,h4⟩;have h9:=(de.ext ((Z.refl aN).alloc (.cells #[bh 1,au,aH,aH,aH,aH,aH,aH] 232))).oB Pa h4;have fT:aY.heap[(aN:Nat)]?=some (.cells #[bh 1,au,aH,aH,aH,aH,aH,aH] 232):=(h4.block _ (by simp) (by have:=de.hn.lt;omega)).trans (fi rfl);refine ahK ?_;intro oA c9 Gu Ez;generalize (aN:Nat)=B at fT Gu Ez s9 ⊢;replace oA:=I oA;replace c9:=I c9;replace h9:=I h9;clear cT c1 c2 Pa h4;obtain⟨cF,cP,cQ,dd,ds,dm,dt,du,e7⟩:=kl fT;replace fT:=I fT;go_wp2_with fail;have Pb:aG (λx=>x=B) aY (aY.setCell (B,1) (ad (m.h:Int))):=aG.setCell (S:=λx=>x=B) (aG.refl _ aY) (B,1) (.inl rfl) _;have Ah:(aY.setCell (B,1) (ad (m.h:Int))).heap[B]?=some (.cells #[bh 1,ad (m.h:Int),aH,aH,aH,aH,aH,aH] 232):=by rw[er fT.out];simp
 refine ahL ?_;intro Bq Br CJ;generalize aY.setCell (B,1) (ad (m.h:Int))=b3 at Ah Bq Br CJ ⊢;refine ahM ?_;intro jH rY ay Pc gL N;replace IL:=I IL;replace Br:=I Br;replace CJ:=I CJ;replace Bq:=I Bq;clear Pb cF cP cQ dd ds dm dt du e7 Pc jH rY Gu Ez s9 Lo xG;obtain⟨cF,cP,cQ,dd,ds,dm,dt,du,e7⟩:=kl Ah;replace Ah:=I Ah;have qV:=I gL.out.1;go_wp2_with fail;refine(aui q p n m.vs (kb qn m.c3++[]) _ Bq bM.vs.1 bM.vs.2).mono ?_;rintro e v5⟨uf,vc,ug,rfl,aK,bC,al⟩;refine ahN ?_;intro bB ax U fS;clear cF cP cQ dd ds dm dt du e7;obtain⟨cF,cP,cQ,dd,ds,dm,dt,du,e7⟩:=kl bB;have bN:=aG.setCell (S:=λx=>x=B) (aG.refl _ v5) (B,2) (.inl rfl) (aq uf vc ug);have n9:(v5.setCell (B,2) (aq uf vc ug)).heap[B]?=some (.cells #[bh 1,ad (m.h:Int),(.slice uf vc ug),aH,aH,aH,aH,aH] 232):=by rw[er bB];simp
 refine Lp ?_;intro ln ni;have oa:Z w (v5.setCell (B,2) (aq uf vc ug)):=U.setCell (p:=(B,2)) (lr N.out.1) _;refine Lq ?_;intro aV br;have oc:ay<=(v5.setCell (B,2) (aq uf vc ug)).heap.size:=by have:=bN.size;have:=qV.out;omega
 skip;have od:=(aK.mono (aDn:=ay) qV).gA bN br;replace bB:=I bB;replace bN:=I bN;replace ln:=I ln;replace ni:=I ni;replace oa:=I oa;replace n9:=I n9;replace od:=I od;replace oc:=I oc;clear ax U fS aV br al bC aK;obtain⟨cT,c1,c2⟩:=iE (ln).box;go_wp2_with fail;clear cT c1 c2;have Bs:=n9.out;have EA:=ln.out;have EB:=ni.out;have Gv:=oa.out;have rZ:=od.out;have pM:=oc.out;clear n9 ln ni oa od qV oc bB bN;generalize v5.setCell (B,2) (aq uf vc ug)=bp at Bs EA EB Gv rZ pM ⊢;clear cF cP cQ dd ds dm dt du e7;obtain⟨cF,cP,cQ,dd,ds,dm,dt,du,e7⟩:=kl Bs;skip;have qV:=I pM;replace Bs:=I Bs;replace EA:=I EA;replace EB:=I EB;replace Gv:=I Gv;replace rZ:=I rZ;clear pM;refine(Zx q p n m.c3 [] _ EA bM.c3.1 bM.c3.2 qJ).mono ?_;rintro e v6⟨tv,sL,tw,ps,rfl,aK,sN,bC,al⟩;refine ahO ?_;intro bB ax U fS;clear cF cP cQ dd ds dm dt du e7;obtain⟨cF,cP,cQ,dd,ds,dm,dt,du,e7⟩:=kl bB;have bN:=aG.setCell (S:=λx=>x=B) (aG.refl _ v6) (B,3) (.inl rfl) (aq tv sL tw);have n9:(v6.setCell (B,3) (aq tv sL tw)).heap[B]?=some (.cells #[bh 1,ad (m.h:Int),(.slice uf vc ug),(.slice tv sL tw),aH,aH,aH,aH] 232):=by rw[er bB];simp
 refine Lp ?_;intro ln ni;have oa:Z w (v6.setCell (B,3) (aq tv sL tw)):=U.setCell (p:=(B,3)) (lr N.out.1) _;refine Lq ?_;intro aV br;have oc:ay<=(v6.setCell (B,3) (aq tv sL tw)).heap.size:=by have:=bN.size;have:=qV.out;omega
 have ya:=(rZ.gA al aV).gA bN br;clear rZ;have od:=((show pw _ _ _ _ _ m.c3 from⟨ps,aK,sN⟩).mono (aDn:=ay) qV).gA bN br;replace bB:=I bB;replace bN:=I bN;replace ln:=I ln;replace ni:=I ni;replace oa:=I oa;replace n9:=I n9;replace od:=I od;replace oc:=I oc;clear ax U fS aV br al bC aK;obtain⟨cT,c1,c2⟩:=iE (ln).box;go_wp2_with fail;clear cT c1 c2;have Ai:=n9.out;have EC:=ln.out;have CK:=ni.out;have ED:=oa.out;have w6:=od.out;have pM:=oc.out;clear n9 ln ni oa od qV oc bB bN;generalize v6.setCell (B,3) (aq tv sL tw)=cV at Ai EC CK ED w6 pM ya ⊢;clear cF cP cQ dd ds dm dt du e7;obtain⟨cF,cP,cQ,dd,ds,dm,dt,du,e7⟩:=kl Ai;replace Ai:=I Ai;replace EC:=I EC;replace CK:=I CK;replace ED:=I ED;replace w6:=I w6;have rZ:=I ya;clear pM;have k6:m.aS= []/\m.ps= []/\m.ay= []/\m.aX= []:=by
  rcases bM.oG with ⟨_,h⟩|⟨h,_⟩
  ·exact h
  ·have:=b8.out;omega
 obtain⟨bS,bE,eV,gU⟩:=k6;refine(zM p _ EC.hn).mono ?_;rintro e _⟨rfl,n5⟩;have kM:=n5.aB Ai;clear cF cP cQ dd ds dm dt du e7;obtain⟨cF,cP,cQ,dd,ds,dm,dt,du⟩:=lI kM;have Pd:Hid (sM cV ay (⟨1,(m.h:Int),⟨uf,vc,ug⟩,⟨tv,sL,tw⟩,⟨none,0,0⟩,⟨none,0,0⟩,⟨none,0,0⟩,⟨none,0,0⟩⟩:ky) m):=⟨b8.symm,rfl,rZ,w6,by rw[bS];exact pw.nil _ _,by rw[bE];exact pw.nil _ _,by rw[eV];exact Own.nil _ _ _ aA.bH,by rw[gU];exact Own.nil _ _ _ aA.bH⟩;replace n5:=I n5;replace kM:=I kM;go_wp2_with fail;refine(Zq (⟨1,(m.h:Int),⟨uf,vc,ug⟩,⟨tv,sL,tw⟩,⟨none,0,0⟩,⟨none,0,0⟩,⟨none,0,0⟩,⟨none,0,0⟩⟩:ky) m _ (Pd.view.ext X) bM).mono ?_;rintro e w7⟨rfl,td⟩;have aa:=td.aB kM;have eM:=td.aB (n5.aB CK);have nE:=I (n5.trans td);clear cF cP cQ dd ds dm dt du;obtain⟨cF,cP,cQ,dd,ds,dm,dt,du⟩:=lI aa;obtain⟨z0,cU,z2,z3,z4,z5,ga,fk,mx⟩:=kl eM;replace eM:=I eM;clear aa td;go_wp2_with fail;have Bt:=AZ (S:=λx=>x=(w:Nat)) (aG.refl _ w7) (R:=(w:Nat)) (.inl rfl) (bh 1) (ad (m.h:Int)) (aq uf vc ug) (aq tv sL tw) aH aH aH aH;have f8:=O4 eM (bh 1) (ad (m.h:Int)) (aq uf vc ug) (aq tv sL tw) aH aH aH aH;have zk:=((Pd.ext nE).gA Bt (λb aa=>by have:=gL.out;omega)).mono (aDn:=(w:Nat)) (by have:=gL.out;omega);have Pe:=Bt.ext (W:=w) (λb aa=>by subst aa;exact bA _) (ED.trans nE);generalize World.setCell _ (w,7) _=auk at f8 zk Pe ⊢;clear cF cP cQ dd ds dm dt du z0 cU z2 z3 z4 z5 ga fk mx Bt;obtain⟨z0,cU,z2,z3,z4,z5,ga,fk⟩:=lI f8;refine bodyPost_ret (v:=.tuple #[.agg #[bh 1,ad (m.h:Int),aq uf vc ug,aq tv sL tw,aH,aH,aH,aH],ar]) (by simp[results,results157,go_sem,z0,cU,z2,z3,z4,z5,ga,fk]) rfl ⟨(⟨1,(m.h:Int),⟨uf,vc,ug⟩,⟨tv,sL,tw⟩,⟨none,0,0⟩,⟨none,0,0⟩,⟨none,0,0⟩,⟨none,0,0⟩⟩:ky),rfl,zk,Pe⟩
def aul(a:bk)(n c:Nat)(m:dC)(w:aC)(av:a1 w 1 cp a n c (cJ 2++(cJ m.h++(kb qn m.aS++(kb qn m.ps++(kb ia m.ay++(kb ia m.aX++[])))))))(bM:ue m)(b8:m.k=2)(an:(ui m).length=n):
  aR 157 #[aq a n c] w (TR m w):=by
 have Ln:=I bM.h;have HR:=I (show n<=10000000 by have:=Zy bM;omega)
 have qJ:=I (show(∀d,d∈m.aS\/d∈m.ps->((hA d).length:Int)<=(n:Int))/\(n:Int)<=10000000 from⟨λd aD=>by
  have ak:=av.neq;simp only[cH]at ak;rcases aD with aD|aD
  ·have ae:=Zz aD;omega
  ·have ae:=Zz aD
   omega,by have:=HR.out;omega⟩)
 replace av:=I av;replace bM:=I bM;replace b8:=I b8;refine ahI ?_;intro w1 p IL bx nY c6 _ _ _ _ bq;have fa:mC (w1.alloc (Obj.cells #[.pointer (some ⟨p,0,none⟩),.int .i64 n,.bool false] 314)) w1.heap.size p n (cJ 2++(cJ m.h++(kb qn m.aS++(kb qn m.ps++(kb ia m.ay++(kb ia m.aX++[])))))):=⟨bq,c6.ext X⟩;refine(II w1.heap.size p 2 3 n _ _ fa af af).mono ?_;refine ahJ ?_;clear bq fa;intro aN jk q s9 Lo xG de po bz;obtain⟨cT,c1,c2⟩:=iE (de.ext ((Z.refl aN).alloc (.cells #[bh 2,au,aH,aH,aH,aH,aH,aH] 232))).box;go_wp2_with fail;refine(oy p m.h _ _ (de.ext X).hn Ln).mono ?_;rintro e aY⟨rfl,Pa,h4⟩;have h9:=(de.ext ((Z.refl aN).alloc (.cells #[bh 2,au,aH,aH,aH,aH,aH,aH] 232))).oB Pa h4;have fT:aY.heap[(aN:Nat)]?=some (.cells #[bh 2,au,aH,aH,aH,aH,aH,aH] 232):=(h4.block _ (by simp) (by have:=de.hn.lt;omega)).trans (fi rfl);refine ahK ?_;intro oA c9 Gu Ez;generalize (aN:Nat)=B at fT Gu Ez s9 ⊢;replace oA:=I oA;replace c9:=I c9;replace h9:=I h9;clear cT c1 c2 Pa h4;obtain⟨cF,cP,cQ,dd,ds,dm,dt,du,e7⟩:=kl fT;replace fT:=I fT;go_wp2_with fail;have Pb:aG (λx=>x=B) aY (aY.setCell (B,1) (ad (m.h:Int))):=aG.setCell (S:=λx=>x=B) (aG.refl _ aY) (B,1) (.inl rfl) _;have Ah:(aY.setCell (B,1) (ad (m.h:Int))).heap[B]?=some (.cells #[bh 2,ad (m.h:Int),aH,aH,aH,aH,aH,aH] 232):=by rw[er fT.out];simp
 refine ahL ?_;intro Bq Br CJ;generalize aY.setCell (B,1) (ad (m.h:Int))=b3 at Ah Bq Br CJ ⊢;refine ahM ?_;intro jH rY ay Pc gL N;replace IL:=I IL;replace Br:=I Br;replace CJ:=I CJ;replace Bq:=I Bq;clear Pb cF cP cQ dd ds dm dt du e7 Pc jH rY Gu Ez s9 Lo xG;obtain⟨cF,cP,cQ,dd,ds,dm,dt,du,e7⟩:=kl Ah;replace Ah:=I Ah;have qV:=I gL.out.1;go_wp2_with fail;refine(Zx q p n m.aS (kb qn m.ps++(kb ia m.ay++(kb ia m.aX++[]))) _ Bq bM.aS.1 bM.aS.2 ⟨λd aD=>qJ.out.1 d (.inl aD),qJ.out.2⟩).mono ?_;rintro e v5⟨dK,eA,dM,ps,rfl,aK,sN,bC,al⟩;refine ahN ?_;intro bB ax U fS;clear cF cP cQ dd ds dm dt du e7;obtain⟨cF,cP,cQ,dd,ds,dm,dt,du,e7⟩:=kl bB;have bN:=aG.setCell (S:=λx=>x=B) (aG.refl _ v5) (B,4) (.inl rfl) (aq dK eA dM);have n9:(v5.setCell (B,4) (aq dK eA dM)).heap[B]?=some (.cells #[bh 2,ad (m.h:Int),aH,aH,(.slice dK eA dM),aH,aH,aH] 232):=by rw[er bB];simp
 refine Lp ?_;intro ln ni;have oa:Z w (v5.setCell (B,4) (aq dK eA dM)):=U.setCell (p:=(B,4)) (lr N.out.1) _;refine Lq ?_;intro aV br;have oc:ay<=(v5.setCell (B,4) (aq dK eA dM)).heap.size:=by have:=bN.size;have:=qV.out;omega
 skip;have od:=((show pw _ _ _ _ _ m.aS from⟨ps,aK,sN⟩).mono (aDn:=ay) qV).gA bN br;replace bB:=I bB;replace bN:=I bN;replace ln:=I ln;replace ni:=I ni;replace oa:=I oa;replace n9:=I n9;replace od:=I od;replace oc:=I oc;clear ax U fS aV br al bC aK;obtain⟨cT,c1,c2⟩:=iE (ln).box;go_wp2_with fail;clear cT c1 c2;have Bs:=n9.out;have EA:=ln.out;have EB:=ni.out;have Gv:=oa.out;have rZ:=od.out;have pM:=oc.out;clear n9 ln ni oa od qV oc bB bN;generalize v5.setCell (B,4) (aq dK eA dM)=bp at Bs EA EB Gv rZ pM ⊢;clear cF cP cQ dd ds dm dt du e7;obtain⟨cF,cP,cQ,dd,ds,dm,dt,du,e7⟩:=kl Bs;skip;have qV:=I pM;replace Bs:=I Bs;replace EA:=I EA;replace EB:=I EB;replace Gv:=I Gv;replace rZ:=I rZ;clear pM;clear sN;refine(Zx q p n m.ps (kb ia m.ay++(kb ia m.aX++[])) _ EA bM.ps.1 bM.ps.2 ⟨λd aD=>qJ.out.1 d (.inr aD),qJ.out.2⟩).mono ?_;rintro e v6⟨cD,eL,fw,ps,rfl,aK,sN,bC,al⟩;refine ahO ?_;intro bB ax U fS;clear cF cP cQ dd ds dm dt du e7;obtain⟨cF,cP,cQ,dd,ds,dm,dt,du,e7⟩:=kl bB;have bN:=aG.setCell (S:=λx=>x=B) (aG.refl _ v6) (B,5) (.inl rfl) (aq cD eL fw);have n9:(v6.setCell (B,5) (aq cD eL fw)).heap[B]?=some (.cells #[bh 2,ad (m.h:Int),aH,aH,(.slice dK eA dM),(.slice cD eL fw),aH,aH] 232):=by rw[er bB];simp
 refine Lp ?_;intro ln ni;have oa:Z w (v6.setCell (B,5) (aq cD eL fw)):=U.setCell (p:=(B,5)) (lr N.out.1) _;refine Lq ?_;intro aV br;have oc:ay<=(v6.setCell (B,5) (aq cD eL fw)).heap.size:=by have:=bN.size;have:=qV.out;omega
 have ya:=(rZ.gA al aV).gA bN br;clear rZ;have od:=((show pw _ _ _ _ _ m.ps from⟨ps,aK,sN⟩).mono (aDn:=ay) qV).gA bN br;replace bB:=I bB;replace bN:=I bN;replace ln:=I ln;replace ni:=I ni;replace oa:=I oa;replace n9:=I n9;replace od:=I od;replace oc:=I oc;clear ax U fS aV br al bC aK;obtain⟨cT,c1,c2⟩:=iE (ln).box;go_wp2_with fail;clear cT c1 c2;have Ai:=n9.out;have EC:=ln.out;have CK:=ni.out;have ED:=oa.out;have w6:=od.out;have pM:=oc.out;clear n9 ln ni oa od qV oc bB bN;generalize v6.setCell (B,5) (aq cD eL fw)=cV at Ai EC CK ED w6 pM ya ⊢;clear cF cP cQ dd ds dm dt du e7;obtain⟨cF,cP,cQ,dd,ds,dm,dt,du,e7⟩:=kl Ai;replace Ai:=I Ai;replace EC:=I EC;replace CK:=I CK;replace ED:=I ED;replace w6:=I w6;have rZ:=I ya;have qV:=I pM;clear pM;clear sN ya;refine(ahF q p n m.ay (kb ia m.aX++[]) _ EC bM.ay.1 bM.ay.2).mono ?_;rintro e gy⟨ha,h2,gG,rfl,aK,bC,al⟩;have bB:=(al.block _ (bT Ai) TS).trans Ai;have ax:=(al.block _ (bT CK) TS).trans CK;have U:=(al.mono (S':=λb=>(w:Nat)<=b) (λb _ bB=>by have:b=p:=bB;have:=N.out;omega)).ext (λb bB=>bB) ED;have fS:=al.size;clear cF cP cQ dd ds dm dt du e7;obtain⟨cF,cP,cQ,dd,ds,dm,dt,du,e7⟩:=kl bB;have bN:=aG.setCell (S:=λx=>x=B) (aG.refl _ gy) (B,6) (.inl rfl) (aq ha h2 gG);have n9:(gy.setCell (B,6) (aq ha h2 gG)).heap[B]?=some (.cells #[bh 2,ad (m.h:Int),aH,aH,(.slice dK eA dM),(.slice cD eL fw),(.slice ha h2 gG),aH] 232):=by rw[er bB];simp
 refine Lp ?_;intro ln ni;have oa:Z w (gy.setCell (B,6) (aq ha h2 gG)):=U.setCell (p:=(B,6)) (lr N.out.1) _;refine Lq ?_;intro aV br;have oc:ay<=(gy.setCell (B,6) (aq ha h2 gG)).heap.size:=by have:=bN.size;have:=qV.out;omega
 have ya:=(rZ.gA al aV).gA bN br;clear rZ;have IM:=(w6.gA al aV).gA bN br;clear w6;have od:=(aK.mono (aDn:=ay) qV).gA bN br;replace bB:=I bB;replace bN:=I bN;replace ln:=I ln;replace ni:=I ni;replace oa:=I oa;replace n9:=I n9;replace od:=I od;replace oc:=I oc;clear ax U fS aV br al bC aK;obtain⟨cT,c1,c2⟩:=iE (ln).box;go_wp2_with fail;clear cT c1 c2;have Lr:=n9.out;have TT:=ln.out;have Pf:=ni.out;have TU:=oa.out;have IN:=od.out;have pM:=oc.out;clear n9 ln ni oa od qV oc bB bN;generalize gy.setCell (B,6) (aq ha h2 gG)=df at Lr TT Pf TU IN pM ya IM ⊢;clear cF cP cQ dd ds dm dt du e7;obtain⟨cF,cP,cQ,dd,ds,dm,dt,du,e7⟩:=kl Lr;replace Lr:=I Lr;replace TT:=I TT;replace Pf:=I Pf;replace TU:=I TU;replace IN:=I IN;have rZ:=I ya;have w6:=I IM;clear ya IM;have qV:=I pM;clear pM;refine(ahF q p n m.aX [] _ TT bM.aX.1 bM.aX.2).mono ?_;rintro e iC⟨oZ,o0,nB,rfl,aK,bC,al⟩;have bB:=(al.block _ (bT Lr) TS).trans Lr;have ax:=(al.block _ (bT Pf) TS).trans Pf;have U:=(al.mono (S':=λb=>(w:Nat)<=b) (λb _ bB=>by have:b=p:=bB;have:=N.out;omega)).ext (λb bB=>bB) TU;have fS:=al.size;clear cF cP cQ dd ds dm dt du e7;obtain⟨cF,cP,cQ,dd,ds,dm,dt,du,e7⟩:=kl bB;have bN:=aG.setCell (S:=λx=>x=B) (aG.refl _ iC) (B,7) (.inl rfl) (aq oZ o0 nB);have n9:(iC.setCell (B,7) (aq oZ o0 nB)).heap[B]?=some (.cells #[bh 2,ad (m.h:Int),aH,aH,(.slice dK eA dM),(.slice cD eL fw),(.slice ha h2 gG),(.slice oZ o0 nB)] 232):=by rw[er bB];simp
 refine Lp ?_;intro ln ni;have oa:Z w (iC.setCell (B,7) (aq oZ o0 nB)):=U.setCell (p:=(B,7)) (lr N.out.1) _;refine Lq ?_;intro aV br;have oc:ay<=(iC.setCell (B,7) (aq oZ o0 nB)).heap.size:=by have:=bN.size;have:=qV.out;omega
 have ya:=(rZ.gA al aV).gA bN br;clear rZ;have IM:=(w6.gA al aV).gA bN br;clear w6;have ZA:=(IN.gA al aV).gA bN br;clear IN;have od:=(aK.mono (aDn:=ay) qV).gA bN br;replace bB:=I bB;replace bN:=I bN;replace ln:=I ln;replace ni:=I ni;replace oa:=I oa;replace n9:=I n9;replace od:=I od;replace oc:=I oc;clear ax U fS aV br al bC aK;obtain⟨cT,c1,c2⟩:=iE (ln).box;go_wp2_with fail;clear cT c1 c2;have Pg:=n9.out;have TV:=ln.out;have TW:=ni.out;have TX:=oa.out;have TY:=od.out;have pM:=oc.out;clear n9 ln ni oa od qV oc bB bN;generalize iC.setCell (B,7) (aq oZ o0 nB)=eb at Pg TV TW TX TY pM ya IM ZA ⊢;clear cF cP cQ dd ds dm dt du e7;obtain⟨cF,cP,cQ,dd,ds,dm,dt,du,e7⟩:=kl Pg;replace Pg:=I Pg;replace TV:=I TV;replace TW:=I TW;replace TX:=I TX;replace TY:=I TY;have rZ:=I ya;have w6:=I IM;have IN:=I ZA;clear ya IM ZA;clear pM;have k6:m.vs= []/\m.c3= []:=by
  rcases bM.oG with ⟨h,_⟩|⟨_,h⟩
  ·have:=b8.out;omega
  ·exact h
 obtain⟨bS,bE⟩:=k6;refine(zM p _ TV.hn).mono ?_;rintro e _⟨rfl,n5⟩;have kM:=n5.aB Pg;clear cF cP cQ dd ds dm dt du e7;obtain⟨cF,cP,cQ,dd,ds,dm,dt,du⟩:=lI kM;have Pd:Hid (sM eb ay (⟨2,(m.h:Int),⟨none,0,0⟩,⟨none,0,0⟩,⟨dK,eA,dM⟩,⟨cD,eL,fw⟩,⟨ha,h2,gG⟩,⟨oZ,o0,nB⟩⟩:ky) m):=⟨b8.symm,rfl,by rw[bS];exact Own.nil _ _ _ V.bH,by rw[bE];exact pw.nil _ _,rZ,w6,IN,TY⟩;replace n5:=I n5;replace kM:=I kM;go_wp2_with fail;refine(Zq (⟨2,(m.h:Int),⟨none,0,0⟩,⟨none,0,0⟩,⟨dK,eA,dM⟩,⟨cD,eL,fw⟩,⟨ha,h2,gG⟩,⟨oZ,o0,nB⟩⟩:ky) m _ (Pd.view.ext X) bM).mono ?_;rintro e w7⟨rfl,td⟩;have aa:=td.aB kM;have eM:=td.aB (n5.aB TW);have nE:=I (n5.trans td);clear cF cP cQ dd ds dm dt du;obtain⟨cF,cP,cQ,dd,ds,dm,dt,du⟩:=lI aa;obtain⟨z0,cU,z2,z3,z4,z5,ga,fk,mx⟩:=kl eM;replace eM:=I eM;clear aa td;go_wp2_with fail;have Bt:=AZ (S:=λx=>x=(w:Nat)) (aG.refl _ w7) (R:=(w:Nat)) (.inl rfl) (bh 2) (ad (m.h:Int)) aH aH (aq dK eA dM) (aq cD eL fw) (aq ha h2 gG) (aq oZ o0 nB);have f8:=O4 eM (bh 2) (ad (m.h:Int)) aH aH (aq dK eA dM) (aq cD eL fw) (aq ha h2 gG) (aq oZ o0 nB);have zk:=((Pd.ext nE).gA Bt (λb aa=>by have:=gL.out;omega)).mono (aDn:=(w:Nat)) (by have:=gL.out;omega);have Pe:=Bt.ext (W:=w) (λb aa=>by subst aa;exact bA _) (TX.trans nE);generalize World.setCell _ (w,7) _=auk at f8 zk Pe ⊢;clear cF cP cQ dd ds dm dt du z0 cU z2 z3 z4 z5 ga fk mx Bt;obtain⟨z0,cU,z2,z3,z4,z5,ga,fk⟩:=lI f8;refine bodyPost_ret (v:=.tuple #[.agg #[bh 2,ad (m.h:Int),aH,aH,aq dK eA dM,aq cD eL fw,aq ha h2 gG,aq oZ o0 nB],ar]) (by simp[results,results157,go_sem,z0,cU,z2,z3,z4,z5,ga,fk]) rfl ⟨(⟨2,(m.h:Int),⟨none,0,0⟩,⟨none,0,0⟩,⟨dK,eA,dM⟩,⟨cD,eL,fw⟩,⟨ha,h2,gG⟩,⟨oZ,o0,nB⟩⟩:ky),rfl,zk,Pe⟩
def aum(a:bk)(n c:Nat)(m:dC)(w:aC)(a8:a1 w 1 cp a n c (ui m))(hm:ue m):aR 157 #[aq a n c] w (TR m w):=by
 have an:=a8.neq;unfold ui at a8;rcases hm.oG with ⟨k,_⟩|⟨k,_⟩
 ·rw[bm k,k]at a8;refine auj a n c m w ?_ hm k an.symm;rw[mH];exact a8
 ·rw[bj J,k]at a8;refine aul a n c m w ?_ hm k an.symm;rw[mH];exact a8
end
section
open Go.RowKit Go.Conc
theorem aun (c s r:Nat) (buf:Array Value) (tm:Bool) (v:Value) (w:World) (ao:w.heap[c]?=some (.chan 8 buf false s r tm)) (aa:buf.size<8):
  aR 154 #[.chan (some c),v] w λe w'=>e=.returned (.bool true)/\w'=w.setChan c 8 (buf.push v) false (s+1) r tm:=by
 refine calls_of_loneTo λcs=>?_
 have e:Frame.enter prog 154 #[.chan (some c),v] .normal=(base 154).at ⟨#[.chan (some c),v,undef,undef,undef,undef,undef,undef,undef,undef],[]⟩ [.code (f154.body.getD .skip)]:=by
  simp[Frame.enter,Frame.at,func154,base,f154]
 rw[e]
 refine LoneTo.goes (n:=14) ?_
 simp only[f154,Option.getD_some]
 s_c stepG_seq
 s_reg
 s_op
 s_c stepG_region_end
 s_c stepG_seq
 s_c stepG_seq
 s_reg
 s_op
 s_c stepG_region_end
 s_reg
 s_op
 s_c stepG_region_end
 s_c stepG_seq
 s_reg
 s_stop
 refine LoneTo.step (step_lone_select_send_room (c:=c) (cap:=8) (buf:=buf) (s:=s) (r:=r) (tm:=tm) (stepG_comm (cases:=#[scase c v aH]) (blocking:=false) (shape:=.select) (w':=w) rfl rfl af (by simp[go_sem,execOp,scase,Act.eval])) ao aa) ?_
 rw[Frame.finish_at]
 walk_nrm
 refine LoneTo.goes (n:=10) ?_
 s_op
 s_op
 s_c stepG_region_end
 s_c stepG_block
 s_cond true
 s_c stepG_seq
 s_reg
 s_op
 s_c stepG_region_end
 s_c stepG_ret'
 s_stop
 exact LoneTo.done ⟨.returned (.bool true),_,rfl,⟨rfl,rfl⟩,rfl,rfl,rfl,rfl,_,func154,by simp[results,f154,Frame.at]⟩
theorem auo (c s r:Nat) (buf:Array Value) (tm:Bool) (v:Value) (w:World) (ao:w.heap[c]?=some (.chan 8 buf false s r tm)) (aa:8<=buf.size):
  aR 154 #[.chan (some c),v] w λe w'=>e=.returned (.bool false)/\w'=w:=by
 refine calls_of_loneTo λcs=>?_
 have e:Frame.enter prog 154 #[.chan (some c),v] .normal=(base 154).at ⟨#[.chan (some c),v,undef,undef,undef,undef,undef,undef,undef,undef],[]⟩ [.code (f154.body.getD .skip)]:=by
  simp[Frame.enter,Frame.at,func154,base,f154]
 rw[e]
 refine LoneTo.goes (n:=14) ?_
 simp only[f154,Option.getD_some]
 s_c stepG_seq
 s_reg
 s_op
 s_c stepG_region_end
 s_c stepG_seq
 s_c stepG_seq
 s_reg
 s_op
 s_c stepG_region_end
 s_reg
 s_op
 s_c stepG_region_end
 s_c stepG_seq
 s_reg
 s_stop
 refine LoneTo.step (step_lone_select_send_full (c:=c) (cap:=8) (buf:=buf) (s:=s) (r:=r) (tm:=tm) (stepG_comm (cases:=#[scase c v aH]) (blocking:=false) (shape:=.select) (w':=w) rfl rfl af (by simp[go_sem,execOp,scase,Act.eval])) ao aa) ?_
 rw[Frame.finish_at]
 walk_nrm
 refine LoneTo.goes (n:=10) ?_
 s_op
 s_op
 s_c stepG_region_end
 s_c stepG_block
 s_cond false
 s_c stepG_seq
 s_reg
 s_op
 s_c stepG_region_end
 s_c stepG_ret'
 s_stop
 exact LoneTo.done ⟨.returned (.bool false),_,rfl,⟨rfl,rfl⟩,rfl,rfl,rfl,rfl,_,func154,by simp[results,f154,Frame.at]⟩
theorem aup (c s r:Nat) (v:Value) (buf:Array Value) (tm:Bool) (w:World) (ao:w.heap[c]?=some (.chan 8 buf false s r tm)) (aa:0<buf.size) (bo:buf.getD 0 undef=v):
  aR 155 #[.chan (some c)] w λe w'=>e=.returned (.tuple #[v,.bool true])/\w'=w.setChan c 8 (buf.extract 1 buf.size) false s (r+1) tm:=by
 subst bo
 refine calls_of_loneTo λcs=>?_
 have e:Frame.enter prog 155 #[.chan (some c)] .normal=(base 155).at ⟨#[.chan (some c),undef,undef,undef,undef,undef,undef,undef,undef,undef,undef],[]⟩ [.code (f155.body.getD .skip)]:=by
  simp[Frame.enter,Frame.at,func155,base,f155]
 rw[e]
 refine LoneTo.goes (n:=11) ?_
 simp only[f155,Option.getD_some]
 s_c stepG_seq
 s_reg
 s_op
 s_op
 s_c stepG_region_end
 s_c stepG_seq
 s_reg
 s_op
 s_c stepG_region_end
 s_c stepG_seq
 s_reg
 s_stop
 refine LoneTo.step (step_lone_select_recv_buf (c:=c) (z:=.slice none 0 0) (cap:=8) (buf:=buf) (s:=s) (r:=r) (tm:=tm) (stepG_comm (cases:=#[rcase c aH]) (blocking:=false) (shape:=.select) (w':=w) rfl rfl af (by simp[go_sem,execOp,rcase,Act.eval])) ao aa) ?_
 rw[Frame.finish_at]
 walk_nrm
 refine LoneTo.goes (n:=17) ?_
 s_op
 s_op
 s_c stepG_region_end
 s_c stepG_block
 s_cond true
 s_c stepG_seq
 s_reg
 s_op
 s_op
 s_c stepG_region_end
 s_c stepG_seq
 s_reg
 s_op
 s_op
 s_op
 s_c stepG_region_end
 s_c stepG_ret'
 s_stop
 exact LoneTo.done ⟨.returned (.tuple #[_,.bool true]),_,rfl,⟨rfl,rfl⟩,rfl,rfl,rfl,rfl,_,func155,by(simp[results,f155,Frame.at];rw[Array.getElem?_eq_getElem aa];rfl)⟩
theorem auq (c s r:Nat) (tm:Bool) (w:World) (ao:w.heap[c]?=some (.chan 8 #[] false s r tm)):
  aR 155 #[.chan (some c)] w λe w'=>e=.returned (.tuple #[aH,.bool false])/\w'=w:=by
 refine calls_of_loneTo λcs=>?_
 have e:Frame.enter prog 155 #[.chan (some c)] .normal=(base 155).at ⟨#[.chan (some c),undef,undef,undef,undef,undef,undef,undef,undef,undef,undef],[]⟩ [.code (f155.body.getD .skip)]:=by
  simp[Frame.enter,Frame.at,func155,base,f155]
 rw[e]
 refine LoneTo.goes (n:=11) ?_
 simp only[f155,Option.getD_some]
 s_c stepG_seq
 s_reg
 s_op
 s_op
 s_c stepG_region_end
 s_c stepG_seq
 s_reg
 s_op
 s_c stepG_region_end
 s_c stepG_seq
 s_reg
 s_stop
 refine LoneTo.step (step_lone_select_default (c:=c) (z:=.slice none 0 0) (cap:=8) (s:=s) (r:=r) (tm:=tm) (stepG_comm (cases:=#[rcase c aH]) (blocking:=false) (shape:=.select) (w':=w) rfl rfl af (by simp[go_sem,execOp,rcase,Act.eval])) ao) ?_
 rw[Frame.finish_at]
 walk_nrm
 refine LoneTo.goes (n:=11) ?_
 s_op
 s_op
 s_c stepG_region_end
 s_c stepG_block
 s_cond false
 s_c stepG_seq
 s_reg
 s_op
 s_op
 s_c stepG_region_end
 s_c stepG_ret'
 s_stop
 exact LoneTo.done ⟨.returned (.tuple #[aH,.bool false]),_,rfl,⟨rfl,rfl⟩,rfl,rfl,rfl,rfl,_,func155,by simp[results,f155,Frame.at]⟩
end
section
def yb:Value->Option (DataW Unit)
 |.int q a=>some (.lit (.int q a))
 |.bool b=>some (.lit (.bool b))
 |.slice none n c=>some (.slice [.lit (.int .i64 n),.lit (.int .i64 c)] [])
 |.slice (some ⟨b,o,none⟩) n c=>some (.slice [.lit (.int .i64 b),.lit (.int .i64 o),.lit (.int .i64 n),.lit (.int .i64 c)] [])
 |.map none=>some .nil
 |.map (some b)=>some (.agg [.lit (.int .i64 b)])
 |.pointer none=>some (.agg [.nil,.nil])
 |.pointer (some ⟨b,o,none⟩)=>some (.agg [.lit (.int .i64 b),.lit (.int .i64 o)])
 |.chan none=>some (.agg [.nil,.nil,.nil])
 |.chan (some b)=>some (.agg [.lit (.int .i64 b),.nil,.nil])
 |_=>none
def Ls:DataW Unit->Option Value
 |.lit (.int q a)=>some (.int q a)
 |.lit (.bool b)=>some (.bool b)
 |.slice [.lit (.int _ n),.lit (.int _ c)] _=>some (.slice none n.toNat c.toNat)
 |.slice [.lit (.int _ b),.lit (.int _ o),.lit (.int _ n),.lit (.int _ c)] _=>some (.slice (some ⟨b.toNat,o.toNat,none⟩) n.toNat c.toNat)
 |.nil=>some (.map none)
 |.agg [.lit (.int _ b)]=>some (.map (some b.toNat))
 |.agg [.nil,.nil]=>some (.pointer none)
 |.agg [.lit (.int _ b),.lit (.int _ o)]=>some (.pointer (some ⟨b.toNat,o.toNat,none⟩))
 |.agg [.nil,.nil,.nil]=>some (.chan none)
 |.agg [.lit (.int _ b),.nil,.nil]=>some (.chan (some b.toNat))
 |_=>none
def ahR{v:Value}{y:DataW Unit}(h:yb v=some y):Ls y=some v:=by
 unfold yb at h;split at h<;>first|(cases h;simp[Ls];done)|cases h
def qp:Value->Option (DataW Unit×List MemPlace)
 |.agg vs=>(vs.toList.mapM yb).map (λl=>(.agg (.agg []::l),[]))
 |v=>(yb v).map (λd=>(d,[]))
def T0:DataW Unit->Option Value
 |.agg (.agg []::l)=>(l.mapM Ls).map (λvs=>.agg vs.toArray)
 |d=>Ls d
def ahS:∀{l:List Value}{ys:List (DataW Unit)},l.mapM yb=some ys->ys.mapM Ls=some l
 | [],ys,h=>by simp at h;subst h;rfl
 |v::l,ys,h=>by
  rw[List.mapM_cons]at h
  cases ae:yb v with
  |none=>rw[ae]at h;cases h
  |some y=>
   cases ak:l.mapM yb with
   |none=>rw[ae,ak]at h;cases h
   |some cq=>
    rw[ae,ak]at h
    cases h
    rw[List.mapM_cons,ahR ae,ahS ak]
    rfl
def Lt{v:Value}{y:DataW Unit×List MemPlace}(h:qp v=some y):T0 y.1=some v:=by
 unfold qp at h;split at h
 ·next vs=>
  cases ae:vs.toList.mapM yb with
  |none=>rw[ae]at h;cases h
  |some l=>
   rw[ae]at h;cases h;show(l.mapM Ls).map _=_;rw[ahS ae];simp
 ·cases ae:yb v with
  |none=>rw[ae]at h;cases h
  |some d=>
   rw[ae]at h;cases h;show T0 d=some v;have ak:=ahR ae;unfold T0;split
   ·next l=>
    unfold yb at ae;split at ae<;>cases ae
   ·exact ak
def Bu(D:DataW Unit)(dI:Lit):Option Value:=if Maps.has D dI=true then T0 (D.atKey dI .nil) else none
def ahT{D:DataW Unit}(h:Maps.has D dI=true)(z T1:DataW Unit):D.atKey dI z=D.atKey dI T1:=by
 match D,h with
 |.map aS,h=>
  unfold DataW.atKey;dsimp only;split
  ·rfl
  ·next e=>
   rw[Maps.has_eq,Az]at h;obtain⟨p,hm,hs⟩:=h;rw[List.find?_eq_none]at e;exact absurd hs (e p hm)
def aur{w:aC}{P:Program}{k:TypeId}{b n:Nat}{D:DataW Unit}(h:w.ownsMap P k qp b n D)(b5:Maps.has D dI=true):∃v y,qp v=some y/\(∀z,D.atKey dI z=y.1)/\∃key,keyOf P k key=some dI:=by
 obtain⟨aS,_,_,F,_,rfl⟩:=h;rw[Maps.has_eq,Az]at b5;cases e:(((aS.toList.map (WideElems.rg P k qp)).foldr DataW.insert [])).find? (λp=>p.1.sameKey dI)with
 |none=>
  obtain⟨p,hm,hs⟩:=b5;rw[List.find?_eq_none]at e;exact absurd hs (e p hm)
 |some p=>
  have hm:=List.mem_of_find?_eq_some e;have hs:p.1.sameKey dI=true:=by simpa using List.find?_some e
  obtain⟨x,U,rfl⟩:=kN.1 (mem_sorted.1 hm);obtain⟨_,tL⟩:=F.reads x U;obtain⟨y,hy,aus⟩:=WideElems.rd_val tL;refine⟨x.val,y,hy,λz=>?_,x.key,?_⟩
  ·unfold DataW.atKey;dsimp only;rw[e,WideElems.rg_of tL];exact aus
  ·rw[WideElems.rg_of tL]at hs;rw[<-WideAt.sameKey_eq hs];exact WideElems.rd_key tL
def T2{w:aC}{P:Program}{k:TypeId}{b n:Nat}{D:DataW Unit}(h:w.ownsMap P k qp b n D)(dI:Lit):(Bu D dI).isSome=Maps.has D dI:=by
 unfold Bu;cases b5:Maps.has D dI with
 |false=>rfl
 |true=>
  obtain⟨v,y,bo,jR,_⟩:=aur h b5;rw[bm rfl,jR,Lt bo];rfl
noncomputable def vY(f:Lit->Option Value)(dI:Lit)(v:Option Value):Lit->Option Value:=λk=>@ite _ (k=dI) (Classical.propDecidable _) v (f k)
def EE{f:Lit->Option Value}{v:Option Value}:vY f dI v dI=v:=by unfold vY;rw[if_pos rfl]
def yc{f:Lit->Option Value}{k:Lit}{v:Option Value}(h:k≠dI):vY f dI v k=f k:=by unfold vY;rw[if_neg h]
def aut{D:DataW Unit}(jw:Maps.IsMap D)(hk:WideAt.IsKeyLit dI){v:Value}{y:DataW Unit×List MemPlace}(bo:qp v=some y):Bu (D.put dI y.1)=vY (Bu D) dI (some v):=by
 funext k;unfold Bu;by_cases h:k=dI
 ·subst h;rw[EE,bm (Maps.has_put_same jw hk _),Maps.atKey_put_same jw hk,Lt bo]
 ·rw[yc h,Maps.has_put_other h,Maps.atKey_put_other h]
def auu{D:DataW Unit}:Bu (D.del dI)=vY (Bu D) dI none:=by
 funext k;unfold Bu;by_cases h:k=dI
 ·subst h;rw[EE,bj (by rw[Maps.has_del_same];decide)]
 ·rw[yc h,Maps.has_del_other h,Maps.atKey_del_other h]
def fl(w:World)(P:Program)(k:TypeId)(b n s:Nat)(f:Lit->Option Value):Prop:=∃D,w.ownsMap P k qp b n D/\Maps.size D=s/\Bu D=f
section
variable {P:Program}{k:TypeId}{w w':World}{b n s:Nat}{f:Lit->Option Value}
def fl.lt(h:fl w P k b n s f):b<(w:Nat):=let ⟨_,h,_⟩:=h;h.lt
def fl.aB(h:fl w P k b n s f)(aa:w'.heap[b]? =w.heap[b]?):fl w' P k b n s f:=by
 obtain⟨D,⟨aS,clock,ae,ak⟩,aM,bn⟩:=h;exact⟨D,⟨aS,clock,aa.trans ae,ak⟩,aM,bn⟩
def fl.ext(h:fl w P k b n s f)(U:Z w w'):fl w' P k b n s f:=h.aB (U.block b h.lt)
def fl.CL(w:aC)(P:Program)(k:TypeId):fl (w.alloc (.map #[] 0)) P k w 0 0 (λ_=>none):=
 ⟨.map [],World.ownsMap_made w P k qp,rfl,by funext dI;rfl⟩
def fl.ZB(h:fl w P k b n s f):∃aS c,w.heap[b]?=some (.map aS c):=let ⟨_,⟨aS,c,h,_⟩,_⟩:=h;⟨aS,c,h⟩
def fl.ZC(h:fl w P k b n s f)(K:Maps.Keyed P k)(a6:P.underlying t=some (.map k e)){z:Value}(bf:(zeroValue e).run P w=.ok z w){y:DataW Unit×List MemPlace}(hy:qp z=some y)(uj:keyOf P k key=some dI):(Instr.lookup t (.map (some b)) key false).run P w=.ok ((f dI).getD z) w:=by
 obtain⟨D,h,_,rfl⟩:=h;obtain⟨v,_,mG,bo⟩:=h.lookup K a6 bf (zd:=y.1) (zp:=y.2) hy uj;rw[mG];have aD:=Lt bo;dsimp only at aD;unfold Bu;by_cases b5:Maps.has D dI=true
 ·rw[bm b5,ahT b5 .nil y.1,aD];rfl
 ·rw[bj b5];rw[Maps.atKey_of_not_has (by simpa using b5),Lt hy]at aD;cases aD;rfl
def fl.ZD(h:fl w P k b n s f)(K:Maps.Keyed P k)(a6:P.underlying t=some (.map k e)){z:Value}(bf:(zeroValue e).run P w=.ok z w){y:DataW Unit×List MemPlace}(hy:qp z=some y)(uj:keyOf P k key=some dI):(Instr.lookup t (.map (some b)) key true).run P w=.ok (.tuple #[(f dI).getD z,.bool (f dI).isSome]) w:=by
 obtain⟨D,h,_,rfl⟩:=h;obtain⟨v,_,mG,bo⟩:=h.look_ok K a6 bf (zd:=y.1) (zp:=y.2) hy uj;rw[mG];have aD:=Lt bo;dsimp only at aD;unfold Bu;by_cases b5:Maps.has D dI=true
 ·rw[bm b5,ahT b5 .nil y.1,aD,b5];rfl
 ·rw[bj b5];rw[Maps.atKey_of_not_has (by simpa using b5),Lt hy]at aD;cases aD;rw[show Maps.has D dI=false from by simpa using b5];rfl
def fl.store(h:fl w P k b n s f)(K:Maps.Keyed P k)(a6:P.underlying t=some (.map k e))(an:n<maxLen){val:Value}{y:DataW Unit×List MemPlace}(uj:keyOf P k key=some dI)(bo:qp val=some y):
  ∃w',(Instr.mapUpdate t (.map (some b)) key val).run P w=.ok () w'/\fl w' P k b (n+1) (if (f dI).isSome=true then s else s+1) (vY f dI (some val))/\w.mapTurned w' b:=by
 obtain⟨D,h,rfl,rfl⟩:=h;obtain⟨w',mG,ae,ak⟩:=h.store K a6 an (d:=y.1) (ps:=y.2) uj bo;refine⟨w',mG,⟨_,ae,?_,aut h.isMap (K.key uj) bo⟩,ak⟩;rw[Maps.size_put (h.tidy K),T2 h]
def fl.drop(h:fl w P k b n s f)(K:Maps.Keyed P k)(a6:P.underlying t=some (.map k e))(uj:keyOf P k key=some dI)(ty:TypeId):
  ∃w',(Builtin.delete_ #[t,k] ty #[.map (some b),key]).run P w=.ok (.tuple #[]) w'/\fl w' P k b n (if (f dI).isSome=true then s - 1 else s) (vY f dI none)/\w.mapTurned w' b:=by
 obtain⟨D,h,rfl,rfl⟩:=h;obtain⟨w',mG,ae,ak⟩:=h.drop K a6 uj ty;refine⟨w',mG,⟨_,ae,?_,auu⟩,ak⟩;rw[T2 h];have:=Maps.size_del (k:=dI) (h.tidy K);split<;>simp_all<;>omega
def fl.len(h:fl w P k b n s f)(a6:P.underlying t=some (.map k e))(ty:TypeId):(Builtin.len_ #[t] ty #[.map (some b)]).run P w=.ok (.int .i64 s) w:=by
 obtain⟨D,h,rfl,rfl⟩:=h;exact h.len a6 ty
end
end
section
section
variable {P:Program}{w:World}{ops:Array Oper}{rest:List Oper}{o:Oper}{a:Act}{Q:Exit->Act->World->Prop}{K:Act->World->Prop}{k e t:TypeId}{b n s:Nat}{f:Lit->Option Value}
def ahU(m x:Operand)(mm:o.op=Op.lookup t m x false)(oL:Maps.Keyed P k)(a6:P.underlying t=some (.map k e))(z:Value)(bf:(zeroValue e).run P w=.ok z w){y:DataW Unit×List MemPlace}(hy:qp z=some y)(hm:a.eval m=.map (some b))(h:fl w P k b n s f)(U:a.eval x=key)(uj:keyOf P k key=some dI)(aL:K (a.put o.dst ((f dI).getD z)) w):o.wp P a w K Q:=by
 unfold Oper.wp;simp[execOp,mm,hm,U,h.ZC oL a6 bf hy uj,Result.andThen];exact aL
def Pj(m x:Operand)(mm:o.op=Op.lookup t m x true)(oL:Maps.Keyed P k)(a6:P.underlying t=some (.map k e))(z:Value)(bf:(zeroValue e).run P w=.ok z w){y:DataW Unit×List MemPlace}(hy:qp z=some y)(hm:a.eval m=.map (some b))(h:fl w P k b n s f)(U:a.eval x=key)(uj:keyOf P k key=some dI)(aL:K (a.put o.dst (.tuple #[(f dI).getD z,.bool (f dI).isSome])) w):o.wp P a w K Q:=by
 unfold Oper.wp;simp[execOp,mm,hm,U,h.ZD oL a6 bf hy uj,Result.andThen];exact aL
def Pk(m x v:Operand)(mm:o.op=Op.mapUpdate t m x v)(oL:Maps.Keyed P k)(a6:P.underlying t=some (.map k e))(hm:a.eval m=.map (some b))(h:fl w P k b n s f)(an:n<maxLen){val:Value}(U:a.eval x=key)(bo:a.eval v=val)(uj:keyOf P k key=some dI){y:DataW Unit×List MemPlace}(hy:qp val=some y)(aL:∀w',fl w' P k b (n+1) (if (f dI).isSome=true then s else s+1) (vY f dI (some val))->w.mapTurned w' b->K (a.put o.dst undef) w'):o.wp P a w K Q:=by
 obtain⟨w',mG,dr,eF⟩:=h.store oL a6 an uj hy;unfold Oper.wp;simp[execOp,mm,hm,U,bo,mG,Result.andThen];exact aL w' dr eF
def auv(m x:Operand)(mm:o.op=Op.call {callee:=Callee.builtin Builtin.delete,args:=#[m,x],argTypes:=#[t,k]})(oL:Maps.Keyed P k)(a6:P.underlying t=some (.map k e))(hm:a.eval m=.map (some b))(h:fl w P k b n s f)(U:a.eval x=key)(uj:keyOf P k key=some dI)(aL:∀w',fl w' P k b n (if (f dI).isSome=true then s - 1 else s) (vY f dI none)->w.mapTurned w' b->K (a.put o.dst (.tuple #[])) w'):o.wp P a w K Q:=by
 obtain⟨w',mG,dr,eF⟩:=h.drop oL a6 uj o.type;unfold Oper.wp;simp[execOp,mm,resolve,invoke,builtin,hm,U,mG,Result.andThen];exact aL w' dr eF
def Gw(bu:o.guard=none)(h:∀K:Act->aC->Prop,(∀a w,wpList P ops Q rest a w->K a w)->o.wp P a w K Q):wpList P ops Q (o::rest) a w:=wpList_plain bu h
def Pl{E:Prop}(bu:o.guard=none)(h:o.wp P a w K Q):if Region.wanted o (yielded ops a.tmps)=true then o.wp P a w K Q else E:=by
 rw[bm (by simp only[Region.wanted,bu])];exact h
end
end
def ahV:laidOutB prog=true:=bV
def auw:(match prog.underlying 152 with|some (.array _ _)|some (.struct _)=>true|_=>false)=true:=by rw[underlying152]
def ahW:(152:TypeId)<prog.types.size:=Nat.le_of_ble_eq_true bV
def auy:prog.keyTypeAt 2 152=true:=bV
def T3:Maps.Keyed prog 152:=Maps.Keyed.of_law (deep_law_laid ahV (m:=2) J ahW auy auw)
def ahX:prog.cellsOf 152=2:=bV
def ahY:prog.cellsOf 3=1:=bV
def auz:prog.keyType 152=true:=bV
def EF(a b:Int):Lit:=.string (keyBytes [.int .i64 a,.int .i64 b])
def Pm{a b:Int}(et:(Lit.int .i64 a).wf=true)(fh:(Lit.int .i64 b).wf=true):keyOf prog 152 (.agg #[a,b])=some (EF a b):=by
 have bc:(Value.agg #[a,b]).formed prog 152=true:=by simp[Value.formed,underlying152,ahX]
 obtain⟨m,hm⟩:∃m,prog.types.size=m+1:=⟨prog.types.size - 1,(Nat.sub_add_cancel (NI (hX _) ahW)).symm⟩;unfold keyOf;simp only[underlying152];rw[bm (by simp[auz,bc]),hm];unfold Program.keyLits;simp only[underlying152,Value.cells];rw[bm ⟨by rw[ahX];rfl,by simp⟩];simp[Program.keyLits,underlying3,ahY,et,fh,EF]
def sO(c:bt)(a b:Int):Bool:=decide (0<=a/\0<=b)&&mR c a.toNat b.toNat
def Bv(w:World)(M:Nat->Prop)(buf:Array Value)(l:List dC):Prop:=
 buf.size=l.length/\∀(k:Nat) (m:dC),l[k]?=some m->ue m/\∃a n c,buf[k]?=some (Value.slice a n c)/\dq M w (λw=>a1 w 1 cp a n c (ui m))
structure qW (w:World) (M:Nat->Prop) (c:bt) (cA:Nat) (g:Nat->Nat->Nat) (c4:Nat->Nat->List dC):Prop where
 map:dq M w (λw=>∃dF n s f,w.heap[cA]?=some (.cells #[.map (some dF)] 148)/\fl w prog 152 dF n s f/\
  ∀a b:Int,(Lit.int .i64 a).wf=true->(Lit.int .i64 b).wf=true->f (EF a b)=if sO c a b=true then some (.chan (some (g a.toNat b.toNat))) else none)
 inj:∀a b hU b',mR c a b=true->mR c hU b'=true->g a b=g hU b'->a=hU/\b=b'
 EG:∀a b,mR c a b=true->M (g a b)
 chan:∀a b,mR c a b=true->∃buf s r,w.heap[g a b]?=some (.chan 8 buf false s r false)/\Bv w M buf (c4 a b)
def auA(w:aC):(zeroValue 150).run prog w=.ok (.chan none) w:=zeroValue150 w
def auB(M:ff)(c:bt)(cA:Nat)(g:Nat->Nat->Nat)(c4:Nat->Nat->List dC)(a b:Int)(w:aC)(h:qW w M c cA g c4)(et:(Lit.int .i64 a).wf=true)(fh:(Lit.int .i64 b).wf=true):
  aR 88 #[cA,a,b] w (cM (.tuple (if sO c a b=true then #[.chan (some (g a.toNat b.toNat)),ar] else #[.chan none,bh 140])) w):=by
 obtain⟨_,n,s,f,aa,ef,bc⟩:=h.map.dQ;have cT:=aI (o:=0) aa rfl;change Hid _ at ef;have bN:=I (bc a b et fh);have b8:=I (Pm et fh);clear aa bc h;have vZ:Hid (sO c a b=sO c a b):=rfl;cases hw:sO c a b with
 |true=>
  have lM:=I (show f (EF a b)=some (.chan (some (g a.toNat b.toNat)))from by rw[bN.out,bm hw]);clear hw bN vZ;rw[bm rfl];exact ahZ
 |false=>
  have lM:=I (show f (EF a b)=none from by rw[bN.out,bj (by rw[hw];decide)]);clear hw bN vZ;rw[bj af];exact ahZ
section
def b4.eG(w:aC)(M:ff):b4 w M M:=⟨λ_ h=>h,λ_ h=>.inl h⟩
def Bv.step{w w':aC}{M:ff}{l:List dC}(h:Bv w M buf l)(al:aG M w w'):Bv w' M buf l:=
 ⟨h.1,λk m hk=>by obtain⟨ae,a,n,c,ak,aM⟩:=h.2 k m hk;exact⟨ae,a,n,c,ak,aM.step al (b4.eG _ _)⟩⟩
section
variable {w w':World}{M:Nat->Prop}{c:bt}{cA:Nat}{g:Nat->Nat->Nat}{c4:Nat->Nat->List dC}
def qW.ext(h:qW w M c cA g c4)(U:Z w w'):qW w' M c cA g c4:=
 ⟨h.map.step (.of U) (b4.eG _ _),h.inj,h.EG,λa b jS=>by obtain⟨buf,s,r,ae,ak⟩:=h.chan a b jS;exact⟨buf,s,r,U.aB ae,ak.step (.of U)⟩⟩
def EH(c4:Nat->Nat->List dC)(a b:Nat)(l:List dC):Nat->Nat->List dC:=λx y=>if x=a/\y=b then l else c4 x y
def qW.set{a s r:Nat}{l:List dC}(h:qW w M c cA g c4)(hw:mR c a b=true)(al:aG (·=g a b) w w')(aa:w'.heap[g a b]?=some (.chan 8 buf false s r false))(aT:Bv w' M buf l):
  qW w' M c cA g (EH c4 a b l):=by
 have fy:aG M w w':=al.sub (λx U=>by have:x=g a b:=U;rw[this];exact h.EG a b hw);refine⟨h.map.step fy (b4.eG _ _),h.inj,h.EG,λx y EI=>?_⟩;unfold EH;by_cases he:x=a/\y=b
 ·obtain⟨rfl,rfl⟩:=he;rw[bm ⟨rfl,rfl⟩];exact⟨buf,s,r,aa,aT⟩
 ·rw[bj he];obtain⟨auC,s',T4,ae,ak⟩:=h.chan x y EI;exact⟨auC,s',T4,(al.block _ (bT ae) (λbu=>he (h.inj x y a b EI hw bu))).trans ae,ak.step fy⟩
end
def ah0(w:aC)(b cap:Nat)(buf:Array Value)(cl:Bool)(s r:Nat)(tm:Bool):aG (·=b) w (w.setChan b cap buf cl s r tm):=
 ⟨rfl,rfl,rfl,by simp[World.setChan],λk _ an=>by simp only[World.setChan];rw[Array.getElem?_setIfInBounds_ne (λh=>an h.symm)]⟩
def ah1{w:aC}{o:Obj}(h:w.heap[b]?=some o)(cap:Nat)(buf:Array Value)(cl:Bool)(s r:Nat)(tm:Bool):(w.setChan b cap buf cl s r tm).heap[b]?=some (.chan cap buf cl s r tm):=by
 have:=bT h;simp[World.setChan,this]
def tz(c:bt)(g:Nat->Nat->Nat)(b:Nat):Prop:=∃x y,mR c x y=true/\b=g x y
def ah2{w w':aC}{c:bt}{g:Nat->Nat->Nat}{a:Nat}(hw:mR c a b=true)(al:aG (·=g a b) w w'):aG (tz c g) w w':=al.sub (λx e=>⟨a,b,hw,e⟩)
def CM{c:bt}{a b:Int}(h:sO c a b=true):mR c a.toNat b.toNat=true:=by
 unfold sO at h;rw[Bool.and_eq_true]at h;exact h.2
def CN(w:World)(M:Nat->Prop)(c:bt)(cA:Nat)(g:Nat->Nat->Nat)(c4:Nat->Nat->List dC)(a b:Int)(e:Ending)(w':World):Prop:=
 if sO c a b=true then
  match c4 a.toNat b.toNat with
  | []=>e=.returned (.tuple #[aH,bh 141])/\Z w w'
  |m::l=>∃sa n kj,e=.returned (.tuple #[aq sa n kj,ar])/\ue m/\dq M w' (λw=>a1 w 1 cp sa n kj (ui m))/\qW w' M c cA g (EH c4 a.toNat b.toNat l)/\aG (·=g a.toNat b.toNat) w w'
 else e=.returned (.tuple #[aH,bh 140])/\Z w w'
def ZE(M:ff)(c:bt)(cA:Nat)(g:Nat->Nat->Nat)(c4:Nat->Nat->List dC)(a b:Int)(w:aC)(H:qW w M c cA g c4)(et:(Lit.int .i64 a).wf=true)(fh:(Lit.int .i64 b).wf=true):
  aR 89 #[cA,a,b] w (CN w M c cA g c4 a b):=by
 replace H:=I H;cases hw:sO c a b with
 |false=>
  have dp:Hid (∀e w',e=.returned (.tuple #[aH,bh 140])/\Z w w'->CN w M c cA g c4 a b e w'):=λe w' q=>by unfold CN;rw[if_neg (by rw[hw];decide)];exact q
  change Hid _ at hw;go_enter func89,ntmps89;go_wp2_with fail;refine IP ?_;intro w1 bB;rw[hw.out,bj af];replace bB:=I bB;go_wp2;go_ret2;exact dp _ _ ⟨rfl,X⟩
 |true=>
  obtain⟨buf,s,r,ae,bL⟩:=H.chan _ _ (CM hw);have eZ:=I hw;have dZ:=I bL;cases aT:c4 a.toNat b.toNat with
  |nil=>
   have dp:Hid (∀e w',e=.returned (.tuple #[aH,bh 141])/\Z w w'->CN w M c cA g c4 a b e w'):=λe w' q=>by unfold CN;rw[if_pos hw,aT];exact q
   rw[aT]at bL;obtain rfl:buf=#[]:=Array.eq_empty_of_size_eq_zero bL.1;change Hid _ at ae;clear hw bL aT;go_enter func89,ntmps89;go_wp2_with fail;refine IP ?_;intro w1 bB;rw[eZ.out,bm rfl];replace bB:=I bB;go_wp2_with fail;refine(auq _ s r false _ (bB.aB ae)).mono ?_;rintro e aN⟨rfl,rfl⟩;go_wp2;go_ret2;exact dp _ _ ⟨rfl,X⟩
  |cons m l=>
   have dp:Hid (∀e w',(∃sa n kj,e=.returned (.tuple #[aq sa n kj,ar])/\ue m/\dq M w' (λw=>a1 w 1 cp sa n kj (ui m))/\qW w' M c cA g (EH c4 a.toNat b.toNat l)/\aG (·=g a.toNat b.toNat) w w')->CN w M c cA g c4 a b e w'):=λe w' q=>by unfold CN;rw[if_pos hw,aT];exact q
   rw[aT]at bL;have av:0<buf.size:=by rw[bL.1];simp
   obtain⟨bM,sa,n,kj,bo,bb⟩:=bL.2 0 m rfl;have cv:buf.getD 0 undef=Value.slice sa n kj:=by simp[ZF,bo]
   change Hid _ at ae;replace cv:=I cv;replace av:=I av;replace bM:=I bM;replace bb:=I bb;replace bL:=I bL;clear hw aT bo;go_enter func89,ntmps89;go_wp2_with fail;refine IP ?_;intro w1 bB;rw[eZ.out,bm rfl];replace bB:=I bB;go_wp2_with fail;refine(aup _ s r _ buf false _ (bB.aB ae) av cv).mono ?_;rintro e aN⟨rfl,rfl⟩;have al:=ah0 w1 (g a.toNat b.toNat) 8 (buf.extract 1 buf.size) false s (r+1) false;have ao:=ah1 (bB.aB ae) 8 (buf.extract 1 buf.size) false s (r+1) false;generalize w1.setChan (g a.toNat b.toNat) 8 (buf.extract 1 buf.size) false s (r+1) false=aN at al ao ⊢;have fy:aG M w1 aN:=al.sub (λx U=>by have:x=g a.toNat b.toNat:=U;rw[this];exact H.EG _ _ (CM eZ))
   have eu:=(H.ext bB).set (l:=l) (CM eZ) al ao ⟨by simp[bL.out.1],λk uW hk=>by
    obtain⟨q1,hU,gE,qB,dP,fp⟩:=(bL.step (.of bB)).2 (k+1) uW hk;refine⟨q1,hU,gE,qB,?_,fp.step fy (b4.eG _ _)⟩;have fM:k+1<buf.size:=(FM.1 dP).1;rw[Array.getElem?_extract];rw[bm J,Nat.add_comm]
    exact dP⟩
   replace eu:=I eu;have l4:=I ((aG.of bB).trans al);have w8:=I ((bb.step (.of bB) (b4.eG _ _)).step fy (b4.eG _ _));clear al ao fy;go_wp2;go_ret2;exact dp _ _ ⟨sa,n,kj,rfl,bM,w8,eu,l4⟩
end
def auD(M:ff)(c:bt)(cA:Nat)(g:Nat->Nat->Nat)(c4:Nat->Nat->List dC)(a b:Int)(w:aC)(H:qW w M c cA g c4)(et:(Lit.int .i64 a).wf=true)(fh:(Lit.int .i64 b).wf=true):
  aR 53 #[cA,a,b] w (cM (.int .i64 (if sO c a b=true then (c4 a.toNat b.toNat).length else 0:Nat)) w):=by
 change Hid _ at H;cases hw:sO c a b with
 |false=>
  change Hid _ at hw;go_enter func53,ntmps53;go_wp2_with fail;refine IP ?_;intro w1 bB;rw[hw.out,bj af];change Hid _ at bB;go_wp2;go_ret;exact⟨rfl,X⟩
 |true=>
  obtain⟨_,s,r,H1,ak⟩:=H.chan _ _ (CM hw);change Hid _ at hw H1;have dZ:=I ak.1;clear ak;go_enter func53,ntmps53;go_wp2_with fail;refine IP ?_;intro w1 bB;rw[hw.out,bm rfl];have ao:=bB.aB H1;have hlen:=λty=>Go.Conc.run_len_chan (P:=prog) (w:=w1) 150 ty underlying150 ao;change Hid _ at bB;go_wp2;go_ret;exact⟨by rw[<-dZ.out];rfl,X⟩
def Bv.ri{m:dC}{l:List dC}{c:Nat}(h:Bv w M buf l)(hm:ue m)(fE:dq M w (λw=>a1 w 1 cp a n c (ui m))):Bv w M (buf.push (aq a n c)) (l++[m]):=
 ⟨by simp[h.1],λk uW hk=>by
  by_cases fM:k<l.length
  ·rw[Hp fM]at hk;obtain⟨q1,hU,gE,qB,dP,fp⟩:=h.2 k uW hk;refine⟨q1,hU,gE,qB,?_,fp⟩;rw[Rq,bj (by have:=h.1;omega)];exact dP
  ·rw[JU J]at hk;have sx:k - l.length=0:=by
    rcases yO (k - l.length)with aW|aW
    ·exact aW
    ·rw[y8 (by simp;omega)]at hk;cases hk
   rw[sx]at hk;cases hk;refine⟨hm,a,n,c,?_,fE⟩
   rw[Rq,bm (by have:=h.1;omega)]⟩
def auE(M:ff)(c:bt)(cA:Nat)(g:Nat->Nat->Nat)(c4:Nat->Nat->List dC)(a b:Int)(sa:bk)(n kj:Nat)(m:dC)(w:aC)(H:qW w M c cA g c4)(et:(Lit.int .i64 a).wf=true)(fh:(Lit.int .i64 b).wf=true)(bM:ue m)(av:a1 w 1 cp sa n kj (ui m))(ZG:∀b,M b->b<(w:Nat))(Lh:∀a b,(c4 a b).length<=8):
  aR 87 #[cA,a,b,aq sa n kj] w λe w'=>(∃n:Int,e=.returned n)/\qW w' M c cA g (if sO c a b=true/\(c4 a.toNat b.toNat).length<8 then EH c4 a.toNat b.toNat (c4 a.toNat b.toNat++[m]) else c4)/\aG (tz c g) w w':=by
 have an:n<=10000000:=by have ae:=av.neq;have:=Zy bM;omega
 replace H:=I H;replace bM:=I bM;replace av:=I av;replace ZG:=I ZG;cases hw:sO c a b with
 |false=>
  rw[bj (by rintro ⟨h,_⟩;cases h)];change Hid _ at hw;go_enter func87,ntmps87;go_wp2_with fail;refine IP ?_;intro w1 bB;exact auF
 |true=>
  obtain⟨buf,s,r,H1,dZ⟩:=H.chan _ _ (CM hw);change Hid _ at hw;replace H1:=I H1;replace dZ:=I dZ;obtain⟨L,bL⟩:∃L,(if true=true/\(c4 a.toNat b.toNat).length<8 then EH c4 a.toNat b.toNat (c4 a.toNat b.toNat++[m]) else c4)=L:=⟨_,rfl⟩;rw[bL];replace bL:=I bL;replace Lh:=I Lh;go_enter func87,ntmps87;go_wp2_with fail;refine IP ?_;intro w1 bB;rw[hw.out,bm rfl];replace bB:=I bB;go_wp2_with fail;refine(SM sa n kj (ui m) _ (av.ext bB) an).mono ?_;rintro e aN⟨cE,cZ,c2,rfl,aK,aa⟩;have ba:=I (aK.mono (aDn:=(w:Nat)) bB.size);have bz:=I (bB.trans aa);clear aK aa;have U:=bz.aB H1;have ZH:∀(aY:aC),aG (·=g a.toNat b.toNat) aN aY->aG M aN aY:=λaY al=>al.sub (λx U=>by have:x=g a.toNat b.toNat:=U;rw[this];exact H.EG _ _ (CM hw));have bb:dq M aN (λw=>a1 w 1 cp cE cZ c2 (ui m)):=(ba.pJ (λai aj hm=>by have ae:=(ba.lt ai aj).1;have ak:=ZG.out _ hm;omega)).mono (λw h=>h.aF);replace bb:=I bb;replace ZH:=I ZH;go_wp2_with fail;by_cases fM:buf.size<8
  ·refine(aun _ s r buf false _ _ U fM).mono ?_;rintro e aY⟨rfl,vd⟩;have al:=ah0 aN (g a.toNat b.toNat) 8 (buf.push (aq cE cZ c2)) false (s+1) r false;have ao:=ah1 U 8 (buf.push (aq cE cZ c2)) false (s+1) r false;rw[<-vd]at al ao;have Gx:=ZH.out _ al;have dG:=(H.ext bz).set (CM hw) al ao (((dZ.step (.of bz)).step Gx).ri bM (bb.step Gx (b4.eG _ _)));have eu:=I (show qW aY M c cA g L from by rw[<-bL.out,bm ⟨by first|trivial|rfl,by rw[<-dZ.out.1];exact fM⟩];exact dG);have l4:Hid (aG (tz c g) w aY):=(aG.of bz).trans (ah2 (CM hw) al);clear al ao Gx dG U vd fM;go_wp2;go_ret;exact⟨⟨_,rfl⟩,eu,l4⟩
  ·refine(auo _ s r buf false _ _ U J).mono ?_;rintro e aY⟨rfl,rfl⟩;have eu:=I (show qW aY M c cA g L from by rw[<-bL.out,bj (by rintro ⟨_,h⟩;rw[<-dZ.out.1]at h;exact fM h)];exact H.ext bz);have l4:Hid (aG (tz c g) w aY):=(aG.of bz);clear U fM;go_wp2;go_ret;exact⟨⟨_,rfl⟩,eu,l4⟩
def yd(ps:List Int)(k a b:Nat):Bool:=decide (1<=a/\a<k/\ps.getD a 0=(b:Int))||decide (1<=b/\b<k/\ps.getD b 0=(a:Int))
def ah3{ps:List Int}(h:jn ps=true):ps.getD 0 0=-1/\∀k,1<=k->k<ps.length->0<=ps.getD k 0/\ps.getD k 0<(k:Int):=ah4
def auG(h:jn c.ps=true)(a b:Nat):yd c.ps c.ps.length a b=mR c a b:=by
 obtain⟨aW,aV⟩:=ah3 h;have aT:1<=c.ps.length:=by
  unfold jn at h;simp only[ke,jQ]at h;exact h.1.1
 rw[vt];unfold yd mR;simp only[xh,ke,jQ];constructor
 ·rintro (⟨ae,ak,aM⟩|⟨ae,ak,aM⟩)
  ·have:=aV a ae ak;exact⟨⟨ak,J⟩,.inl aM⟩
  ·have:=aV b ae ak;exact⟨⟨J,ak⟩,.inr aM⟩
 ·rintro ⟨⟨ae,ak⟩,aM|aM⟩
  ·refine .inl ⟨?_,ae,aM⟩;rcases yO a with rfl|aj
   ·rw[aW]at aM;omega
   ·exact aj
  ·refine .inr ⟨?_,ak,aM⟩;rcases yO b with rfl|aa
   ·rw[aW]at aM;omega
   ·exact aa
def ZI(ps:List Int)(a b:Nat):yd ps 1 a b=false:=by
 unfold yd;rw[JP,zy,zy];omega
def auH{ps:List Int}(ae:1<=k)(bq:ps.getD k 0=(q:Int))(fM:q<k)(a b:Nat):yd ps (k+1) a b=(yd ps k a b||(decide (a=k/\b=q)||decide (a=q/\b=k))):=by
 rw[vt];unfold yd;simp only[xh,jQ];constructor
 ·rintro (⟨iu,gR,ji⟩|⟨iu,gR,ji⟩)
  ·by_cases he:a=k
   ·subst he;rw[bq]at ji;exact .inr (.inl ⟨rfl,J⟩)
   ·exact .inl (.inl ⟨iu,J,ji⟩)
  ·by_cases he:b=k
   ·subst he;rw[bq]at ji;exact .inr (.inr ⟨J,rfl⟩)
   ·exact .inl (.inr ⟨iu,J,ji⟩)
 ·rintro ((⟨iu,gR,ji⟩|⟨iu,gR,ji⟩)|⟨rfl,rfl⟩|⟨rfl,rfl⟩)
  ·exact .inl ⟨iu,J,ji⟩
  ·exact .inr ⟨iu,J,ji⟩
  ·exact .inl ⟨ae,J,bq⟩
  ·exact .inr ⟨ae,J,bq⟩
def ah5(h:w.mapTurned w' b)(hk:k<(w:Nat))(di:k≠b):w'.heap[k]? =w.heap[k]? :=h.grown.block k hk (λe=>by cases e;exact di rfl)
structure Gy (bs w:World) (W:Nat->Nat->Bool) (cA dF n:Nat) (g:Nat->Nat->Nat) (f:Lit->Option Value) (s:Nat):Prop where
 box:w.heap[cA]?=some (.cells #[.map (some dF)] 148)
 map:fl w prog 152 dF n s f
 at_:∀a b:Int,(Lit.int .i64 a).wf=true->(Lit.int .i64 b).wf=true->f (EF a b)=if (decide (0<=a/\0<=b)&&W a.toNat b.toNat)=true then some (.chan (some (g a.toNat b.toNat))) else none
 inj:∀a b hU b',W a b=true->W hU b'=true->g a b=g hU b'->a=hU/\b=b'
 chan:∀a b,W a b=true->bs.heap.size<=g a b/\w.heap[g a b]?=some (.chan 8 #[] false 0 0 false)
def auI{a b x y:Int}(et:(Lit.int .i64 a).wf=true)(fh:(Lit.int .i64 b).wf=true)(fD:(Lit.int .i64 x).wf=true)(ZJ:(Lit.int .i64 y).wf=true)(h:EF a b=EF x y):a=x/\b=y:=by
 have:=T3.inj (Pm et fh) (by rw[h];exact Pm fD ZJ);injection this with this;injection this with this;simp at this;exact this
def Gy.add{bs w1 aN:aC}{W W':Nat->Nat->Bool}{cA dF x y:Nat}{g:Nat->Nat->Nat}{f:Lit->Option Value}{s s':Nat}(h:Gy bs w W cA dF n g f s)(aW:Z bs w)(zl:(bs:Nat)<=dF)(U:Z w w1)(br:(w:Nat)<=B)(ao:w1.heap[B]?=some (.chan 8 #[] false 0 0 false))(fD:(Lit.int .i64 (x:Int)).wf=true)(ZJ:(Lit.int .i64 (y:Int)).wf=true)(hF:fl aN prog 152 dF (n+1) s' (vY f (EF x y) (some (.chan (some B)))))(a6:w1.mapTurned aN dF)(fa:∀a b,W' a b=(W a b||decide (a=x/\b=y)))(eO:W x y=false):
  ∃FE Gc s',Gy bs aN W' cA dF (n+1) FE Gc s'/\Z bs aN:=by
 obtain⟨ae,ak,aM,bn,cb⟩:=h;have zk:=ak.ZB;have hk:∀b o,b<(w1:Nat)->(∀aS c,o≠.map aS c)->w1.heap[b]?=some o->aN.heap[b]?=some o:=λb o aa an he=>by
  refine(ah5 a6 aa ?_).trans he;rintro rfl;obtain⟨aS,c,_,_,hm,_⟩:=a6;rw[hm]at he;injection he with he;exact an _ _ he.symm
 have fM:∀a b,W a b=true->g a b≠B:=λa b jS e=>by
  have:=bT (cb a b jS).2;omega
 refine⟨λa b=>if a=x/\b=y then B else g a b,_,s',⟨hk _ _ (bT (U.aB ae)) (λaS c e=>by cases e) (U.aB ae),hF,λa b et fh=>?_,λa b hU b' jS Oj e=>?_,λa b jS=>?_⟩,(aW.trans U).grown a6.grown (λk e=>by cases e;exact zl)⟩
 ·by_cases he:a=x/\b=y
  ·obtain⟨rfl,rfl⟩:=he;rw[EE,fa];simp
  ·rw[yc (λe=>he (auI et fh fD ZJ e)),aM a b et fh,fa];by_cases aV:0<=a/\0<=b
   ·have di:¬(a.toNat=x/\b.toNat=y):=J;rw[lo di,Bool.or_false,bj di]
   ·rw[lo aV,Gz,Gz];rfl
 ·rw[fa,xh,jQ]at jS Oj;try dsimp only at e
  by_cases bQ:a=x/\b=y<;>by_cases bY:hU=x/\b'=y
  ·omega
  ·rw[bm bQ,bj bY]at e;exact absurd e.symm (fM _ _ (Oj.resolve_right bY))
  ·rw[bj bQ,bm bY]at e;exact absurd e (fM _ _ (jS.resolve_right bQ))
  ·rw[bj bQ,bj bY]at e;exact bn _ _ _ _ (jS.resolve_right bQ) (Oj.resolve_right bY) e
 ·rw[fa,xh,jQ]at jS;have z:=aW.size;try dsimp only
  by_cases bQ:a=x/\b=y
  ·rw[bm bQ];exact⟨J,hk _ _ (bT ao) (λaS c e=>by cases e) ao⟩
  ·rw[bj bQ];obtain⟨q1,dP⟩:=cb a b (jS.resolve_right bQ);exact⟨q1,hk _ _ (bT (U.aB dP)) (λaS c e=>by cases e) (U.aB dP)⟩
def uk{a:Int}(aW:0<=a)(ae:a<1000000):(Lit.int .i64 a).wf=true:=by
 have bS:IntKind.i64.min=-9223372036854775808:=by rfl
 have bE:IntKind.i64.max=9223372036854775807:=by rfl
 simp only[Lit.wf,bS,bE,ke,jQ];omega
def auJ:(prog.info? 107).map (·.bytes)=some 24:=bV
def auK(w:aC):(Instr.makeChan 150 (bh 8)).run prog w=.ok (.chan (some (w:Nat))) (w.alloc (.chan 8 #[] false 0 0 false)):=by
 obtain⟨i,aO,aa⟩:=Option.map_eq_some_iff.1 auJ;simpa using Go.Conc.run_makeChan (P:=prog) (w:=w) underlying150 aO .i64 8 J (by rw[aa];omega)
def auL{ps:List Int}(ZK:q<k)(aV:∀j,1<=j->j<ps.length->0<=ps.getD j 0/\ps.getD j 0<(j:Int))(hk:k<ps.length):yd ps k k q=false/\(yd ps k q k||decide (q=k/\k=q))=false:=by
 have bf:∀j,1<=j->j<k->ps.getD j 0=(k:Int)->False:=λj ae ak aM=>by
  have:=aV j ae J;omega
 unfold yd;simp only[JP,zy];refine⟨⟨J,λh=>bf q h.1 h.2.1 h.2.2⟩,⟨λh=>bf q h.1 h.2.1 h.2.2,J⟩,J⟩
def auM(a:bk)(n cap:Nat)(c:bt)(w:aC)(H:a1 w 1 dD a n cap c.ps)(dp:jn c.ps=true):
  aR 32 #[.slice a n cap] w λe w'=>∃cA dF n g f s,e=.returned (.tuple #[.pointer (some (cA,0)),.int .i64 0])/\(w:Nat)<=cA/\(w:Nat)<=dF/\Gy w w' (mR c) cA dF n g f s/\Z w w':=by
 obtain rfl:=H.neq;have hm:=H.max;unfold maxLen at hm;replace H:=I H;replace dp:=I dp;go_enter func32,ntmps32;go_wp2_with fail;refine(KH a c.ps.length cap c.ps _ (H.ext X)).mono ?_;rintro e w1⟨rfl,bB⟩;rw[dp.out];have CO:Cr true=0:=rfl;rw[CO];replace bB:=I bB;have sd:=@run_makeMap prog;go_wp2_with fail;have bf:(w1.alloc (Obj.map #[] 0)).heap.size=(w1:Nat)+1:=by simp
 have alq:((w1.alloc (Obj.map #[] 0)).alloc (.cells #[.map (some (w1:Nat))] 148)).heap[(w1:Nat)+1]?=some (.cells #[.map (some (w1:Nat))] 148):=fi bf.symm;have ve:=(fl.CL w1 prog 152).ext ((Z.refl _).alloc (.cells #[.map (some (w1:Nat))] 148));have bz:Z w ((w1.alloc (Obj.map #[] 0)).alloc (.cells #[.map (some (w1:Nat))] 148)):=X;have iL:=bB.size;have Lu:=I (ah3 dp);have AJ:1<=c.ps.length/\c.ps.length<=16:=by
  have h:=dp.out;unfold jn at h;simp only[ke,jQ]at h;exact h.1
 generalize ((w1.alloc (Obj.map #[] 0)).alloc (.cells #[.map (some (w1:Nat))] 148))=aN at alq ve bz ⊢;generalize (w1:Nat)=dF at alq ve iL ⊢;have hi:=auK;replace alq:=I alq;replace ve:=I ve;replace bz:=I bz;go_loopg [6] (c.ps.length - 1) (λs8 Sf wr=>∃(k jj:Nat) (g:Nat->Nat->Nat) (f:Lit->Option Value) (s:Nat),s8+k=c.ps.length/\1<=k/\Sf=.int .i64 k/\jj<=2*k/\Hid (Gy w wr (yd c.ps k) (dF+1) dF jj g f s)/\Hid (Z w wr));case atStart=>
  refine⟨1,0,λ_ _=>0,_,0,J,J,rfl,J,⟨alq,ve,λx y _ _=>?_,λx y bX rD h=>?_,λx y h=>?_⟩,bz⟩
  ·rw[ZI,FH];rfl
  ·rw[ZI]at h;cases h
  ·rw[ZI]at h;cases h
 case round=>
  obtain⟨k,jj,g,f,s,_,nR,rfl,_,dG,iG⟩:=hrel;by_cases hk:k<c.ps.length
  ·have bd:(k:Int)<(c.ps.length:Int):=J;have b0:(0:Int)<=(k:Int):=J;obtain⟨fC,o,rfl,ao⟩:=H.get k hk;have IQ:=AI (x:=c.ps[k]) ao;rw[jT]at IQ;replace IQ:=I IQ;have qX:=I (iG.ah IQ);have Pn:=I dG.box;have IS:=I dG.map;go_wp2_with fail;refine sI (λw'=>w'.heap[dF+1]?=some (.cells #[.map (some dF)] 148)/\w'.cell? (fC,o+k)=some ↑c.ps[k]) (λa7=>?_) (by(try dsimp only);exact⟨Z.aB (W:=wr) X Pn,Z.ah (W:=wr) X qX⟩);refine Ag ?_;refine lA 3 (·.1) ?_;refine Lm ?_;refine cX 7 ?_;refine Bf 8 (·.2) ?_;refine ye ?_;intro K aL;refine aL _ _ (by(try dsimp only);exact⟨Z.aB (W:=wr) X Pn,Z.ah (W:=wr) X qX⟩) λa7=>eY ?_;refine hE 11 λK aL=>?_;obtain⟨q,oX⟩:∃q:Nat,c.ps[k]=(q:Int):=⟨c.ps[k].toNat,by have:=Lu.out.2 k nR hk;rw[xO,fz hk]at this;simp at this;omega⟩;have ZK:q<k:=by have:=Lu.out.2 k nR hk;rw[xO,fz hk]at this;simp at this;omega
   have Bw:(Lit.int .i64 (k:Int)).wf=true:=uk J J;have cY:(Lit.int .i64 (q:Int)).wf=true:=uk J J;have als:=I (auL ZK Lu.out.2 hk);refine Pl rfl (Pk _ _ _ rfl T3 underlying146 rfl (IS.ext X) HQ rfl rfl (Pm Bw (by rw[oX];exact cY)) rfl ?_);intro bp CP EJ;rw[oX]at CP;obtain⟨_,_,_,EK,Po⟩:=Gy.add (W':=λx y=>yd c.ps k x y||decide (x=k/\y=q)) dG iG iL (B:=(wr:Nat)) X (bA _) (by show(wr.alloc (Obj.chan 8 #[] false 0 0 false)).heap[(wr:Nat)]? =_;exact fi rfl) Bw cY CP EJ (λ_ _=>rfl) als.out.1;replace EK:=I EK;replace Po:=I Po;refine aL _ _ ?_ (λhH=>?_)
   focus ((try dsimp only);exact⟨EK.box,Po.ah IQ⟩)
   refine eY ?_;refine wpAnyH_done bV ?_ _;replace oX:=I oX;go_wp2_with fail;have IS:=I EK.map;refine sI (λw'=>w'.heap[dF+1]?=some (.cells #[.map (some dF)] 148)/\w'.cell? (fC,o+k)=some ↑c.ps[k]) (λa7=>?_) ah6;refine Ag ?_;refine lA 3 (·.1) ?_;refine Lm ?_;refine Bf 7 (·.2) ?_;refine cX 8 ?_;refine ye ?_;intro K aL;refine aL _ _ ah6 λa7=>eY ?_;refine hE 11 λK aL=>?_;refine Pl rfl (Pk _ _ _ rfl T3 underlying146 rfl (IS.ext X) HQ rfl rfl (Pm (by rw[oX.out];exact cY) Bw) rfl ?_);intro _ Pp T5;rw[oX.out]at Pp;obtain⟨g6,f6,uS,IT,T6⟩:=Gy.add (W':=yd c.ps (k+1)) EK Po iL (B:=(bp:Nat)) X (bA _) (by show(bp.alloc (Obj.chan 8 #[] false 0 0 false)).heap[(bp:Nat)]? =_;exact fi rfl) cY Bw Pp T5 (λx y=>by rw[auH nR (by rw[xO,fz hk];exact oX) ZK,Bool.or_assoc]) als.out.2;replace IT:=I IT;replace T6:=I T6;refine aL _ _ ?_ (λhH=>?_)
   focus ((try dsimp only);exact⟨IT.box,T6.ah IQ⟩)
   refine eY ?_;refine wpAnyH_done bV ?_ _;clear IS EK Po;go_wp2;go_roundg (gk - 1);case measure=>omega
   case rel=>exact⟨k+1,_,g6,f6,uS,J,J,by go_num,J,IT,T6⟩
  ·have oK:k=c.ps.length:=J;subst oK;have eZ:Hid (yd c.ps c.ps.length=mR c):=funext λx=>funext λy=>auG dp x y;go_wp2;go_ret2;exact⟨dF+1,dF,jj,g,f,s,rfl,J,iL,eZ.out▸dG.out,iG⟩
section
structure tK where
 cD:iY
 aj:iY
 eS:Nat
 s:lZ
 tx:iY
 kY:Nat
 eN:iY
 tm:Nat
 cW:iY
def j2(i:aA):Lit:=.string (keyBytes [.int .i64 i.b,.int .u64 i.l,.int .u64 i.s])
structure ZL (w:World) (c:bt) (b:az) (v:tK):Prop where
 cD:a1 w 1 dD v.cD.a v.cD.n v.cD.c c.ps
 aj:a1 w 1 dD v.aj.a v.aj.n v.aj.c c.hs
 st:∃ag ps,sC w v.s b.st ag ps
 tx:∃ts,tr w v.tx.a v.tx.n v.tx.c ts/\ts.map b2.tx=b.tx
 eN:a1 w 3 aA.cs v.eN.a v.eN.n v.eN.c b.eN
 cW:w4 w v.cW.a v.cW.n v.cW.c b.cW
def Aj(w:World)(M:Nat->Prop)(kY:Nat)(e8:Nat->Option dC):Prop:=∃(n s:Nat) (f:Lit->Option Value) (e5:List Nat),fl w prog 3 kY n s f/\(e5.Nodup/\∀k,k∈e5->k<1000)/\s=e5.length/\n=s/\
 ∀k:Nat,k<1000000->match e8 k with
  |none=>k∉e5/\f (.int .i64 k)=none
  |some m=>k∈e5/\∃x:ky,f (.int .i64 k)=some (.agg #[x.k,ad x.h,x.v,x.q,x.e,x.p,x.b,x.d])/\dq M w (λw=>tu w x m)
def Ak(w:World)(tm:Nat)(bl:List aA):Prop:=∃n s f,fl w prog 54 tm n s f/\s=bl.length/\n=s/\
 (∀k (hk:k<bl.length),f (j2 bl[k])=some (.int .i64 k))/\∀dI v,f dI=some v->∃i,i∈bl/\dI=j2 i
structure dU (w:World) (M D O:Nat->Prop) (c:bt) (p q:Nat) (b:az) (v:tK):Prop where
 box:w.heap[p]?=some (.cells #[(b.b6:Int),v.cD,v.aj,v.eS,ad v.s.cO,v.s.l,v.s.p,v.s.b,v.tx,ad (b.ev:Int),.map (some v.kY),v.eN,.map (some v.tm),v.cW] 160 (0,0))
 lR:dq M w (λw=>ZL w c b v)
 dk:∃L,qf w M D L v.eS q (b.ez.map gl) (gb (b.ez.map gl)).length c.room/\(∀x,L x->O x)/\¬L p/\¬L v.kY/\¬L v.tm
 gx:Aj w M v.kY b.e8
 yf:Ak w v.tm b.bl
 bI:O p/\O v.kY/\O v.tm
 sub:∀x,O x->M x
 gK:∀x,D x->¬O x
 gQ:p≠v.kY/\p≠v.tm/\v.kY≠v.tm
section
variable {w w':World}{M M' D bP O bZ S:Nat->Prop}{c:bt}{p q:Nat}{b b':az}{v gW:tK}
def Aj.aB{kY:Nat}{e8:Nat->Option dC}(h:Aj w M kY e8)(aa:w'.heap[kY]? =w.heap[kY]?)(aO:∀P,dq M w P->dq M' w' P):Aj w' M' kY e8:=by
 obtain⟨n,s,f,e5,ae,ak,aM,bn,cb⟩:=h;refine⟨n,s,f,e5,ae.aB aa,ak,aM,bn,λk hk=>?_⟩;have:=cb k hk;cases ax:e8 k with
 |none=>rw[ax]at this;exact this
 |some m=>
  rw[ax]at this;obtain⟨bQ,x,bY,ew⟩:=this;exact⟨bQ,x,bY,aO _ ew⟩
def Ak.aB{tm:Nat}{bl:List aA}(h:Ak w tm bl)(aa:w'.heap[tm]? =w.heap[tm]?):Ak w' tm bl:=by
 obtain⟨n,s,f,ae,ak,aM,bn,cb⟩:=h;exact⟨n,s,f,ae.aB aa,ak,aM,bn,cb⟩
def Aj.lt{kY:Nat}{e8:Nat->Option dC}(h:Aj w M kY e8):kY<(w:Nat):=by obtain⟨n,s,f,_,ae,_⟩:=h;exact ae.lt
def Ak.lt{tm:Nat}{bl:List aA}(h:Ak w tm bl):tm<(w:Nat):=by obtain⟨n,s,f,ae,_⟩:=h;exact ae.lt
def dU.cx(h:dU w M D O c p q b v):∀x,M x->x<(w:Nat):=by obtain⟨L,ae,_⟩:=h.dk;exact ae.cx
def dU.sP(h:dU w M D O c p q b v):∀x,D x->M x:=by obtain⟨L,ae,_⟩:=h.dk;exact λx U=>ae.sub x (.inl U)
def dU.step(h:dU w M D O c p q b v)(al:aG S w w')(a8:∀x,S x->M x)(aD:∀x,D x\/O x->¬S x)(bc:b4 w M M')(aT:∀x,M' x->x<(w':Nat)):dU w' M' D O c p q b v:=by
 obtain⟨L,ae,ak,aM⟩:=h.dk;have aO:∀P,dq M w P->dq M' w' P:=λP k=>k.step (al.sub a8) bc;exact⟨(al.block _ (bT h.box) (aD _ (.inr h.bI.1))).trans h.box,aO _ h.lR,⟨L,ae.step al a8 (λx U=>aD x (U.imp id (ak x))) bc aT,ak,aM⟩,h.gx.aB (al.block _ h.gx.lt (aD _ (.inr h.bI.2.1))) aO,h.yf.aB (al.block _ h.yf.lt (aD _ (.inr h.bI.2.2))),h.bI,λx U=>bc.up x (h.sub x U),h.gK,h.gQ⟩
def dU.ext(h:dU w M D O c p q b v)(U:Z w w'):dU w' M D O c p q b v:=
 h.step (S:=λ_=>False) (.of U) (λ_ k=>k.elim) (λ_ _ k=>k) (b4.eG _ _) (λx k=>gw (h.cx x k) U.size)
def dU.kF(h:dU w M D O c p q b v)(al:aG (·=p) w w')(ko:w'.heap[p]?=some (.cells #[(b'.b6:Int),gW.cD,gW.aj,gW.eS,ad gW.s.cO,gW.s.l,gW.s.p,gW.s.b,gW.tx,ad (b'.ev:Int),.map (some gW.kY),gW.eN,.map (some gW.tm),gW.cW] 160 (0,0)))(sA:dq M w' (λw=>ZL w c b' gW))(T7:gW.eS=v.eS)(T8:gW.kY=v.kY)(rR:gW.tm=v.tm)(Bx:b'.ez=b.ez)(Pq:b'.e8=b.e8)(auN:b'.bl=b.bl):dU w' M D O c p q b' gW:=by
 obtain⟨L,ae,ak,aM⟩:=h.dk;have a8:∀x,x=p->M x:=λx e=>e▸h.sub _ h.bI.1;have aO:∀P,dq M w P->dq M w' P:=λP k=>k.step (al.sub a8) (b4.eG _ _);have jw:∀x,D x\/L x->¬x=p:=λx U e=>by
  subst e;exact U.elim (λk=>h.gK _ k h.bI.1) aM.1
 refine⟨ko,sA,⟨L,?_,ak,?_⟩,?_,?_,?_,h.sub,h.gK,?_⟩
 ·rw[T7,Bx];exact ae.step al a8 jw (b4.eG _ _) (λx k=>gw (ae.cx x k) al.size)
 ·rw[T8,rR];exact aM
 ·rw[T8,Pq];exact h.gx.aB (al.block _ h.gx.lt (λe=>h.gQ.1 e.symm)) aO
 ·rw[rR,auN];exact h.yf.aB (al.block _ h.yf.lt (λe=>h.gQ.2.1 e.symm))
 ·rw[T8,rR];exact h.bI
 ·rw[T8,rR];exact h.gQ
def dU.dQ(h:dU w M D O c p q b v):ZL w c b v:=h.lR.dQ
end
def rp(w:World)(M D O:Nat->Prop)(c:bt)(p q:Nat)(b:az):Prop:=∃v,dU w M D O c p q b v
structure ig (w:World) (M D O:Nat->Prop) (w':World) (M' bP bZ:Nat->Prop):Prop where
 dT:aG (oE D O) w w'
 d:b4 w D bP
 o:b4 w O bZ
 m:b4 w M M'
 j:∀x,M' x->M x\/bP x\/bZ x
section
variable {w w' fj:World}{M M' CQ D bP Pr O bZ F7:Nat->Prop}
def ig.refl(w:aC)(M D O:ff):ig w M D O w M D O:=⟨aG.refl _ _,b4.refl _ _,b4.refl _ _,b4.refl _ _,λ_ h=>.inl h⟩
def ig.of(h:Z w w'):ig w M D O w' M D O:=⟨.of h,b4.refl _ _,b4.refl _ _,b4.refl _ _,λ_ h=>.inl h⟩
def ig.trans(h:ig w M D O w' M' bP bZ)(k:ig w' M' bP bZ fj CQ Pr F7):ig w M D O fj CQ Pr F7:=
 ⟨h.dT.wS k.dT (λx U=>U.elim (λz=>(h.d.new x z).imp .inl id) (λz=>(h.o.new x z).imp .inr id)),h.d.trans k.d h.dT.size,h.o.trans k.o h.dT.size,h.m.trans k.m h.dT.size,
  λx U=>(k.j x U).elim (λz=>(h.j x z).imp id (λy=>y.imp (k.d.up x) (k.o.up x))) .inr⟩
def ig.ext(h:ig w M D O w' M' bP bZ)(U:Z w' fj):ig w M D O fj M' bP bZ:=h.trans (.of U)
def ig.cC(U:Z w w')(h:ig w' M D O fj M' bP bZ):ig w M D O fj M' bP bZ:=(ig.of U).trans h
def ig.pJ{P:z6}(h:ig w M D O w' M' bP bZ)(hs:∀x,D x\/O x->M x)(k:dq M w P):dq M' w' P:=k.step (h.dT.sub hs) h.m
end
end
section
section
variable {c:bt}{l:List lz}{R:List aA}{n:Nat}{b:az}{dk:List gJ}{s:eR}
def ub.CR(h:ub c dk s)(ax:c.room<=1048576):Ol s:=by
 have ae:=agQ h.Cw;have ak:=OB dk;have aM:=h.qK;have bn:=h.Cv
 have cb:gv s.l:=KR (Q:=sG) (P:=λs=>gv s.l) (λ_ _ r ax aV aK=>by
  cases aK with
  |cO k bf=>
   rcases ax with ⟨n,rfl,an⟩|⟨n,d,rfl,_⟩|⟨d,rfl,_⟩|⟨i,rfl,_⟩|⟨i,rfl,_⟩
   ·exact an
   all_goals cases k
  |_=>exact aV) h.Cw h.Ih (show gv 0 by unfold gv;omega)
 simp only[j0,nW,om]at ae;exact⟨cb,λd aD=>(bn.ag d aD).ok,λd aD=>(bn.ps d aD).ok,bn.ay,J,J,J⟩
def T9(h:sG r):1<=(gl r).length/\(gl r).length<=4000:=by
 have a:=hg r.k.toNat;have b:=hg r.n;have cT:1<=(cJ r.k.toNat).length:=by rw[AT];omega
 have aO:∀i:aA,(ia i).length<=27:=λi=>by
  unfold ia;simp only[cH];exact aem
 have ch:(if r.k=2\/r.k=3 then gi (hA r.e) else if r.k=4\/r.k=5 then ia r.id else []).length<=3009:=by
  split
  ·rename_i k;have:=(h.e k).sz;unfold gi;rw[cH];have:=hg (hA r.e).length;omega
  ·split
   ·have:=aO r.id;omega
   ·simp
 unfold gl;simp only[cH];omega
def Ua(l:List gJ):(gb (l.map gl)).length=nZ l:=by
 unfold gb nZ;induction l with
 |nil=>rfl
 |cons r l cI=>rw[tj,nI,cH,cI,tj,List.sum_cons,KB];rfl
section
variable {w w':World}{M D bP O L lf:Nat->Prop}{p q:Nat}{v:tK}{Ub:List gJ}
def dU.auO(h:dU w M D O c p q b v)(EL:∀x,L x->O x)(CS:¬L p/\¬L v.kY/\¬L v.tm)(Bx:qf w' (la M (oE bP lf)) bP lf v.eS q (Ub.map gl) (gb (Ub.map gl)).length c.room)(al:aG (oE D L) w w')(Lv:b4 w D bP)(Lw:b4 w L lf):
  dU w' (la M (oE bP lf)) bP (la O lf) c p q {b with ez:=Ub} v/\ig w M D O w' (la M (oE bP lf)) bP (la O lf):=by
 have a8:∀x,oE D L x->M x:=λx U=>U.elim (h.sP x) (λk=>h.sub x (EL x k));have bc:b4 w M (la M (oE bP lf)):=⟨λ_ k=>.inl k,λx U=>U.elim .inl (λk=>k.elim (λz=>(Lv.new x z).imp (h.sP x) id) (λz=>(Lw.new x z).imp (λy=>h.sub x (EL x y)) id))⟩;have aO:∀P,dq M w P->dq (la M (oE bP lf)) w' P:=λP k=>k.step (al.sub a8) bc;have eO:∀x,O x->x<(w:Nat)->¬L x->¬oE D L x:=λx U _ an aa=>aa.elim (λk=>h.gK x k U) an;have cU:=bT h.box;have z2:=h.gx.lt;have z3:=h.yf.lt;have CT:∀x,x<(w:Nat)->¬L x->¬lf x:=λx U an k=>(Lw.new x k).elim an (λz=>by omega);refine⟨⟨(al.block _ cU (eO _ h.bI.1 cU CS.1)).trans h.box,(aO _ h.lR).mono (λw k=>⟨k.cD,k.aj,k.st,k.tx,k.eN,k.cW⟩),⟨lf,Bx,λx k=>.inr k,CT _ cU CS.1,CT _ z2 CS.2.1,CT _ z3 CS.2.2⟩,h.gx.aB (al.block _ z2 (eO _ h.bI.2.1 z2 CS.2.1)) aO,h.yf.aB (al.block _ z3 (eO _ h.bI.2.2 z3 CS.2.2)),⟨.inl h.bI.1,.inl h.bI.2.1,.inl h.bI.2.2⟩,λx U=>U.elim (λk=>.inl (h.sub x k)) (λk=>.inr (.inr k)),λx U hy=>?_,h.gQ⟩,⟨al.mono (λx _ k=>k.imp id (EL x)),Lv,⟨λ_ k=>.inl k,λx U=>U.elim .inl (λk=>(Lw.new x k).imp (EL x) id)⟩,bc,λx U=>U.imp id (λk=>k.imp id .inr)⟩⟩;rcases hy with hy|hy
 ·rcases Lv.new x U with k|k
  ·exact h.gK x k hy
  ·have:=h.cx x (h.sub x hy);omega
 ·exact Bx.gK x U hy
end
def rf.cx{w:aC}{M:ff}{s:lZ}{d:eR}{ag:List bO}(h:rf w base s d ag ps)(fy:∀b,M b->b<base):dq M w (λw=>sC w s d ag ps):=
 λ_ al=>⟨h.cO,(h.l.gA al fy).sj,h.j9,(h.p.gA al fy).sj,h.ma,(h.b.gA al fy).aF⟩
def qm.cx{w:aC}{M:ff}{n c:Nat}{ts:List b2}(h:qm w base a n c ts)(fy:∀b,M b->b<base):dq M w (λw=>tr w a n c ts):=
 λ_ al=>⟨(h.cg.gA al fy).aF,λp aV=>((h.ct p aV).gA al fy).ct⟩
def Own.cx{w:aC}{M:ff}{c:α->List Value}{n:Nat}{ys:List α}(h:Own w base e sz c aw n cap ys)(fy:∀b,M b->b<base):dq M w (λw=>a1 w sz c aw n cap ys):=
 λ_ al=>(h.gA al fy).aF
def fx.cx{w:aC}{M:ff}{n c:Nat}(h:fx w base a n c ps)(fy:∀b,M b->b<base):dq M w (λw=>ja w a n c ps):=
 λ_ al=>(h.gA al fy).sj
def sM.cx{w:aC}{M:ff}{x:ky}{m:dC}(h:sM w base x m)(fy:∀b,M b->b<base):dq M w (λw=>tu w x m):=
 λ_ al=>(h.gA al fy).view
def aG.cN{w w':aC}{p:Nat}(h:aG (·=p) w w')(aV:S p):aG S w w':=h.mono (λx _ e=>(show x=p from e)▸aV)
def yg(c:bt)(p q:Nat)(w:World)(M D O:Nat->Prop)(u:Value)(b:az)(e:Ending)(w':World):Prop:=
 ∃M' bP bZ,e=.returned u/\rp w' M' bP bZ c p q b/\ig w M D O w' M' bP bZ
def IU(h:gz c l R n b)(ax:sG r)(hk:r.k≠1):gz c l R n (b.note c r).1:=
 h.tn (Ig (Q:=λr=>sG r/\r.k≠1) c [] b ⟨ax,hk⟩) (λ_ h=>h) (by rw[(y9 c b r).1];exact h.x0) (by rw[(y9 c b r).1];exact h.cW) (by rw[(y9 c b r).2];exact h.eN) (λ_ h=>h) (λi aO=>by cases aO)
end
end
def auP{c:Nat}{l:dR}(h:w.heap[B]?=some (.cells #[aq a n c] 107))(br:¬M B)(aK:dq M w (λw=>a1 w 1 cp a n c l)):dq M w (λw=>wP w (some (B,0)) 1 1 [⟨⟨a,n,c⟩,l⟩]):=λw' al=>by
 have aa:=(al.block B (bT h) br).trans h;refine⟨⟨rfl,Nat.le_refl _,by unfold maxLen;omega,(λe=>by cases e),gL.bH,λk x hk=>⟨B,0,rfl,λj v aJ=>?_⟩⟩,λx U=>?_⟩
 ·match k,hk with
  |0,hk=>
   cases hk
   match j,aJ with
   |0,aJ=>cases aJ;exact aI aa rfl
 ·obtain rfl:=iH.1 U;exact aK w' al
def auQ{cT c1 c2 da dJ dw eC eK iT ie ah7 ah8 Uc ah9:Value}(h:w.heap[p]?=some (.cells #[cT,c1,c2,da,dJ,dw,eC,eK,iT,ie,ah7,ah8,Uc,ah9] t fr))(u4 u5 u6 u7:Value):
  ((((w.setCell (p,4) u4).setCell (p,5) u5).setCell (p,6) u6).setCell (p,7) u7).heap[p]?=some (.cells #[cT,c1,c2,da,u4,u5,u6,u7,iT,ie,ah7,ah8,Uc,ah9] t fr):=
 er (er (er (er h 4 u4) 5 u5) 6 u6) 7 u7
def auR(u4 u5 u6 u7:Value):aG (·=p) w ((((w.setCell (p,4) u4).setCell (p,5) u5).setCell (p,6) u6).setCell (p,7) u7):=
 ((((aG.refl (λx=>x=p) w).setCell (p,4) (.inl rfl) u4).setCell (p,5) (.inl rfl) u5).setCell (p,6) (.inl rfl) u6).setCell (p,7) (.inl rfl) u7
def auS{b:az}(h:eT b.st r=none):b.note c r=(b,false):=by unfold az.note;rw[h]
def auT{b:az}{s:eR}(h:eT b.st r=some s)(bc:¬nZ b.ez+xR r<=c.room):b.note c r=(b,false):=by unfold az.note;rw[h];exact if_neg bc
def auU{b:az}{s:eR}(h:eT b.st r=some s)(bc:nZ b.ez+xR r<=c.room):b.note c r=({b with st:=s,ez:=b.ez++[r],tx:=if r.k=2 then th b.tx r.e.id else b.tx},true):=by unfold az.note;rw[h];exact if_pos bc
def dU.state{b:az}{v:tK}(h:dU w M D O c p q b v){s:lZ}{st:eR}(hs:dq M w (λw=>∃ag ps,sC w s st ag ps))(he:w'=((((w.setCell (p,4) (ad s.cO)).setCell (p,5) s.l).setCell (p,6) s.p).setCell (p,7) s.b)):
  dU w' M D O c p q {b with st:=st} {v with s:=s}/\aG (·=p) w w':=by
 subst he;have al:=auR (w:=w) (p:=p) (ad s.cO) s.l s.p s.b;refine⟨h.kF al (auQ h.box _ _ _ _) ?_ rfl rfl rfl rfl rfl rfl,al⟩;exact((h.lR.and hs).mono (λw k=>⟨k.1.cD,k.1.aj,k.2,k.1.tx,k.1.eN,k.1.cW⟩)).step (al.cN (h.sub _ h.bI.1)) (b4.eG _ _)
def dU.rP{b:az}{v:tK}(h:dU w M D O c p q b v){t:iY}{tx:List gN}(hs:dq M w (λw=>∃ts,tr w t.a t.n t.c ts/\ts.map b2.tx=tx))(he:w'=w.setCell (p,8) t):
  dU w' M D O c p q {b with tx:=tx} {v with tx:=t}/\aG (·=p) w w':=by
 subst he;have al:=(aG.refl (·=p) w).setCell (p,8) (.inl rfl) t;refine⟨h.kF al (er h.box 8 _) ?_ rfl rfl rfl rfl rfl rfl,al⟩;exact((h.lR.and hs).mono (λw k=>⟨k.1.cD,k.1.aj,k.1.st,k.2,k.1.eN,k.1.cW⟩)).step (al.cN (h.sub _ h.bI.1)) (b4.eG _ _)
def ig.kF(al:aG (·=p) w w')(aV:O p):ig w M D O w' M D O:=⟨al.cN (.inr aV),b4.eG _ _,b4.eG _ _,b4.eG _ _,λ_ h=>.inl h⟩
end Go.Proofs.YtfiiblnenhdlhaaGreat
