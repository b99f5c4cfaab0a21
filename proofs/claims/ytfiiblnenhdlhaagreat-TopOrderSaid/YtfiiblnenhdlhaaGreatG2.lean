/- Part. -/
import Derived.Test.YtfiiblnenhdlhaaGreatG1
set_option linter.unusedVariables false
set_option linter.unusedSimpArgs false
set_option linter.defProp false
set_option maxRecDepth 100000
set_option maxHeartbeats 4000000
namespace Go.Proofs.YtfiiblnenhdlhaaGreat
open Go.RowKit Tryz
variable {b fuel k m n o:Nat}{a:Option Addr}{α:Type}{t:TypeId}{w w':World}{i:aA}{dj:aA->Bool}{x:b1}
def aop(nm:ByteArray)(k n:Int)(s:ByteArray)(w:aC):
  (binOp .neq 77 (.agg #[nm,k,n,s]) (.agg #[nm,k,n,s])).run prog w=.ok (.bool false) w:=by
 simp[go_sem]
def aoq(a b:bk)(n m cap dL:Nat)(xs:List cd)(w:aC)(av:a1 w 4 cd.cs a n cap xs)(cR:a1 w 4 cd.cs b m dL xs):
  aR 64 #[aq a n cap,aq b m dL] w (cM (.bool true) w):=by
 obtain rfl:=av.neq;obtain rfl:=cR.neq;refine wB ?_;intro hm aT;change Hid _ at av cR;go_enter func64,ntmps64;go_wp2_with fail;go_loopg [5] (xs.length) (λg st wr=>∃k:Nat,g+k=xs.length/\st=.int .i64 k/\Hid (Z w wr));case atStart=>exact⟨0,J,rfl,Z.refl _⟩
 case round=>
  obtain⟨k,_,rfl,U⟩:=hrel;by_cases hk:k<xs.length
  ·obtain⟨bd,B4,rfl,ao⟩:=av.get k hk;obtain⟨hv,o2,rfl,xn⟩:=cR.get k hk;have ae:=Rn (w:=wr) (b:=bd) (o:=B4+k*4) (x:=xs[k]) (λj v aJ=>U.ah (ao j v aJ));have ak:=Rn (w:=wr) (b:=hv) (o:=o2+k*4) (x:=xs[k]) (λj v aJ=>U.ah (xn j v aJ));clear ao xn;refine kt ?_;intro b0 bd;have heq:=aop xs[k].nm xs[k].k xs[k].n xs[k].s;obtain⟨_,_,_,_⟩:=ae;obtain⟨_,_,_,_⟩:=ak;go_wp2_with fail;go_quiet (fail);exact acA
  exact acB
def cf(i j:aA):Bool:=decide (i.b=j.b)&&decide (i.l=j.l)&&decide (i.s=j.s)
def AF(i j:aA):cf i j=decide (i=j):=by
 obtain⟨a,b,c⟩:=i;obtain⟨x,y,z⟩:=j;rw[vt];simp[cf,and_assoc]
def Dy(b l s b' l' s':Int)(w:aC):
  (binOp .eql 54 (.agg #[b,ad l,ad s]) (.agg #[b',ad l',ad s'])).run prog w=.ok (.bool (cf ⟨b,l,s⟩ ⟨b',l',s'⟩)) w:=acC
def acD(i j:aA):cf i j=cf j i:=by
 rw[AF,AF,vt];simp[eq_comm]
def aor(b l s b' l' s':Int)(w:aC):
  (binOp .eql 54 (.agg #[b,ad l,ad s]) (.agg #[b',ad l',ad s'])).run prog w=.ok (.bool (cf ⟨b',l',s'⟩ ⟨b,l,s⟩)) w:=by
 rw[Dy,acD]
def acE{a b:aA}:cf a b=true↔a=b:=by
 unfold cf;obtain⟨_,_,_⟩:=a;obtain⟨_,_,_⟩:=b;simp[and_assoc]
structure ck where
 c:Int
 u:Int
 f:iY
 ts:List T
def ck.cs(x:ck):List Value:= [.int .i64 x.c,.int .u64 x.u,.slice x.f.a x.f.n x.f.c]
def ck.bH(x:ck):x.cs.length=3:=rfl
def ck.cN(x:ck):∀u∈x.cs,u.oneCell'=true:=by
 intro u al;simp only[ck.cs,nK,sW,tJ]at al;rcases al with rfl|rfl|rfl<;>rfl
def RH{x:ck}(h:r9 w b o x.cs):
  w.cell? (b,o)=some ↑x.c/\w.cell? (b,o+1)=some ↑(ad x.u)/\w.cell? (b,o+2)=some ↑x.f:=⟨h 0 _ rfl,h 1 _ rfl,h 2 _ rfl⟩
structure lX where
 c:Int
 u:Int
 ts:List T
def ck.d(x:ck):lX:=⟨x.c,x.u,x.ts⟩
structure sY (w:World) (a:Option Addr) (n c:Nat) (xs:List ck):Prop where
 aF:a1 w 3 ck.cs a n c xs
 ts:∀x,x∈xs->a1 w 5 T.cs x.f.a x.f.n x.f.c x.ts
def sY.ext{c:Nat}{xs:List ck}(h:sY w a n c xs)(U:Z w w'):sY w' a n c xs:=⟨h.aF.ext U,λx hm=>(h.ts x hm).ext U⟩
def sY.nil(w:aC):sY w none 0 0 []:=⟨a1.nil _ ck.bH,λx U=>by cases U⟩
def qF(s:lX)(c u:Int):Int:=if nn s.c c≠0 then nn s.c c else nn s.u u
def yF(l:List lX)(d:bg):List lX:=
 if d.k=2\/d.k=3 then l.filter (λs=>decide (qF s d.c d.u<0))++((if d.k=2 then [⟨d.c,d.u,d.ts⟩] else [])++l.filter (λs=>decide (0<qF s d.c d.u))) else l
def AG(l:List lX)(cl:List Int):List (List T):=(l.filter (λs=>cl.contains s.c)).map (·.ts)
def J4(l:List lX)(cl:List Int):List (List T):=red [] (AG l cl)
def AH(hZ:List (List T))(aS:List (List cd)):List (List cd):=aS.filter (λe=>hZ.any (λf=>sX f e))
def jU(l:List lX)(cl:List Int)(d:bg):bg:=if d.k=1 then {d with aS:=AH (J4 l cl) d.aS} else d
def pa(l:List lX)(c:Int)(d:bg):List (List cd):=if d.k=1 then AH (AG l [c]) d.aS else []
def RI:(prog.info? 256).map (λi=>(i.zero,i.size,i.bytes))=some (some (.agg #[ar,au,aH]),3,40):=bV
def J5:(prog.info? 34).map (λi=>(i.zero,i.size,i.bytes))=some (some ↑aH,1,24):=bV
def aos{p:α->Bool}{xs:List α}(hk:k<xs.length)(h:p xs[k]=true):(xs.take (k+1)).filter p=(xs.take k).filter p++[xs[k]]:=by
 rw[iX hk,zC];simp[h]
def aot{p:α->Bool}{xs:List α}(hk:k<xs.length)(h:p xs[k]=false):(xs.take (k+1)).filter p=(xs.take k).filter p:=by
 rw[iX hk,zC];simp[h]
def aou(a:bk)(n cap:Nat)(xs:List ck)(p:ck->Bool)(fn:Nat)(q:Unit)(w:aC)(av:a1 w 3 ck.cs a n cap xs)(an:n<=100000)(bc:∀args w,(callFunc fn args).run prog w=.ok (.enter fn args) w)(cy:∀x,x∈xs->∀w',Z w w'->aR fn #[.agg #[x.c,ad x.u,x.f]] w' λe fj=>e=.returned (.bool (p x))/\Z w' fj):
  aR 165 #[aq a n cap,.func (.func fn) #[] #[]] w (p3 256 3 ck.cs (xs.filter p) w):=acF
def MX(a:bk)(n cap:Nat)(xs:List ck)(p:ck->Bool)(fn:Nat)(J6:Addr)(w:aC)(av:a1 w 3 ck.cs a n cap xs)(an:n<=100000)(bc:∀args w,(callFunc fn args).run prog w=.ok (.enter fn args) w)(cy:∀x,x∈xs->∀w',Z w w'->aR fn #[.agg #[x.c,ad x.u,x.f],.pointer (some J6)] w' λe fj=>e=.returned (.bool (p x))/\Z w' fj):
  aR 165 #[aq a n cap,.func (.func fn) #[] #[.pointer (some J6)]] w (p3 256 3 ck.cs (xs.filter p) w):=acF
def acG(a:bk)(n cap:Nat)(xs:List eJ)(p:eJ->Bool)(fn:Nat)(J6:Addr)(w:aC)(av:a1 w 1 eJ.cs a n cap xs)(an:n<=100000)(gr:Array Value)(yG:gr=#[.pointer (some J6)])(bc:∀args w,(callFunc fn args).run prog w=.ok (.enter fn args) w)(cy:∀x,x∈xs->∀w',Z w w'->aR fn #[x.v,.pointer (some J6)] w' λe fj=>e=.returned (.bool (p x))/\Z w' fj):
  aR 168 #[aq a n cap,.func (.func fn) #[] #[.pointer (some J6)]] w (p3 34 1 eJ.cs (xs.filter p) w):=by
 obtain⟨ca,bJ,bF,bG,bK⟩:=info_parts J5;obtain rfl:=av.neq;have hm:=av.max;unfold maxLen at hm;change Hid _ at av cy bJ bF bG bK;go_enter func168,ntmps168;go_wp2_with fail;go_loopg [5,10] (xs.length) (λg e1 st wr=>∃(k:Nat) (aw:bk) (m aQ:Nat),g+k=xs.length/\st=.int .i64 k/\e1=.slice aw m aQ/\m<=k/\Hid (Own wr w 34 1 eJ.cs aw m aQ ((xs.take k).filter p))/\Hid (Z w wr));case atStart=>exact⟨0,none,0,0,J,rfl,rfl,J,Own.nil _ _ _ eJ.bH,Z.refl _⟩
 case round=>
  obtain⟨k,aw,m,aQ,_,rfl,rfl,_,aE,U⟩:=hrel;have lK:=aE.aF.max;unfold maxLen at lK;by_cases hk:k<xs.length
  ·obtain⟨b,o,rfl,ao⟩:=av.get k hk;have cT:=HA (w:=wr) (b:=b) (o:=o+k*1) (x:=xs[k]) (λj v aJ=>U.ah (ao j v aJ));rw[jT]at cT;clear ao;refine kt ?_;intro b0 bd;cases he:p xs[k]with
   |true=>
    change Hid _ at he;go_wp2_with fail;refine J3 ?_;intro w1 hy;rw[he.out];go_wp2_with (at_builtin;refine hf (ys:=(xs.take k).filter p) rfl (.tmp 17) (.tmp 19) 64 rfl ca _ 24 underlying64 bJ bF bG bK rfl af rfl (aE.ext X) xs[k] _ rfl (fc (cs:=eJ.cs xs[k]) rfl) (eJ.cN _) J af (Z.size X) ?_;intro g _ _ fY bW;have cz:=I fY;have cv:=I bW;clear fY bW);exact acH
   |false=>
    change Hid _ at he;go_wp2_with fail;refine J3 ?_;intro w1 hy;exact acI
  ·refine se ?_;intro b9;rw[b9]at aE;clear b9;go_wp2;go_ret;exact⟨aw,m,aQ,rfl,aE,X⟩
section
def WJ{α:Type}{c:α->List Value}{sz:Nat}(hw:∀y,(c y).length=sz)(rD:α)(j:Nat)(v:Value)(aJ:j<sz):∀(ys:List α) (k:Nat) (y:α),ys[k]?=some y->c rD=(c y).set j v->(ys.set k rD).flatMap c=(ys.flatMap c).set (k*sz+j) v
 | [],_,_,h,_=>by simp at h
 |x::ys,0,y,h,he=>by
  simp only[Rg,Option.some.injEq]at h
  subst h
  rw[List.set_cons_zero,nI,nI,he,Nat.zero_mul,om,List.set_append,bm (by rw[hw];exact aJ)]
 |x::ys,k+1,y,h,he=>by
  rw[Hq]at h
  rw[List.set_cons_succ,nI,nI,List.set_append,bj (by rw[hw,Hr];omega),hw,show(k+1)*sz+j - sz=k*sz+j from by rw[Hr];omega,WJ hw rD j v aJ ys k y h he]
section
variable {α:Type}{c:α->List Value}{w w':World}{base:Nat}{e:TypeId}{sz g n cap:Nat}{ys:List α}
def Own.aB(h:Own w base e sz c (some ⟨g,0,.none⟩) n cap ys):∃cur,w.heap[g]?=some (.cells cur e (0,0))/\base<=g/\n<=cap/\cap<=maxLen/\cur.size=cap*sz/\cur.toList.take (n*sz)=ys.flatMap c:=by
 rcases h.row.2 with ⟨bo,_⟩|⟨FE,aQ,cur,bo,jH,AA,ae,ak,aM,bn⟩
 ·cases bo
 ·simp only[Value.slice.injEq,Option.some.injEq,Addr.mk.injEq]at bo;obtain⟨⟨rfl,_⟩,_,rfl⟩:=bo;exact⟨cur,AA,jH,ae,ak,aM,bn⟩
def Own.free(h:Own w base e sz c (some ⟨g,0,.none⟩) n cap ys)(o:Nat):w.frozen? ⟨g,o,.none⟩=false:=by
 obtain⟨_,bu,_⟩:=h.aB;simp[World.frozen?,bu]
def Own.acJ(aw:bk)(h:Own w base e sz c aw n cap ys)(hk:0<ys.length):∃g,aw=some ⟨g,0,.none⟩:=by
 have an:=h.neq;rcases h.row.2 with ⟨bo,aW⟩|⟨FE,aQ,cur,bo,_⟩
 ·omega
 ·simp only[Value.slice.injEq]at bo;exact⟨FE,bo.1⟩
def Own.J7(h:Own w base e sz c (some ⟨g,0,.none⟩) n cap ys)(k:Nat)(hk:k<ys.length):r9 w g (k*sz) (c ys[k]):=by
 obtain⟨b,o,jS,ao⟩:=h.aF.get k hk;simp only[Option.some.injEq,Addr.mk.injEq]at jS;obtain⟨rfl,rfl,_⟩:=jS;rw[om]at ao;exact ao
def Own.set(h:Own w base e sz c (some ⟨g,0,.none⟩) n cap ys)(k:Nat)(y rD:α)(hk:ys[k]?=some y)(j:Nat)(aJ:j<sz)(v:Value)(hy:c rD=(c y).set j v):
  Own (w.setCell ⟨g,k*sz+j,.none⟩ v) base e sz c (some ⟨g,0,.none⟩) n cap (ys.set k rD):=by
 obtain⟨cur,bu,jH,ae,ak,aM,bn⟩:=h.aB;refine⟨⟨?_,.inr ⟨g,cap,cur.setIfInBounds (k*sz+j) v,rfl,jH,Lib.heap_setCell_same bu v,ae,ak,by rw[RJ];exact aM,?_⟩⟩,by rw[Dz];exact h.neq,h.bH⟩
 ·rw[WJ h.bH rD j v aJ ys k y hk hy,Dz];exact h.row.1
 ·rw[WJ h.bH rD j v aJ ys k y hk hy,<-bn,WK,List.take_set]
end
def a1.set{α:Type}{w:aC}{sz:Nat}{c:α->List Value}{n cap:Nat}{xs:List α}(h:a1 w sz c a n cap xs){p:Addr}(aV:∀ai,a=some ai->xs≠ []->ai.block≠p.block)(u:Value):a1 (w.setCell p u) sz c a n cap xs:=
 ⟨h.neq,h.len,h.max,h.none,h.bH,λk x hk=>by
  obtain⟨b,o,aj,ao⟩:=h.at_ k x hk;have aa:b≠p.block:=aV _ aj (by rintro rfl;cases hk)
  exact⟨b,o,aj,λj v aJ=>(JV (a:=⟨b,o+k*sz+j,.none⟩) (Below.heap_setCell w p u b aa)).trans (ao j v aJ)⟩⟩
def DC(w:World)(g:Option Addr)(x:ck):Prop:=a1 w 5 T.cs x.f.a x.f.n x.f.c x.ts/\∀ai HB,x.f.a=some ai->g=some HB->x.ts≠ []->ai.block≠HB.block
def DC.ext{w w':aC}{g:bk}{x:ck}(h:DC w g x)(U:Z w w'):DC w' g x:=⟨h.1.ext U,h.2⟩
def DC.of{W w:aC}{e:TypeId}{n cap:Nat}{ys:List ck}(dO:Own w W e 3 ck.cs a n cap ys)(iG:Z W w){x:ck}(h:a1 W 5 T.cs x.f.a x.f.n x.f.c x.ts):DC w a x:=by
 refine⟨h.ext iG,λai HB aj bu di he=>?_⟩;have ae:=(dO.lt HB bu).1;have DD:0<x.ts.length:=List.length_pos_iff.2 di;obtain⟨b,o,jS,ao⟩:=h.get 0 DD;rw[aj]at jS;cases jS;have:=Dl (ao 0 x.ts[0].nm rfl);simp only at he this;omega
def aov{W wr w1:aC}{e uH:TypeId}{g n cap:Nat}{cq:List ck}{aw:bk}{aQ:Nat}(dO:Own wr W e 3 ck.cs (some (g,0)) n cap cq)(hk:k<cq.length)(lY:∀z,z∈cq->DC wr (some (g,0)) z)(U:Z W wr)(ae:Own w1 wr uH 5 T.cs aw m aQ cq[k].ts)(aa:Z wr w1):
  ∃MY:List ck,Own (w1.setCell (g,k*3+2) (aq aw m aQ)) W e 3 ck.cs (some (g,0)) n cap MY/\MY.map ck.d=cq.map ck.d/\(∀z,z∈MY->DC (w1.setCell (g,k*3+2) (aq aw m aQ)) (some (g,0)) z)/\Z W (w1.setCell (g,k*3+2) (aq aw m aQ)):=by
 have WL:=dO.lt _ rfl;refine⟨cq.set k ⟨cq[k].c,cq[k].u,⟨aw,m,aQ⟩,cq[k].ts⟩,(dO.ext aa).set k cq[k] _ (fz hk) 2 af _ rfl,?_,λz bf=>?_,Z.setCell (p:=(g,k*3+2)) (U.trans aa) WL.1 _⟩
 ·rw[List.map_set];apply RK (by simp);intro i ak aM;rw[List.getElem_set];split
  ·next h=>subst h;simp[ck.d]
  ·rfl
 ·rcases RL bf with bf|rfl
  ·have ak:=(lY z bf).ext aa;exact⟨ak.1.set (p:=(g,k*3+2)) (λai aj di=>ak.2 ai (g,0) aj rfl di) _,ak.2⟩
  ·have aM:∀ai,aw=some ai->ai.block≠g:=λai aj he=>by
    have:=(ae.lt ai aj).1;have:=WL.2;simp only at this;omega
   exact⟨ae.aF.set (p:=(g,k*3+2)) (λai aj _=>aM ai aj) _,λai HB aj bu _=>by cases bu;exact aM ai aj⟩
def acK(a:bk)(n cap:Nat)(xs:List T)(w:aC)(av:a1 w 5 T.cs a n cap xs)(an:n<=1000000):
  aR 248 #[aq a n cap] w (p3 154 5 T.cs xs w):=by
 obtain⟨ca,bJ,bF,bG,bK⟩:=info_parts Ry;have hm:=av.max;unfold maxLen at hm;change Hid _ at av bJ bF bG bK;go_enter func248,ntmps248;go_wp2_with (at_builtin;refine wpList_plain rfl λoL ns=>?_;refine wC (c:=T.cs) (ys0:= []) (ys:=xs) _ _ 36 154 rfl ca _ 56 underlying36 bJ bF bG bK rfl af rfl w X (Own.nil _ _ _ T.bH) rfl (av.ext X) T.cN J af ?_;intro cK dv uK _ hY jt U p4;refine ns _ _ ?_;have dn:=I jt;have hy:=I U;clear jt U p4 hY);go_ret;exact⟨cK,dv,uK,rfl,dn,hy⟩
def WM(a:bk)(n cap:Nat)(ys:List ck)(W w:aC)(ba:Own w W 256 3 ck.cs a n cap ys)(bU:Z W w)(hF:∀y,y∈ys->a1 W 5 T.cs y.f.a y.f.n y.f.c y.ts)(bL:∀y,y∈ys->y.ts.length<=1000000)(an:n<=1000000):
  aR 173 #[aq a n cap] w λe w'=>∃cq,e=.returned (aq a n cap)/\sY w' a n cap cq/\cq.map ck.d=ys.map ck.d/\Z W w':=by
 have lW:=ba.neq;obtain rfl:=lW;have hm:=ba.aF.max;unfold maxLen at hm;have dA:=I (λy hy=>DC.of ba bU (hF y hy));change Hid _ at ba bU bL;clear hF;go_enter func173,ntmps173;go_wp2_with fail;go_loopg [3,6] (ys.length) (λg _ st wr=>∃(k:Nat) (cq:List ck),g+k=ys.length/\st=.int .i64 k/\cq.length=ys.length/\Hid (Own wr W 256 3 ck.cs a ys.length cap cq)/\Hid (cq.map ck.d=ys.map ck.d)/\Hid (∀z,z∈cq->DC wr a z)/\Hid (Z W wr));case atStart=>exact⟨0,ys,J,rfl,rfl,ba,rfl,dA,bU⟩
 case round=>
  obtain⟨k,cq,_,rfl,hlen,aE,ku,lY,U⟩:=hrel;by_cases hk:k<ys.length
  ·have RM:k<cq.length:=J;obtain⟨_,rfl⟩:=Own.acJ a aE J;obtain⟨_,_,c2⟩:=RH (x:=cq[k]) (aE.J7 k RM);have b0:(0:Int)<=(k:Int):=J;have bd:(k:Int)<(ys.length:Int):=J;have ef:=I (lY cq[k] (c7 RM)).1;have MZ:cq[k].f.n<=1000000:=by
    have ae:(cq.map ck.d)[k]? =(ys.map ck.d)[k]? :=by rw[ku.out]
    rw[nu,nu,fz RM,fz hk]at ae;simp only[FL,Option.some.injEq,ck.d,lX.mk.injEq]at ae;rw[ef.neq,ae.2.2];exact bL _ (c7 hk)
   go_wp2_with (go_at_call 248;refine(acK _ _ _ cq[k].ts _ ef MZ).mono ?_;rintro e _⟨_,m,_,rfl,jt,aa⟩;have ij:=aa.ah c2;have uM:=(aE.ext aa).free;have cR:=I (aov aE RM lY U jt aa);clear jt aa);obtain⟨MY,dr,eF,fN,hx⟩:=cR;go_roundg (gk - 1);case measure=>omega
   case rel=>exact⟨k+1,MY,J,by go_num,by rw[<-cr (f:=ck.d),eF,cr];exact hlen,dr,eF.trans ku,fN,hx⟩
  ·go_wp2;go_ret;exact⟨cq,rfl,⟨aE.aF,λx U=>(lY x U).1⟩,ku,U⟩
end
section
open Go.RowKit Go.WideShapes Go.ChangeShapes
def acL{α:Type}{Q:Nat->α->Prop}:∀n,(∀i,i<n->∃y,Q i y)->∃ys:List α,ys.length=n/\∀i y,ys[i]?=some y->Q i y
 |0,_=>⟨[],rfl,λi y h=>by simp at h⟩
 |n+1,h=>by
  obtain⟨ys,aT,hy⟩:=acL n (λi aO=>h i J)
  obtain⟨z,bf⟩:=h n J
  refine⟨ys++[z],by simp[aT],λi y aO=>?_⟩
  by_cases yH:i<ys.length
  ·rw[Hp yH]at aO;exact hy i y aO
  ·rw[JU J]at aO
   have aW:i - ys.length=0:=by
    cases hk:i - ys.length with
    |zero=>rfl
    |succ k=>rw[hk]at aO;simp at aO
   rw[aW]at aO
   simp at aO
   subst aO
   rw[show i=n by omega];exact bf
section
variable {H:Type}{pE:TypeId×Value->H}{P:Program}{w:World}{base:Nat}{spare:Nat->Bool}{held:Bool}
def M0{hZ:Array Field}{cs:List Value}{x:DataW H×List MemPlace}(a6:P.underlying t=some (.struct hZ))(h:DataW.trod pE P w base spare held fuel t cs=some x)(i:Nat)(f:Field)(bc:hZ[i]?=some f)(o k:Nat)(hk:P.cellsOf f.type=k)(aK:f.offset=o):∃n y,DataW.trod pE P w base spare held n f.type ((cs.drop o).take k)=some y:=by
 obtain⟨xs,n,_,_,_,hlen,U⟩:=DataW.trod_struct a6 h;have aO:i<xs.length:=by rw[hlen];exact(FM.1 bc).1
 have:=U i f bc;rw[hk,aK,fz aO]at this;exact⟨n,_,this⟩
def acM{hZ:Array Field}{cs:List Value}{x:DataW H×List MemPlace}(a6:P.underlying t=some (.struct hZ))(h:DataW.trod pE P w base spare held fuel t cs=some x):cs.length=P.cellsOf t:=by
 obtain⟨_,n,_,_,aT,_⟩:=DataW.trod_struct a6 h;exact aT
def acN{c:α->List Value}{R:α->Prop}{sz:Nat}{e:TypeId}{cs:List Value}{x:DataW H×List MemPlace}(a6:P.underlying t=some (.slice e))(ao:P.cellsOf e=sz)(fS:0<sz)(hw:∀y,(c y).length=sz)(acO:∀fuel cs x,DataW.trod pE P w base spare held fuel e cs=some x->∃y,cs=c y/\R y)(h:DataW.trod pE P w base spare held fuel t cs=some x):
  ∃a n cap ys,cs= [.slice a n cap]/\a1 w sz c a n cap ys/\∀y,y∈ys->R y:=by
 rcases Go.Deep.open_slice a6 h with ⟨rfl,_⟩|⟨a,len,cap,m,n,D,aB6,rfl,aa,aT,hm,sd,_,U⟩
 ·exact⟨none,0,0,[],rfl,a1.nil _ hw,λy hy=>by cases hy⟩
 have B5:len<=m:=by rw[sd];split<;>omega
 have each:∀i,i<len->∃y,(∀j v,(c y)[j]?=some v->w.cell? ((a.add (i*sz)).add j)=some v)/\R y:=by
  intro i aO;obtain⟨_,ae,ak⟩:=U i J;rw[ao]at ae;obtain⟨_,_,aow⟩:=World.cells?_some ae;obtain⟨y,rfl,hy⟩:=acO _ _ _ ak;refine⟨y,λj v aJ=>?_,hy⟩;have aox:j<sz:=by rw[<-hw y];exact(vv.1 aJ).1
  rw[aow j aox,aJ]
 obtain⟨ys,hlen,M1⟩:=acL (Q:=λi y=>(∀j v,(c y)[j]?=some v->w.cell? ((a.add (i*sz)).add j)=some v)/\R y) len each;refine⟨some a,len,cap,ys,rfl,⟨hlen.symm,aT,hm,(λh=>by cases h),hw,λk z hk=>?_⟩,λy hy=>?_⟩
 ·obtain⟨b,o,sp⟩:=a;have b9:k<len:=by rw[<-hlen];exact(vv.1 hk).1
  obtain⟨cF,tL,_⟩:=each 0 J;have bf:0<(c cF).length:=by rw[hw];exact fS
  have aW:=tL 0 _ (fz bf);have HC:sp=none:=by
   simp only[Nat.zero_mul,Addr.add,bm,World.cell?]at aW;cases sp with
   |none=>rfl
   |some q=>simp at aW;split at aW<;>simp at aW
  subst HC;refine⟨b,o,rfl,λj v aJ=>?_⟩;have:=(M1 k z hk).1 j v aJ;have bS:∀n m:Nat,(Addr.mk b n none).add m=(b,n+m):=by intro n m;unfold Addr.add;split<;>simp_all
  rw[bS,bS]at this;exact this
 ·obtain⟨i,aO,rfl⟩:=List.getElem_of_mem hy;exact(M1 i _ (fz aO)).2
end
section
variable {H:Type}{pE:TypeId×Value->H}{w:World}{base:Nat}{spare:Nat->Bool}{held:Bool}
def dD(i:Int):List Value:= [.int .i64 i]
def aoy{cs:List Value}{x:DataW H×List MemPlace}(h:DataW.trod pE prog w base spare held fuel 3 cs=some x):∃y:Int,cs=dD y:=by
 obtain⟨a0,dV,_,_⟩:=DataW.trod_int underlying3 h;exact⟨a0,dV⟩
def aoz{cs:List Value}{x:DataW H×List MemPlace}(h:DataW.trod pE prog w base spare held fuel 22 cs=some x):∃a n cap ys,cs= [.slice a n cap]/\a1 w 1 dD a n cap ys:=by
 obtain⟨a,n,cap,ys,e,s,_⟩:=acN (c:=dD) (sz:=1) (R:=λ_=>True) underlying22 bV af (λ_=>rfl) (λ_ _ _ k=>let ⟨y,e⟩:=aoy k;⟨y,e,trivial⟩) h;exact⟨a,n,cap,ys,e,s⟩
def aB7{r:Reach}{b0:Nat}{v:Value}{d:DataW H}{p:List MemPlace}(bo:Value.okWide prog w r b0 22 v)(h:DataW.Trod pE prog w base spare held 22 v d p):∃a n cap ys,v=.slice a n cap/\a1 w 1 dD a n cap ys:=by
 obtain⟨a,n,_,rfl⟩:=okWide_slice underlying22 bo;obtain⟨_,bc⟩:=h;obtain⟨_,_,_,ys,e,s⟩:=aoz bc;exact aoA
end
end
def AI{x:Int}(h:r9 w b o (dD x)):w.cell? (b,o)=some ↑x:=h 0 _ rfl
def aoB(x:Int)(w:aC):aR 249 #[x] w (cM (.bool false) w):=by
 go_enter func249,ntmps249;go_wp2;go_ret;refine⟨by simp,?_⟩;exact X
def aoC(x:Int)(w:aC):aR 250 #[ad x] w (cM (.bool false) w):=by
 go_enter func250,ntmps250;go_wp2;go_ret;refine⟨by simp,?_⟩;exact X
def aoD(x y:Int)(w:aC):aR 177 #[x,y] w (cM (.int .i64 (nn x y)) w):=by
 go_enter func177,ntmps177;go_wp2_with (go_at_call 249;refine(aoB _ _).mono ?_;rintro e _⟨rfl,hy⟩;change Hid _ at hy);all_goals (go_ret;refine⟨jC WN,?_⟩;exact X)
def aoE(x y:Int)(w:aC):aR 178 #[ad x,ad y] w (cM (.int .i64 (nn x y)) w):=by
 go_enter func178,ntmps178;go_wp2_with (go_at_call 250;refine(aoC _ _).mono ?_;rintro e _⟨rfl,hy⟩;change Hid _ at hy);all_goals (go_ret;refine⟨jC WN,?_⟩;exact X)
def RN(x y:Int):Int:=if x≠0 then x else y
def aoF(b:Nat)(x y:Int)(w:aC)(aW:w.cell? (b,0)=some ↑x)(ae:w.cell? (b,1)=some ↑y):
  aR 176 #[.slice (some (b,0)) 2 2] w (cM (.int .i64 (RN x y)) w):=by
 go_enter func176,ntmps176;go_wp2_with fail;go_loopg [5,8] 2 (λg _ st wr=>∃(k:Nat),g+k=2/\st=.int .i64 k/\(0<k->x=0)/\(1<k->y=0)/\Hid (Z w wr));case atStart=>exact⟨0,rfl,rfl,J,J,Z.refl _⟩
 case round=>
  obtain⟨k,_,rfl,k2,kf,U⟩:=hrel;have cT:=U.ah aW;have c1:=U.ah ae;rcases zz k 2 with hk|hk
  ·rcases (show k=0\/k=1 by omega)with rfl|rfl
   ·by_cases bf:x=0
    ·subst bf;go_wp2;go_roundg 1;case measure=>omega
     case rel=>exact⟨1,J,by go_num,λ_=>by trivial,J,X⟩
    ·go_wp2;go_ret;refine⟨jC (by simp[RN,bf]),?_⟩;exact X
   ·obtain rfl:=k2 J;by_cases bf:y=0
    ·subst bf;go_wp2;go_roundg 0;case measure=>omega
     case rel=>exact⟨2,J,by go_num,λ_=>by trivial,λ_=>by trivial,X⟩
    ·go_wp2;go_ret;refine⟨jC (by simp[RN]),?_⟩;exact X
  ·obtain rfl:k=2:=J;obtain rfl:=k2 J;obtain rfl:=kf J;go_wp2;go_ret;refine⟨jC (by simp[RN]),?_⟩;exact X
def aoG(a:bk)(n cap:Nat)(xs:List Int)(y:Int)(w:aC)(av:a1 w 1 dD a n cap xs):
  aR 230 #[aq a n cap,y] w (cM (.int .i64 (qz (λx=>decide (y=x)) xs)) w):=by
 obtain rfl:=av.neq;refine wB ?_;intro hm aT;change Hid _ at av;go_enter func230,ntmps230;go_wp2_with fail;go_loopg [5,8] (xs.length) (λg _ st wr=>∃k:Nat,g+k=xs.length/\st=.int .i64 k/\Hid ((xs.take k).any (λx=>decide (y=x))=false)/\Hid (Z w wr));case atStart=>exact⟨0,J,rfl,rfl,Z.refl _⟩
 case round=>
  obtain⟨k,_,rfl,eO,U⟩:=hrel;by_cases hk:k<xs.length
  ·obtain⟨b,o,rfl,ao⟩:=av.get k hk;have cT:=AI (w:=wr) (b:=b) (o:=o+k*1) (x:=xs[k]) (λj v aJ=>U.ah (ao j v aJ));rw[jT]at cT;clear ao;refine kt ?_;intro b0 bd;by_cases he:y=xs[k]
   ·have iP:=I (show(λx=>decide (y=x)) xs[k]=true by simpa using he);have bq:(y==xs[k])=true:=by simpa using he
    clear he;go_wp2;go_ret;refine⟨jC (MJ hk eO iP),?_⟩;exact X
   ·have iP:=I (show(λx=>decide (y=x)) xs[k]=false by simpa using he);have bq:(y==xs[k])=false:=by simpa using he
    clear he;go_wp2;go_roundg (gk - 1);case measure=>omega
    case rel=>exact⟨k+1,J,by go_num,Dm hk eO iP,X⟩
  ·have eu:=I (JR eO hk);go_wp2;go_ret;refine⟨jC (JT eu),?_⟩;exact X
def acP(a:bk)(n cap:Nat)(xs:List Int)(y:Int)(w:aC)(av:a1 w 1 dD a n cap xs):
  aR 156 #[aq a n cap,y] w (cM (.bool (decide (y∈xs))) w):=by
 change Hid _ at av;go_enter func156,ntmps156;go_wp2_with (go_at_call 230;refine(aoG _ _ _ xs y _ (av.ext X)).mono ?_;rintro e _⟨rfl,hy⟩;change Hid _ at hy);go_ret;refine⟨iW ?_,?_⟩
 ·rw[Wp,vt];simp
 ·skip;exact X
def aoH(x:ck)(fC:Nat)(a:bk)(n cap:Nat)(xs:List Int)(w:aC)(ao:w.cell? (fC,0)=some ↑(aq a n cap))(av:a1 w 1 dD a n cap xs):
  aR 302 #[.agg #[x.c,ad x.u,x.f],fC] w (cM (.bool (decide (x.c∈xs))) w):=by
 change Hid _ at av;have eI:=((Z.refl w).alloc (.cells #[x.c,ad x.u,x.f] 256)).ah ao;go_enter func302,ntmps302;go_wp2_with (go_at_call 156;refine(acP _ _ _ xs x.c _ (av.ext X)).mono ?_;rintro e _⟨rfl,hy⟩;change Hid _ at hy);go_ret;refine⟨rfl,?_⟩;exact X
def aoI(x:ck)(w:aC):
  aR 174 #[.agg #[x.c,ad x.u,x.f]] w (cM (.bool true) w):=by
 go_enter func174,ntmps174;go_wp2;go_ret;refine⟨rfl,?_⟩;exact X
def aoJ(x:ck)(ot:Nat)(c u:Int)(w:aC)(bn:w.cell? (ot,4)=some ↑c)(cb:w.cell? (ot,5)=some ↑(ad u)):
  aR 175 #[.agg #[x.c,ad x.u,x.f],ot] w (cM (.int .i64 (qF x.d c u)) w):=by
 refine WO ?_;intro fm iQ;go_enter func175,ntmps175;go_wp2_with fail;go_region_held3 (λw'=>w'.cell? (w,0)=some ↑x.c/\w'.cell? (w,1)=some ↑(ad x.u)/\w'.cell? (ot,4)=some ↑c/\w'.cell? (ot,5)=some ↑(ad u)) (first|(go_split_ands;refine⟨?_,?_,?_,?_⟩<;>exact(Hid.out hy).ah (by assumption))|go_keep) (first|(go_at_call 177;refine(aoD _ _ _).mono ?_;rintro e w1⟨rfl,hy⟩;replace hy:=I hy)|(go_at_call 178;refine(aoE _ _ _).mono ?_;rintro e w1⟨rfl,hy⟩;replace hy:=I hy)|(go_at_call 176;refine(aoF _ (nn x.c c) (nn x.u u) _ (by simp) (by simp)).mono ?_;rintro e _⟨rfl,hy⟩;replace hy:=I hy));go_wp2
 trace_state
 go_ret;refine⟨rfl,?_⟩;exact X
def aoK(x:ck)(ot B6:Nat)(c u:Int)(w:aC)(bn:w.cell? (ot,4)=some ↑c)(cb:w.cell? (ot,5)=some ↑(ad u))(hs:w.cell? (B6,0)=some (.func (.func 175) #[] #[ot])):
  aR 179 #[.agg #[x.c,ad x.u,x.f],B6] w (cM (.bool (decide (qF x.d c u<0))) w):=by
 refine WO ?_;intro fm iQ;have e5:=((Z.refl w).alloc (.cells #[x.c,ad x.u,x.f] 256)).ah hs;go_enter func179,ntmps179;exact acQ
def acR(x:ck)(ot B6:Nat)(c u:Int)(w:aC)(bn:w.cell? (ot,4)=some ↑c)(cb:w.cell? (ot,5)=some ↑(ad u))(hs:w.cell? (B6,0)=some (.func (.func 175) #[] #[ot])):
  aR 180 #[.agg #[x.c,ad x.u,x.f],B6] w (cM (.bool (decide (0<qF x.d c u))) w):=by
 refine WO ?_;intro fm iQ;have e5:=((Z.refl w).alloc (.cells #[x.c,ad x.u,x.f] 256)).ah hs;go_enter func180,ntmps180;exact acQ
def RO{xs:List ck}(p:lX->Bool):(xs.filter (λs=>p s.d)).map ck.d=(xs.map ck.d).filter p:=by
 rw[J8];rfl
def M3(l:List lX)(w:World)(e:Ending)(w':World):Prop:=∃aw n cap ys,e=.returned (.slice aw n cap)/\sY w' aw n cap ys/\ys.map ck.d=l/\Z w w'
def aoL(a:bk)(n cap:Nat)(xs:List ck)(x:b1)(d:bg)(w:aC)(av:sY w a n cap xs)(bb:h0 w x d)(bL:∀s,s∈xs->s.ts.length<=10000)(an:n<=10000)(bc:d.ts.length<=10000)(ak:d.k≠2)(aM:d.k≠3):
  aR 101 #[aq a n cap,x] w (M3 (yF (xs.map ck.d) d) w):=by
 obtain⟨_,bJ,bF,bG,bK⟩:=info_parts RI;change Hid _ at bJ bF bG bK;obtain rfl:=av.aF.neq;have hm:=av.aF.max;unfold maxLen at hm;change Hid _ at av bb bL;have k3:x.k≠2:=by rw[bb.k];exact ak
 have HD:x.k≠3:=by rw[bb.k];exact aM
 have aoM:=I (show yF (xs.map ck.d) d=xs.map ck.d from by unfold yF;rw[if_neg J]);have dP:(x.k !=2)=true:=by simp[k3]
 have fp:(x.k !=3)=true:=by simp[HD]
 clear ak aM;go_enter func101,ntmps101;go_wp2_with fail;refine(aou _ _ _ xs (λ_=>true) 174 () _ (av.aF.ext X) J (λ_ _=>by kernel_rfl) (λs _ w' _=>aoI s w')).mono ?_;rintro e w1⟨_,m,_,rfl,ba,hy⟩;rw[DE.2 (λ_ _=>rfl)]at ba;change Hid _ at hy ba;go_wp2_with fail;refine(WM _ _ _ xs _ w1 ba hy (λy hm=>(av.ts y hm).ext X) (λy hm=>eh (bL y hm) af) (by rw[ba.neq];omega)).mono ?_;rintro e _⟨cq,rfl,eM,c5,lK⟩;change Hid _ at lK eM c5;clear hy;go_wp2;go_ret;refine⟨_,_,_,cq,rfl,eM,by rw[c5.out,aoM.out],?_⟩;exact X
def WQ{xs:List ck}{p:ck->Bool}(h:m=(xs.filter p).length)(an:xs.length<=n):m<=n:=by rw[h];exact eh (xq _ _) an
def aoN(a:bk)(n cap:Nat)(xs:List ck)(x:b1)(d:bg)(w:aC)(av:sY w a n cap xs)(bb:h0 w x d)(bL:∀s,s∈xs->s.ts.length<=10000)(an:n<=10000)(bc:d.ts.length<=10000)(aD:d.k=2):
  aR 101 #[aq a n cap,x] w (M3 (yF (xs.map ck.d) d) w):=by
 obtain⟨ca,bJ,bF,bG,bK⟩:=info_parts RI;replace bJ:=I bJ;replace bF:=I bF;replace bG:=I bG;replace bK:=I bK;obtain rfl:=av.aF.neq;have hm:=av.aF.max;unfold maxLen at hm;replace av:=I av;replace bb:=I bb;replace bL:=I bL;have hk:x.k=2:=by rw[bb.k];exact aD
 go_enter func101,ntmps101;go_upto_region 3 with (fail);go_cut [5] (λv fD=>∃wE,wE=fD/\v=.pointer (some (w,1,0))/\fD.cell? (w,0)=some ↑x.k/\fD.cell? (w,4)=some ↑x.c/\fD.cell? (w,5)=some ↑(ad x.u)/\fD.cell? (w,6)=some ↑x.f/\fD.cell? (w,1,0)=some (.func (.func 175) #[] #[w])/\Hid (Z w fD));case first=>
  go_wp2_with fail;go_meet;exact⟨_,rfl,rfl,B7,B7,B7,B7,B7,X⟩
 case rest=>
  obtain⟨wE,rfl,rfl,b0,e2,wF,vz,ay,nv⟩:=hcut;go_wp2_with fail;refine acS ?_;intro w1 aw m aQ vA oM ba cT;have dJ:=oM.ah e2;have dw:=oM.ah wF;have eC:=oM.ah vz;go_wp2_with (at_builtin;refine hf (ys:=xs.filter (λs:ck=>decide (qF s.d x.c x.u<0))) rfl (.tmp 25) (.tmp 33) 199 rfl ca _ 40 underlying199 bJ bF bG bK rfl af rfl (ba.ext X) (⟨x.c,x.u,x.f,d.ts⟩:ck) _ rfl (fc (cs:=ck.cs (⟨x.c,x.u,x.f,d.ts⟩:ck)) rfl) (ck.cN _) J af (Z.size X) ?_;intro g _ aY fY bW;have cz:=I fY;have dE:=I (bW.ext (ba.ext X) (bA _) X);clear fY bW);refine(MX _ _ _ xs (λs:ck=>decide (0<qF s.d x.c x.u)) 180 ⟨w.heap.size+1,0,none⟩ aY (av.aF.ext (nv.trans dE)) J (λ_ _=>by kernel_rfl) (λs _ w' hw=>acR s w.heap.size (w.heap.size+1) x.c x.u w' ((dE.trans hw).ah e2) ((dE.trans hw).ah wF) ((dE.trans hw).ah ay))).mono ?_;rintro e _⟨_,_,_,rfl,dW,DF⟩;have pb:=WQ dW.neq an;replace DF:=I DF;replace dW:=I dW;go_wp2_with (at_builtin;refine wpList_plain rfl λoL ns=>?_;refine wC (c:=ck.cs) (ys0:=xs.filter (λs:ck=>decide (qF s.d x.c x.u<0))++[(⟨x.c,x.u,x.f,d.ts⟩:ck)]) (ys:=xs.filter (λs:ck=>decide (0<qF s.d x.c x.u))) (.tmp 35) (.tmp 38) 199 256 rfl ca _ 40 underlying199 bJ bF bG bK rfl af rfl wE (dE.trans DF) (cz.ext DF) rfl dW.aF ck.cN J af ?_;intro _ _ _ cV hY jt U p4;refine ns _ _ ?_;have k4:=I jt;have lL:=I U;have WR:=I hY;clear jt U p4 hY);refine(WM _ _ _ (xs.filter (λs:ck=>decide (qF s.d x.c x.u<0))++[(⟨x.c,x.u,x.f,d.ts⟩:ck)]++xs.filter (λs:ck=>decide (0<qF s.d x.c x.u))) wE cV k4 lL ?hF ?fH (by rw[WR.out];omega)).mono ?_;case hF=>
   intro y hy;rcases iR.1 hy with hy|hy
   ·rcases iR.1 hy with hy|hy;exact RP
    ·obtain rfl:=iH.1 hy;exact bb.f.ext nv
   exact RP
  case fH=>
   intro y hy;rcases iR.1 hy with hy|hy
   ·rcases iR.1 hy with hy|hy;exact RQ
    ·obtain rfl:=iH.1 hy;exact eh bc af
   exact RQ
  rintro e _⟨cq,rfl,eM,c5,mq⟩;replace eM:=I eM;replace c5:=I c5;have iG:=I (nv.trans mq);clear mq;go_wp2;go_ret;refine⟨_,_,_,cq,rfl,eM,?_,iG⟩;rw[c5.out,gS,gS,RO (λs=>decide (qF s x.c x.u<0)),RO (λs=>decide (0<qF s x.c x.u)),bb.c,bb.u];unfold yF;rw[bm (.inl aD),bm aD,iI];rfl
def aoO(a:bk)(n cap:Nat)(xs:List ck)(x:b1)(d:bg)(w:aC)(av:sY w a n cap xs)(bb:h0 w x d)(bL:∀s,s∈xs->s.ts.length<=10000)(an:n<=10000)(bc:d.ts.length<=10000)(aD:d.k=3):
  aR 101 #[aq a n cap,x] w (M3 (yF (xs.map ck.d) d) w):=by
 obtain⟨ca,bJ,bF,bG,bK⟩:=info_parts RI;replace bJ:=I bJ;replace bF:=I bF;replace bG:=I bG;replace bK:=I bK;obtain rfl:=av.aF.neq;have hm:=av.aF.max;unfold maxLen at hm;replace av:=I av;replace bb:=I bb;replace bL:=I bL;have hk:x.k=3:=by rw[bb.k];exact aD
 go_enter func101,ntmps101;go_upto_region 3 with (fail);go_cut [5] (λv fD=>∃wE,wE=fD/\v=.pointer (some (w,1,0))/\fD.cell? (w,0)=some ↑x.k/\fD.cell? (w,4)=some ↑x.c/\fD.cell? (w,5)=some ↑(ad x.u)/\fD.cell? (w,6)=some ↑x.f/\fD.cell? (w,1,0)=some (.func (.func 175) #[] #[w])/\Hid (Z w fD));case first=>
  go_wp2_with fail;go_meet;exact⟨_,rfl,rfl,B7,B7,B7,B7,B7,X⟩
 case rest=>
  obtain⟨wE,rfl,rfl,b0,e2,wF,_,ay,nv⟩:=hcut;go_wp2_with fail;refine acS ?_;intro w1 aw m aQ vA oM ba cT;have dE:=oM;have cz:=ba;go_wp2_with fail;refine(MX _ _ _ xs (λs:ck=>decide (0<qF s.d x.c x.u)) 180 ⟨w.heap.size+1,0,none⟩ w1 (av.aF.ext (nv.trans dE)) J (λ_ _=>by kernel_rfl) (λs _ w' hw=>acR s w.heap.size (w.heap.size+1) x.c x.u w' ((dE.trans hw).ah e2) ((dE.trans hw).ah wF) ((dE.trans hw).ah ay))).mono ?_;rintro e _⟨_,_,_,rfl,dW,DF⟩;have pb:=WQ dW.neq an;replace DF:=I DF;replace dW:=I dW;go_wp2_with (at_builtin;refine wpList_plain rfl λoL ns=>?_;refine wC (c:=ck.cs) (ys0:=xs.filter (λs:ck=>decide (qF s.d x.c x.u<0))) (ys:=xs.filter (λs:ck=>decide (0<qF s.d x.c x.u))) (.tmp 35) (.tmp 38) 199 256 rfl ca _ 40 underlying199 bJ bF bG bK rfl af rfl wE (dE.trans DF) (cz.ext DF) rfl dW.aF ck.cN J af ?_;intro _ _ _ cV hY jt U p4;refine ns _ _ ?_;have k4:=I jt;have lL:=I U;have WR:=I hY;clear jt U p4 hY);refine(WM _ _ _ (xs.filter (λs:ck=>decide (qF s.d x.c x.u<0))++xs.filter (λs:ck=>decide (0<qF s.d x.c x.u))) wE cV k4 lL ?hF ?fH (by rw[WR.out];omega)).mono ?_;case hF=>
   intro y hy;rcases iR.1 hy with hy|hy;exact RP;exact RP
  case fH=>
   intro y hy;rcases iR.1 hy with hy|hy;exact RQ;exact RQ
  rintro e _⟨cq,rfl,eM,c5,mq⟩;replace eM:=I eM;replace c5:=I c5;have iG:=I (nv.trans mq);clear mq;go_wp2;go_ret;refine⟨_,_,_,cq,rfl,eM,?_,iG⟩;rw[c5.out,gS,RO (λs=>decide (qF s x.c x.u<0)),RO (λs=>decide (0<qF s x.c x.u)),bb.c,bb.u];unfold yF;rw[bm (.inr aD),bj J];rfl
def acT(a:bk)(n cap:Nat)(xs:List ck)(x:b1)(d:bg)(w:aC)(a8:sY w a n cap xs)(fE:h0 w x d)(fH:∀s,s∈xs->s.ts.length<=10000)(an:n<=10000)(bc:d.ts.length<=10000):
  aR 101 #[aq a n cap,x] w (M3 (yF (xs.map ck.d) d) w):=by
 by_cases ak:d.k=2
 ·exact aoN a n cap xs x d w a8 fE fH an bc ak
 ·by_cases aM:d.k=3
  ·exact aoO a n cap xs x d w a8 fE fH an bc aM
  ·exact aoL a n cap xs x d w a8 fE fH an bc ak aM
def M4:(prog.info? 77).map (λi=>(i.zero,i.size,i.bytes))=some (some (.agg #[.string ⟨#[]⟩,ar,ar,.string ⟨#[]⟩]),4,48):=bV
def acU(l:List (List cd))(w:World)(e:Ending)(w':World):Prop:=∃aw n cap ys,e=.returned (.slice aw n cap)/\Own w' w.heap.size 34 1 eJ.cs aw n cap ys/\(∀y,y∈ys->Own w' w.heap.size 77 4 cd.cs y.v.a y.v.n y.v.c y.dH)/\ys.map (·.dH)=l/\Z w w'
def acV(a:bk)(n cap:Nat)(xs:List eJ)(w:aC)(av:xp w a n cap xs)(an:n<=10000)(dA:∀x,x∈xs->x.dH.length<=10000):
  aR 167 #[aq a n cap] w (acU (xs.map (·.dH)) w):=by
 obtain⟨dc,eo,dB,ej,fe⟩:=info_parts J5;obtain⟨eI,mZ,na,nb,nc⟩:=info_parts M4;change Hid _ at eo dB ej fe mZ na nb nc;obtain rfl:=av.aF.neq;have hm:=av.aF.max;have aT:=av.aF.len;unfold maxLen at hm;change Hid _ at av dA;go_enter func167,ntmps167;go_wp2_with fail
 go_loopg [3,8] (xs.length) (λg e1 st wr=>∃(k:Nat) (ab:bk) (m aQ:Nat) (ys:List eJ),g+k=xs.length/\st=.int .i64 k/\e1=.slice ab m aQ/\
  Hid (Own wr w 34 1 eJ.cs ab m aQ ys/\ys.map (·.dH)=(xs.take k).map (·.dH)/\∀y,y∈ys->Own wr w 77 4 cd.cs y.v.a y.v.n y.v.c y.dH)/\Hid (Z w wr))
 case atStart=>exact acW
 case round=>
  obtain⟨k,ab,m,aQ,ys,_,rfl,rfl,aE,U⟩:=hrel;by_cases hk:k<xs.length
  ·obtain⟨b,o,rfl,ao⟩:=av.out.aF.get k hk;have d0:=HA (w:=wr) (b:=b) (o:=o+k*1) (x:=xs[k]) (λj v aJ=>U.out.ah (ao j v aJ));rw[jT]at d0;have bN:=I ((av.out.dH xs[k] (c7 hk)).ext U.out);have aoP:xs[k].v.n<=10000:=by rw[bN.out.neq];exact dA.out _ (c7 hk)
   have hi:m<=10000:=by
    have ae:=eP List.length aE.out.2.1;rw[cr,cr,o9]at ae;have ak:=aE.out.1.neq;omega
   have M5:(w:Nat)<=(wr:Nat):=U.out.size;clear ao;refine kt ?_;intro b0 bd;go_wp2_with (first|(at_builtin;refine wpList_plain rfl λoL ns=>?_;refine wC (c:=cd.cs) (ys0:= []) (ys:=xs[k].dH) (.const aH) (.tmp 13) 34 77 rfl eI _ 48 underlying34 mZ.out na.out nb.out nc.out rfl af rfl wr X (Own.nil _ _ _ cd.bH) rfl (bN.out.ext X) cd.cN J af ?_;intro cK dv uK aN hY jt bw p4;refine ns _ _ ?_;have b7:=I jt;have bz:=I bw;have aB8:=I hY;clear jt bw p4 hY)|(at_builtin;refine hf (ys:=ys) rfl (.tmp 12) (.tmp 15) 64 rfl dc _ 24 underlying64 eo.out dB.out ej.out fe.out rfl af rfl (aE.out.1.ext (bz.out.alloc _)) ⟨⟨cK,dv,uK⟩,xs[k].dH⟩ _ rfl (fc (cs:=eJ.cs ⟨⟨cK,dv,uK⟩,xs[k].dH⟩) rfl) (eJ.cN _) J af (eh M5 (bz.out.alloc _).size) ?_;intro g _ _ fY bW;have cz:=I fY;have cv:=I bW;clear fY bW));go_roundg (gk - 1);case measure=>omega
   case rel=>
    have q4:=aE.out.1.ext (bz.out.alloc (.cells #[aq cK dv uK] 34));refine⟨k+1,_,_,_,ys++[⟨⟨cK,dv,uK⟩,xs[k].dH⟩],J,by go_num,rfl,⟨cz.out,?_,λy hy=>?_⟩,cv.out.ext q4 (bA _) (Z.trans U.out (bz.out.alloc _))⟩;exact acX
    ·rcases iR.1 hy with hy|hy
     ·have qG:=(aE.out.2.2 y hy).ext (bz.out.alloc (.cells #[aq cK dv uK] 34));exact cv.out.bI qG (q4.gQ qG af)
     ·obtain rfl:=iH.1 hy;have qG:=(b7.out.mono M5).ext ((Z.refl aN).alloc (.cells #[aq cK dv uK] 34));exact cv.out.bI qG (q4.gQ qG af)
  ·refine se ?_;intro b9;rw[b9]at aE;go_wp2;go_ret;exact⟨ab,m,aQ,ys,rfl,aE.out.1,aE.out.2.2,aE.out.2.1,U.out⟩
def aoQ(hZ:List (List T))(w:World)(e:Ending)(w':World):Prop:=∃aw n cap ys,e=.returned (.slice aw n cap)/\Du w' aw n cap ys/\ys.map (·.ts)=hZ/\Z w w'
def ck.nM(s:ck):lJ:=⟨s.f,s.ts⟩
def aoR(xs:List ck)(cl:List Int):((xs.filter (λs:ck=>decide (s.c∈cl))).map ck.nM).map (·.ts)=AG (xs.map ck.d) cl:=by
 unfold AG;rw[J8,FN,FN];exact acY
def aoS(a:bk)(n cap:Nat)(xs:List ck)(M6:bk)(M7 M8:Nat)(cl:List Int)(w:aC)(av:sY w a n cap xs)(cn:a1 w 1 dD M6 M7 M8 cl)(bL:∀s,s∈xs->s.ts.length<=10000)(an:n<=10000):
  aR 280 #[aq a n cap,aq M6 M7 M8] w (aoQ (J4 (xs.map ck.d) cl) w):=by
 obtain⟨ca,bJ,bF,bG,bK⟩:=info_parts ace;change Hid _ at bJ bF bG bK;obtain rfl:=av.aF.neq;have hm:=av.aF.max;have aT:=av.aF.len;unfold maxLen at hm;change Hid _ at av cn bL;go_enter func280,ntmps280;go_wp2_with fail;refine(MX _ _ _ xs (λs:ck=>decide (s.c∈cl)) 302 ⟨w.heap.size,0,none⟩ _ (av.aF.ext X) J (λ_ _=>by kernel_rfl) (λs _ w' hw=>aoH s w.heap.size _ _ _ cl w' (hw.ah (by simp)) ((cn.ext X).ext hw))).mono ?_;rintro e w1⟨cL,_,_,rfl,dO,aa⟩;have nN:∀s,s∈xs.filter (λs:ck=>decide (s.c∈cl))->s∈xs:=λs hs=>(mI.1 hs).1;have hlen:(xs.filter (λs:ck=>decide (s.c∈cl))).length<=xs.length:=xq _ _;have cR:=I (aoR xs cl);generalize xs.filter (λs:ck=>decide (s.c∈cl))=L at dO nN hlen cR;obtain rfl:=dO.neq;have vA:=dO.aF.max;have AJ:=dO.aF.len;unfold maxLen at vA;have ba:=I dO.aF;refine RR ?_;intro hy;clear dO aa;go_wp2_with fail;go_loopg [6,14] (L.length) (λg e1 st wr=>∃(k:Nat) (aw:bk) (m aQ:Nat),g+k=L.length/\st=.int .i64 k/\e1=.slice aw m aQ/\m<=k/\Hid (Own wr w1 36 1 lJ.cs aw m aQ ((L.take k).map ck.nM))/\Hid (Z w1 wr));case atStart=>exact⟨0,none,0,0,J,rfl,rfl,J,Own.nil _ _ _ lJ.bH,Z.refl _⟩
 case round=>
  obtain⟨k,_,m,_,_,rfl,rfl,_,aE,U⟩:=hrel;by_cases hk:k<L.length
  ·obtain⟨b,o,rfl,ao⟩:=ba.get k hk;obtain⟨_,_,_⟩:=RH (w:=wr) (b:=b) (o:=o+k*3) (x:=L[k]) (λj v aJ=>U.ah (ao j v aJ));clear ao;have b0:(0:Int)<=(k:Int):=J;have bd:(k:Int)<(L.length:Int):=J;go_wp2_with (at_builtin;go_must (refine hf (ys:=(L.take k).map ck.nM) rfl (.tmp 18) (.tmp 21) 350 rfl ca _ 24 underlying350 bJ bF bG bK rfl af rfl (aE.ext X) L[k].nM _ rfl (fc (cs:=lJ.cs L[k].nM) (by simp)) (lJ.cN _) J af (Z.size X) ?_);intro g _ _ fY bW;have cz:=I fY;have cv:=I bW;clear fY bW);go_roundg (gk - 1);case measure=>omega
   case rel=>exact⟨k+1,_,_,_,J,by go_num,rfl,J,by(rw[iX hk,gS];exact cz),cv.ext (aE.ext X) (bA _) X⟩
  ·have b9:L.take k=L:=ir J;rw[b9]at aE;clear b9;go_wp2_with fail;refine(an7 _ _ _ (L.map ck.nM) _ ⟨aE.aF,λy uN=>?wG⟩ J (λy uN=>?DG)).mono ?_;case wG=>
    obtain⟨s,hs,rfl⟩:=kN.1 uN;exact((av.ts s (nN s hs)).ext hy).ext U
   case DG=>
    obtain⟨s,hs,rfl⟩:=kN.1 uN;show s.f.n<=10000;rw[(av.ts s (nN s hs)).neq];exact bL s (nN s hs)
   rintro e _⟨a4,pF,dJ,cq,rfl,ef,bM,fv⟩;change Hid _ at ef bM fv;go_wp2;go_ret;refine⟨a4,pF,dJ,cq,rfl,ef.an2,by rw[bM.out,cR.out];rfl,?_⟩;exact X
def aoT(a:bk)(n cap:Nat)(xs:List ck)(p:ck->Bool)(fn:Nat)(aQ:Addr)(w:aC)(av:a1 w 3 ck.cs a n cap xs)(bc:∀args w,(callFunc fn args).run prog w=.ok (.enter fn args) w)(cy:∀x,x∈xs->∀w',Z w w'->aR fn #[.agg #[x.c,ad x.u,x.f],.pointer (some aQ)] w' λe fj=>e=.returned (.bool (p x))/\Z w' fj):
  aR 246 #[aq a n cap,.func (.func fn) #[] #[.pointer (some aQ)]] w (cM (.int .i64 (qz p xs)) w):=by
 obtain rfl:=av.neq;refine wB ?_;intro hm aT;change Hid _ at av cy;go_enter func246,ntmps246;go_wp2_with fail;go_loopg [5,8] (xs.length) (λg _ st wr=>∃k:Nat,g+k=xs.length/\st=.int .i64 k/\Hid ((xs.take k).any p=false)/\Hid (Z w wr));case atStart=>exact⟨0,J,rfl,rfl,Z.refl _⟩
 case round=>
  obtain⟨k,_,rfl,eO,U⟩:=hrel;by_cases hk:k<xs.length
  ·obtain⟨b,o,rfl,ao⟩:=av.get k hk;obtain⟨_,_,_⟩:=RH (w:=wr) (b:=b) (o:=o+k*3) (x:=xs[k]) (λj v aJ=>U.ah (ao j v aJ));clear ao;exact MV
  exact MW
def aoU(a:bk)(n cap:Nat)(xs:List ck)(p:ck->Bool)(fn:Nat)(aQ:Addr)(w:aC)(av:a1 w 3 ck.cs a n cap xs)(bc:∀args w,(callFunc fn args).run prog w=.ok (.enter fn args) w)(cy:∀x,x∈xs->∀w',Z w w'->aR fn #[.agg #[x.c,ad x.u,x.f],.pointer (some aQ)] w' λe fj=>e=.returned (.bool (p x))/\Z w' fj):
  aR 170 #[aq a n cap,.func (.func fn) #[] #[.pointer (some aQ)]] w (cM (.bool (xs.any p)) w):=by
 change Hid _ at av cy;go_enter func170,ntmps170;go_wp2_with fail;refine qA (aoT _ _ _ xs p fn aQ _ (av.ext X) bc (λx U w' hw=>cy x U w' (Z.trans X hw))) λw1 hy=>?_;go_wp2;go_ret;refine⟨iW (Wp p xs),?_⟩;exact X
def aoV(x:ck)(fC:Nat)(c:Int)(w:aC)(ao:w.cell? (fC,0)=some ↑c):
  aR 166 #[.agg #[x.c,ad x.u,x.f],fC] w (cM (.bool (decide (x.c=c))) w):=by
 have eI:=((Z.refl w).alloc (.cells #[x.c,ad x.u,x.f] 256)).ah ao;go_enter func166,ntmps166;exact acq
def aoW(x:ck)(fC:Nat)(dK:bk)(eA dM:Nat)(aS:List cd)(w:aC)(ef:a1 w 5 T.cs x.f.a x.f.n x.f.c x.ts)(jI:a1 w 4 cd.cs dK eA dM aS)(ao:w.cell? (fC,0)=some ↑(aq dK eA dM)):
  aR 171 #[.agg #[x.c,ad x.u,x.f],fC] w (cM (.bool (sX x.ts aS)) w):=by
 have eI:=((Z.refl w).alloc (.cells #[x.c,ad x.u,x.f] 256)).ah ao;change Hid _ at ef jI;go_enter func171,ntmps171;go_wp2_with fail;refine qA (acv _ _ _ x.ts _ _ _ aS _ (ef.ext X) (jI.ext X)) λw1 hy=>?_;go_wp2;go_ret;refine⟨rfl,?_⟩;exact X
def aoX(x:eJ)(fC:Nat)(a:bk)(n cap:Nat)(xs:List ck)(w:aC)(jI:a1 w 4 cd.cs x.v.a x.v.n x.v.c x.dH)(av:sY w a n cap xs)(ao:w.cell? (fC,0)=some ↑(aq a n cap)):
  aR 169 #[x.v,fC] w (cM (.bool (xs.any λs=>sX s.ts x.dH)) w):=by
 have eI:=((Z.refl w).alloc (.cells #[x.v] 34)).ah ao;change Hid _ at av jI;go_enter func169,ntmps169;go_wp2_with fail;refine(aoU _ _ _ xs (λs=>sX s.ts x.dH) 171 ⟨w.heap.size,0,none⟩ _ (av.aF.ext X) (λ_ _=>by kernel_rfl) (λs hs w' hw=>aoW s w.heap.size _ _ _ x.dH w' (((av.ts s hs).ext X).ext hw) ((jI.ext X).ext hw) (hw.ah (by simp)))).mono ?_;rintro e _⟨rfl,hy⟩;change Hid _ at hy;go_wp2;go_ret;refine⟨rfl,?_⟩;exact X
def aoY(xs:List ck)(c:Int)(dz:List eJ):(dz.filter (λe=>(xs.filter (λs:ck=>decide (s.c=c))).any λs=>sX s.ts e.dH)).map (·.dH)=AH (AG (xs.map ck.d) [c]) (dz.map (·.dH)):=by
 unfold AH AG;rw[J8];congr 1;refine DH λe _=>?_;show((xs.filter (λs:ck=>decide (s.c=c))).any λs=>sX s.ts e.dH)=((((xs.map ck.d).filter (λs=> [c].contains s.c)).map (·.ts)).any λf=>sX f e.dH);rw[J8,FN,xm];exact acY
def acZ{dz:List eJ}{aS:List (List cd)}(h:dz.map (·.dH)=aS)(aT:aS.length<=m)(aj:∀e,e∈aS->e.length<=m):dz.length<=m/\∀x,x∈dz->x.dH.length<=m:=
 ⟨by rw[<-cr (f:=(·.dH)),h];exact aT,λx U=>aj _ (by rw[<-h];exact mJ U)⟩
def aoZ(a:bk)(n cap:Nat)(xs:List ck)(c:Int)(x:b1)(d:bg)(w:aC)(av:sY w a n cap xs)(fE:h0 w x d)(an:n<=10000)(he:d.aS.length<=10000)(aj:∀e,e∈d.aS->e.length<=10000):
  aR 100 #[aq a n cap,c,x] w (acU (pa (xs.map ck.d) c d) w):=by
 obtain⟨dz,kv,bN⟩:=fE.e;obtain⟨uO,dA⟩:=acZ kv he aj;obtain rfl:=av.aF.neq;have eu:=bN.aF.neq;have hm:=av.aF.max;have aT:=av.aF.len;unfold maxLen at hm;have oK:=fE.k;change Hid _ at av bN kv dA eu;clear fE he aj;by_cases ae:d.k=1
 ·have hk:x.k=1:=by rw[oK];exact ae
  have bB:=I (show pa (xs.map ck.d) c d=AH (AG (xs.map ck.d) [c]) d.aS from by unfold pa;rw[if_pos ae]);clear ae oK;go_enter func100,ntmps100;go_wp2_with fail;refine(MX _ _ _ xs (λs:ck=>decide (s.c=c)) 166 ⟨w.heap.size,0,none⟩ _ (av.aF.ext X) J (λ_ _=>by kernel_rfl) (λs _ w' hw=>aoV s w.heap.size c w' (hw.ah (by simp)))).mono ?_;rintro e w1⟨cL,dv,c1,rfl,dO,aa⟩;have eK:w1.cell? (w,1,7)=some ↑x.e:=aa.ah (by simp);have nN:∀s,s∈xs.filter (λs:ck=>decide (s.c=c))->s∈xs:=λs hs=>(mI.1 hs).1;have cR:=I (aoY xs c dz);generalize xs.filter (λs:ck=>decide (s.c=c))=L at dO nN cR;have hy:Hid (Z w w1):=Z.trans (((Z.refl w).alloc _).alloc _) aa;have bL:Hid (sY w1 cL dv c1 L):=⟨dO.aF,λs hs=>(av.ts s (nN s hs)).ext hy⟩;clear dO aa;have d7:=((Z.refl w1).alloc (.cells #[aq cL dv c1] 199)).ah eK;go_wp2_with fail;refine(acG _ _ _ dz (λe=>L.any λs=>sX s.ts e.dH) 169 ⟨w1.heap.size,0,none⟩ _ (bN.aF.ext X) (by rw[eu.out];omega) _ rfl (λ_ _=>by kernel_rfl) ?aV).mono ?_;case aV=>
   intro e he w' hw;exact aoX e (w1:Nat) _ _ _ L w' (((bN.dH e he).ext X).ext hw) ((bL.ext X).ext hw) (hw.ah (by simp))
  rintro e aN⟨cE,_,_,rfl,oO,ih⟩;have lK:Hid (Z w1 aN):=Z.trans ((Z.refl w1).alloc _) ih;have b7:=I oO.aF;clear oO ih;go_wp2_with fail;refine(acV _ _ _ _ _ ⟨b7,λy uN=>?jR⟩ ?DG ?ao0).mono ?_;case jR=>exact((bN.dH y (mI.1 uN).1).ext hy).ext lK
  case DG=>exact eh (Nat.le_of_eq b7.neq) (eh (xq _ _) uO)
  case ao0=>exact λy uN=>dA y (mI.1 uN).1
  rintro e _⟨a3,gF,da,cq,rfl,eM,ac0,bM,ao1⟩;change Hid _ at eM ac0 bM ao1;go_wp2;go_ret;refine⟨a3,gF,da,cq,rfl,eM.mono (by have cU:=hy.size;have z2:=lK.size;omega),λy uN=>(ac0 y uN).mono (by have cU:=hy.size;have z2:=lK.size;omega),by rw[bM.out,cR.out,bB.out,kv.out],?_⟩;exact X
 ·have hk:x.k≠1:=by rw[oK];exact ae
  have q1:(x.k !=1)=true:=by simp[hk]
  have bB:=I (show pa (xs.map ck.d) c d= []from by unfold pa;rw[if_neg ae]);clear ae oK;go_enter func100,ntmps100;go_wp2;go_ret;refine⟨none,0,0,[],rfl,Own.nil _ _ _ eJ.bH,λy hy=>(by cases hy),by rw[bB.out];rfl,?_⟩;exact X
structure sZ (w:World) (b:Nat) (x:b1):Prop where
 at_:r9 w b 0 x.cs
 free:∀j,w.frozen? ⟨b,j,none⟩=false
def sZ.lt(h:sZ w b x):b<(w:Nat):=Dl (h.at_ 0 _ rfl)
def sZ.ext(h:sZ w b x)(U:Z w w'):sZ w' b x:=
 ⟨λj v aJ=>U.ah (h.at_ j v aJ),λj=>(U.frozen b j h.lt).trans (h.free j)⟩
def sZ.cells(h:sZ w b x):
  w.cell? (b,0)=some ↑x.k/\w.cell? (b,1)=some ↑x.id.b/\w.cell? (b,2)=some ↑(ad x.id.l)/\w.cell? (b,3)=some ↑(ad x.id.s)/\w.cell? (b,4)=some ↑x.c/\w.cell? (b,5)=some ↑(ad x.u)/\w.cell? (b,6)=some ↑x.f/\w.cell? (b,7)=some ↑x.e:=
 ⟨h.at_ 0 _ rfl,h.at_ 1 _ rfl,h.at_ 2 _ rfl,h.at_ 3 _ rfl,h.at_ 4 _ rfl,h.at_ 5 _ rfl,h.at_ 6 _ rfl,h.at_ 7 _ rfl⟩
def sZ.jD(h:sZ w b x){p:Addr}(aV:b≠p.block)(u:Value):sZ (w.setCell p u) b x:=
 ⟨λj v aJ=>(JV (a:=⟨b,0+j,.none⟩) (Below.heap_setCell w p u b aV)).trans (h.at_ j v aJ),λj=>(World.frozen?_of_block (a:=⟨b,j,.none⟩) (Below.heap_setCell w p u b aV)).trans (h.free j)⟩
def ao2{p q:Addr}{u:Value}(h:w.frozen? q=false):(w.setCell p u).frozen? q=false:=by simpa using h
def ao3{i:Nat}{cs cs':List Value}{u:Value}(h:r9 w b 0 cs)(aO:i<cs.length)(he:cs'=cs.set i u):r9 (w.setCell (b,i) u) b 0 cs':=by
 intro j v aJ;rw[he]at aJ;rw[om];by_cases WS:i=j
 ·subst WS;rw[List.getElem?_set_self aO]at aJ;cases aJ;exact RS _ _ _ (by have:=h i _ (fz aO);rwa [om]at this)
 ·rw[List.getElem?_set_ne WS]at aJ;have:=h j v aJ;rw[om]at this;exact(s0 _ _ _ _ (by simp[WS])).trans this
def sZ.ac1(h:sZ w b x)(e:iY):sZ (w.setCell (b,7) e) b {x with e:=e}:=
 ⟨ao3 h.at_ (by rw[b1.bH];decide) rfl,λj=>ao2 (h.free j)⟩
def sZ.new:sZ (w.alloc (.cells #[x.k,x.id.b,ad x.id.l,ad x.id.s,x.c,ad x.u,x.f,x.e] t)) w x:=
 ⟨λj v aJ=>by rw[om];exact fc (cs:=x.cs) rfl j v aJ,λj=>by simp⟩
def WT:b1:=⟨0,⟨0,0,0⟩,0,0,⟨none,0,0⟩,⟨none,0,0⟩⟩
def ao4(d:bg)(w:World)(e:Ending)(w':World):Prop:=∃x:b1,e=.returned (.agg #[x.k,x.id.b,ad x.id.l,ad x.id.s,x.c,ad x.u,x.f,x.e])/\(x.k=d.k/\x.id=d.id/\x.c=d.c/\x.u=d.u/\Own w' w.heap.size 154 5 T.cs x.f.a x.f.n x.f.c d.ts/\∃ys:List eJ,ys.map (·.dH)=d.aS/\Own w' w.heap.size 34 1 eJ.cs x.e.a x.e.n x.e.c ys/\∀y,y∈ys->Own w' w.heap.size 77 4 cd.cs y.v.a y.v.n y.v.c y.dH)/\Z w w'
def ao5(y:eJ)(fC:Nat)(a:bk)(n cap:Nat)(hZ:List lJ)(w:aC)(jI:a1 w 4 cd.cs y.v.a y.v.n y.v.c y.dH)(av:Du w a n cap hZ)(ao:w.cell? (fC,0)=some ↑(aq a n cap)):
  aR 281 #[y.v,fC] w (cM (.bool (hZ.any λf=>sX f.ts y.dH)) w):=by
 change Hid _ at av jI;go_enter func281,ntmps281;go_wp2_with fail;refine qA (aod _ _ _ hZ _ _ _ y.dH _ (av.ext X) (jI.ext X)) λw1 hy=>?_;go_wp2;go_ret;refine⟨rfl,?_⟩;exact X
def ao6(hZ:List lJ)(dz:List eJ):(dz.filter (λe=>hZ.any λf=>sX f.ts e.dH)).map (·.dH)=AH (hZ.map (·.ts)) (dz.map (·.dH)):=by
 unfold AH;rw[J8];congr 1;refine DH λe _=>?_;show(hZ.any λf=>sX f.ts e.dH)=((hZ.map (·.ts)).any λf=>sX f e.dH);rw[xm];rfl
def ac2(a:bk)(n cap:Nat)(xs:List ck)(M6:bk)(M7 M8:Nat)(cl:List Int)(x:b1)(d:bg)(w:aC)(av:sY w a n cap xs)(cn:a1 w 1 dD M6 M7 M8 cl)(bb:h0 w x d)(bL:∀s,s∈xs->s.ts.length<=10000)(an:n<=10000)(ef:d.ts.length<=10000)(he:d.aS.length<=10000)(aj:∀e,e∈d.aS->e.length<=10000):
  aR 226 #[aq a n cap,aq M6 M7 M8,x] w (ao4 (jU (xs.map ck.d) cl d) w):=by
 obtain⟨dz,kv,bN⟩:=bb.e;obtain⟨uO,dA⟩:=acZ kv he aj;have eu:=bN.aF.neq;have b8:=bb.k;change Hid _ at av cn bb bL bN kv dA eu ef b8;clear he aj;go_enter func226,ntmps226;go_upto_if 10 with (fail);go_cut [7] (λ_ fD=>∃(wE:aC) (bE:iY) (ys:List eJ),wE=fD/\Hid (sZ fD (w:Nat) {x with e:=bE})/\Hid (sZ fD (w.heap.size+1) WT)/\Hid (xp fD bE.a bE.n bE.c ys/\ys.map (·.dH)=(jU (xs.map ck.d) cl d).aS/\ys.length<=10000/\∀y,y∈ys->y.dH.length<=10000)/\Hid (Z w fD));case first=>
  have bB:=I (sZ.new (w:=w) (x:=x) (t:=66));have eM:=sZ.new (w:=w.alloc x) (x:=WT) (t:=66);rw[show(w.alloc x).heap.size=(w:Nat)+1 from by simp]at eM;change Hid _ at eM;by_cases ae:d.k=1
  ·have q1:(x.k==1)=true:=by rw[b8.out,ae];rfl
   have c5:=I (show(jU (xs.map ck.d) cl d).aS=AH (J4 (xs.map ck.d) cl) d.aS from by unfold jU;rw[if_pos ae]);clear ae;go_wp2_with fail;refine(aoS _ _ _ xs _ _ _ cl _ ⟨av.out.aF.ext X,λs hs=>(av.out.ts s hs).ext X⟩ (cn.out.ext X) bL.out an).mono ?_;rintro e w1⟨cL,dv,c1,hZ,rfl,ac3,ac4,aa⟩;have zD:=I (((bB.out.ext ((Z.refl _).alloc _)).ext aa));have ao7:=I (eM.out.ext aa);have hy:Hid (Z w w1):=Z.trans (((Z.refl w).alloc _).alloc _) aa;change Hid _ at ac3 ac4;clear aa;have d7:=((Z.refl w1).alloc (.cells #[aq cL dv c1] 350)).ah zD.out.cells.2.2.2.2.2.2.2;go_wp2_with fail;refine(acG _ _ _ dz (λe:eJ=>hZ.any λf=>sX f.ts e.dH) 281 ⟨w1.heap.size,0,none⟩ _ (bN.out.aF.ext X) (by rw[eu.out];omega) _ rfl (λ_ _=>by kernel_rfl) ?aV).mono ?_;case aV=>
    intro y uN w' hw;exact ao5 y (w1:Nat) _ _ _ hZ w' (((bN.out.dH y uN).ext X).ext hw) ((ac3.out.ext X).ext hw) (hw.ah (by simp))
   rintro e aN⟨cE,cZ,c2,rfl,b7,ih⟩;have jV:Z w1 aN:=Z.trans ((Z.refl w1).alloc _) ih;have B8:=I (zD.out.ext jV);have ao8:=I (ao7.out.ext jV);have lK:=I (hy.out.trans jV);have fM:=zD.out.lt;change Hid _ at b7;clear ih jV d7;have d7:=B8.out.cells.2.2.2.2.2.2.2;have ac5:=B8.out.free 7;go_wp2_with fail;go_meet;have ch:Z w (aN.setCell (w,7) (aq cE cZ c2)):=Z.setCell (p:=(w,7)) lK.out (bA _) _;refine⟨_,⟨cE,cZ,c2⟩,dz.filter (λe:eJ=>hZ.any λf=>sX f.ts e.dH),rfl,B8.out.ac1 ⟨cE,cZ,c2⟩,ao8.out.jD (p:=⟨w.heap.size,7,none⟩) (Nat.succ_ne_self _) _,⟨⟨b7.out.aF.set (p:=⟨w.heap.size,7,none⟩) (λai aj _=>?_) _,λy uN=>(bN.out.dH y (mI.1 uN).1).ext ch⟩,?_,eh (xq _ _) uO,λy uN=>dA.out y (mI.1 uN).1⟩,ch⟩
   ·have ae:=(b7.out.lt ai aj).1;simp at ae;show ai.block≠(w:Nat);omega
   ·rw[ao6,ac4.out,kv.out,c5.out]
  ·have q1:(x.k==1)=false:=by rw[b8.out];simpa using ae
   have c5:=I (show(jU (xs.map ck.d) cl d).aS=d.aS from by unfold jU;rw[if_neg ae]);clear ae;go_wp2_with fail;go_meet;exact⟨_,x.e,dz,rfl,bB.out.ext ((Z.refl _).alloc _),eM.out,⟨bN.out.ext X,by rw[kv.out,c5.out],uO,dA.out⟩,X⟩
 case rest=>
  obtain⟨wE,bE,ys,rfl,bB,eM,lM,nv⟩:=hcut;have d7:=bB.out.cells.2.2.2.2.2.2.2;dsimp only at d7;go_wp2_with fail;refine(acV _ _ _ ys _ lM.out.1 (by rw[lM.out.1.aF.neq];exact lM.out.2.2.1) lM.out.2.2.2).mono ?_;rintro e aY⟨a3,gF,da,cq,rfl,ft,pc,ac6,jV⟩;have fT:=I (bB.out.ext jV);have xr:=I ((bB.out.ext jV).ac1 ⟨a3,gF,da⟩);have RT:=I ((eM.out.ext jV).jD (p:=(w,7)) (Nat.succ_ne_self _) (aq a3 gF da));have WU:=I (Z.setCell (p:=(w,7)) (nv.out.trans jV) (bA _) (aq a3 gF da));have fM:=eM.out.lt;have cz:=I (ft.jD (p:=(w,7)) (M9 fM) (aq a3 gF da));have dW:=I (λy hy=>(pc y hy).jD (p:=(w,7)) (M9 fM) (aq a3 gF da));change Hid _ at ac6;clear ft pc jV d7;have d7:=fT.out.cells.2.2.2.2.2.2.2;have ac5:=fT.out.free 7;have d6:=xr.out.cells.2.2.2.2.2.2.1;dsimp only at d7 d6;go_wp2_with fail;refine(acK _ _ _ d.ts _ (bb.out.f.ext WU.out) (by rw[bb.out.f.neq];exact eh ef.out af)).mono ?_;rintro e _⟨a5,jc,dw,rfl,hj,iv⟩;have Na:=I (WU.out.trans iv);have fS:(w:Nat)+1<(aY.setCell (w,7) (aq a3 gF da)).heap.size:=RT.out.lt;have ao9:=I (cz.out.ext iv);have apa:=I (λy hy=>(dW.out y hy).ext iv);obtain⟨cT,c1,c2,ac7,dJ,WV,eC,eK⟩:=(xr.out.ext iv).cells;have WW:=(xr.out.ext iv).free;obtain⟨gh,dr,eF,fN,hx,kx,nO,tM⟩:=(RT.out.ext iv).cells;have fr:=(RT.out.ext iv).free;dsimp only[WT]at cT c1 c2 ac7 dJ WV eC eK gh dr eF fN hx kx nO tM;change Hid _ at hj;clear iv bB eM fT xr RT d7 ac5 d6 WU cz dW;go_wp2_with fail;refine bodyPost_ret (v:=.agg #[x.k,x.id.b,ad x.id.l,ad x.id.s,x.c,ad x.u,aq a5 jc dw,aq a3 gF da]) (by simp[results,results226,go_sem,cT,c1,c2,ac7,dJ,WV,eC,eK,gh,dr,eF,fN,hx,kx,nO,tM]) rfl ⟨⟨x.k,x.id,x.c,x.u,⟨a5,jc,dw⟩,⟨a3,gF,da⟩⟩,rfl,⟨bb.out.k.trans ?_,bb.out.id.trans ?_,bb.out.c.trans ?_,bb.out.u.trans ?_,?_,cq,?_,?_,?_⟩,?_⟩
  ·unfold jU;split<;>rfl
  ·unfold jU;split<;>rfl
  ·unfold jU;split<;>rfl
  ·unfold jU;split<;>rfl
  ·rw[show(jU (xs.map ck.d) cl d).ts=d.ts from by unfold jU;split<;>rfl];refine Own.mono (base:=(aY.setCell (w,7) (aq a3 gF da)).heap.size) ?_ J;repeat (first|with_reducible exact hj.out|refine Own.jD ?_ (by first|exact fS|exact M9 fS) _)
  ·exact ac6.out.trans lM.out.2.1
  ·refine Own.mono (base:=(wE:Nat)) ?_ J;repeat (first|with_reducible exact ao9.out|refine Own.jD ?_ (by first|exact fM|exact M9 fM) _)
  ·intro y hy;refine Own.mono (base:=(wE:Nat)) ?_ J;repeat (first|with_reducible exact apa.out y hy|refine Own.jD ?_ (by first|exact fM|exact M9 fM) _)
  ·repeat (first|with_reducible exact Na.out|refine Z.setCell ?_ (by first|exact bA _|exact oN _) _)
def pd(h:r9 w b o x.cs):
  w.cell? (b,o)=some ↑x.k/\w.cell? (b,o+1)=some ↑x.id.b/\w.cell? (b,o+2)=some ↑(ad x.id.l)/\w.cell? (b,o+3)=some ↑(ad x.id.s)/\
  w.cell? (b,o+4)=some ↑x.c/\w.cell? (b,o+5)=some ↑(ad x.u)/\w.cell? (b,o+6)=some ↑x.f/\w.cell? (b,o+7)=some ↑x.e:=
 ⟨h 0 _ rfl,h 1 _ rfl,h 2 _ rfl,h 3 _ rfl,h 4 _ rfl,h 5 _ rfl,h 6 _ rfl,h 7 _ rfl⟩
def FO{x:aA}(h:r9 w b o x.cs):
  w.cell? (b,o)=some ↑x.b/\w.cell? (b,o+1)=some ↑(ad x.l)/\w.cell? (b,o+2)=some ↑(ad x.s):=
 ⟨h 0 _ rfl,h 1 _ rfl,h 2 _ rfl⟩
def apb(a:bk)(n cap:Nat)(xs:List b1)(i:aA)(w:aC)(av:a1 w 8 b1.cs a n cap xs):
  aR 48 #[aq a n cap,i] w (cM (.bool (xs.any (λx:b1=>cf x.id i))) w):=by
 obtain rfl:=av.neq;refine wB ?_;intro hm aT;change Hid _ at av;go_enter func48,ntmps48;go_wp2_with fail;go_loopg [5,8] (xs.length) (λg _ st wr=>∃k:Nat,g+k=xs.length/\st=.int .i64 k/\Hid ((xs.take k).any (λx:b1=>cf x.id i)=false)/\Hid (Z (w.alloc i) wr));case atStart=>exact⟨0,J,rfl,rfl,Z.refl _⟩
 case round=>
  obtain⟨k,_,rfl,eO,U⟩:=hrel;refine WX ?_;intro ca i1 ht;by_cases hk:k<xs.length
  ·obtain⟨b,o,rfl,ao⟩:=av.get k hk;have ch:Z w wr:=Z.trans X U;obtain⟨_,_,_,_,_,_,_,_⟩:=pd (w:=wr) (b:=b) (o:=o+k*8) (x:=xs[k]) (λj v aJ=>ch.ah (ao j v aJ));clear ao ch;refine kt ?_;intro b0 bd;have heq:=Dy xs[k].id.b xs[k].id.l xs[k].id.s i.b i.l i.s;cases he:cf xs[k].id i with
   |true=>
    have iP:=I he;have Nb:cf ⟨xs[k].id.b,xs[k].id.l,xs[k].id.s⟩ ⟨i.b,i.l,i.s⟩=true:=he;clear he;go_wp2_with fail;go_quiet (fail);go_wp2;go_ret;refine⟨iW (Wo (p:=(λx:b1=>cf x.id i)) hk iP),?_⟩;exact X
   |false=>
    have iP:=I he;have Nb:cf ⟨xs[k].id.b,xs[k].id.l,xs[k].id.s⟩ ⟨i.b,i.l,i.s⟩=false:=he;clear he;go_wp2_with fail;go_quiet (fail);go_wp2;go_roundg (gk - 1);case measure=>omega
    case rel=>exact⟨k+1,J,by go_num,Dm (p:=(λx:b1=>cf x.id i)) hk eO iP,X⟩
  ·go_wp2;go_ret;refine⟨iW (JR (p:=(λx:b1=>cf x.id i)) eO hk),?_⟩;exact X
def apc(a:bk)(n cap:Nat)(xs:List aA)(i:aA)(w:aC)(av:a1 w 3 aA.cs a n cap xs):
  aR 260 #[aq a n cap,i] w (cM (.int .i64 (qz (λx:aA=>cf x i) xs)) w):=by
 obtain rfl:=av.neq;refine wB ?_;intro hm aT;change Hid _ at av;go_enter func260,ntmps260;go_wp2_with fail;go_loopg [5,8] (xs.length) (λg _ st wr=>∃k:Nat,g+k=xs.length/\st=.int .i64 k/\Hid ((xs.take k).any (λx:aA=>cf x i)=false)/\Hid (Z (w.alloc i) wr));case atStart=>exact⟨0,J,rfl,rfl,Z.refl _⟩
 case round=>
  obtain⟨k,_,rfl,eO,U⟩:=hrel;refine WX ?_;intro ca i1 ht;by_cases hk:k<xs.length
  ·obtain⟨b,o,rfl,ao⟩:=av.get k hk;have ch:Z w wr:=Z.trans X U;obtain⟨_,_,_⟩:=FO (w:=wr) (b:=b) (o:=o+k*3) (x:=xs[k]) (λj v aJ=>ch.ah (ao j v aJ));clear ao ch;refine kt ?_;intro b0 bd;have heq:=aor i.b i.l i.s xs[k].b xs[k].l xs[k].s;cases he:cf xs[k] i with
   |true=>
    have iP:=I he;have Nb:cf ⟨xs[k].b,xs[k].l,xs[k].s⟩ ⟨i.b,i.l,i.s⟩=true:=he;clear he;go_wp2_with fail;go_quiet (fail);go_wp2;go_ret;refine⟨jC (MJ (p:=(λx:aA=>cf x i)) hk eO iP),?_⟩;exact X
   |false=>
    have iP:=I he;have Nb:cf ⟨xs[k].b,xs[k].l,xs[k].s⟩ ⟨i.b,i.l,i.s⟩=false:=he;clear he;go_wp2_with fail;go_quiet (fail);go_wp2;go_roundg (gk - 1);case measure=>omega
    case rel=>exact⟨k+1,J,by go_num,Dm (p:=(λx:aA=>cf x i)) hk eO iP,X⟩
  ·go_wp2;go_ret;refine⟨jC (JT (JR (p:=(λx:aA=>cf x i)) eO hk)),?_⟩;exact X
structure lZ where
 cO:Int
 l:iY
 p:iY
 b:iY
instance:Coe lZ Value:=⟨λx=>.agg #[.int .u64 x.cO,.slice x.l.a x.l.n x.l.c,.slice x.p.a x.p.n x.p.c,.slice x.b.a x.b.n x.b.c]⟩
instance:Coe lZ Obj:=⟨λx=>.cells #[.int .u64 x.cO,.slice x.l.a x.l.n x.l.c,.slice x.p.a x.p.n x.p.c,.slice x.b.a x.b.n x.b.c] 44⟩
def tN(a:bk)(n cap:Nat)(xs:List aA)(i:aA)(w:aC)(av:a1 w 3 aA.cs a n cap xs):
  aR 201 #[aq a n cap,i] w (cM (.bool (xs.any (λx:aA=>cf x i))) w):=by
 change Hid _ at av;go_enter func201,ntmps201;go_wp2_with (go_at_call 260;refine(apc _ _ _ xs i _ (av.ext ((Z.refl _).alloc _))).mono ?_;rintro e w'⟨rfl,U⟩;change Hid _ at U);exact RU
def ou(s:lZ)(xs:List b1)(i:aA)(w:aC)(av:a1 w 8 b1.cs s.l.a s.l.n s.l.c xs):
  aR 17 #[s,i] w (cM (.bool (xs.any (λx:b1=>cf x.id i))) w):=by
 change Hid _ at av;go_enter func17,ntmps17;exact ac8
def vB(s:lZ)(xs:List b1)(i:aA)(w:aC)(av:a1 w 8 b1.cs s.p.a s.p.n s.p.c xs):
  aR 141 #[s,i] w (cM (.bool (xs.any (λx:b1=>cf x.id i))) w):=by
 change Hid _ at av;go_enter func141,ntmps141;exact ac8
def yI(s:lZ)(xs:List aA)(i:aA)(w:aC)(av:a1 w 3 aA.cs s.b.a s.b.n s.b.c xs):
  aR 137 #[s,i] w (cM (.bool (xs.any (λx:aA=>cf x i))) w):=by
 change Hid _ at av;go_enter func137,ntmps137;go_wp2_with (go_at_call 201;refine(tN _ _ _ xs i _ (av.ext (((Z.refl _).alloc _).alloc _))).mono ?_;rintro e w'⟨rfl,U⟩;change Hid _ at U);go_ret;refine⟨rfl,?_⟩;exact X
def ac9(a:bk)(n cap:Nat)(xs:List b1)(p:b1->Bool)(fn:Nat)(aQ:Addr)(w:aC)(av:a1 w 8 b1.cs a n cap xs)(bc:∀args w,(callFunc fn args).run prog w=.ok (.enter fn args) w)(cy:∀x,x∈xs->∀w',Z w w'->aR fn #[.agg #[x.k,x.id.b,ad x.id.l,ad x.id.s,x.c,ad x.u,x.f,x.e],.pointer (some aQ)] w' λe fj=>e=.returned (.bool (p x))/\Z w' fj):
  aR 261 #[aq a n cap,.func (.func fn) #[] #[.pointer (some aQ)]] w (cM (.int .i64 (qz p xs)) w):=by
 obtain rfl:=av.neq;refine wB ?_;intro hm aT;change Hid _ at av cy;go_enter func261,ntmps261;go_wp2_with fail;go_loopg [5,8] (xs.length) (λg _ st wr=>∃k:Nat,g+k=xs.length/\st=.int .i64 k/\Hid ((xs.take k).any p=false)/\Hid (Z (w) wr));case atStart=>exact⟨0,J,rfl,rfl,Z.refl _⟩
 case round=>
  obtain⟨k,_,rfl,eO,U⟩:=hrel;by_cases hk:k<xs.length
  ·obtain⟨b,o,rfl,ao⟩:=av.get k hk;have ch:Z w wr:=Z.trans X U;obtain⟨_,_,_,_,_,_,_,_⟩:=pd (w:=wr) (b:=b) (o:=o+k*8) (x:=xs[k]) (λj v aJ=>ch.ah (ao j v aJ));clear ao ch;exact MV
  exact MW
def RV(a:bk)(n cap:Nat)(xs:List b1)(p:b1->Bool)(fn:Nat)(aQ:Addr)(w:aC)(av:a1 w 8 b1.cs a n cap xs)(ef:∀args w,(callFunc fn args).run prog w=.ok (.enter fn args) w)(cy:∀x,x∈xs->∀w',Z w w'->aR fn #[.agg #[x.k,x.id.b,ad x.id.l,ad x.id.s,x.c,ad x.u,x.f,x.e],.pointer (some aQ)] w' λe fj=>e=.returned (.bool (p x))/\Z w' fj):
  aR 208 #[aq a n cap,.func (.func fn) #[] #[.pointer (some aQ)]] w (cM (.bool (xs.any p)) w):=by
 change Hid _ at av cy ef;go_enter func208,ntmps208;go_wp2_with (go_at_call 261;refine(ac9 _ _ _ xs p fn aQ _ av ef cy).mono ?_;rintro e w'⟨rfl,U⟩;change Hid _ at U);exact RU
def apd(x:b1)(i:aA)(aQ:Nat)(w:aC)(aW:w.cell? (aQ,0)=some ↑i.b)(ae:w.cell? (aQ,1)=some ↑(ad i.l))(ak:w.cell? (aQ,2)=some ↑(ad i.s)):
  aR 309 #[x,aQ] w (cM (.bool (cf x.id i)) w):=by
 have heq:=Dy x.id.b x.id.l x.id.s i.b i.l i.s;refine RW ?_;intro eI bQ bY;go_enter func309,ntmps309;go_wp2;go_ret;refine⟨rfl,?_⟩;exact X
def B9(a:bk)(n cap:Nat)(xs:List b1)(i:aA)(w:aC)(av:a1 w 8 b1.cs a n cap xs):
  aR 286 #[aq a n cap,i] w (cM (.bool (xs.any (λx:b1=>cf x.id i))) w):=by
 change Hid _ at av;go_enter func286,ntmps286;go_wp2_with (go_at_call 208;refine(RV _ _ _ xs (λx:b1=>cf x.id i) _ _ _ (av.ext ((Z.refl _).alloc _)) (λ_ _=>by kernel_rfl) (λx _ w' hw=>apd x i _ w' (hw.ah (by simp)) (hw.ah (by simp)) (hw.ah (by simp)))).mono ?_;rintro e w'⟨rfl,U⟩;change Hid _ at U);go_ret;refine⟨rfl,?_⟩;exact X
def ape(x:b1)(i:aA)(aQ:Nat)(w:aC)(aW:w.cell? (aQ,0)=some ↑i.b)(ae:w.cell? (aQ,1)=some ↑(ad i.l))(ak:w.cell? (aQ,2)=some ↑(ad i.s)):
  aR 299 #[x,aQ] w (cM (.bool (cf x.id i)) w):=by
 have heq:=Dy x.id.b x.id.l x.id.s i.b i.l i.s;refine RW ?_;intro eI bQ bY;go_enter func299,ntmps299;go_wp2;go_ret;refine⟨rfl,?_⟩;exact X
def WY(a:bk)(n cap:Nat)(xs:List b1)(i:aA)(w:aC)(av:a1 w 8 b1.cs a n cap xs):
  aR 263 #[aq a n cap,i] w (cM (.bool (xs.any (λx:b1=>cf x.id i))) w):=by
 change Hid _ at av;go_enter func263,ntmps263;go_wp2_with (go_at_call 208;refine(RV _ _ _ xs (λx:b1=>cf x.id i) _ _ _ (av.ext ((Z.refl _).alloc _)) (λ_ _=>by kernel_rfl) (λx _ w' hw=>ape x i _ w' (hw.ah (by simp)) (hw.ah (by simp)) (hw.ah (by simp)))).mono ?_;rintro e w'⟨rfl,U⟩;change Hid _ at U);go_ret;refine⟨rfl,?_⟩;exact X
structure V where
 id:aA
 kO:Bool
def V.cs(v:V):List Value:= [.int .i64 v.id.b,.int .u64 v.id.l,.int .u64 v.id.s,.bool v.kO]
def Nc{x:V}(h:r9 w b o x.cs):
  w.cell? (b,o)=some ↑x.id.b/\w.cell? (b,o+1)=some ↑(ad x.id.l)/\w.cell? (b,o+2)=some ↑(ad x.id.s)/\w.cell? (b,o+3)=some ↑x.kO:=
 ⟨h 0 _ rfl,h 1 _ rfl,h 2 _ rfl,h 3 _ rfl⟩
structure ky where
 k:Int
 h:Int
 v:iY
 q:iY
 e:iY
 p:iY
 b:iY
 d:iY
instance:Coe ky Value:=⟨λx=>.agg #[.int .i64 x.k,.int .u64 x.h,.slice x.v.a x.v.n x.v.c,.slice x.q.a x.q.n x.q.c,.slice x.e.a x.e.n x.e.c,.slice x.p.a x.p.n x.p.c,.slice x.b.a x.b.n x.b.c,.slice x.d.a x.d.n x.d.c]⟩
instance:Coe ky Obj:=⟨λx=>.cells #[.int .i64 x.k,.int .u64 x.h,.slice x.v.a x.v.n x.v.c,.slice x.q.a x.q.n x.q.c,.slice x.e.a x.e.n x.e.c,.slice x.p.a x.p.n x.p.c,.slice x.b.a x.b.n x.b.c,.slice x.d.a x.d.n x.d.c] 232⟩
def ky.cs(x:ky):List Value:= [.int .i64 x.k,.int .u64 x.h,.slice x.v.a x.v.n x.v.c,.slice x.q.a x.q.n x.q.c,.slice x.e.a x.e.n x.e.c,.slice x.p.a x.p.n x.p.c,.slice x.b.a x.b.n x.b.c,.slice x.d.a x.d.n x.d.c]
def apf{x:ky}(h:r9 w b o x.cs):
  w.cell? (b,o)=some ↑x.k/\w.cell? (b,o+1)=some ↑(ad x.h)/\w.cell? (b,o+2)=some ↑x.v/\w.cell? (b,o+3)=some ↑x.q/\
  w.cell? (b,o+4)=some ↑x.e/\w.cell? (b,o+5)=some ↑x.p/\w.cell? (b,o+6)=some ↑x.b/\w.cell? (b,o+7)=some ↑x.d:=
 ⟨h 0 _ rfl,h 1 _ rfl,h 2 _ rfl,h 3 _ rfl,h 4 _ rfl,h 5 _ rfl,h 6 _ rfl,h 7 _ rfl⟩
def vC(v u:V):Bool:=cf v.id u.id&&(v.kO==u.kO)
def apg(v u:V):vC v u=vC u v:=by
 unfold vC;rw[acD];cases v.kO<;>cases u.kO<;>rfl
def aph(b l s:Int)(y:Bool)(b' l' s':Int)(rD:Bool)(w:aC):
  (binOp .eql 294 (.agg #[b,ad l,ad s,y]) (.agg #[b',ad l',ad s',rD])).run prog w=.ok (.bool (vC ⟨⟨b',l',s'⟩,rD⟩ ⟨⟨b,l,s⟩,y⟩)) w:=by
 rw[apg];unfold vC cf;by_cases ae:b=b'<;>by_cases ak:l=l'<;>by_cases aM:s=s'<;>cases y<;>cases rD<;>simp[ae,ak,aM,go_sem]
def api(a:bk)(n cap:Nat)(xs:List V)(v:V)(w:aC)(av:a1 w 4 V.cs a n cap xs):
  aR 300 #[aq a n cap,.agg #[v.id.b,ad v.id.l,ad v.id.s,v.kO]] w (cM (.int .i64 (qz (λx:V=>vC x v) xs)) w):=by
 obtain rfl:=av.neq;refine wB ?_;intro hm aT;change Hid _ at av;go_enter func300,ntmps300;go_wp2_with fail;go_loopg [5,8] (xs.length) (λg _ st wr=>∃k:Nat,g+k=xs.length/\st=.int .i64 k/\Hid ((xs.take k).any (λx:V=>vC x v)=false)/\Hid (Z (w.alloc (.cells #[v.id.b,ad v.id.l,ad v.id.s,v.kO] 294)) wr));case atStart=>exact⟨0,J,rfl,rfl,Z.refl _⟩
 case round=>
  obtain⟨k,_,rfl,eO,U⟩:=hrel;have ca:wr.cell? (w,0)=some ↑v.id.b:=U.ah (by simp);have i1:wr.cell? (w,1)=some ↑(ad v.id.l):=U.ah (by simp);have ht:wr.cell? (w,2)=some ↑(ad v.id.s):=U.ah (by simp);have wA:wr.cell? (w,3)=some ↑v.kO:=U.ah (by simp);by_cases hk:k<xs.length
  ·obtain⟨b,o,rfl,ao⟩:=av.get k hk;have ch:Z w wr:=Z.trans X U;obtain⟨_,_,_,_⟩:=Nc (w:=wr) (b:=b) (o:=o+k*4) (x:=xs[k]) (λj v aJ=>ch.ah (ao j v aJ));clear ao ch;refine kt ?_;intro b0 bd;have heq:=aph v.id.b v.id.l v.id.s v.kO xs[k].id.b xs[k].id.l xs[k].id.s xs[k].kO;cases he:vC xs[k] v with
   |true=>
    have iP:=I he;have Nb:vC ⟨⟨xs[k].id.b,xs[k].id.l,xs[k].id.s⟩,xs[k].kO⟩ ⟨⟨v.id.b,v.id.l,v.id.s⟩,v.kO⟩=true:=he;clear he;go_wp2_with fail;go_quiet (fail);go_wp2;go_ret;refine⟨jC (MJ (p:=(λx:V=>vC x v)) hk eO iP),?_⟩;exact X
   |false=>
    have iP:=I he;have Nb:vC ⟨⟨xs[k].id.b,xs[k].id.l,xs[k].id.s⟩,xs[k].kO⟩ ⟨⟨v.id.b,v.id.l,v.id.s⟩,v.kO⟩=false:=he;clear he;go_wp2_with fail;go_quiet (fail);go_wp2;go_roundg (gk - 1);case measure=>omega
    case rel=>exact⟨k+1,J,by go_num,Dm (p:=(λx:V=>vC x v)) hk eO iP,X⟩
  ·go_wp2;go_ret;refine⟨jC (JT (JR (p:=(λx:V=>vC x v)) eO hk)),?_⟩;exact X
def apj(a:bk)(n cap:Nat)(xs:List V)(v:V)(w:aC)(av:a1 w 4 V.cs a n cap xs):
  aR 275 #[aq a n cap,.agg #[v.id.b,ad v.id.l,ad v.id.s,v.kO]] w (cM (.bool (xs.any (λx:V=>vC x v))) w):=by
 change Hid _ at av;go_enter func275,ntmps275;go_wp2_with (go_at_call 300;refine(api _ _ _ xs v _ (av.ext ((Z.refl _).alloc _))).mono ?_;rintro e w'⟨rfl,U⟩;change Hid _ at U);exact RU
def apk(a:bk)(n cap:Nat)(xs:List V)(p:V->Bool)(fn:Nat)(aQ:Addr)(w:aC)(av:a1 w 4 V.cs a n cap xs)(bc:∀args w,(callFunc fn args).run prog w=.ok (.enter fn args) w)(cy:∀x,x∈xs->∀w',Z w w'->aR fn #[.agg #[x.id.b,ad x.id.l,ad x.id.s,x.kO],.pointer (some aQ)] w' λe fj=>e=.returned (.bool (p x))/\Z w' fj):
  aR 276 #[aq a n cap,.func (.func fn) #[] #[.pointer (some aQ)]] w (cM (.int .i64 (qz p xs)) w):=by
 obtain rfl:=av.neq;refine wB ?_;intro hm aT;change Hid _ at av cy;go_enter func276,ntmps276;go_wp2_with fail;go_loopg [5,8] (xs.length) (λg _ st wr=>∃k:Nat,g+k=xs.length/\st=.int .i64 k/\Hid ((xs.take k).any p=false)/\Hid (Z (w) wr));case atStart=>exact⟨0,J,rfl,rfl,Z.refl _⟩
 case round=>
  obtain⟨k,_,rfl,eO,U⟩:=hrel;by_cases hk:k<xs.length
  ·obtain⟨b,o,rfl,ao⟩:=av.get k hk;have ch:Z w wr:=Z.trans X U;obtain⟨_,_,_,_⟩:=Nc (w:=wr) (b:=b) (o:=o+k*4) (x:=xs[k]) (λj v aJ=>ch.ah (ao j v aJ));exact MV
  exact MW
def ada(a:bk)(n cap:Nat)(xs:List V)(p:V->Bool)(fn:Nat)(aQ:Addr)(w:aC)(av:a1 w 4 V.cs a n cap xs)(ef:∀args w,(callFunc fn args).run prog w=.ok (.enter fn args) w)(cy:∀x,x∈xs->∀w',Z w w'->aR fn #[.agg #[x.id.b,ad x.id.l,ad x.id.s,x.kO],.pointer (some aQ)] w' λe fj=>e=.returned (.bool (p x))/\Z w' fj):
  aR 218 #[aq a n cap,.func (.func fn) #[] #[.pointer (some aQ)]] w (cM (.bool (xs.any p)) w):=by
 change Hid _ at av cy ef;go_enter func218,ntmps218;go_wp2_with (go_at_call 276;refine(apk _ _ _ xs p fn aQ _ av ef cy).mono ?_;rintro e w'⟨rfl,U⟩;change Hid _ at U);exact RU
def adb(x:V)(i:aA)(aQ:Nat)(w:aC)(aW:w.cell? (aQ,0)=some ↑i.b)(ae:w.cell? (aQ,1)=some ↑(ad i.l))(ak:w.cell? (aQ,2)=some ↑(ad i.s)):
  aR 219 #[.agg #[x.id.b,ad x.id.l,ad x.id.s,x.kO],aQ] w (cM (.bool (cf x.id i)) w):=by
 have heq:=Dy x.id.b x.id.l x.id.s i.b i.l i.s;have eI:=((Z.refl w).alloc (.cells #[x.id.b,ad x.id.l,ad x.id.s,x.kO] 294)).ah aW;have bQ:=((Z.refl w).alloc (.cells #[x.id.b,ad x.id.l,ad x.id.s,x.kO] 294)).ah ae;have bY:=((Z.refl w).alloc (.cells #[x.id.b,ad x.id.l,ad x.id.s,x.kO] 294)).ah ak;go_enter func219,ntmps219;go_wp2;go_ret;refine⟨rfl,?_⟩;exact X
def q5(vs:List V)(i:aA)(y:Bool):Bool:=vs.any λx=>vC x ⟨i,y⟩
def WZ(x:ky)(vs:List V)(y:Bool)(i:aA)(aQ:Nat)(w:aC)(av:a1 w 4 V.cs x.v.a x.v.n x.v.c vs)(aW:w.cell? (aQ,0)=some ↑i.b)(ae:w.cell? (aQ,1)=some ↑(ad i.l))(ak:w.cell? (aQ,2)=some ↑(ad i.s)):
  aR 274 #[x,y,aQ] w (cM (.bool (q5 vs i y)) w):=by
 refine RW ?_;intro eI bQ bY;change Hid _ at av;go_enter func274,ntmps274;go_wp2_with (go_at_call 275;refine(apj _ _ _ vs ⟨i,y⟩ _ (av.ext ((Z.refl _).alloc _))).mono ?_;rintro e w'⟨rfl,U⟩;change Hid _ at U);go_ret;refine⟨rfl,?_⟩;exact X
structure sf where
 m:ky
 vs:List V
def sf.cs(x:sf):List Value:=x.m.cs
def p5(cc:List sf)(i:aA):Int:=if (cc.any λm=>q5 m.vs i false)=true then 2 else if (cc.all λm=>q5 m.vs i true)=true then 1 else 0
def apl{cc:List sf}(hk:k<cc.length)(h:q5 cc[k].vs i false=true):2=p5 cc i:=by
 unfold p5;rw[if_pos (Wo (p:=λm:sf=>q5 m.vs i false) hk h).symm]
def J9(l:List sf)(i:aA):Int:=if (l.all λm=>q5 m.vs i true)=true then 1 else 0
def apm{cc:List sf}(hk:k<cc.length):J9 (cc.take (k+1)) i=if q5 cc[k].vs i true=true then J9 (cc.take k) i else 0:=by
 unfold J9;rw[List.take_succ_eq_append_getElem hk,List.all_append];cases h:q5 cc[k].vs i true<;>simp[h]
def apn{cc:List sf}(h:(cc.take k).any (λm=>q5 m.vs i false)=false)(hk:¬k<cc.length):J9 (cc.take k) i=p5 cc i:=by
 rw[ir J]at h ⊢;unfold p5 J9;rw[h];rfl
structure Kids (w:World) (a:Option Addr) (n cap:Nat) (cc:List sf):Prop where
 aF:a1 w 8 sf.cs a n cap cc
 ade:∀m,m∈cc->a1 w 4 V.cs m.m.v.a m.m.v.n m.m.v.c m.vs
def Kids.ext{cap:Nat}{cc:List sf}(h:Kids w a n cap cc)(U:Z w w'):Kids w' a n cap cc:=
 ⟨h.aF.ext U,λm hm=>(h.ade m hm).ext U⟩
def HE(a:bk)(n cap:Nat)(xs:List sf)(i:aA)(w:aC)(av:Kids w a n cap xs):
  aR 217 #[aq a n cap,i] w (cM (.int .i64 (p5 xs i)) w):=by
 obtain rfl:=av.aF.neq;have hm:=av.aF.max;have aT:=av.aF.len;unfold maxLen at hm;change Hid _ at av;go_enter func217,ntmps217;refine J1 ?_;intro _ _;go_loopg [6,12] (xs.length) (λg apo st wr=>∃k:Nat,g+k=xs.length/\st=.int .i64 k/\apo=.int .i64 (J9 (xs.take k) i)/\Hid ((xs.take k).any (λm:sf=>q5 m.vs i false)=false)/\Hid (Z (w.alloc i) wr));case atStart=>exact⟨0,J,rfl,rfl,rfl,Z.refl _⟩
 case round=>
  obtain⟨k,_,rfl,rfl,eO,U⟩:=hrel;by_cases hk:k<xs.length
  ·obtain⟨b,o,rfl,ao⟩:=av.aF.get k hk;have ch:Z w wr:=Z.trans X U;obtain⟨_,_,_,_,_,_,_,_⟩:=apf (w:=wr) (b:=b) (o:=o+k*8) (x:=xs[k].m) (λj v aJ=>ch.ah (ao j v aJ));refine WX ?_;intro ca i1 ht;have bf:(w:Nat)<(wr:Nat):=by have:=U.size;simp at this;omega
   have bN:=I ((av.ade xs[k] (c7 hk)).ext ch);have lp:=I (apm (i:=i) hk);clear ao ch;refine kt ?_;intro b0 bd;cases an:q5 xs[k].vs i false with
   |true=>
    have adf:=I an;clear an;go_wp2_with (go_at_call 274;go_must (refine(WZ xs[k].m xs[k].vs false i (w:Nat) _ (bN.ext X) (Z.ah (W:=wr) X ca) (Z.ah (W:=wr) X i1) (Z.ah (W:=wr) X ht)).mono ?_);rintro e w'⟨rfl,hy⟩;change Hid _ at hy;rw[adf.out]);rw[nJ];go_wp2;go_ret;refine⟨jC (apl hk adf),?_⟩;exact X
   |false=>
    change Hid _ at an;cases hy:q5 xs[k].vs i true with
    |true=>
     have Nd:=I hy;clear hy;refine adg ?_;intro _ _ w' bq hy _ _ _ _;rintro e w'⟨rfl,hy⟩;change Hid _ at hy;rw[Nd.out];go_wp2;go_roundg (gk - 1);case measure=>omega
     case rel=>exact⟨k+1,J,by go_num,by rw[lp.out,bm Nd.out],Dm (p:=λm:sf=>q5 m.vs i false) hk eO an,X⟩
    |false=>
     have Nd:=I hy;clear hy;refine adg ?_;intro _ _ w' bq hy _ _ _ _;rintro e w'⟨rfl,hy⟩;change Hid _ at hy;rw[Nd.out];go_wp2;go_roundg (gk - 1);case measure=>omega
     case rel=>exact⟨k+1,J,by go_num,by rw[lp.out,bj (by rw[Nd.out];simp)],Dm (p:=λm:sf=>q5 m.vs i false) hk eO an,X⟩
  ·go_wp2;rw[nJ];go_wp2;go_ret;refine⟨jC (apn eO hk),?_⟩;exact X
section
attribute [local go_sem ↓] Go.wp_at_zero Go.wp_at_succ
end
def zE:(prog.info? 54).map (λi=>(i.zero,i.size,i.bytes))=some (some (.agg #[ar,au,au]),3,24):=bV
def aA.bH(i:aA):i.cs.length=3:=rfl
def aA.cN(i:aA):∀u∈i.cs,u.oneCell'=true:=by
 intro u al;simp only[aA.cs,nK,sW,tJ]at al;rcases al with rfl|rfl|rfl<;>rfl
def tO(dj:aA->Bool)(out:List aA)(v:V):List aA:=
 if 16<=out.length then out else if (out.any (λx=>cf x v.id)||dj v.id)=true then out else out++[v.id]
def p6(dj:aA->Bool)(vs:List V):List aA:=vs.foldl (tO dj) []
def apq{vs:List V}(hk:k<vs.length):p6 dj (vs.take (k+1))=tO dj (p6 dj (vs.take k)) vs[k]:=by
 unfold p6;exact Ca
def adh(dj:aA->Bool):∀(l:List V) (out:List aA),16<=out.length->l.foldl (tO dj) out=out
 | [],_,_=>rfl
 |v::l,out,h=>by rw[List.foldl_cons,show tO dj out v=out from by unfold tO;rw[if_pos h]];exact adh dj l out h
def apr{vs:List V}(h:16<=(p6 dj (vs.take k)).length):p6 dj (vs.take k)=p6 dj vs:=by
 have:p6 dj vs=(vs.drop k).foldl (tO dj) (p6 dj (vs.take k)):=by
  unfold p6;rw[<-List.foldl_append,List.take_append_drop]
 rw[this,adh dj _ _ h]
def RX{out:List aA}{v:V}(h:(out.any (λx=>cf x v.id)||dj v.id)=true):tO dj out v=out:=by
 unfold tO;by_cases aT:16<=out.length
 ·rw[bm aT]
 ·rw[bj aT,bm h]
def aps{out:List aA}{v:V}(aT:¬16<=out.length)(h:(out.any (λx=>cf x v.id)||dj v.id)=false):tO dj out v=out++[v.id]:=by
 unfold tO;rw[if_neg aT,if_neg (by rw[h];simp)]
def xt(ag ps os:List b1)(i:aA):Bool:=ag.any (λx=>cf x.id i)||ps.any (λx=>cf x.id i)||os.any (λx=>cf x.id i)
def Nf(ag ps os:List b1)(i:aA):xt ag ps os i=(ag.any (λx=>cf x.id i)||ps.any (λx=>cf x.id i)||os.any (λx=>cf x.id i)):=rfl
def apt(s:lZ)(ag ps os:List b1)(fF:bk)(on fZ:Nat)(x:ky)(vs:List V)(w:aC)(bL:a1 w 8 b1.cs s.l.a s.l.n s.l.c ag)(cy:a1 w 8 b1.cs s.p.a s.p.n s.p.c ps)(ba:a1 w 8 b1.cs fF on fZ os)(bN:a1 w 4 V.cs x.v.a x.v.n x.v.c vs):
  aR 229 #[s,aq fF on fZ,x] w (Dq 3 aA.cs (p6 (xt ag ps os) vs) w):=by
 obtain⟨ca,bJ,bF,bG,bK⟩:=info_parts zE;obtain⟨hL,rE,⟨a,n,cap⟩,l0,mr,sg,sh,si⟩:=x;obtain rfl:=bN.neq;have hm:=bN.max;have aT:=bN.len;dsimp only at hm aT bN ⊢;unfold maxLen at hm;change Hid _ at bL cy ba bN bJ bF bG bK;go_enter func229,ntmps229;refine J1 ?_;intro _ _;go_loopg [7,13] (vs.length) (λg e1 st wr=>∃(k:Nat) (aw:bk) (m aQ:Nat),g+k=vs.length/\st=.int .i64 k/\e1=.slice aw m aQ/\Hid (Own wr ((w.alloc s).alloc (.cells #[hL,ad rE,aq a vs.length cap,l0,mr,sg,sh,si] 232)).heap.size 54 3 aA.cs aw m aQ (p6 (xt ag ps os) (vs.take k)))/\Hid (Z ((w.alloc s).alloc (.cells #[hL,ad rE,aq a vs.length cap,l0,mr,sg,sh,si] 232)) wr));case atStart=>exact⟨0,none,0,0,J,rfl,rfl,Own.nil _ _ _ aA.bH,Z.refl _⟩
 case round=>
  obtain⟨k,aw,m,aQ,_,rfl,rfl,aE,U⟩:=hrel;by_cases hk:k<vs.length
  ·obtain⟨b,o,rfl,ao⟩:=bN.get k hk;have ch:Z w wr:=Z.trans X U;obtain⟨_,_,_,_⟩:=Nc (w:=wr) (b:=b) (o:=o+k*4) (x:=vs[k]) (λj v aJ=>ch.ah (ao j v aJ));have lN:wr.cell? (w,0)=some ↑(ad s.cO):=U.ah (by simp);have e3:wr.cell? (w,1)=some ↑s.l:=U.ah (by simp);have ju:wr.cell? (w,2)=some ↑s.p:=U.ah (by simp);have oP:wr.cell? (w,3)=some ↑s.b:=U.ah (by simp);have gg:(w:Nat)<(wr:Nat):=by have:=U.size;simp at this;omega
   have ft:(w:Nat)<(wr:Nat)+1:=J;have lp:=I (apq (dj:=xt ag ps os) hk);have adi:=I (apr (dj:=xt ag ps os) (vs:=vs) (k:=k));have vD:=I aE.neq;clear ao ch;have b0:(0:Int)<=(k:Int):=J;have bd:(k:Int)<(vs.length:Int):=J;by_cases Ka:16<=m;exact adj
   ·skip;cases ae:(p6 (xt ag ps os) (vs.take k)).any (λx=>cf x vs[k].id)with
    |true=>
     change Hid _ at ae;go_wp2_with (first|(go_at_call 201;refine(tN _ _ _ (p6 (xt ag ps os) (vs.take k)) vs[k].id _ (aE.aF.ext X)).mono ?_;rintro e w'⟨rfl,cw⟩;have ao:=cw.cell;have gg:(w:Nat)<(w':Nat):=hz;have ft:(wr:Nat)<(w':Nat):=hz;change Hid _ at cw;rw[ae.out])|(go_at_call 17;refine(ou s ag vs[k].id _ (bL.ext (Z.trans (((Z.refl w).alloc _).alloc _) (Z.trans U X)))).mono ?_;rintro e w'⟨rfl,cw⟩;have ao:=cw.cell;have gg:(w:Nat)<(w':Nat):=hz;have ft:(wr:Nat)<(w':Nat):=hz;change Hid _ at cw;rw[dZ.out])|(go_at_call 141;refine(vB s ps vs[k].id _ (cy.ext (Z.trans (((Z.refl w).alloc _).alloc _) (Z.trans U X)))).mono ?_;rintro e w'⟨rfl,cw⟩;have ao:=cw.cell;have gg:(w:Nat)<(w':Nat):=hz;have ft:(wr:Nat)<(w':Nat):=hz;change Hid _ at cw;rw[fK.out])|(go_at_call 286;refine(B9 _ _ _ os vs[k].id _ (ba.ext (Z.trans (((Z.refl w).alloc _).alloc _) (Z.trans U X)))).mono ?_;rintro e w'⟨rfl,cw⟩;have ao:=cw.cell;have gg:(w:Nat)<(w':Nat):=hz;have ft:(wr:Nat)<(w':Nat):=hz;change Hid _ at cw;rw[gu.out]));go_roundg (gk - 1);case measure=>omega
     case rel=>exact⟨k+1,aw,m,aQ,J,by go_num,rfl,(by rw[lp.out,RX (by rw[Nf,ae.out];simp)];exact aE.ext X),X⟩
    |false=>
     change Hid _ at ae;cases ak:ag.any (λx=>cf x.id vs[k].id)with
     |true=>
      change Hid _ at ak;go_wp2_with (first|(go_at_call 201;refine(tN _ _ _ (p6 (xt ag ps os) (vs.take k)) vs[k].id _ (aE.aF.ext X)).mono ?_;rintro e w'⟨rfl,cw⟩;have ao:=cw.cell;have gg:(w:Nat)<(w':Nat):=hz;have ft:(wr:Nat)<(w':Nat):=hz;change Hid _ at cw;rw[ae.out])|(go_at_call 17;refine(ou s ag vs[k].id _ (bL.ext (Z.trans (((Z.refl w).alloc _).alloc _) (Z.trans U X)))).mono ?_;rintro e w'⟨rfl,cw⟩;have ao:=cw.cell;have gg:(w:Nat)<(w':Nat):=hz;have ft:(wr:Nat)<(w':Nat):=hz;change Hid _ at cw;rw[ak.out])|(go_at_call 141;refine(vB s ps vs[k].id _ (cy.ext (Z.trans (((Z.refl w).alloc _).alloc _) (Z.trans U X)))).mono ?_;rintro e w'⟨rfl,cw⟩;have ao:=cw.cell;have gg:(w:Nat)<(w':Nat):=hz;have ft:(wr:Nat)<(w':Nat):=hz;change Hid _ at cw;rw[fK.out])|(go_at_call 286;refine(B9 _ _ _ os vs[k].id _ (ba.ext (Z.trans (((Z.refl w).alloc _).alloc _) (Z.trans U X)))).mono ?_;rintro e w'⟨rfl,cw⟩;have ao:=cw.cell;have gg:(w:Nat)<(w':Nat):=hz;have ft:(wr:Nat)<(w':Nat):=hz;change Hid _ at cw;rw[gu.out]));go_roundg (gk - 1);case measure=>omega
      case rel=>exact⟨k+1,aw,m,aQ,J,by go_num,rfl,(by rw[lp.out,RX (by rw[Nf,ae.out,ak.out];simp)];exact aE.ext X),X⟩
     |false=>
      change Hid _ at ak;cases aM:ps.any (λx=>cf x.id vs[k].id)with
      |true=>
       change Hid _ at aM;go_wp2_with (first|(go_at_call 201;refine(tN _ _ _ (p6 (xt ag ps os) (vs.take k)) vs[k].id _ (aE.aF.ext X)).mono ?_;rintro e w'⟨rfl,cw⟩;have ao:=cw.cell;have gg:(w:Nat)<(w':Nat):=hz;have ft:(wr:Nat)<(w':Nat):=hz;change Hid _ at cw;rw[ae.out])|(go_at_call 17;refine(ou s ag vs[k].id _ (bL.ext (Z.trans (((Z.refl w).alloc _).alloc _) (Z.trans U X)))).mono ?_;rintro e w'⟨rfl,cw⟩;have ao:=cw.cell;have gg:(w:Nat)<(w':Nat):=hz;have ft:(wr:Nat)<(w':Nat):=hz;change Hid _ at cw;rw[ak.out])|(go_at_call 141;refine(vB s ps vs[k].id _ (cy.ext (Z.trans (((Z.refl w).alloc _).alloc _) (Z.trans U X)))).mono ?_;rintro e w'⟨rfl,cw⟩;have ao:=cw.cell;have gg:(w:Nat)<(w':Nat):=hz;have ft:(wr:Nat)<(w':Nat):=hz;change Hid _ at cw;rw[aM.out])|(go_at_call 286;refine(B9 _ _ _ os vs[k].id _ (ba.ext (Z.trans (((Z.refl w).alloc _).alloc _) (Z.trans U X)))).mono ?_;rintro e w'⟨rfl,cw⟩;have ao:=cw.cell;have gg:(w:Nat)<(w':Nat):=hz;have ft:(wr:Nat)<(w':Nat):=hz;change Hid _ at cw;rw[gu.out]));go_roundg (gk - 1);case measure=>omega
       case rel=>exact⟨k+1,aw,m,aQ,J,by go_num,rfl,(by rw[lp.out,RX (by rw[Nf,ae.out,ak.out,aM.out];simp)];exact aE.ext X),X⟩
      |false=>
       change Hid _ at aM;cases bn:os.any (λx=>cf x.id vs[k].id)with
       |true=>
        change Hid _ at bn;go_wp2_with (first|(go_at_call 201;refine(tN _ _ _ (p6 (xt ag ps os) (vs.take k)) vs[k].id _ (aE.aF.ext X)).mono ?_;rintro e w'⟨rfl,cw⟩;have ao:=cw.cell;have gg:(w:Nat)<(w':Nat):=hz;have ft:(wr:Nat)<(w':Nat):=hz;change Hid _ at cw;rw[ae.out])|(go_at_call 17;refine(ou s ag vs[k].id _ (bL.ext (Z.trans (((Z.refl w).alloc _).alloc _) (Z.trans U X)))).mono ?_;rintro e w'⟨rfl,cw⟩;have ao:=cw.cell;have gg:(w:Nat)<(w':Nat):=hz;have ft:(wr:Nat)<(w':Nat):=hz;change Hid _ at cw;rw[ak.out])|(go_at_call 141;refine(vB s ps vs[k].id _ (cy.ext (Z.trans (((Z.refl w).alloc _).alloc _) (Z.trans U X)))).mono ?_;rintro e w'⟨rfl,cw⟩;have ao:=cw.cell;have gg:(w:Nat)<(w':Nat):=hz;have ft:(wr:Nat)<(w':Nat):=hz;change Hid _ at cw;rw[aM.out])|(go_at_call 286;refine(B9 _ _ _ os vs[k].id _ (ba.ext (Z.trans (((Z.refl w).alloc _).alloc _) (Z.trans U X)))).mono ?_;rintro e w'⟨rfl,cw⟩;have ao:=cw.cell;have gg:(w:Nat)<(w':Nat):=hz;have ft:(wr:Nat)<(w':Nat):=hz;change Hid _ at cw;rw[bn.out]));go_roundg (gk - 1);case measure=>omega
        case rel=>exact⟨k+1,aw,m,aQ,J,by go_num,rfl,(by rw[lp.out,RX (by rw[Nf,ae.out,ak.out,aM.out,bn.out];simp)];exact aE.ext X),X⟩
       |false=>
        change Hid _ at bn;go_wp2_with (first|(at_builtin;refine hf (ys:=p6 (xt ag ps os) (vs.take k)) rfl _ _ 31 rfl ca _ 24 underlying31 bJ bF bG bK rfl af rfl (aE.ext X) vs[k].id _ rfl (fc (cs:=aA.cs vs[k].id) rfl) (aA.cN _) J af (Z.size X) ?_;intro g _ _ jt bW)|(go_at_call 201;refine(tN _ _ _ (p6 (xt ag ps os) (vs.take k)) vs[k].id _ (aE.aF.ext X)).mono ?_;rintro e w'⟨rfl,cw⟩;have ao:=cw.cell;have gg:(w:Nat)<(w':Nat):=hz;have ft:(wr:Nat)<(w':Nat):=hz;change Hid _ at cw;rw[ae.out])|(go_at_call 17;refine(ou s ag vs[k].id _ (bL.ext (Z.trans (((Z.refl w).alloc _).alloc _) (Z.trans U X)))).mono ?_;rintro e w'⟨rfl,cw⟩;have ao:=cw.cell;have ft:(wr:Nat)<(w':Nat):=hz;change Hid _ at cw;rw[ak.out])|(go_at_call 141;refine(vB s ps vs[k].id _ (cy.ext (Z.trans (((Z.refl w).alloc _).alloc _) (Z.trans U X)))).mono ?_;rintro e w'⟨rfl,cw⟩;have ao:=cw.cell;have ft:(wr:Nat)<(w':Nat):=hz;change Hid _ at cw;rw[aM.out])|(go_at_call 286;refine(B9 _ _ _ os vs[k].id _ (ba.ext (Z.trans (((Z.refl w).alloc _).alloc _) (Z.trans U X)))).mono ?_;rintro e w'⟨rfl,cw⟩;have ao:=cw.cell;change Hid _ at cw;rw[bn.out]));go_roundg (gk - 1);case measure=>omega
        case rel=>exact⟨k+1,_,_,_,J,by go_num,rfl,(by rw[lp.out,aps (by have:=vD.out;omega) (by rw[Nf,ae.out,ak.out,aM.out,bn.out];rfl)];exact jt),bW.ext (aE.ext X) (bA _) X⟩
  ·have adk:vs.take k=vs:=ir J;change Hid _ at adk;go_wp2;rw[nJ];go_ret;exact Dq.mk aE X (by rw[adk.out])
def apu:(prog.info? 294).map (λi=>(i.zero,i.size,i.bytes))=some (some (.agg #[ar,au,au,.bool false]),4,32):=bV
def V.bH(v:V):v.cs.length=4:=rfl
def V.cN(v:V):∀u∈v.cs,u.oneCell'=true:=by
 intro u al;simp only[V.cs,nK,sW,tJ]at al;rcases al with rfl|rfl|rfl|rfl<;>rfl
def adl(cc:List sf)(i:aA):p5 cc i=0\/p5 cc i=1\/p5 cc i=2:=by
 unfold p5;split
 ·exact .inr (.inr rfl)
 ·split
  ·exact .inr (.inl rfl)
  ·exact .inl rfl
def Cb(cc:List sf)(out:List V)(i:aA):List V:=if p5 cc i≠0/\out.length<16 then out++[⟨i,decide (p5 cc i=1)⟩] else out
def uP(out:List V)(i:aA):List V:=if 16<=out.length then out else if out.any (λx=>cf x.id i)=true then out else out++[⟨i,false⟩]
def FP(cc:List sf)(ps:List b1):List V:=ps.foldl (λo x=>Cb cc o x.id) []
def uQ(cc:List sf)(ps:List b1)(rs:List aA):List V:=rs.foldl uP (FP cc ps)
def apv{cc:List sf}{ps:List b1}(hk:k<ps.length):FP cc (ps.take (k+1))=Cb cc (FP cc (ps.take k)) ps[k].id:=by
 unfold FP;exact Ca
def apw{cc:List sf}{ps:List b1}{rs:List aA}(hk:k<rs.length):uQ cc ps (rs.take (k+1))=uP (uQ cc ps (rs.take k)) rs[k]:=by
 unfold uQ;exact Ca
def adm:∀(l:List aA) (out:List V),16<=out.length->l.foldl uP out=out
 | [],_,_=>rfl
 |v::l,out,h=>by rw[List.foldl_cons,show uP out v=out from by unfold uP;rw[if_pos h]];exact adm l out h
def apx{cc:List sf}{ps:List b1}{rs:List aA}(h:16<=(uQ cc ps (rs.take k)).length):uQ cc ps (rs.take k)=uQ cc ps rs:=by
 have:uQ cc ps rs=(rs.drop k).foldl uP (uQ cc ps (rs.take k)):=by
  unfold uQ;rw[<-List.foldl_append,List.take_append_drop]
 rw[this,adm _ _ h]
def apy{cc:List sf}{out:List V}(h:p5 cc i=0):Cb cc out i=out:=by unfold Cb;rw[if_neg (λc=>c.1 h)]
def apz{cc:List sf}{out:List V}(h:¬out.length<16):Cb cc out i=out:=by unfold Cb;rw[if_neg (λc=>h c.2)]
def apA{cc:List sf}{out:List V}(h:p5 cc i≠0)(aT:out.length<16):Cb cc out i=out++[⟨i,decide (p5 cc i=1)⟩]:=by unfold Cb;rw[if_pos ⟨h,aT⟩]
def apB{out:List V}(h:out.any (λx=>cf x.id i)=true):uP out i=out:=by
 unfold uP;by_cases aT:16<=out.length
 ·rw[bm aT]
 ·rw[bj aT,bm h]
def apC{out:List V}(aT:¬16<=out.length)(h:out.any (λx=>cf x.id i)=false):uP out i=out++[⟨i,false⟩]:=by
 unfold uP;rw[if_neg aT,if_neg (by rw[h];simp)]
def apD(cD:bk)(eL fw:Nat)(ps:List b1)(c0:bk)(hl jv:Nat)(rs:List aA)(ea:bk)(dj AK:Nat)(cc:List sf)(w:aC)(cy:a1 w 8 b1.cs cD eL fw ps)(cR:a1 w 3 aA.cs c0 hl jv rs)(b8:Kids w ea dj AK cc):
  aR 149 #[aq cD eL fw,aq c0 hl jv,aq ea dj AK] w (Dq 4 V.cs (uQ cc ps rs) w):=by
 obtain⟨ca,bJ,bF,bG,bK⟩:=info_parts apu;obtain rfl:=cy.neq;obtain rfl:=cR.neq;have hm:=cy.max;have aT:=cy.len;have DI:=cR.max;have Ng:=cR.len;unfold maxLen at hm DI;change Hid _ at cy cR b8 bJ bF bG bK;go_enter func149,ntmps149;go_wp2_with fail;go_step3;go_wp2_with fail;go_loopg [7,15] (ps.length) (λg e1 st wr=>∃(k:Nat) (aw:bk) (m aQ:Nat),g+k=ps.length/\st=.int .i64 k/\e1=.slice aw m aQ/\Hid (Own wr w 294 4 V.cs aw m aQ (FP cc (ps.take k)))/\Hid (Z w wr));case atStart=>exact⟨0,none,0,0,J,rfl,rfl,Own.nil _ _ _ V.bH,Z.refl _⟩
 case round=>
  obtain⟨k,aw,m,aQ,bu,rfl,rfl,aE,U⟩:=hrel;by_cases hk:k<ps.length
  ·obtain⟨b,o,rfl,ao⟩:=cy.get k hk;obtain⟨cT,c1,c2,_,_,_,_,_⟩:=pd (w:=wr) (b:=b) (o:=o+k*8) (x:=ps[k]) (λj v aJ=>U.ah (ao j v aJ));have lp:=I (apv (cc:=cc) hk);have vD:=I aE.neq;clear ao;have b0:(0:Int)<=(k:Int):=J;have bd:(k:Int)<(ps.length:Int):=J;rcases adl cc ps[k].id with hs|hs|hs
   ·have av:=I hs;clear hs;go_wp2_with (go_at_call 217;refine(HE _ _ _ cc ps[k].id _ (b8.ext (Z.trans U X))).mono ?_;rintro e w'⟨rfl,cw⟩;have ao:=cw.cell;change Hid _ at cw;rw[av.out]);go_roundg (gk - 1);case measure=>omega
    case rel=>exact⟨k+1,aw,m,aQ,J,by go_num,rfl,(by rw[lp.out,apy av.out];exact aE.ext X),X⟩
   ·have av:=I hs;clear hs;by_cases Ka:m<16
    ·have Kb:(m:Int)<16:=J;go_wp2_with (first|(at_builtin;refine hf (ys:=FP cc (ps.take k)) rfl _ _ 230 rfl ca _ 32 underlying230 bJ bF bG bK rfl af rfl (aE.ext X) ⟨ps[k].id,true⟩ _ rfl (fc (cs:=V.cs ⟨ps[k].id,true⟩) rfl) (V.cN _) J af (Z.size X) ?_;intro g dL w1 jt bW)|(go_at_call 217;refine(HE _ _ _ cc ps[k].id _ (b8.ext (Z.trans U X))).mono ?_;rintro e w'⟨rfl,cw⟩;have ao:=cw.cell;change Hid _ at cw;rw[av.out]));exact adn
    exact ado
   ·have av:=I hs;clear hs;by_cases Ka:m<16
    ·have Kb:(m:Int)<16:=J;go_wp2_with (first|(at_builtin;refine hf (ys:=FP cc (ps.take k)) rfl _ _ 230 rfl ca _ 32 underlying230 bJ bF bG bK rfl af rfl (aE.ext X) ⟨ps[k].id,false⟩ _ rfl (fc (cs:=V.cs ⟨ps[k].id,false⟩) rfl) (V.cN _) J af (Z.size X) ?_;intro g dL w1 jt bW)|(go_at_call 217;refine(HE _ _ _ cc ps[k].id _ (b8.ext (Z.trans U X))).mono ?_;rintro e w'⟨rfl,cw⟩;have ao:=cw.cell;change Hid _ at cw;rw[av.out]));exact adn
    exact ado
  ·have b9:ps.take k=ps:=ir J;rw[b9]at aE;clear b9;go_wp2;go_step3;go_wp2_with fail;go_loopg [7,41] (rs.length) (λg e1 st wr=>∃(k:Nat) (aw:bk) (m aQ:Nat),g+k=rs.length/\st=.int .i64 k/\e1=.slice aw m aQ/\Hid (Own wr w 294 4 V.cs aw m aQ (uQ cc ps (rs.take k)))/\Hid (Z w wr));case atStart=>exact⟨0,aw,m,aQ,J,rfl,rfl,aE,U⟩
   case round=>
    clear aE U bu hk;obtain⟨k,aw,m,aQ,_,rfl,rfl,aE,U⟩:=hrel;by_cases hk:k<rs.length
    ·obtain⟨b,o,rfl,ao⟩:=cR.get k hk;obtain⟨_,_,_⟩:=FO (w:=wr) (b:=b) (o:=o+k*3) (x:=rs[k]) (λj v aJ=>U.ah (ao j v aJ));have lp:=I (apw (cc:=cc) (ps:=ps) hk);have adi:=I (apx (cc:=cc) (ps:=ps) (rs:=rs) (k:=k));have vD:=I aE.neq;clear ao;have b0:(0:Int)<=(k:Int):=J;have bd:(k:Int)<(rs.length:Int):=J;by_cases Ka:16<=m;exact adj
     ·skip;cases ae:(uQ cc ps (rs.take k)).any (λx=>cf x.id rs[k])with
      |true=>
       change Hid _ at ae;go_wp2_with (go_at_call 218;refine(ada _ _ _ (uQ cc ps (rs.take k)) (λx=>cf x.id rs[k]) _ ⟨wr.heap.size,0,none⟩ _ (aE.aF.ext X) (λ_ _=>by kernel_rfl) (λx _ w' hw=>adb x rs[k] wr.heap.size w' (hw.ah (by simp)) (hw.ah (by simp)) (hw.ah (by simp)))).mono ?_;rintro e w'⟨rfl,cw⟩;have ao:=cw.cell;change Hid _ at cw;rw[ae.out]);go_roundg (gk - 1);case measure=>omega
       case rel=>exact⟨k+1,aw,m,aQ,J,by go_num,rfl,(by rw[lp.out,apB ae.out];exact aE.ext X),X⟩
      |false=>
       change Hid _ at ae;go_wp2_with (first|(at_builtin;refine hf (ys:=uQ cc ps (rs.take k)) rfl _ _ 230 rfl ca _ 32 underlying230 bJ bF bG bK rfl af rfl (aE.ext X) ⟨rs[k],false⟩ _ rfl (fc (cs:=V.cs ⟨rs[k],false⟩) rfl) (V.cN _) J af (Z.size X) ?_;intro g _ _ jt bW)|(go_at_call 218;refine(ada _ _ _ (uQ cc ps (rs.take k)) (λx=>cf x.id rs[k]) _ ⟨wr.heap.size,0,none⟩ _ (aE.aF.ext X) (λ_ _=>by kernel_rfl) (λx _ w' hw=>adb x rs[k] wr.heap.size w' (hw.ah (by simp)) (hw.ah (by simp)) (hw.ah (by simp)))).mono ?_;rintro e w'⟨rfl,cw⟩;have ao:=cw.cell;change Hid _ at cw;rw[ae.out]));go_roundg (gk - 1);case measure=>omega
       case rel=>exact⟨k+1,_,_,_,J,by go_num,rfl,(by rw[lp.out,apC (by have:=vD.out;omega) ae.out];exact jt),bW.ext (aE.ext X) (bA _) X⟩
    ·have b9:rs.take k=rs:=ir J;rw[b9]at aE;clear b9;go_wp2;rw[nJ];go_ret;exact Dq.mk aE X rfl
end Go.Proofs.YtfiiblnenhdlhaaGreat
