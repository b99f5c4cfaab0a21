/- Part. -/
import Derived.Test.YtfiiblnenhdlhaaGreatC2
set_option linter.unusedVariables false
set_option linter.unusedSimpArgs false
set_option linter.defProp false
set_option maxRecDepth 100000
set_option maxHeartbeats 4000000
namespace Go.Proofs.YtfiiblnenhdlhaaGreat
open Go.RowKit Tryz
variable {aB:List UInt8}{base cap fF k n n0 q room sz:Nat}{O S:Nat->Prop}{fr:Nat×Nat}{a aA:Option Addr}{α:Type}{e:TypeId}{w w':World}{x:bR}{d:bb}
def nO(n:Int):Prop:=0<=n/\n<18446744073709551616
def nO.X6(h:gw n):nO (n:Int):=by unfold gw at h;unfold nO;omega
def xc(a:cI):List UInt8:=gY a.nm.toList++Aq a.k a.n a.s.toList
def o7(e:List cI):List UInt8:=df e.length++e.flatMap xc
def va(t:T):List UInt8:=gY t.nm.toList++(df t.op.toNat++(if t.op=8 then [] else Aq t.k t.n t.s.toList))
def Bz(f:List T):List UInt8:=df f.length++f.flatMap va
def iK(i:ax):List UInt8:=df i.b.toNat++(df i.l.toNat++df i.s.toNat)
def iL(d:bb):List UInt8:=
 df d.k.toNat++(iK d.id++(df d.c.toNat++(df d.u.toNat++(if d.k=1 then df d.aX.length++d.aX.flatMap (λe=>gY (o7 e)) else if d.k=2 then gY (Bz d.ts) else []))))
def X7(e:List cI)(i:Nat):List UInt8:=match e[i]? with|some a=>a.nm.toList|none=> []
def xU(e:List cI)(i:Nat):Bool:=
 match e[i]? with
 |some a=>qU a.nm.toList&&(decide (wQ a.k a.n a.s.toList=0)&&(decide (i=0)||oV (X7 e (i - 1)) a.nm.toList))
 |none=>false
def vb(e:List cI):Bool:=decide (1<=e.length/\e.length<=16)&&(List.range e.length).all (xU e)
def EG(b:Bool):Int:=if b=true then 0 else 40
def S4{e:List cI}{i:Nat}(aK:i<e.length)(h:qU e[i].nm.toList=false):xU e i=false:=by
 unfold xU;rw[eK aK];simp[h]
def S5{e:List cI}{i:Nat}(aK:i<e.length)(h:¬wQ e[i].k e[i].n e[i].s.toList=0):xU e i=false:=by
 unfold xU;rw[eK aK];simp[h]
def an7{e:List cI}(aK:0<e.length)(h:qU e[0].nm.toList=true)(bw:wQ e[0].k e[0].n e[0].s.toList=0):xU e 0=true:=by
 unfold xU;rw[eK aK];simp[h,bw]
def OA{e:List cI}{i:Nat}(aK:i+1<e.length)(h:qU e[i+1].nm.toList=true)(bw:wQ e[i+1].k e[i+1].n e[i+1].s.toList=0):xU e (i+1)=oV e[i].nm.toList e[i+1].nm.toList:=by
 unfold xU;rw[eK aK];have:X7 e i=e[i].nm.toList:=by unfold X7;rw[eK J]
 simp[h,bw,this]
def X8{p:Nat->Bool}(h:(List.range k).all p=true)(he:p k=true):(List.range (k+1)).all p=true:=by
 rw[Iy,Nw,h];simp[he]
def acV{e:List cI}(h:¬(1<=e.length/\e.length<=16)):EG (vb e)=40:=by unfold vb;rw[je h];rfl
def As{e:List cI}{i:Nat}(aK:i<e.length)(h:xU e i=false):EG (vb e)=40:=by
 have:(List.range e.length).all (xU e)=false:=Ky.2 ⟨i,xd.2 aK,by rw[h];decide⟩;unfold vb;rw[this,wV];rfl
def an8{e:List cI}(h:1<=e.length/\e.length<=16)(k:(List.range e.length).all (xU e)=true):EG (vb e)=0:=by unfold vb;rw[jf h,k];rfl
def S6{e:List cI}(h:vb e=true):(1<=e.length/\e.length<=16)/\∀a,a∈e->qU a.nm.toList=true/\wQ a.k a.n a.s.toList=0:=by
 unfold vb at h;simp only[jS,jT,Ad,xd]at h;refine⟨h.1,λa ak=>?_⟩;obtain⟨i,aK,rfl⟩:=List.getElem_of_mem ak;have:=h.2 i aK;unfold xU at this;rw[eK aK]at this;simp only[jS,jT]at this;exact⟨this.1,this.2.1⟩
def K4{s:eg}(h:qU s=true):1<=s.length/\s.length<=16:=by
 unfold qU at h;simp only[jS,jT]at h;exact h.1
structure acW (a:cI):Prop where
 nm:qU a.nm.toList=true
 v:By a.k a.n a.s.toList
structure Au (e:List cI):Prop where
 nk:vb e=true
 i64:∀a,a∈e->lx a.n
def Au.at_{e:List cI}(h:Au e):∀a,a∈e->acW a:=λa ak=>⟨((S6 h.nk).2 a ak).1,((S6 h.nk).2 a ak).2,h.i64 a ak⟩
def Au.len{e:List cI}(h:Au e):1<=e.length/\e.length<=16:=(S6 h.nk).1
structure Db (t:T):Prop where
 cQ:nD t=true
 i64:lx t.n
structure Dc (f:List T):Prop where
 nk:nE f=true
 i64:∀t,t∈f->lx t.n
def Dc.at_{f:List T}(h:Dc f):∀t,t∈f->Db t:=λt bm=>⟨by
 have:=h.nk;unfold nE at this;simp only[jS,Ad]at this
 exact this.2 t bm,h.i64 t bm⟩
def Dc.len{f:List T}(h:Dc f):f.length<=8:=(alW h.nk).1
def X9{k n:Int}{s:eg}(h:By k n s):(Aq k n s).length<=80:=by
 unfold Aq;rw[c9,c9,y8];have:=hV k.toNat;have:=hV (SL k n);have:=xP s.length;have:=h.s;omega
def acX{a:cI}(h:acW a):(xc a).length<=105:=by
 unfold xc;rw[c9,y8];have:=xP a.nm.toList.length;have:=(K4 h.nm).2;have:=X9 h.v;omega
def S7{α β:Type}{f:α->List β}{m:Nat}:∀(l:List α),(∀x,x∈l->(f x).length<=m)->(l.flatMap f).length<=l.length*m
 | [],_=>by simp
 |x::l,h=>by
  rw[ny,c9,me,HY,Nat.one_mul]
  have:=h x (o1)
  have:=S7 l (λy hy=>h y (ni _ hy))
  omega
def S8{e:List cI}(h:Au e):(o7 e).length<=1700:=by
 unfold o7;rw[c9];have:=hV e.length;have:=S7 (f:=xc) e (λa ak=>acX (h.at_ a ak));have:=h.len;omega
def Db.name{t:T}(h:Db t):qU t.nm.toList=true:=by
 have:=h.cQ;unfold nD at this;simp only[jS]at this;exact this.1.1
def Db.op{t:T}(h:Db t):1<=t.op/\t.op<=8:=by
 have:=h.cQ;unfold nD at this;simp only[jS]at this;have k:=this.1.2;unfold xD at k;simp at k;omega
def Db.v{t:T}(h:Db t)(fG:t.op≠8):By t.k t.n t.s.toList:=by
 have:=h.cQ;unfold nD at this;rw[aV fG]at this;simp only[jS,jT]at this;exact⟨this.2.1,h.i64⟩
def Db.v0{t:T}(h:Db t)(fG:t.op=8):t.k=0/\t.n=0/\t.s.toList= []:=by
 have:=h.cQ;unfold nD at this;rw[bc fG]at this;simp only[jS,jT]at this;have k:=this.2;unfold T.v at k;simp only[vL.mk.injEq]at k;exact k
def an9{t:T}(h:Db t):(va t).length<=115:=by
 unfold va;rw[c9,c9,y8];have:=xP t.nm.toList.length;have:=(K4 h.name).2;have:=hV t.op.toNat;split
 ·simp;omega
 ·next fG=>have:=X9 (h.v fG);omega
def Ya{f:List T}(h:Dc f):(Bz f).length<=1000:=by
 unfold Bz;rw[c9];have:=hV f.length;have:=S7 (f:=va) f (λa ak=>an9 (h.at_ a ak));have:=h.len;omega
def S9(a:Option Addr)(n cap:Nat)(xs:List cI)(w:World)(ar:a7 w 4 cI.cs a n cap xs):
  aS 163 #[ao a n cap] w (cU (.int .i64 (EG (vb xs))) w):=by
 obtain rfl:=ar.neq
 have hm:=ar.max
 have a1:=ar.len
 unfold maxLen at hm
 change aa _ at ar
 by_cases af:1<=xs.length/\xs.length<=16
 ·obtain⟨af,n1⟩:=af
  have i1:(1:Int)<=(xs.length:Int):=J
  have mv:(xs.length:Int)<=16:=J
  go_enter func163,ntmps163
  go_wp2_with fail
  go_step3
  go_wp2_with fail
  go_step3
  go_wp2_with fail
  go_loopg [3,16] (xs.length) (λg qX st wr=>∃k:Nat,g+k=xs.length/\st=.int .i64 k/\qX=.int .i64 k/\aa ((List.range k).all (xU xs)=true)/\aa (Z w wr))
  case atStart=>exact⟨0,J,rfl,rfl,rfl,Z.refl _⟩
  case round=>
   obtain⟨k,bC,rfl,rfl,e3,X⟩:=hrel
   by_cases hk:k<xs.length
   ·obtain⟨b,o,rfl,al⟩:=ar.get k hk
    obtain⟨cO,c1,c2,cV⟩:=Np (w:=wr) (b:=b) (o:=o+k*4) (x:=xs[k]) (λj v aD=>X.ag (al j v aD))
    clear al
    have b0:(0:Int)<=(k:Int):=J
    have bf:(k:Int)<(xs.length:Int):=J
    by_cases bw:wQ xs[k].k xs[k].n xs[k].s.toList=0
    ·have iW:=I bw
     change aa _ at bw
     have bG:=I bw
     cases aq:qU xs[k].nm.toList with
     |false=>
      have CW:(!qU xs[k].nm.toList)=true:=by rw[aq];rfl
      have c3:=I aq
      go_wp2_with (first|(go_at_call 244;refine(NG _ _).mono ?_;rintro e w'⟨rfl,rfl⟩)|(go_at_call 245;refine(Ej _ _ _ _).mono ?_;rintro e w'⟨he,hy⟩;rw[iW.out]at he;subst he;have bp:=hy.size;have Gs:=hy.ag (a:=(wr,0)) (v:=.string xs[k].nm) (by simp);change aa _ at hy))
      first|rw[Exit.noGoto_ret]|skip
      go_ret
      refine⟨jk (by first|exact(As hk (S4 hk c3)).symm|exact(As hk (S5 hk bG)).symm|exact(As hk (by have q:=‹(!Op.bytesLess xs[j].nm.toList xs[j+1].nm.toList)=true›;rw[OA hk c3.out bw.out];simpa[oV]using q)).symm),?_⟩
      exact U
     |true=>
      have CW:(!qU xs[k].nm.toList)=false:=by rw[aq];rfl
      have c3:=I aq
      go_wp2_with (first|(go_at_call 244;refine(NG _ _).mono ?_;rintro e w'⟨rfl,rfl⟩)|(go_at_call 245;refine(Ej _ _ _ _).mono ?_;rintro e w'⟨he,hy⟩;rw[iW.out]at he;subst he;have bp:=hy.size;have Gs:=hy.ag (a:=(wr,0)) (v:=.string xs[k].nm) (by simp);change aa _ at hy))
      cases k with
      |zero=>
       have aG:decide ((0:Int)<((0:Nat):Int))=false:=rfl
       go_quiet (fail)
       go_wp2
       go_roundg (gk - 1)
       case measure=>omega
       case rel=>exact⟨0+1,J,by go_num,by go_num,X8 e3 (an7 hk c3 bw),U⟩
      |succ j=>
       obtain⟨azX,azY,acY,acZ⟩:=ar.get j J
       simp only[Option.some.injEq,Addr.mk.injEq,and_true]at acY
       obtain⟨rfl,rfl⟩:=acY
       have b7:Z w w':=U
       have d0:w'.cell? (b,o+j*4)=some ↑xs[j].nm:=b7.ag (acZ 0 _ rfl)
       clear acZ b7
       have aG:decide ((0:Int)<((j+1:Nat):Int))=true:=by simp
       have dU:(0:Int)<=(j:Int):=J
       have cm:(j:Int)<(xs.length:Int):=J
       go_quiet (fail)
       go_wp2
       ·skip
        first|rw[Exit.noGoto_ret]|skip
        go_ret
        refine⟨jk (by first|exact(As hk (S4 hk c3)).symm|exact(As hk (S5 hk bG)).symm|exact(As hk (by have q:=‹(!Op.bytesLess xs[j].nm.toList xs[j+1].nm.toList)=true›;rw[OA hk c3.out bw.out];simpa[oV]using q)).symm),?_⟩
        exact U
       ·skip
        go_roundg (gk - 1)
        case measure=>omega
        case rel=>exact⟨j+1+1,J,by go_num,by go_num,X8 e3 (by have q:=‹(!Op.bytesLess xs[j].nm.toList xs[j+1].nm.toList)=false›;rw[OA hk c3.out bw.out];simpa[oV]using q),U⟩
    ·have iW:=I (show wQ xs[k].k xs[k].n xs[k].s.toList=10 from by unfold wQ at bw ⊢;split at bw<;>simp_all)
     change aa _ at bw
     cases aq:qU xs[k].nm.toList with
     |false=>
      have CW:(!qU xs[k].nm.toList)=true:=by rw[aq];rfl
      have c3:=I aq
      go_wp2_with (first|(go_at_call 244;refine(NG _ _).mono ?_;rintro e w'⟨rfl,rfl⟩)|(go_at_call 245;refine(Ej _ _ _ _).mono ?_;rintro e w'⟨he,hy⟩;rw[iW.out]at he;subst he;have bp:=hy.size;have Gs:=hy.ag (a:=(wr,0)) (v:=.string xs[k].nm) (by simp);change aa _ at hy))
      first|rw[Exit.noGoto_ret]|skip
      go_ret
      refine⟨jk (by first|exact(As hk (S4 hk c3)).symm|exact(As hk (S5 hk bw)).symm|exact(As hk (by have q:=‹(!Op.bytesLess xs[j].nm.toList xs[j+1].nm.toList)=true›;rw[OA hk c3.out bV.out];simpa[oV]using q)).symm),?_⟩
      exact U
     |true=>
      have CW:(!qU xs[k].nm.toList)=false:=by rw[aq];rfl
      have c3:=I aq
      go_wp2_with (first|(go_at_call 244;refine(NG _ _).mono ?_;rintro e w'⟨rfl,rfl⟩)|(go_at_call 245;refine(Ej _ _ _ _).mono ?_;rintro e w'⟨he,hy⟩;rw[iW.out]at he;subst he;have bp:=hy.size;have Gs:=hy.ag (a:=(wr,0)) (v:=.string xs[k].nm) (by simp);change aa _ at hy))
      first|rw[Exit.noGoto_ret]|skip
      go_ret
      refine⟨jk (by first|exact(As hk (S4 hk c3)).symm|exact(As hk (S5 hk bw)).symm|exact(As hk (by have q:=‹(!Op.bytesLess xs[j].nm.toList xs[j+1].nm.toList)=true›;rw[OA hk c3.out bV.out];simpa[oV]using q)).symm),?_⟩
      exact U
   ·skip
    have rE:¬(k:Int)<(xs.length:Int):=J
    go_wp2
    first|rw[Exit.noGoto_ret]|skip
    go_ret
    refine⟨jk (an8 ⟨af,n1⟩ (by rw[<-show k=xs.length from by omega];exact e3)).symm,?_⟩
    exact U
 ·by_cases aoa:xs.length<1
  ·have i1:(xs.length:Int)<1:=J
   go_enter func163,ntmps163
   go_wp2_with fail
   go_step3
   go_wp2_with fail
   rw[Exit.noGoto_ret]
   go_ret
   refine⟨jk (acV J).symm,?_⟩
   exact U
  ·have i1:¬(xs.length:Int)<1:=J
   have mv:(16:Int)<(xs.length:Int):=J
   go_enter func163,ntmps163
   go_wp2_with fail
   go_step3
   go_wp2_with fail
   rw[Exit.noGoto_ret]
   go_ret
   refine⟨jk (acV J).symm,?_⟩
   exact U
def xe(l:List UInt8)(w:World)(e:Ending)(w':World):Prop:=∃a n c,e=.returned (.tuple #[ao a n c,av])/\aH w' w.heap.size 5 1 cr a n c l/\Z w w'
def aob(a:bl)(n cap:Nat)(xs:List cI)(w:aC)(ar:a7 w 4 cI.cs a n cap xs)(bV:Au xs):
  aS 258 #[ao a n cap] w (xe (o7 xs) w):=by
 have hlen:=bV.len;obtain rfl:=ar.neq;refine td ?_;intro hm a1;have Av:EG (vb xs)=0:=by rw[bV.nk];rfl
 change aa _ at Av ar bV;go_enter func258,ntmps258;go_wp2_with fail;refine(S9 _ _ _ xs _ ar).mono ?_;rintro e _⟨he,br⟩;rw[Av.out]at he;subst he;change aa _ at br;go_wp2_with fail;refine ac0 ?_;intro aN ch cF c2 aJ kA cd cn;clear aJ;go_wp2_with fail;go_loopg [5,19] (xs.length) (λg e4 st wr=>∃(k:Nat) (ab:bl) (m c:Nat),g+k=xs.length/\st=.int .i64 k/\e4=.slice ab m c/\m<=20+105*k/\aa (aH wr w 5 1 cr ab m c (df xs.length++(xs.take k).flatMap xc))/\aa (Z w wr));case atStart=>exact ac1
 case round=>
  obtain⟨k,ab,m,c,_,rfl,rfl,_,aJ,X⟩:=hrel;by_cases hk:k<xs.length
  ·obtain⟨b,o,rfl,al⟩:=ar.get k hk;refine Xb ?_;intro cO c1 c2 cV;clear al;have b6:=bV.at_ xs[k] (cT hk);have EB:=(K4 b6.nm).2;rw[yM]at EB;change aa _ at b6;refine jU ?_;intro b0 bf;go_wp2_with (refine XZ rfl (.tmp 25) 9 107 5 rfl za nK Da rfl J ?_;intro cB _ Dd q0 Yb);have lP:cB.cell? (wr,1)=some ↑xs[k].k:=q0.ag (by simp);have jE:cB.cell? (wr,2)=some ↑xs[k].n:=q0.ag (by simp);have d3:cB.cell? (wr,3)=some ↑xs[k].s:=q0.ag (by simp);rw[show ∀o:Obj,(wr.alloc o).heap.size=(wr:Nat)+1 from λo=>by simp]at Dd;change aa _ at Dd q0;clear Yb;have iM:Z wr cB:=U;have Kw:m<=1000000:=J;have kf:xs[k].nm.size<=1000000:=J;refine(Iw ab m c (df xs.length++(xs.take k).flatMap xc) _ _ _ _ _ (aJ.aF.ext iM) Dd Kw kf).mono ?_;rintro e _⟨a5,hM,_,rfl,hq,ez⟩;replace lP:=ez.ag lP;replace jE:=ez.ag jE;replace d3:=ez.ag d3;have K5:=hq.neq;rw[c9,<-aJ.neq]at K5;have Gt:=y8 xs[k].nm.toList;have Ta:=xP xs[k].nm.toList.length;rw[yM]at Gt Ta;have aoc:hM<=20+105*k+25:=J;change aa _ at ez hq K5;clear Gt Ta;go_wp2_with fail;refine(acM _ _ _ _ xs[k].k xs[k].n xs[k].s _ hq.aF b6.v J).mono ?_;rintro e _⟨r7,n6,_,rfl,k5,ic⟩;have OB:n6<=20+105*(k+1):=by
    have af:=k5.neq;have lo:=acX b6;unfold xc at lo;rw[c9]at lo;rw[c9,<-hq.neq,K5.out]at af;omega
   change aa _ at k5 ic;go_wp2;go_roundg (gk - 1);case measure=>omega
   case rel=>
    refine⟨k+1,_,_,_,J,by go_num,rfl,OB,?_,U⟩;have h:=k5.mono (aBw:=(w:Nat)) (Z.size U);refine Tb ?_;unfold xc;rw[ig,ig]at h;exact h
  ·refine sy ?_;intro cb;rw[cb]at aJ;clear cb;go_wp2;go_ret2;exact⟨ab,m,c,rfl,aJ,U⟩
def aod(l:List cI)(w:World)(e:Ending)(w':World):Prop:=∃a n c,e=.returned (.tuple #[ao a n c,av])/\aH w' w.heap.size 77 4 cI.cs a n c l/\Z w w'
def aoe(a:bl)(n cap:Nat)(xs:List cI)(w:aC)(ar:a7 w 1 cr a n cap (o7 xs))(bV:Au xs):
  aS 192 #[ao a n cap] w (aod xs w):=by
 obtain⟨eB,lQ,lR,lS,lT⟩:=fB NM;have hlen:=bV.len;have aq:n<=1700:=by rw[ar.neq];exact S8 bV
 replace ar:=I ar;replace bV:=I bV;replace lQ:=I lQ;replace lR:=I lR;replace lS:=I lS;replace lT:=I lT;go_enter func192,ntmps192;go_wp2_with fail;refine(K2 _ _ _ _ _ ar J).mono ?_;rintro e _⟨p,rfl,nn,di,br⟩;replace di:=I di;replace br:=I br;go_wp2_with fail;refine(oI p xs.length (xs.flatMap xc) _ di awr).mono ?_;rintro e _⟨rfl,dI,e8⟩;replace dI:=I dI;have cn:=I (e8.ext (λb ad=>by subst ad;exact nn) br);clear e8;go_wp2_with fail;go_loopg [6,15] (xs.length) (λg e4 st wr=>∃(k:Nat) (ab:bl) (m c:Nat),g+k=xs.length/\st=.int .u64 (k:Int)/\e4=.slice ab m c/\k=m/\aa (aH wr w 77 4 cI.cs ab m c (xs.take k))/\aa (j5 wr p ((xs.drop k).flatMap xc))/\aa (Z w wr));case atStart=>exact⟨0,none,0,0,J,rfl,rfl,rfl,aH.nil _ _ _ cI.bI,dI,U⟩
 case round=>
  obtain⟨k,ab,m,c,_,rfl,rfl,ho,aJ,bB,X⟩:=hrel;subst ho;by_cases hk:k<xs.length
  ·have b6:=bV.at_ xs[k] (cT hk);have EB:=(K4 b6.nm).2;have aG:(xs.drop k).flatMap xc=gY xs[k].nm.toList++(Aq xs[k].k xs[k].n xs[k].s.toList++(xs.drop (k+1)).flatMap xc):=by
    rw[Ab hk,ny];unfold xc;rw[ig]
   replace b6:=I b6;refine jU ?_;intro b0 bf;go_wp2_with fail;refine(EE p 16 xs[k].nm.toList (Aq xs[k].k xs[k].n xs[k].s.toList++(xs.drop (k+1)).flatMap xc) _ (by rw[<-aG];exact bB.ext U) ah J ah).mono ?_;rintro e cB⟨_,_,rfl,ed,sG,n3⟩;have BA:aH cB w 77 4 cI.cs ab k c (xs.take k):=n3.bS (aJ.ext U) (bB.gT aJ ah);have sH:Z w cB:=n3.ext (λb ad=>by subst ad;exact nn) U;replace ed:=I ed;replace sG:=I sG;replace BA:=I BA;replace sH:=I sH;clear n3 aG;go_wp2_with (refine K1 rfl (.tmp 18) 107 9 5 rfl nK Da za rfl ed.aF ?_;intro s hs);refine(acU p xs[k].k xs[k].n xs[k].s.toList ((xs.drop (k+1)).flatMap xc) _ (sG.ext U) b6.v).mono ?_;rintro e bA⟨_,tw,rfl,zb,o8⟩;obtain rfl:=Nl hs;obtain rfl:=Nl tw;have OC:aH bA w 77 4 cI.cs ab k c (xs.take k):=o8.bS (BA.ext U) (sG.gT BA ah);have OD:Z w bA:=o8.ext (λb ad=>by subst ad;exact nn) U;replace zb:=I zb;replace OC:=I OC;replace OD:=I OD;clear o8;go_wp2_with (at_builtin;refine hc (ys:=xs.take k) rfl (.tmp 20) (.tmp 25) 34 rfl eB _ 48 KJ lQ lR lS lT rfl ah rfl (OC.ext U) xs[k] _ rfl (fi (cs:=cI.cs xs[k]) rfl) (cI.cQ _) J ah (Z.size U) ?_;intro _ _ _ mC q2);change aa _ at mC;have xV:=I ((zb.ext ((Z.refl _).alloc _)).grow q2 (OC.ext ((Z.refl _).alloc (.cells #[xs[k].nm,xs[k].k,xs[k].n,xs[k].s] 77))) ah ah);have Aw:=I (q2.ext (OC.ext ((Z.refl _).alloc (.cells #[xs[k].nm,xs[k].k,xs[k].n,xs[k].s] 77))) (bJ _) (OD.trans ((Z.refl _).alloc _)));clear q2;go_wp2;go_roundg (gk - 1);case measure=>omega
   case rel=>exact⟨k+1,_,_,_,J,by go_num,rfl,rfl,(by rw[iv hk];exact mC),xV,Aw⟩
  ·refine sy ?_;intro cb;rw[cb]at aJ;clear cb;have iN:j5 wr p []:=by have:=bB.out;rw[K6 J]at this;exact this
   have Av:EG (vb xs)=0:=by rw[bV.nk];rfl
   replace Av:=I Av;replace iN:=I iN;go_wp2_with fail;refine(Ar p _ iN).mono ?_;rintro e _⟨rfl,il⟩;replace il:=I il;go_wp2_with fail;refine(S9 ab k c xs _ (aJ.aF.ext il)).mono ?_;exact ac2
def aof(a:bl)(n cap:Nat)(xs:List T)(w:aC)(ar:a7 w 5 T.cs a n cap xs)(bV:Dc xs):
  aS 259 #[ao a n cap] w (xe (Bz xs) w):=by
 have hlen:=bV.len;obtain rfl:=ar.neq;have hm:=ar.max;unfold maxLen at hm;have Av:xG (nE xs)=0:=by rw[bV.nk];rfl
 change aa _ at Av ar bV;go_enter func259,ntmps259;go_wp2_with fail;refine(R8 _ _ _ xs _ ar).mono ?_;rintro e _⟨he,br⟩;rw[Av.out]at he;subst he;change aa _ at br;go_wp2_with fail;refine ac0 ?_;intro aN ch cF c2 aJ kA cd cn;go_wp2_with fail;go_loopg [5,19] (xs.length) (λg e4 st wr=>∃(k:Nat) (ab:bl) (m c:Nat),g+k=xs.length/\st=.int .i64 k/\e4=.slice ab m c/\m<=20+115*k/\aa (aH wr w 5 1 cr ab m c (df xs.length++(xs.take k).flatMap va))/\aa (Z w wr));case atStart=>exact ac1
 case round=>
  obtain⟨k,ab,m,c,_,rfl,rfl,_,aJ,X⟩:=hrel;by_cases hk:k<xs.length
  ·obtain⟨b,o,rfl,al⟩:=ar.get k hk;refine Nv ?_;intro cO c1 c2 cV dF;have b6:=bV.at_ xs[k] (cT hk);have EB:=(K4 b6.name).2;rw[yM]at EB;obtain⟨q,fw⟩:∃q:Nat,xs[k].op=(q:Int):=⟨xs[k].op.toNat,by have:=b6.op;omega⟩;have Yc:=b6.op;rw[fw]at c1 Yc;change aa _ at fw b6;refine jU ?_;intro b0 bf;go_wp2_with (refine XZ rfl (.tmp 25) 9 107 5 rfl za nK Da rfl J ?_;intro cB _ Dd q0 _);have lP:cB.cell? (wr,1)=some ↑(q:Int):=q0.ag (by simp);have jE:cB.cell? (wr,2)=some ↑xs[k].k:=q0.ag (by simp);have d3:cB.cell? (wr,3)=some ↑xs[k].n:=q0.ag (by simp);have d4:cB.cell? (wr,4)=some ↑xs[k].s:=q0.ag (by simp);rw[show ∀o:Obj,(wr.alloc o).heap.size=(wr:Nat)+1 from λo=>by simp]at Dd;change aa _ at Dd q0;have iM:Z wr cB:=U;have Kw:m<=1000000:=J;have kf:xs[k].nm.size<=1000000:=J;refine(Iw ab m c (df xs.length++(xs.take k).flatMap va) _ _ _ _ _ (aJ.aF.ext iM) Dd Kw kf).mono ?_;rintro e _⟨a5,hM,_,rfl,hq,ez⟩;replace lP:=ez.ag lP;replace jE:=ez.ag jE;replace d3:=ez.ag d3;replace d4:=ez.ag d4;have K5:=hq.neq;rw[c9,<-aJ.neq]at K5;have Gt:=y8 xs[k].nm.toList;have Ta:=xP xs[k].nm.toList.length;rw[yM]at Gt Ta;have aoc:hM<=20+115*k+25:=J;change aa _ at ez hq K5;go_wp2_with fail;refine(kh _ _ _ _ q _ hq.aF awr J).mono ?_;rintro e _⟨nP,n7,_,rfl,ly,il⟩;replace lP:=il.ag lP;replace jE:=il.ag jE;replace d3:=il.ag d3;replace d4:=il.ag d4;have Iz:=ly.neq;rw[c9,<-hq.neq]at Iz;have azZ:=hV q;have az0:n7<=20+115*k+35:=J;change aa _ at il ly Iz;have Tc:xs[k].op.toNat=q:=by rw[fw.out];rfl
   by_cases fG:q=8
   ·subst fG;go_wp2;go_roundg (gk - 1);case measure=>omega
    case rel=>
     refine⟨k+1,_,_,_,J,by go_num,rfl,J,?_,U⟩;have h:=ly.mono (aBw:=(w:Nat)) (Z.size U);refine Tb ?_;rw[show va xs[k]=gY xs[k].nm.toList++df 8 from by unfold va;rw[Tc,bc (show xs[k].op=8 from fw),nc]];exact IA
   ·have IB:¬(q:Int)=8:=J;have IC:=b6.v (by rw[fw.out];exact IB);change aa _ at IC;go_wp2_with fail;refine(acM _ _ _ _ xs[k].k xs[k].n xs[k].s _ ly.aF IC J).mono ?_;rintro e _⟨r7,n6,_,rfl,k5,ic⟩;have OB:n6<=20+115*(k+1):=by
     have af:=k5.neq;have lo:=X9 IC;rw[c9,<-ly.neq]at af;omega
    change aa _ at k5 ic;go_wp2;go_roundg (gk - 1);case measure=>omega
    case rel=>
     refine⟨k+1,_,_,_,J,by go_num,rfl,OB,?_,U⟩;have h:=k5.mono (aBw:=(w:Nat)) (Z.size U);refine Tb ?_;rw[show va xs[k]=gY xs[k].nm.toList++(df q++Aq xs[k].k xs[k].n xs[k].s.toList)from by unfold va;rw[Tc,aV (by rw[fw.out];exact IB)]];exact IA
  ·refine sy ?_;intro cb;rw[cb]at aJ;go_wp2;go_ret2;exact⟨ab,m,c,rfl,aJ,U⟩
def aog(l:List T)(w:World)(e:Ending)(w':World):Prop:=∃a n c,e=.returned (.tuple #[ao a n c,av])/\aH w' w.heap.size 154 5 T.cs a n c l/\Z w w'
def aoh(a:bl)(n cap:Nat)(xs:List T)(w:aC)(ar:a7 w 1 cr a n cap (Bz xs))(bV:Dc xs):
  aS 193 #[ao a n cap] w (aog xs w):=by
 obtain⟨eB,lQ,lR,lS,lT⟩:=fB R3;have hlen:=bV.len;have aq:n<=1000:=by rw[ar.neq];exact Ya bV
 replace ar:=I ar;replace bV:=I bV;replace lQ:=I lQ;replace lR:=I lR;replace lS:=I lS;replace lT:=I lT;go_enter func193,ntmps193;go_wp2_with fail;refine(K2 _ _ _ _ _ ar J).mono ?_;rintro e _⟨p,rfl,nn,di,br⟩;replace di:=I di;replace br:=I br;go_wp2_with fail;refine(oI p xs.length (xs.flatMap va) _ di awr).mono ?_;rintro e _⟨rfl,dI,e8⟩;replace dI:=I dI;have cn:=I (e8.ext (λb ad=>by subst ad;exact nn) br);go_wp2_with fail;go_loopg [6,16] (xs.length) (λg e4 st wr=>∃(k:Nat) (ab:bl) (m c:Nat),g+k=xs.length/\st=.int .u64 (k:Int)/\e4=.slice ab m c/\k=m/\aa (aH wr w 154 5 T.cs ab m c (xs.take k))/\aa (j5 wr p ((xs.drop k).flatMap va))/\aa (Z w wr));case atStart=>exact⟨0,none,0,0,J,rfl,rfl,rfl,aH.nil _ _ _ T.bI,dI,U⟩
 case round=>
  obtain⟨k,ab,m,c,_,rfl,rfl,ho,aJ,bB,X⟩:=hrel;subst ho;by_cases hk:k<xs.length
  ·have b6:=bV.at_ xs[k] (cT hk);have EB:=(K4 b6.name).2;obtain⟨q,fw⟩:∃q:Nat,xs[k].op=(q:Int):=⟨xs[k].op.toNat,by have:=b6.op;omega⟩;have Yc:=b6.op;rw[fw]at Yc;obtain⟨R,kO⟩:∃R,R=(if xs[k].op=8 then [] else Aq xs[k].k xs[k].n xs[k].s.toList):=⟨_,rfl⟩;have aG:(xs.drop k).flatMap va=gY xs[k].nm.toList++(df q++(R++(xs.drop (k+1)).flatMap va)):=by
    rw[Ab hk,ny];unfold va;rw[ig,ig,kO,fw];rfl
   replace fw:=I fw;replace kO:=I kO;replace b6:=I b6;have bf:(k:Int)<(xs.length:Int):=J;go_wp2_with fail;refine(EE p 16 xs[k].nm.toList (df q++(R++(xs.drop (k+1)).flatMap va)) _ (by rw[<-aG];exact bB.ext U) ah J ah).mono ?_;rintro e cB⟨_,_,rfl,ed,sG,n3⟩;have BA:aH cB w 154 5 T.cs ab k c (xs.take k):=n3.bS (aJ.ext U) (bB.gT aJ ah);have sH:Z w cB:=n3.ext (λb ad=>by subst ad;exact nn) U;replace ed:=I ed;replace sG:=I sG;replace BA:=I BA;replace sH:=I sH;go_wp2_with (refine K1 rfl (.tmp 19) 107 9 5 rfl nK Da za rfl ed.aF ?_;intro s hs);obtain rfl:=Nl hs;refine(oI p q (R++(xs.drop (k+1)).flatMap va) _ (sG.ext U) awr).mono ?_;rintro e bA⟨rfl,zb,o8⟩;have az1:=sG.lt;have kP:bA.heap[(cB:Nat)]?=some (.cells #[xs[k].nm,av,av,av,.string ⟨#[]⟩] 154):=(o8.block _ (by simp) J).trans (mu _ _);have Gt:=bZ kP;have pG:aI (·=p) cB bA:=((aI.refl _ cB).alloc _).trans o8;obtain⟨gn,eI,hn,hL,ib,fr⟩:=an0 (show bA.heap[(cB:Nat)]?=some (.cells #[xs[k].nm,av,av,av,.string ⟨#[]⟩] _ _)from kP);replace zb:=I zb;replace kP:=I kP;replace pG:=I pG;by_cases fG:q=8
   ·subst fG;obtain⟨v1,v2,v3⟩:=b6.v0 fw;have uq:xs[k]=⟨xs[k].nm,8,0,0,⟨#[]⟩⟩:=by
     have fo:xs[k].s=⟨#[]⟩:=Nl (by rw[v3,CG]);have cm:xs[k].op=8:=fw.out;generalize xs[k]=t at*;obtain⟨cE,ch,a3,a4,a5⟩:=t;simp only at v1 v2 fo cm;subst v1;subst v2;subst fo;subst cm;rfl
    have sI:R= []:=by rw[kO.out,bc (show xs[k].op=8 from fw)]
    have K7:aI (·=p) cB (bA.setCell (cB,1) (.int .i64 (8))):=pG.setCell (cB,1) (.inr (bJ _)) _;have OE:=I (zb.jD (aI.setCell (S:=λx=>x=(cB:Nat)) (aI.refl _ bA) (cB,1) (.inl rfl) (.int .i64 (8))) kP ah ah);have ID:=I (K7.bS BA (sG.gT BA ah));have OF:=I (K7.ext (λb ad=>by subst ad;exact nn) sH);rw[sI,mN]at OE;have BB:=OE;replace uq:=I uq;go_wp2_with (at_builtin;(refine hc (ys:=xs.take k) rfl (.tmp 35) (.tmp 37) 36 rfl eB _ 56 KB lQ lR lS lT rfl ah rfl (ID.ext ((Z.refl _).alloc _)) (⟨xs[k].nm,8,0,0,⟨#[]⟩⟩:T) _ rfl (fi (cs:=T.cs (⟨xs[k].nm,8,0,0,⟨#[]⟩⟩:T)) (by simp[World.setCell])) (T.cQ _) J ah (Z.size (OF.trans ((Z.refl _).alloc _))) ?_);intro g6 eJ az2 mC q2);change aa _ at mC;have xV:=I ((BB.ext ((Z.refl _).alloc _)).grow q2 (ID.ext ((Z.refl _).alloc (.cells (T.cs (⟨xs[k].nm,8,0,0,⟨#[]⟩⟩:T)).toArray 154))) ah ah);have Aw:=I (q2.ext (ID.ext ((Z.refl _).alloc (.cells (T.cs (⟨xs[k].nm,8,0,0,⟨#[]⟩⟩:T)).toArray 154))) (bJ _) (OF.trans ((Z.refl _).alloc _)));exact ac3
   ·have IB:¬(q:Int)=8:=J;have Gu:aI (·=p) cB (bA.setCell (cB,1) (.int .i64 ((q:Int)))):=pG.setCell (cB,1) (.inr (bJ _)) _;have OE:=I (zb.jD (aI.setCell (S:=λx=>x=(cB:Nat)) (aI.refl _ bA) (cB,1) (.inl rfl) (.int .i64 ((q:Int)))) kP ah ah);rw[kO.out,aV (show ¬xs[k].op=8 from by rw[fw.out];exact IB)]at OE;replace Gu:=I Gu;have IC:=b6.v (by rw[fw.out];exact IB);replace IC:=I IC;go_wp2_with fail;refine(acU p xs[k].k xs[k].n xs[k].s.toList _ _ OE IC).mono ?_;rintro e c4⟨_,tw,rfl,IE,Ax⟩;obtain rfl:=Nl tw;have zc:c4.heap[(cB:Nat)]?=some (.cells #[xs[k].nm,(q:Int),av,av,.string ⟨#[]⟩] 154):=(Ax.block _ (by simpa[World.setCell]using Gt) J).trans (en kP 1 _);replace gn:c4.cell? (cB,0)=some ↑xs[k].nm:=aL zc rfl;replace eI:c4.cell? (cB,1)=some ↑(q:Int):=aL zc rfl;replace hn:c4.cell? (cB,2)=some ↑av:=aL zc rfl;replace hL:c4.cell? (cB,3)=some ↑av:=aL zc rfl;replace ib:c4.cell? (cB,4)=some (.string ⟨#[]⟩):=aL zc rfl;replace fr:∀j,c4.frozen? ⟨(cB:Nat),j,none⟩=false:=λj=>nM zc;have lz:=xS (Gu.trans Ax) (R:=(cB:Nat)) (.inr (bJ _)) 2 3 4 xs[k].k xs[k].n xs[k].s;have ID:=I (lz.bS BA (sG.gT BA ah));have OF:=I (lz.ext (λb ad=>by subst ad;exact nn) sH);have BB:=I (IE.jD (xS (S:=λx=>x=(cB:Nat)) (aI.refl _ c4) (R:=(cB:Nat)) (.inl rfl) 2 3 4 xs[k].k xs[k].n xs[k].s) zc ah ah);have uq:xs[k]=⟨xs[k].nm,(q:Int),xs[k].k,xs[k].n,xs[k].s⟩:=by
     have cm:=fw.out;generalize xs[k]=t at*;obtain⟨cE,ch,a3,a4,a5⟩:=t;simp only at cm;subst cm;rfl
    replace uq:=I uq;go_wp2_with (at_builtin;(refine hc (ys:=xs.take k) rfl (.tmp 35) (.tmp 37) 36 rfl eB _ 56 KB lQ lR lS lT rfl ah rfl (ID.ext ((Z.refl _).alloc _)) (⟨xs[k].nm,(q:Int),xs[k].k,xs[k].n,xs[k].s⟩:T) _ rfl (fi (cs:=T.cs (⟨xs[k].nm,(q:Int),xs[k].k,xs[k].n,xs[k].s⟩:T)) (by simp[World.setCell])) (T.cQ _) J ah (Z.size (OF.trans ((Z.refl _).alloc _))) ?_);intro _ _ _ mC q2);change aa _ at mC;have xV:=I ((BB.ext ((Z.refl _).alloc _)).grow q2 (ID.ext ((Z.refl _).alloc (.cells (T.cs (⟨xs[k].nm,(q:Int),xs[k].k,xs[k].n,xs[k].s⟩:T)).toArray 154))) ah ah);have Aw:=I (q2.ext (ID.ext ((Z.refl _).alloc (.cells (T.cs (⟨xs[k].nm,(q:Int),xs[k].k,xs[k].n,xs[k].s⟩:T)).toArray 154))) (bJ _) (OF.trans ((Z.refl _).alloc _)));exact ac3
  ·refine sy ?_;intro cb;rw[cb]at aJ;have iN:j5 wr p []:=by have:=bB.out;rw[K6 J]at this;exact this
   have Av:xG (nE xs)=0:=by rw[bV.nk];rfl
   replace Av:=I Av;replace iN:=I iN;go_wp2_with fail;refine(Ar p _ iN).mono ?_;rintro e _⟨rfl,il⟩;replace il:=I il;go_wp2_with fail;refine(R8 ab k c xs _ (aJ.aF.ext il)).mono ?_;exact ac2
structure dY (i:ax):Prop where
 b:0<=i.b/\i.b<16
 l:nO i.l
 s:nO i.s
structure gZ (d:bb):Prop where
 id:dY d.id
 c:0<=d.c/\d.c<32
 u:nO d.u
 k:(d.k=1/\d.u=0/\d.ts= []/\d.aX.length<=8/\∀e,e∈d.aX->Au e)\/(d.k=2/\d.aX= []/\Dc d.ts)\/(d.k=3/\d.ts= []/\d.aX= [])
def gZ.r8(h:gZ d):my d:=by
 rcases h.k with ⟨_,_,aO,bt,cC⟩|⟨_,an,aO⟩|⟨_,an,aO⟩
 ·exact⟨by rw[aO];simp,J,λe he=>by have:=(cC e he).len;omega⟩
 ·exact⟨by have:=aO.len;omega,by rw[an];simp,λe he=>by rw[an]at he;cases he⟩
 ·exact⟨by rw[an];simp,by rw[aO];simp,λe he=>by rw[aO]at he;cases he⟩
def Td(b l s:Int)(w:aC)(aZ:0<=b)(af:b<16):aS 196 #[.agg #[b,ae l,ae s]] w (cU (.bool true) w):=by
 go_enter func196,ntmps196;go_wp2;go_ret;refine⟨by simp[aZ,af],?_⟩;exact U
def aoi(b l s c:Int)(eS dL:bl)(eT dO:Nat)(cD:List eu)(w:aC)(aZ:0<=b)(af:b<16)(an:0<=c)(aO:c<32)(bV:vO w dL cD.length dO cD)(fG:cD.length<=8)(fK:∀y,y∈cD->vb y.dt=true):
  aS 194 #[.agg #[bo 1,b,ae l,ae s,c,aw,.slice eS 0 eT,ao dL cD.length dO]] w λe w'=>e=.returned av/\Z w w':=by
 change aa _ at bV fK;go_enter func194,ntmps194;go_wp2_with fail;refine(Td _ _ _ _ aZ af).mono ?_;rintro e w1⟨rfl,ad⟩;have cO:w1.cell? (w,0)=some ↑(bo 1):=ad.ag (by simp);have dF:w1.cell? (w,4)=some ↑c:=ad.ag (by simp);have dH:w1.cell? (w,5)=some ↑aw:=ad.ag (by simp);have eJ:w1.cell? (w,6)=some (.slice eS 0 eT):=ad.ag (by simp);have eM:w1.cell? (w,7)=some ↑(ao dL cD.length dO):=ad.ag (by simp);refine Sp ?_;intro hy;clear ad;have IB:(cD.length:Int)<=8:=J;go_wp2_with fail;go_loopg [3,4] (cD.length) (λg e4 st wr=>∃k:Nat,g+k=cD.length/\st=.int .i64 k/\e4=.bool true/\aa (Z w1 wr));case atStart=>exact⟨0,J,rfl,by simp[IB],Z.refl _⟩
 case round=>
  obtain⟨k,_,rfl,rfl,X⟩:=hrel;have d7:=X.ag eM;by_cases hk:k<cD.length
  ·obtain⟨b,o,j2,al⟩:=bV.aF.get k hk;have d0:=Ep (w:=wr) (b:=b) (o:=o+k*1) (x:=cD[k]) (λj v aD=>X.ag (hy.ag (al j v aD)));rw[jd]at d0;rw[j2]at d7;clear al j2;have b0:(0:Int)<=(k:Int):=J;have bf:(k:Int)<(cD.length:Int):=J;go_wp2_with fail;refine(S9 _ _ _ cD[k].dt _ ((bV.dt cD[k] (cT hk)).ext U)).mono ?_;rintro e _⟨he,lO⟩;rw[fK.out cD[k] (cT hk)]at he;subst he;change aa _ at lO;go_wp2;go_roundg (gk - 1);case measure=>omega
   case rel=>exact⟨k+1,J,by go_num,by simp[EG],U⟩
  exact Xk
def Yd(b:Bool):Int:=if b=true then 0 else 110
def aoj(b:Bool):(b=true/\xG b=0)\/(b=false/\xG b=50):=by cases b<;>simp[xG]
def ac4(b l s c u:Int)(eS dL:bl)(fn eT dO:Nat)(ts:List T)(w:aC)(aZ:0<=b)(af:b<16)(an:0<=c)(aO:c<32)(eh:a7 w 5 T.cs eS fn eT ts):
  aS 194 #[.agg #[bo 2,b,ae l,ae s,c,ae u,ao eS fn eT,.slice dL 0 dO]] w (cU (.int .i64 (Yd (nE ts))) w):=by
 change aa _ at eh;go_enter func194,ntmps194;go_wp2_with fail;refine(Td _ _ _ _ aZ af).mono ?_;rintro e w1⟨rfl,ad⟩;have cO:w1.cell? (w,0)=some ↑(bo 2):=ad.ag (by simp);have dF:w1.cell? (w,4)=some ↑c:=ad.ag (by simp);have eJ:w1.cell? (w,6)=some ↑(ao eS fn eT):=ad.ag (by simp);have eM:w1.cell? (w,7)=some (.slice dL 0 dO):=ad.ag (by simp);refine Sp ?_;intro hy;clear ad;go_wp2_with fail;refine(R8 _ _ _ ts _ (eh.ext U)).mono ?_;rintro e _⟨he,lO⟩;change aa _ at lO;rcases aoj (nE ts)with ⟨h,q⟩|⟨h,q⟩;exact ac5;exact ac5
def ac6(b l s c u:Int)(eS dL:bl)(eT dO:Nat)(w:aC)(aZ:0<=b)(af:b<16)(an:0<=c)(aO:c<32)(eh:a7 w 5 T.cs eS 0 eT []):
  aS 194 #[.agg #[bo 3,b,ae l,ae s,c,ae u,.slice eS 0 eT,.slice dL 0 dO]] w λe w'=>e=.returned av/\Z w w':=by
 change aa _ at eh;go_enter func194,ntmps194;go_wp2_with fail;refine(Td _ _ _ _ aZ af).mono ?_;rintro e w1⟨rfl,ad⟩;have cO:w1.cell? (w,0)=some ↑(bo 3):=ad.ag (by simp);have dF:w1.cell? (w,4)=some ↑c:=ad.ag (by simp);have eJ:w1.cell? (w,6)=some (.slice eS 0 eT):=ad.ag (by simp);have eM:w1.cell? (w,7)=some (.slice dL 0 dO):=ad.ag (by simp);refine Sp ?_;intro hy;clear ad;go_wp2_with fail;refine(R8 _ _ _ [] _ (eh.ext U)).mono ?_;rintro e _⟨he,lO⟩;change aa _ at lO;have q:xG (nE [])=0:=rfl;rw[q]at he;subst he;clear q;go_wp2;go_ret;refine⟨rfl,?_⟩;exact U
def IF(x:bR)(d:bb)(w:aC)(eL:hK w x d)(aG:gZ d):aS 194 #[x] w λe w'=>e=.returned av/\Z w w':=by
 obtain⟨_,_,_,_,⟨_,fn,_⟩,⟨_,eC,_⟩⟩:=x;obtain⟨af,an,aO,bt,cC,fV⟩:=eL;dsimp only at af an aO bt cC fV ⊢;subst af;subst an;subst aO;subst bt;have ad:=aG.id.b;have al:=aG.c;obtain⟨cD,uh,sJ⟩:=fV;have r9:=sJ.aF.neq;rcases aG.k with ⟨bH,b1,dJ,eG,h4⟩|⟨bH,b1,dJ⟩|⟨bH,b1,dJ⟩
 ·rw[bH,b1];obtain rfl:fn=0:=by have:=cC.neq;rw[dJ]at this;exact this
  subst r9;exact aoi _ _ _ _ _ _ _ _ cD w ad.1 ad.2 al.1 al.2 sJ (by rw[<-uh,cx]at eG;exact eG) (λy hy=>(h4 y.dt (by rw[<-uh];exact nH hy)).nk)
 ·rw[bH];obtain rfl:eC=0:=by rw[b1]at uh;rw[Te.1 uh]at r9;exact r9
  refine(ac4 _ _ _ _ _ _ _ _ _ _ d.ts w ad.1 ad.2 al.1 al.2 cC).mono ?_;rintro e w'⟨rfl,ad⟩;rw[dJ.nk];exact⟨rfl,ad⟩
 ·rw[bH];obtain rfl:eC=0:=by rw[dJ]at uh;rw[Te.1 uh]at r9;exact r9
  obtain rfl:fn=0:=by have:=cC.neq;rw[b1]at this;exact this
  rw[b1]at cC;exact ac6 _ _ _ _ _ _ _ _ _ w ad.1 ad.2 al.1 al.2 cC
def Tf(a:bl)(n cap:Nat)(xs:eg)(i:ax)(w:aC)(ar:a7 w 1 cr a n cap xs)(aK:dY i)(aq:n<=100000):
  aS 200 #[ao a n cap,i] w (qp 5 1 cr (xs++iK i) w):=by
 obtain⟨b,l,s⟩:=i;obtain⟨ad,a1,hs⟩:=aK;dsimp only at ad a1 hs ⊢;obtain⟨q,rfl⟩:∃q:Nat,b=(q:Int):=⟨b.toNat,J⟩;obtain⟨L,rfl⟩:∃q:Nat,l=(q:Int):=⟨l.toNat,by unfold nO at a1;omega⟩;obtain⟨S,rfl⟩:∃q:Nat,s=(q:Int):=⟨s.toNat,by unfold nO at hs;omega⟩;refine Tg ?_;intro eV EH;change aa _ at ar;go_enter func200,ntmps200;go_wp2_with fail;refine(kh _ _ _ _ q _ ((ar.ext U)) qv J).mono ?_;rintro e w1⟨cE,da,_,rfl,c7,br⟩;have hA:da<=100010:=by
  have af:=c7.neq;have an:=hV q;have aO:=((ar.ext U)).neq;rw[c9]at af;omega
 have lP:w1.cell? (w,1)=some ↑(ae (L:Int)):=br.ag (by simp);have jE:w1.cell? (w,2)=some ↑(ae (S:Int)):=br.ag (by simp);change aa _ at c7 br;go_wp2_with fail;refine(kh _ _ _ _ L _ (c7.aF) qv J).mono ?_;rintro e _⟨ch,cF,_,rfl,cd,cn⟩;have kA:cF<=100020:=by
  have af:=cd.neq;have an:=hV L;have aO:=(c7.aF).neq;rw[c9]at af;omega
 exact ac7
def EI(i:ax):(iK i).length<=27:=by
 unfold iK;rw[c9,c9];exact ac8
def aok(b l s:Int)(q eo:Nat)(eS dL:bl)(eT dO:Nat)(w:aC)(BC:dY ⟨b,l,s⟩)(aO:q<32)(fN:gw eo)(OG:aS 194 #[.agg #[bo 3,b,ae l,ae s,(q:Int),ae (eo:Int),.slice eS 0 eT,.slice dL 0 dO]] (w.alloc (.cells #[bo 3,b,ae l,ae s,(q:Int),ae (eo:Int),.slice eS 0 eT,.slice dL 0 dO] 66)) λe w'=>e=.returned av/\Z (w.alloc (.cells #[bo 3,b,ae l,ae s,(q:Int),ae (eo:Int),.slice eS 0 eT,.slice dL 0 dO] 66)) w'):
  aS 198 #[.agg #[bo 3,b,ae l,ae s,(q:Int),ae (eo:Int),.slice eS 0 eT,.slice dL 0 dO]] w (xe (df 3++(iK ⟨b,l,s⟩++(df q++df eo))) w):=by
 replace BC:=I BC;go_enter func198,ntmps198;go_wp2_with fail;refine OG.mono ?_;rintro e w1⟨rfl,br⟩;have dU:w1.cell? (w,0)=some ↑(bo 3):=br.ag (by simp);refine Ye ?_;intro cm cq fo iM;have kB:w1.cell? (w,5)=some ↑(ae (eo:Int)):=br.ag (by simp);have mi:w1.cell? (w,6)=some (.slice eS 0 eT):=br.ag (by simp);have lA:w1.cell? (w,7)=some (.slice dL 0 dO):=br.ag (by simp);replace br:=I br;go_wp2_with fail;go_region_held3 (λw'=>w'.cell? (w,0)=some ↑(bo 3)/\w'.cell? (w,1)=some ↑b/\w'.cell? (w,2)=some ↑(ae l)/\w'.cell? (w,3)=some ↑(ae s)) (first|(go_split_ands;refine⟨?_,?_,?_,?_⟩<;>exact(Hid.out hy).ag (by assumption))|go_keep) (first|(go_at_call 197;refine(kh _ _ _ [] 3 _ (a7.nil _ cr.bI) awr J).mono ?_;rintro e _⟨ch,cF,_,rfl,aM,ad⟩;have kA:cF<=10:=(by rw[aM.neq,mN];have:=hV 3;omega);have cd:=I aM;have hy:=I ad;have cn:=I ad)|(go_at_call 200;refine(Tf _ _ _ _ ⟨b,l,s⟩ _ (cd.aF.ext U) BC J).mono ?_;rintro e _⟨a3,fI,_,rfl,aM,ad⟩;have cK:=I aM;have hy:=I ad;have dz:=I ad));refine Yf ?_;intro v8;replace dU:=dz.ag (cn.ag (show w1.drew.cell? _=_ from dU));replace iM:=dz.ag (cn.ag (show w1.drew.cell? _=_ from iM));replace kB:=dz.ag (cn.ag (show w1.drew.cell? _=_ from kB));replace mi:=dz.ag (cn.ag (show w1.drew.cell? _=_ from mi));replace lA:=dz.ag (cn.ag (show w1.drew.cell? _=_ from lA));go_wp2_with fail;refine Yg ?_;intro cB a4 mz dF ed eQ De;replace dU:=eQ.ag dU;replace iM:=eQ.ag iM;replace kB:=eQ.ag kB;replace mi:=eQ.ag mi;replace lA:=eQ.ag lA;replace ed:=I ed;replace eQ:=I eQ;go_wp2_with fail;refine(kh _ _ _ _ eo _ (ed.aF) qv J).mono ?_;rintro e _⟨a5,hM,dH,rfl,hq,ez⟩;replace dU:=ez.ag dU;replace iM:=ez.ag iM;replace kB:=ez.ag kB;replace mi:=ez.ag mi;replace lA:=ez.ag lA;replace hq:=I hq;replace ez:=I ez;refine Yh ?_;intro hg;go_wp2;go_ret2;exact⟨a5,hM,dH,rfl,hg,U⟩
def aol(b l s:Int)(q eo:Nat)(eS dL:bl)(fn eT dO:Nat)(ts:List T)(w:aC)(BC:dY ⟨b,l,s⟩)(aO:q<32)(fN:gw eo)(eh:a7 w 5 T.cs eS fn eT ts)(bV:Dc ts)(OG:aS 194 #[.agg #[bo 2,b,ae l,ae s,(q:Int),ae (eo:Int),ao eS fn eT,.slice dL 0 dO]] (w.alloc (.cells #[bo 2,b,ae l,ae s,(q:Int),ae (eo:Int),ao eS fn eT,.slice dL 0 dO] 66)) λe w'=>e=.returned av/\Z (w.alloc (.cells #[bo 2,b,ae l,ae s,(q:Int),ae (eo:Int),ao eS fn eT,.slice dL 0 dO] 66)) w'):
  aS 198 #[.agg #[bo 2,b,ae l,ae s,(q:Int),ae (eo:Int),ao eS fn eT,.slice dL 0 dO]] w (xe (df 2++(iK ⟨b,l,s⟩++(df q++(df eo++gY (Bz ts))))) w):=by
 replace BC:=I BC;replace eh:=I eh;replace bV:=I bV;go_enter func198,ntmps198;go_wp2_with fail;refine OG.mono ?_;rintro e w1⟨rfl,br⟩;have dU:w1.cell? (w,0)=some ↑(bo 2):=br.ag (by simp);refine Ye ?_;intro cm cq fo iM;have kB:w1.cell? (w,5)=some ↑(ae (eo:Int)):=br.ag (by simp);have mi:w1.cell? (w,6)=some ↑(ao eS fn eT):=br.ag (by simp);have lA:w1.cell? (w,7)=some (.slice dL 0 dO):=br.ag (by simp);replace br:=I br;go_wp2_with fail;go_region_held3 (λw'=>w'.cell? (w,0)=some ↑(bo 2)/\w'.cell? (w,1)=some ↑b/\w'.cell? (w,2)=some ↑(ae l)/\w'.cell? (w,3)=some ↑(ae s)) (first|(go_split_ands;refine⟨?_,?_,?_,?_⟩<;>exact(Hid.out hy).ag (by assumption))|go_keep) (first|(go_at_call 197;refine(kh _ _ _ [] 2 _ (a7.nil _ cr.bI) awr J).mono ?_;rintro e _⟨ch,cF,_,rfl,aM,ad⟩;have kA:cF<=10:=(by rw[aM.neq,mN];have:=hV 2;omega);have cd:=I aM;have hy:=I ad;have cn:=I ad)|(go_at_call 200;refine(Tf _ _ _ _ ⟨b,l,s⟩ _ (cd.aF.ext U) BC J).mono ?_;rintro e _⟨a3,fI,_,rfl,aM,ad⟩;have cK:=I aM;have hy:=I ad;have dz:=I ad));refine Yf ?_;intro v8;replace dU:=dz.ag (cn.ag (show w1.drew.cell? _=_ from dU));replace iM:=dz.ag (cn.ag (show w1.drew.cell? _=_ from iM));replace kB:=dz.ag (cn.ag (show w1.drew.cell? _=_ from kB));replace mi:=dz.ag (cn.ag (show w1.drew.cell? _=_ from mi));replace lA:=dz.ag (cn.ag (show w1.drew.cell? _=_ from lA));go_wp2_with fail;refine Yg ?_;intro cB a4 mz dF ed eQ De;replace dU:=eQ.ag dU;replace iM:=eQ.ag iM;replace kB:=eQ.ag kB;replace mi:=eQ.ag mi;replace lA:=eQ.ag lA;replace ed:=I ed;replace eQ:=I eQ;go_wp2_with fail;refine(kh _ _ _ _ eo _ (ed.aF) qv J).mono ?_;rintro e _⟨a5,hM,_,rfl,hq,ez⟩;have Yi:hM<=80:=by
  have af:=hq.neq;have an:=hV eo;have aO:=(ed.aF).neq;rw[c9]at af;omega
 replace dU:=ez.ag dU;replace iM:=ez.ag iM;replace kB:=ez.ag kB;replace mi:=ez.ag mi;replace lA:=ez.ag lA;replace hq:=I hq;replace ez:=I ez;refine Yh ?_;intro hg;go_wp2_with fail;refine(aof _ _ _ ts _ (eh.ext U) bV).mono ?_;rintro e _⟨r7,n6,_,rfl,k5,ic⟩;have Df:n6<=1000:=by rw[k5.neq];exact Ya bV
 replace k5:=I k5;replace ic:=I ic;go_wp2_with fail;refine(Iw _ _ _ _ _ _ _ _ _ (hq.aF.ext ic) k5.aF J J).mono ?_;rintro e _⟨nP,n7,eM,rfl,ly,il⟩;replace ly:=I ly;replace il:=I il;go_wp2;go_ret2;refine⟨nP,n7,eM,rfl,?_,U⟩;have h:=ly.mono (aBw:=(w:Nat)) (Z.size U);rw[mN]at h;exact IA
def aom(b l s:Int)(q:Nat)(eS dL:bl)(eT dO:Nat)(cD:List eu)(w:aC)(BC:dY ⟨b,l,s⟩)(aO:q<32)(bV:vO w dL cD.length dO cD)(fG:cD.length<=8)(fK:∀y,y∈cD->Au y.dt)(OG:aS 194 #[.agg #[bo 1,b,ae l,ae s,(q:Int),aw,.slice eS 0 eT,ao dL cD.length dO]] (w.alloc (.cells #[bo 1,b,ae l,ae s,(q:Int),aw,.slice eS 0 eT,ao dL cD.length dO] 66)) λe w'=>e=.returned av/\Z (w.alloc (.cells #[bo 1,b,ae l,ae s,(q:Int),aw,.slice eS 0 eT,ao dL cD.length dO] 66)) w'):
  aS 198 #[.agg #[bo 1,b,ae l,ae s,(q:Int),aw,.slice eS 0 eT,ao dL cD.length dO]] w (xe (df 1++(iK ⟨b,l,s⟩++(df q++(df 0++(df cD.length++cD.flatMap (λy=>gY (o7 y.dt))))))) w):=by
 replace BC:=I BC;replace bV:=I bV;replace fK:=I fK;go_enter func198,ntmps198;go_wp2_with fail;refine OG.mono ?_;rintro e w1⟨rfl,br⟩;have dU:w1.cell? (w,0)=some ↑(bo 1):=br.ag (by simp);refine Ye ?_;intro cm cq fo iM;have kB:w1.cell? (w,5)=some ↑aw:=br.ag (by simp);have mi:w1.cell? (w,6)=some (.slice eS 0 eT):=br.ag (by simp);have lA:w1.cell? (w,7)=some ↑(ao dL cD.length dO):=br.ag (by simp);replace br:=I br;go_wp2_with fail;go_region_held3 (λw'=>w'.cell? (w,0)=some ↑(bo 1)/\w'.cell? (w,1)=some ↑b/\w'.cell? (w,2)=some ↑(ae l)/\w'.cell? (w,3)=some ↑(ae s)) (first|(go_split_ands;refine⟨?_,?_,?_,?_⟩<;>exact(Hid.out hy).ag (by assumption))|go_keep) (first|(go_at_call 197;refine(kh _ _ _ [] 1 _ (a7.nil _ cr.bI) awr J).mono ?_;rintro e _⟨ch,cF,_,rfl,aM,ad⟩;have kA:cF<=10:=(by rw[aM.neq,mN];have:=hV 1;omega);have cd:=I aM;have hy:=I ad;have cn:=I ad)|(go_at_call 200;refine(Tf _ _ _ _ ⟨b,l,s⟩ _ (cd.aF.ext U) BC J).mono ?_;rintro e _⟨a3,fI,_,rfl,aM,ad⟩;have cK:=I aM;have hy:=I ad;have dz:=I ad));refine Yf ?_;intro v8;replace dU:=dz.ag (cn.ag (show w1.drew.cell? _=_ from dU));replace iM:=dz.ag (cn.ag (show w1.drew.cell? _=_ from iM));replace kB:=dz.ag (cn.ag (show w1.drew.cell? _=_ from kB));replace mi:=dz.ag (cn.ag (show w1.drew.cell? _=_ from mi));replace lA:=dz.ag (cn.ag (show w1.drew.cell? _=_ from lA));go_wp2_with fail;refine Yg ?_;intro cB a4 mz dF ed eQ De;replace dU:=eQ.ag dU;replace iM:=eQ.ag iM;replace kB:=eQ.ag kB;replace mi:=eQ.ag mi;replace lA:=eQ.ag lA;replace ed:=I ed;replace eQ:=I eQ;go_wp2_with fail;refine(kh _ _ _ _ 0 _ (ed.aF) qv J).mono ?_;rintro e _⟨a5,hM,_,rfl,hq,ez⟩;have Yi:hM<=80:=by
  have af:=hq.neq;have an:=hV 0;have aO:=(ed.aF).neq;rw[c9]at af;omega
 replace dU:=ez.ag dU;replace iM:=ez.ag iM;replace kB:=ez.ag kB;replace mi:=ez.ag mi;replace lA:=ez.ag lA;replace hq:=I hq;replace ez:=I ez;refine Yh ?_;intro hg;go_wp2_with fail;refine(kh _ _ _ _ cD.length _ (hq.aF) qv J).mono ?_;rintro e _⟨r7,n6,_,rfl,k5,ic⟩;have Df:n6<=90:=by
  have af:=k5.neq;have an:=hV cD.length;have aO:=(hq.aF).neq;rw[c9]at af;omega
 replace lA:=ic.ag lA;replace k5:=I k5;replace ic:=I ic;have ki:=k5.mono (aBw:=(w:Nat)) (Z.size U);rw[mN]at ki;simp only[ig]at ki;replace ki:=I ki;go_wp2_with fail;obtain⟨aon,ac9⟩:∃P,P=df 1++(iK ⟨b,l,s⟩++(df q++(df 0++df cD.length))):=⟨_,rfl⟩;go_loopg [5,46] (cD.length) (λg e4 st wr=>∃(k:Nat) (ab:bl) (m c:Nat),g+k=cD.length/\st=.int .i64 k/\e4=.slice ab m c/\m<=90+1720*k/\aa (aH wr w 5 1 cr ab m c (aon++(cD.take k).flatMap (λy=>gY (o7 y.dt))))/\aa (Z w wr));case atStart=>exact⟨0,_,_,_,J,rfl,rfl,J,(by rw[EC,Th,nc,ac9];exact ki),U⟩
 case round=>
  obtain⟨k,ab,m,c,_,rfl,rfl,_,aJ,X⟩:=hrel;by_cases hk:k<cD.length
  ·obtain⟨cP,o,rfl,al⟩:=bV.aF.get k hk;have b7:Z w wr:=X.out;have d0:=Ep (w:=wr) (b:=cP) (o:=o+k*1) (x:=cD[k]) (λj v aD=>b7.ag (al j v aD));rw[jd]at d0;have rB:=I ((bV.dt cD[k] (cT hk)).ext b7);have IG:=I (fK cD[k] (cT hk));have b0:(0:Int)<=(k:Int):=J;have bf:(k:Int)<(cD.length:Int):=J;go_wp2_with fail;refine(aob _ _ _ cD[k].dt _ rB IG).mono ?_;rintro e _⟨nP,n7,_,rfl,ly,il⟩;have ada:n7<=1700:=by rw[ly.neq];exact S8 IG
   replace ly:=I ly;replace il:=I il;go_wp2_with fail;refine(Iw _ _ _ _ _ _ _ _ _ (aJ.aF.ext il) ly.aF J J).mono ?_;rintro e _⟨_,n8,_,rfl,sK,hP⟩;have Yj:n8<=90+1720*(k+1):=by
    have af:=sK.neq;have an:=xP (o7 cD[k].dt).length;have bt:=S8 IG;rw[c9,<-aJ.neq,y8]at af;omega
   replace sK:=I sK;replace hP:=I hP;go_wp2;go_roundg (gk - 1);case measure=>omega
   case rel=>
    refine⟨k+1,_,_,_,J,by go_num,rfl,Yj,?_,U⟩;have h:=sK.mono (aBw:=(w:Nat)) (Z.size U);rw[iv hk,vN,Kt,<-ig];exact h
  ·refine KP ?_;intro cb;rw[cb]at aJ;go_wp2;go_ret2;refine⟨ab,m,c,rfl,?_,U⟩;have h:=aJ.out;rw[ac9]at h;exact IA
def aoo(f:List cI->eg)(cD:List eu):cD.flatMap (λy=>f y.dt)=(cD.map (·.dt)).flatMap f:=by rw[List.flatMap_map]
def Yk(x:bR)(d:bb)(w:aC)(eL:hK w x d)(aG:gZ d):aS 198 #[x] w (xe (iL d) w):=by
 obtain⟨_,⟨b,l,s⟩,iI,mb,⟨eS,fn,eT⟩,⟨dL,eC,dO⟩⟩:=x;obtain⟨_,_,_,_,OH,_⟩:=d;have b7:=λo:Obj=>eL.ext ((Z.refl w).alloc o);obtain⟨af,an,aO,bt,cC,fV⟩:=eL;dsimp only at af an aO bt cC fV ⊢;subst af;subst an;subst aO;subst bt;have ad:=aG.id.b;have al:=aG.c;have aj:=aG.u;have I:=aG.id;have hk:=aG.k;dsimp only at ad al aj I hk;obtain⟨q,rfl⟩:∃q:Nat,iI=(q:Int):=⟨iI.toNat,J⟩;obtain⟨eo,rfl⟩:∃q:Nat,mb=(q:Int):=⟨mb.toNat,by unfold nO at aj;omega⟩;have fN:gw eo:=by unfold nO at aj;unfold gw;omega
 obtain⟨cD,uh,sJ⟩:=fV;have r9:=sJ.aF.neq;have bs:q<32:=J;have ze:=λo:Obj=>IF _ _ _ (b7 o) aG;dsimp only at ze;rcases hk with ⟨rfl,b1,rfl,eG,h4⟩|⟨rfl,rfl,dJ⟩|⟨rfl,rfl,rfl⟩
 ·obtain rfl:fn=0:=cC.neq;subst r9;obtain rfl:eo=0:=J;have h:=aom b l s q eS dL eT dO cD w I bs sJ (by rw[<-uh,cx]at eG;exact eG) (λy hy=>h4 y.dt (by rw[<-uh];exact nH hy)) (ze _);unfold iL;rw[bc rfl,<-uh,cx,<-aoo (λe=>gY (o7 e))];exact h
 ·rw[Te.1 uh]at r9;obtain rfl:eC=0:=r9;have h:=aol b l s q eo eS dL fn eT dO OH w I bs fN cC dJ (ze _);unfold iL;rw[aV (show ¬(2:Int)=1 by decide),bc rfl];exact h
 ·rw[Te.1 uh]at r9;obtain rfl:eC=0:=r9;obtain rfl:fn=0:=cC.neq;have h:=aok b l s q eo eS dL eT dO w I bs fN (ze _);unfold iL;rw[aV (show ¬(3:Int)=1 by decide),aV (show ¬(3:Int)=2 by decide),nc];exact h
def BD(p m:Nat)(L:Int)(xs:eg)(w:aC)(bB:j5 w p (df m++xs))(hm:(m:Int)<L)(eV:L<=1000):
  aS 127 #[p,L] w λe w'=>e=.returned (m:Int)/\j5 w' p xs/\aI (·=p) w w':=by
 go_enter func127,ntmps127;go_wp2_with fail;refine(oI p m xs _ bB awr).mono ?_;rintro e _⟨rfl,H1,dg⟩;change aa _ at H1 dg;have az3:IntKind.u64.wrap L=L:=by simp only[wrap64,IntKind.wrap_u64];omega
 have az4:wrap64 (m:Int)=(m:Int):=by simp only[wrap64];omega
 go_wp2;go_ret;refine⟨jk ?_,H1,dg⟩;omega
def OI(p:Nat)(i:ax)(xs:eg)(w:aC)(cw:j5 w p (iK i++xs))(aK:dY i):
  aS 131 #[p] w λe w'=>e=.returned (.agg #[i.b,ae i.l,ae i.s])/\j5 w' p xs/\aI (·=p) w w':=by
 obtain⟨b,l,s⟩:=i;obtain⟨ad,a1,hs⟩:=aK;dsimp only at ad a1 hs ⊢;obtain⟨q,rfl⟩:∃q:Nat,b=(q:Int):=⟨b.toNat,J⟩;obtain⟨L,rfl⟩:∃q:Nat,l=(q:Int):=⟨l.toNat,by unfold nO at a1;omega⟩;obtain⟨S,rfl⟩:∃q:Nat,s=(q:Int):=⟨s.toNat,by unfold nO at hs;omega⟩;refine Tg ?_;intro eV EH;unfold iK at cw;simp only[ig,kN]at cw;have aY:=cw.lt;change aa _ at cw;clear a1 hs;go_enter func131,ntmps131;go_wp2_with fail;refine(BD p q 16 (df L++(df S++xs)) _ (cw.ext U) J ah).mono ?_;rintro e w1⟨rfl,di,ur⟩;have ks:w1.heap[(w:Nat)]?=some (hr:Obj):=(ur.block _ (by simp) J).trans (mu _ _);have BE:=di.lt;have ih:aI (·=p) w w1:=((aI.refl _ w).alloc _).trans ur;change aa _ at di ih ks;clear ur;go_wp2_with fail;refine(oI p L (df S++xs) _ (di.ext U) eV).mono ?_;rintro e aN⟨rfl,dI,e8⟩;refine adb ?_;intro tz tA;have jx:aI (·=p) w aN:=(ih.alloc _).trans e8;obtain⟨cA,cR,cS,ff⟩:=qu (show aN.heap[(w1:Nat)]?=some (.cells #[(q:Int),aw,aw] _ _)from tA);have Dg:=bZ tA;have fj:=ih.size;change aa _ at dI jx tz tA;clear e8;go_wp2_with fail;have dj:¬w.heap.size=w1.heap.size:=vc (bZ ks);have ade:aI (·=p) w (aN.setCell ⟨w1.heap.size,1,none⟩ (.int .u64 (L:Int))):=jx.setCell ⟨w1.heap.size,1,none⟩ (.inr fj) _;have OJ:aI (λx=>x=w1.heap.size) aN (aN.setCell ⟨w1.heap.size,1,none⟩ (.int .u64 (L:Int))):=aI.setCell (S:=λx=>x=w1.heap.size) (aI.refl _ aN) ⟨w1.heap.size,1,none⟩ (.inl rfl) _;refine(oI p S xs _ (dI.jD OJ tA ah ah) EH).mono ?_;rintro e a6⟨rfl,jF,h8⟩;have IH:a6.heap[(w1:Nat)]?=some (.cells #[(q:Int),ae (L:Int),aw] 54):=(h8.block _ (fQ Dg OJ.size) J).trans (en tA 1 _);have EJ:a6.heap[(w:Nat)]?=some (hr:Obj):=(h8.block _ (fQ (bZ tz) OJ.size) J).trans ((OJ.block _ (bZ tz) dj).trans tz);have iY:=ade.trans h8;clear cA cR cS ff;obtain⟨_,_,_,_⟩:=qu (show a6.heap[(w1:Nat)]?=some (.cells #[(q:Int),ae (L:Int),aw] _ _)from IH);obtain⟨z0,cZ,z2,_⟩:=qu (show a6.heap[(w:Nat)]?=some (.cells #[av,aw,aw] _ _)from EJ);change aa _ at jF iY EJ IH;clear h8 ade OJ;go_wp2_with fail;refine adf ?_;intro zf;have oJ:=jF.jD zf IH ah ah;have hL:=(zf.block _ (bZ EJ) dj).trans EJ;refine ke (v:=.agg #[(q:Int),ae (L:Int),ae (S:Int)]) (by simp[results,results131,go_sem,z0,cZ,z2,dj]) rfl ⟨rfl,oJ.jD (xS (S:=λx=>x=w.heap.size) (aI.refl _ _) (R:=w.heap.size) (.inl rfl) 0 1 2 _ _ _) hL ah ah,xS (iY.setCell ⟨w1.heap.size,2,none⟩ (.inr fj) _) (.inr (bJ _)) 0 1 2 _ _ _⟩
section
def aH.eW{w:aC}{B:Nat}{t:TypeId}{c:α->List Value}{ys:List α}{cs:Array Value}(h:aH w base e sz c aA n cap ys)(ad:w.heap[B]?=some (.cells cs t fr))(dj:e≠t):∀ai,aA=some ai->¬ai.block=B:=by
 intro _ ak bs;subst ak;rcases h.row.2 with ⟨bw,_⟩|⟨g,aR,cur,bw,_,bC,_⟩
 ·cases bw
 ·simp only[Value.slice.injEq,Option.some.injEq]at bw;obtain⟨rfl,_⟩:=bw;exact ED bC ad dj bs
structure mj (bh w:World) (t:TypeId) (p R B:Nat) (cs aU:Array Value) (xs:List UInt8):Prop where
 ht:j5 w p xs
 r:w.heap[R]?=some (.cells aU t)
 b:w.heap[B]?=some (.cells cs t)
 ext:Z bh w
 aY:bh.heap.size<=p
 bB:bh.heap.size<=R
 bx:bh.heap.size<=B
 fx:¬R=B
 EK:t≠274
 OK:t≠5
section
variable {bh w w':World}{t:TypeId}{p R B:Nat}{cs aU:Array Value}{xs ys:List UInt8}
def mj.iO(h:mj bh w t p R B cs aU xs):¬R=p:=let ⟨_,_,_,k,_⟩:=h.ht.ck;ED h.r k h.EK
def mj.aop(h:mj bh w t p R B cs aU xs):¬B=p:=let ⟨_,_,_,k,_⟩:=h.ht.ck;ED h.b k h.EK
def mj.oK(h:mj bh w t p R B cs aU xs)(az:j5 w' p ys)(aj:aI (λx=>x=p) w w'):mj bh w' t p R B cs aU ys:=
 ⟨az,(aj.block _ (bZ h.r) h.iO).trans h.r,(aj.block _ (bZ h.b) h.aop).trans h.b,aj.ext (λb ad=>by subst ad;exact h.aY) h.ext,h.aY,h.bB,h.bx,h.fx,h.EK,h.OK⟩
def mj.qw(h:mj bh w t p R B cs aU xs)(X:Z w w'):mj bh w' t p R B cs aU xs:=
 ⟨h.ht.ext X,(X.block _ (bZ h.r)).trans h.r,(X.block _ (bZ h.b)).trans h.b,h.ext.trans X,h.aY,h.bB,h.bx,h.fx,h.EK,h.OK⟩
def mj.set(h:mj bh w t p R B cs aU xs)(j:Nat)(v:Value):mj bh (w.setCell (B,j) v) t p R B (cs.setIfInBounds j v) aU xs:=by
 have eo:aI (λx=>x=B) w (w.setCell (B,j) v):=aI.setCell (S:=λx=>x=B) (aI.refl _ w) (B,j) (.inl rfl) v;exact⟨h.ht.jD eo h.b h.EK h.OK,(eo.block _ (bZ h.r) h.fx).trans h.r,en h.b j v,h.ext.setCell h.bx v,h.aY,h.bB,h.bx,h.fx,h.EK,h.OK⟩
def mj.jN(h:mj bh w t p R B cs aU xs)(j:Nat)(v:Value){cs':Array Value}(he:cs.setIfInBounds j v=cs'):mj bh (w.setCell (B,j) v) t p R B cs' aU xs:=he▸h.set j v
def mj.grow{c:α->List Value}{g:Nat}{cz:List α}(h:mj bh w t p R B cs aU xs)(bC:lL w w' aA g)(aM:aH w base e sz c aA n cap cz)(iV:(bh:Nat)<=base)(af:e≠274)(an:e≠5)(aO:e≠t):mj bh w' t p R B cs aU xs:=
 ⟨h.ht.grow bC aM af an,(bC.block _ (bZ h.r) (λai ak k=>aM.eW h.r aO ai ak k)).trans h.r,(bC.block _ (bZ h.b) (λai ak k=>aM.eW h.b aO ai ak k)).trans h.b,bC.ext aM iV h.ext,h.aY,h.bB,h.bx,h.fx,h.EK,h.OK⟩
def mj.bS{c:α->List Value}{cz:List α}(h:mj bh w t p R B cs aU xs)(aM:aH w base e sz c aA n cap cz)(dj:e≠t)(j:Nat)(v:Value):aH (w.setCell (B,j) v) base e sz c aA n cap cz:=
 (aI.setCell (S:=λx=>x=B) (aI.refl _ w) (B,j) (.inl rfl) v).bS aM (aM.eW h.b dj)
def mj.adg{c:α->List Value}{cz:List α}(h:mj bh w t p R B cs aU xs)(aM:aH w base e sz c aA n cap cz)(dj:e≠274)(aj:aI (λx=>x=p) w w'):aH w' base e sz c aA n cap cz:=
 aj.bS aM (h.ht.gT aM dj)
def mj.Yl{c:α->List Value}{cz:List α}(h:mj bh w t p R B cs aU xs)(aM:aH w base e sz c aA n cap cz)(dj:e≠t)(aj:aI (λx=>x=R) w w'):aH w' base e sz c aA n cap cz:=
 aj.bS aM (aM.eW h.r dj)
end
def BF{w w':aC}{R:Nat}(h:aI S w w')(bB:S R\/(w:Nat)<=R)(v0 v1 v2 v3 v4 v5 v6 hh:Value):aI S w ((((((((w'.setCell (R,0) v0).setCell (R,1) v1).setCell (R,2) v2).setCell (R,3) v3).setCell (R,4) v4).setCell (R,5) v5).setCell (R,6) v6).setCell (R,7) hh):=
 (((((((h.setCell ⟨R,0,none⟩ bB v0).setCell ⟨R,1,none⟩ bB v1).setCell ⟨R,2,none⟩ bB v2).setCell ⟨R,3,none⟩ bB v3).setCell ⟨R,4,none⟩ bB v4).setCell ⟨R,5,none⟩ bB v5).setCell ⟨R,6,none⟩ bB v6).setCell ⟨R,7,none⟩ bB hh
end
def OL(d:bb)(w:World)(e:Ending)(w':World):Prop:=∃x:bR,e=.returned (.tuple #[x,av])/\fU w' w.heap.size x d/\Z w w'
def aoq(a:bl)(n cap:Nat)(i:ax)(q eo:Nat)(w:aC)(ar:a7 w 1 cr a n cap (df 3++(iK i++(df q++(df eo++[])))))(aq:n<=100000)(a8:dY i)(bs:q<32)(fN:gw eo):
  aS 129 #[ao a n cap] w (OL ⟨3,i,(q:Int),(eo:Int),[],[]⟩ w):=by
 change aa _ at ar a8;refine Ym ?_;intro _ _ _ _ w1 p nn di gp mP ks br;change aa _ at di ks;clear gp;go_wp2_with fail;refine(BD p 3 4 _ _ di ah ah).mono ?_;refine K8 ?_;intro aN mQ e8 kt
 have hQ:mj w (aN.alloc (.cells #[bo 3,av,aw,aw,av,aw,(.slice none 0 0),(.slice none 0 0)] 66)) 66 p w (aN:Nat) #[bo 3,av,aw,aw,av,aw,(.slice none 0 0),(.slice none 0 0)] #[av,av,aw,aw,av,aw,aP,aP] _:=
  ⟨mQ.ext ((Z.refl aN).alloc _),(((Z.refl aN).alloc _).block _ (bZ kt)).trans kt,mu _ _,(e8.ext (λb ad=>by subst ad;exact lu mP) br).alloc _,lu mP,bJ _,ek br.size e8.size,vc (bZ kt),ah,ah⟩
 change aa _ at hQ;clear mQ e8 kt nn mP;go_wp2_with fail;refine(OI p i _ _ hQ.ht a8).mono ?_;rintro e a6⟨rfl,uu,h8⟩;have mR:=hQ.oK uu h8;clear hQ;obtain⟨cA,cR,cS,du,dw,dx,dB,dy,ff⟩:=kr (show a6.heap[(aN:Nat)]?=some (.cells #[bo 3,av,aw,aw,av,aw,(.slice none 0 0),(.slice none 0 0)] _ _)from mR.b);have kQ:=((mR.jN 1 i.b rfl).jN 2 (ae i.l) rfl).jN 3 (ae i.s) rfl;change aa _ at kQ;clear mR uu h8;go_wp2_with fail;refine Yn ?_;intro cB wb n3 o9;clear kQ cA cR cS du dw dx dB dy ff;obtain⟨cA,cR,cS,du,dw,dx,dB,dy,ff⟩:=kr (show cB.heap[(aN:Nat)]?=some (.cells #[bo 3,i.b,ae i.l,ae i.s,av,aw,(.slice none 0 0),(.slice none 0 0)] _ _)from o9.b);have k8:=o9.jN 4 (q:Int) rfl;change aa _ at k8;clear o9 wb n3;go_wp2_with fail;refine(oI p eo _ _ k8.ht fN).mono ?_;rintro e bA⟨rfl,jy,o8⟩;have mS:=k8.oK jy o8;clear k8 cA cR cS du dw dx dB dy ff;obtain⟨cA,cR,cS,du,dw,dx,dB,dy,ff⟩:=kr (show bA.heap[(aN:Nat)]?=some (.cells #[bo 3,i.b,ae i.l,ae i.s,(q:Int),aw,(.slice none 0 0),(.slice none 0 0)] _ _)from mS.b);have rF:=mS.jN 5 (ae (eo:Int)) rfl;change aa _ at rF;clear mS jy o8;go_wp2_with fail;refine(Ar p _ rF.ht).mono ?_;rintro e e1⟨rfl,hP⟩;have kj:=rF.qw hP;change aa _ at hP;clear rF;obtain⟨cA,cR,cS,du,dw,dx,dB,dy,ff⟩:=kr (show e1.heap[(aN:Nat)]?=some (.cells #[bo 3,i.b,ae i.l,ae i.s,(q:Int),ae (eo:Int),(.slice none 0 0),(.slice none 0 0)] _ _)from kj.b);change aa _ at kj;go_wp2_with fail;refine(IF ⟨3,i,(q:Int),(eo:Int),⟨none,0,0⟩,⟨none,0,0⟩⟩ ⟨3,i,(q:Int),(eo:Int),[],[]⟩ _ ⟨rfl,rfl,rfl,rfl,a7.nil _ T.bI,⟨[],rfl,a7.nil _ eu.bI,λx X=>by cases X⟩⟩ ⟨a8,⟨show(0:Int)<=(q:Int) by omega,show(q:Int)<32 by omega⟩,nO.X6 fN,.inr (.inr ⟨rfl,rfl,rfl⟩)⟩).mono ?_;rintro e dc⟨rfl,ml⟩;have j6:=kj.qw ml;change aa _ at ml;clear kj cA cR cS du dw dx dB dy ff;obtain⟨_,_,_,_,_,_,_,_,_⟩:=kr (show dc.heap[(aN:Nat)]?=some (.cells #[bo 3,i.b,ae i.l,ae i.s,(q:Int),ae (eo:Int),(.slice none 0 0),(.slice none 0 0)] _ _)from j6.b);refine Yo ?_;intro z0 cZ z2 z3 z4 z5 gx fE mT dj;change aa _ at j6;go_wp2_with fail;have iz:=BF (S:=λx=>x=(w:Nat)) (aI.refl _ dc) (R:=(w:Nat)) (.inl rfl) (bo 3) i.b (ae i.l) (ae i.s) (q:Int) (ae (eo:Int)) ((.slice none 0 0)) ((.slice none 0 0));refine ke (v:=.tuple #[.agg #[bo 3,i.b,ae i.l,ae i.s,(q:Int),ae (eo:Int),(.slice none 0 0),(.slice none 0 0)],av]) Yp rfl ⟨⟨3,i,(q:Int),(eo:Int),⟨none,0,0⟩,⟨none,0,0⟩⟩,rfl,⟨rfl,rfl,rfl,rfl,aH.nil _ _ _ T.bI,[],rfl,aH.nil _ _ _ eu.bI,λy hy=>by cases hy⟩,iz.ext (λb ad=>by subst ad;exact bJ _) j6.ext⟩
def aor(a:bl)(n cap:Nat)(i:ax)(q eo:Nat)(ts:List T)(w:aC)(ar:a7 w 1 cr a n cap (df 2++(iK i++(df q++(df eo++(gY (Bz ts)++[]))))))(aq:n<=100000)(a1:(Bz ts).length<=n)(a8:dY i)(bs:q<32)(fN:gw eo)(bV:Dc ts):
  aS 129 #[ao a n cap] w (OL ⟨2,i,(q:Int),(eo:Int),ts,[]⟩ w):=by
 replace ar:=I ar;replace a8:=I a8;replace bV:=I bV;refine Ym ?_;intro _ _ _ _ w1 p nn di gp mP ks br;replace di:=I di;replace ks:=I ks;clear gp;go_wp2_with fail;refine(BD p 2 4 _ _ di ah ah).mono ?_;refine K8 ?_;intro aN mQ e8 kt
 have hQ:mj w (aN.alloc (.cells #[bo 2,av,aw,aw,av,aw,(.slice none 0 0),(.slice none 0 0)] 66)) 66 p w (aN:Nat) #[bo 2,av,aw,aw,av,aw,(.slice none 0 0),(.slice none 0 0)] #[av,av,aw,aw,av,aw,aP,aP] _:=
  ⟨mQ.ext ((Z.refl aN).alloc _),(((Z.refl aN).alloc _).block _ (bZ kt)).trans kt,mu _ _,(e8.ext (λb ad=>by subst ad;exact lu mP) br).alloc _,lu mP,bJ _,ek br.size e8.size,vc (bZ kt),ah,ah⟩
 replace hQ:=I hQ;clear mQ e8 kt nn mP;go_wp2_with fail;refine(OI p i _ _ hQ.ht a8).mono ?_;rintro e a6⟨rfl,uu,h8⟩;have mR:=hQ.oK uu h8;clear hQ;obtain⟨cA,cR,cS,du,dw,dx,dB,dy,ff⟩:=kr (show a6.heap[(aN:Nat)]?=some (.cells #[bo 2,av,aw,aw,av,aw,(.slice none 0 0),(.slice none 0 0)] _ _)from mR.b);have kQ:=((mR.jN 1 i.b rfl).jN 2 (ae i.l) rfl).jN 3 (ae i.s) rfl;replace kQ:=I kQ;clear mR uu h8;go_wp2_with fail;refine Yn ?_;intro cB wb n3 o9;clear kQ cA cR cS du dw dx dB dy ff;obtain⟨cA,cR,cS,du,dw,dx,dB,dy,ff⟩:=kr (show cB.heap[(aN:Nat)]?=some (.cells #[bo 2,i.b,ae i.l,ae i.s,av,aw,(.slice none 0 0),(.slice none 0 0)] _ _)from o9.b);have k8:=o9.jN 4 (q:Int) rfl;replace k8:=I k8;clear o9 wb n3;go_wp2_with fail;refine(oI p eo _ _ k8.ht fN).mono ?_;rintro e bA⟨rfl,jy,o8⟩;have mS:=k8.oK jy o8;clear k8 cA cR cS du dw dx dB dy ff;obtain⟨cA,cR,cS,du,dw,dx,dB,dy,ff⟩:=kr (show bA.heap[(aN:Nat)]?=some (.cells #[bo 2,i.b,ae i.l,ae i.s,(q:Int),aw,(.slice none 0 0),(.slice none 0 0)] _ _)from mS.b);have rF:=mS.jN 5 (ae (eo:Int)) rfl;replace rF:=I rF;clear mS jy o8;go_wp2_with fail;refine(EE p (n:Int) (Bz ts) [] _ rF.ht J J J).mono ?_;rintro e _⟨_,_,rfl,k5,IE,Ax⟩;have vd:=rF.oK IE Ax;replace k5:=I k5;replace vd:=I vd;clear rF IE Ax cA cR cS du dw dx dB dy ff;go_wp2_with fail;refine(aoh _ _ _ ts _ k5.aF bV).mono ?_;rintro e dR⟨nP,n7,eM,rfl,adh,adi⟩;have Ti:=vd.qw adi;obtain⟨cA,cR,cS,du,dw,dx,dB,dy,ff⟩:=kr (show dR.heap[(aN:Nat)]?=some (.cells #[bo 2,i.b,ae i.l,ae i.s,(q:Int),ae (eo:Int),(.slice none 0 0),(.slice none 0 0)] _ _)from Ti.b);have BG:=Ti.jN 6 (ao nP n7 eM) rfl;have ly:=Ti.bS (adh.mono (aBw:=(w:Nat)) vd.ext.size) ah 6 (ao nP n7 eM);replace BG:=I BG;replace ly:=I ly;clear vd Ti adh adi;go_wp2_with fail;clear cA cR cS du dw dx dB dy ff;refine(Ar p _ BG.ht).mono ?_;rintro e e1⟨rfl,hP⟩;have kj:=BG.qw hP;replace hP:=I hP;clear BG;obtain⟨cA,cR,cS,du,dw,dx,dB,dy,ff⟩:=kr (show e1.heap[(aN:Nat)]?=some (.cells #[bo 2,i.b,ae i.l,ae i.s,(q:Int),ae (eo:Int),ao nP n7 eM,(.slice none 0 0)] _ _)from kj.b);replace kj:=I kj;go_wp2_with fail;refine(IF ⟨2,i,(q:Int),(eo:Int),⟨nP,n7,eM⟩,⟨none,0,0⟩⟩ ⟨2,i,(q:Int),(eo:Int),ts,[]⟩ _ ⟨rfl,rfl,rfl,rfl,ly.aF.ext hP,⟨[],rfl,a7.nil _ eu.bI,λx X=>by cases X⟩⟩ ⟨a8,⟨show(0:Int)<=(q:Int) by omega,show(q:Int)<32 by omega⟩,nO.X6 fN,.inr (.inl ⟨rfl,rfl,bV⟩)⟩).mono ?_;rintro e dc⟨rfl,ml⟩;have j6:=kj.qw ml;replace ml:=I ml;clear kj cA cR cS du dw dx dB dy ff;obtain⟨_,_,_,_,_,_,_,_,_⟩:=kr (show dc.heap[(aN:Nat)]?=some (.cells #[bo 2,i.b,ae i.l,ae i.s,(q:Int),ae (eo:Int),ao nP n7 eM,(.slice none 0 0)] _ _)from j6.b);refine Yo ?_;intro z0 cZ z2 z3 z4 z5 gx fE mT dj;replace j6:=I j6;go_wp2_with fail;have iz:=BF (S:=λx=>x=(w:Nat)) (aI.refl _ dc) (R:=(w:Nat)) (.inl rfl) (bo 2) i.b (ae i.l) (ae i.s) (q:Int) (ae (eo:Int)) (ao nP n7 eM) ((.slice none 0 0));refine ke (v:=.tuple #[.agg #[bo 2,i.b,ae i.l,ae i.s,(q:Int),ae (eo:Int),ao nP n7 eM,(.slice none 0 0)],av]) Yp rfl ⟨⟨2,i,(q:Int),(eo:Int),⟨nP,n7,eM⟩,⟨none,0,0⟩⟩,rfl,⟨rfl,rfl,rfl,rfl,j6.Yl (ly.ext (hP.trans ml)) ah iz,[],rfl,aH.nil _ _ _ eu.bI,λy hy=>by cases hy⟩,iz.ext (λb ad=>by subst ad;exact bJ _) j6.ext⟩
def aos{aX:List (List cI)}(hk:k<aX.length)(h:(aX.flatMap (λe=>gY (o7 e))).length<=n):(o7 aX[k]).length<=n:=by
 refine ek ?_ h;have af:(aX.take k++aX[k]::aX.drop (k+1)).flatMap (λe=>gY (o7 e))=aX.flatMap (λe=>gY (o7 e)):=by rw[<-Ab hk,NU]
 rw[<-af,vN,ny,c9,c9];have an:(o7 aX[k]).length<=(gY (o7 aX[k])).length:=by rw[y8];omega
 omega
def aot(a:bl)(n cap:Nat)(i:ax)(q:Nat)(aX:List (List cI))(w:aC)(bj:a7 w 1 cr a n cap (df 1++(iK i++(df q++(df 0++(df aX.length++aX.flatMap (λe=>gY (o7 e))))))))(aq:n<=100000)(bg:(aX.flatMap (λe=>gY (o7 e))).length<=n)(a8:dY i)(bs:q<32)(fG:aX.length<=8)(bV:∀e,e∈aX->Au e):
  aS 129 #[ao a n cap] w (OL ⟨1,i,(q:Int),0,[],aX⟩ w):=by
 obtain⟨dK,eY,e5,e6,e7⟩:=fB Ic;obtain⟨eo,xf⟩:∃eo:Nat,eo=0:=⟨_,rfl⟩;have fN:gw eo:=by subst xf;unfold gw;omega
 suffices adj:aS 129 #[ao a n cap] w (OL ⟨1,i,(q:Int),(eo:Int),[],aX⟩ w) by rw[xf]at adj;exact adj
 have ar:=I (show a7 w 1 cr a n cap (df 1++(iK i++(df q++(df eo++(df aX.length++aX.flatMap (λe=>gY (o7 e)))))))from by rw[xf];exact bj);replace a8:=I a8;replace bV:=I bV;replace bg:=I bg;replace xf:=I xf;replace eY:=I eY;replace e5:=I e5;replace e6:=I e6;replace e7:=I e7;clear bj;refine Ym ?_;intro _ _ _ _ w1 p nn di gp mP ks br;replace di:=I di;replace ks:=I ks;clear gp;go_wp2_with fail;refine(BD p 1 4 _ _ di ah ah).mono ?_;refine K8 ?_;intro aN mQ e8 kt
 have hQ:mj w (aN.alloc (.cells #[bo 1,av,aw,aw,av,aw,(.slice none 0 0),(.slice none 0 0)] 66)) 66 p w (aN:Nat) #[bo 1,av,aw,aw,av,aw,(.slice none 0 0),(.slice none 0 0)] #[av,av,aw,aw,av,aw,aP,aP] _:=
  ⟨mQ.ext ((Z.refl aN).alloc _),(((Z.refl aN).alloc _).block _ (bZ kt)).trans kt,mu _ _,(e8.ext (λb ad=>by subst ad;exact lu mP) br).alloc _,lu mP,bJ _,ek br.size e8.size,vc (bZ kt),ah,ah⟩
 replace hQ:=I hQ;clear mQ e8 kt nn mP;go_wp2_with fail;refine(OI p i _ _ hQ.ht a8).mono ?_;rintro e a6⟨rfl,uu,h8⟩;have mR:=hQ.oK uu h8;clear hQ;obtain⟨cA,cR,cS,du,dw,dx,dB,dy,ff⟩:=kr (show a6.heap[(aN:Nat)]?=some (.cells #[bo 1,av,aw,aw,av,aw,(.slice none 0 0),(.slice none 0 0)] _ _)from mR.b);have kQ:=((mR.jN 1 i.b rfl).jN 2 (ae i.l) rfl).jN 3 (ae i.s) rfl;replace kQ:=I kQ;clear mR uu h8;go_wp2_with fail;refine Yn ?_;intro cB wb n3 o9;clear kQ cA cR cS du dw dx dB dy ff;obtain⟨cA,cR,cS,du,dw,dx,dB,dy,ff⟩:=kr (show cB.heap[(aN:Nat)]?=some (.cells #[bo 1,i.b,ae i.l,ae i.s,av,aw,(.slice none 0 0),(.slice none 0 0)] _ _)from o9.b);have k8:=o9.jN 4 (q:Int) rfl;replace k8:=I k8;clear o9 wb n3;go_wp2_with fail;refine(oI p eo _ _ k8.ht fN).mono ?_;rintro e bA⟨rfl,jy,o8⟩;have mS:=k8.oK jy o8;clear k8 cA cR cS du dw dx dB dy ff;obtain⟨cA,cR,cS,du,dw,dx,dB,dy,ff⟩:=kr (show bA.heap[(aN:Nat)]?=some (.cells #[bo 1,i.b,ae i.l,ae i.s,(q:Int),aw,(.slice none 0 0),(.slice none 0 0)] _ _)from mS.b);have rF:=mS.jN 5 (ae (eo:Int)) rfl;replace rF:=I rF;clear mS jy o8;go_wp2_with fail;refine(BD p aX.length 9 _ _ rF.ht J ah).mono ?_;rintro e _⟨rfl,IE,Ax⟩;have vd:=rF.oK IE Ax;replace vd:=I vd;clear rF IE Ax cA cR cS du dw dx dB dy ff;go_wp2_with fail;go_loopg [30] (aX.length) (λg dS wr=>∃(k:Nat) (ab:bl) (m c:Nat) (ys:List eu),g+k=aX.length/\dS=.int .i64 (k:Int)/\aa (mj w wr 66 p w (aN:Nat) #[bo 1,i.b,ae i.l,ae i.s,(q:Int),ae (eo:Int),(.slice none 0 0),(.slice ab m c)] #[av,av,aw,aw,av,aw,aP,aP] ((aX.drop k).flatMap (λe=>gY (o7 e))))/\aa (aH wr w 34 1 eu.cs ab m c ys/\ys.map (·.dt)=aX.take k/\∀y,y∈ys->aH wr w 77 4 cI.cs y.v.a y.v.n y.v.c y.dt));case atStart=>exact⟨0,none,0,0,[],J,rfl,vd,⟨aH.nil _ _ _ eu.bI,rfl,λy hy=>by cases hy⟩⟩
 case round=>
  obtain⟨k,ab,m,c,ys,_,rfl,jw,aJ⟩:=hrel;by_cases hk:k<aX.length
  ·skip;have bf:(k:Int)<(aX.length:Int):=J;have fK:=bV.out aX[k] (cT hk);have uv:=aos hk bg;have Gv:m<=8:=by
    have af:=aJ.out.1.neq;have an:=eH List.length aJ.out.2.1;rw[cx,nF]at an;omega
   have aG:(aX.drop k).flatMap (λe=>gY (o7 e))=gY (o7 aX[k])++(aX.drop (k+1)).flatMap (λe=>gY (o7 e)):=by
    rw[Ab hk,ny]
   rw[aG]at jw;replace fK:=I fK;clear aG;go_wp2_with fail;refine(EE p (n:Int) (o7 aX[k]) _ _ jw.ht J J J).mono ?_;rintro e dR⟨_,_,rfl,ly,adk,II⟩;have BG:=jw.oK adk II;have Tj:=jw.adg aJ.out.1 ah II;have K9:∀y,y∈ys->aH dR w 77 4 cI.cs y.v.a y.v.n y.v.c y.dt:=λy hy=>jw.adg (aJ.out.2.2 y hy) ah II;replace BG:=I BG;replace ly:=I ly;replace Tj:=I Tj;replace K9:=I K9;clear adk II jw;go_wp2_with fail;refine(aoe _ _ _ aX[k] _ ly.aF fK).mono ?_;rintro e e1⟨rG,n8,jG,rfl,adl,uW⟩;have kj:=BG.qw uW;obtain⟨cA,cR,cS,du,dw,dx,dB,dy,ff⟩:=kr (show e1.heap[(aN:Nat)]?=some (.cells #[bo 1,i.b,ae i.l,ae i.s,(q:Int),ae (eo:Int),(.slice none 0 0),(.slice ab m c)] _ _)from kj.b);have sK:=I (adl.mono (aBw:=(w:Nat)) BG.ext.size);have Yq:=I (Tj.ext uW);have aou:=I (λy hy=>(K9 y hy).ext uW);replace kj:=I kj;clear BG adl uW Tj K9 ly;go_wp2_with (at_builtin;refine hc (ys:=ys) rfl (.tmp 44) (.tmp 46) 64 rfl dK _ 24 F9 eY e5 e6 e7 rfl ah rfl (Yq.ext ((Z.refl _).alloc _)) ⟨⟨rG,n8,jG⟩,aX[k]⟩ _ rfl (fi (cs:=eu.cs ⟨⟨rG,n8,jG⟩,aX[k]⟩) rfl) (eu.cQ _) J ah (Z.size (kj.ext.trans ((Z.refl _).alloc _))) ?_;intro _ _ dc ha fy;have hW:=(kj.qw ((Z.refl _).alloc _)).grow fy (Yq.ext ((Z.refl _).alloc (.cells #[ao rG n8 jG] 34))) (bJ _) ah ah ah;clear cA cR cS du dw dx dB dy ff;have cA:dc.cell? (aN,0)=some ↑(bo 1):=aL hW.b rfl;have cR:dc.cell? (aN,1)=some ↑i.b:=aL hW.b rfl;have cS:dc.cell? (aN,2)=some ↑(ae i.l):=aL hW.b rfl;have du:dc.cell? (aN,3)=some ↑(ae i.s):=aL hW.b rfl;have dw:dc.cell? (aN,4)=some ↑(q:Int):=aL hW.b rfl;have dx:dc.cell? (aN,5)=some ↑(ae (eo:Int)):=aL hW.b rfl;have dB:dc.cell? (aN,6)=some ((.slice none 0 0)):=aL hW.b rfl;have dy:dc.cell? (aN,7)=some ((.slice ab m c)):=aL hW.b rfl;have ff:∀j,dc.frozen? ⟨(aN:Nat),j,none⟩=false:=λj=>nM hW.b);have IG:∀y,y∈ys++[(⟨⟨rG,n8,jG⟩,aX[k]⟩:eu)]->aH dc w 77 4 cI.cs y.v.a y.v.n y.v.c y.dt:=by
    intro y hy;have ru:=Yq.ext ((Z.refl e1).alloc (.cells #[ao rG n8 jG] 34));rcases ie.1 hy with hy|hy
    ·have qW:=(aou y hy).ext ((Z.refl e1).alloc (.cells #[ao rG n8 jG] 34));exact fy.bS qW (ru.gT qW ah)
    ·obtain rfl:=jg.1 hy;have qW:=sK.ext ((Z.refl e1).alloc (.cells #[ao rG n8 jG] 34));exact fy.bS qW (ru.gT qW ah)
   replace IG:=I IG;go_roundg (gk - 1);case measure=>omega
   case rel=>
    refine⟨k+1,_,_,_,ys++[⟨⟨rG,n8,jG⟩,aX[k]⟩],J,by go_num,hW.jN 7 _ rfl,hW.bS ha ah 7 _,?_,λy hy=>hW.bS (IG y hy) ah 7 _⟩;rw[fT,aJ.out.2.1,iv hk];rfl
  ·have cb:aX.take k=aX:=iU J;rw[cb]at aJ;rw[K6 J]at jw;clear cb;go_wp2_with fail;refine(Ar p _ jw.ht).mono ?_;rintro e e1⟨rfl,hP⟩;have kj:=jw.qw hP;replace hP:=I hP;clear jw;obtain⟨cA,cR,cS,du,dw,dx,dB,dy,ff⟩:=kr (show e1.heap[(aN:Nat)]?=some (.cells #[bo 1,i.b,ae i.l,ae i.s,(q:Int),ae (eo:Int),(.slice none 0 0),ao ab m c] _ _)from kj.b);replace kj:=I kj;go_wp2_with fail;refine(IF ⟨1,i,(q:Int),(eo:Int),⟨none,0,0⟩,⟨ab,m,c⟩⟩ ⟨1,i,(q:Int),(eo:Int),[],aX⟩ _ ⟨rfl,rfl,rfl,rfl,a7.nil _ T.bI,⟨ys,aJ.out.2.1,aJ.out.1.aF.ext hP,λx X=>(aJ.out.2.2 x X).aF.ext hP⟩⟩ ⟨a8,⟨show(0:Int)<=(q:Int) by omega,show(q:Int)<32 by omega⟩,nO.X6 fN,.inl ⟨rfl,(show(eo:Int)=0 by rw[xf.out];rfl),rfl,fG,bV⟩⟩).mono ?_;rintro e dc⟨rfl,ml⟩;have j6:=kj.qw ml;replace ml:=I ml;clear kj cA cR cS du dw dx dB dy ff;obtain⟨_,_,_,_,_,_,_,_,_⟩:=kr (show dc.heap[(aN:Nat)]?=some (.cells #[bo 1,i.b,ae i.l,ae i.s,(q:Int),ae (eo:Int),(.slice none 0 0),ao ab m c] _ _)from j6.b);refine Yo ?_;intro z0 cZ z2 z3 z4 z5 gx fE mT dj;replace j6:=I j6;go_wp2_with fail;have iz:=BF (S:=λx=>x=(w:Nat)) (aI.refl _ dc) (R:=(w:Nat)) (.inl rfl) (bo 1) i.b (ae i.l) (ae i.s) (q:Int) (ae (eo:Int)) ((.slice none 0 0)) (ao ab m c);refine ke (v:=.tuple #[.agg #[bo 1,i.b,ae i.l,ae i.s,(q:Int),ae (eo:Int),(.slice none 0 0),ao ab m c],av]) Yp rfl ⟨⟨1,i,(q:Int),(eo:Int),⟨none,0,0⟩,⟨ab,m,c⟩⟩,rfl,⟨rfl,rfl,rfl,rfl,aH.nil _ _ _ T.bI,ys,aJ.out.2.1,j6.Yl (aJ.out.1.ext (hP.trans ml)) ah iz,λy hy=>j6.Yl ((aJ.out.2.2 y hy).ext (hP.trans ml)) ah iz⟩,iz.ext (λb ad=>by subst ad;exact bJ _) j6.ext⟩
def Tk(a:bl)(n cap:Nat)(d:bb)(w:aC)(bj:a7 w 1 cr a n cap (iL d))(aG:gZ d)(aq:n<=100000):
  aS 129 #[ao a n cap] w (OL d w):=by
 have l8:=bj.neq;obtain⟨_,pa,nQ,adm,OH,Tl⟩:=d;have al:=aG.c;have aj:=aG.u;have aK:=aG.id;have hk:=aG.k;dsimp only at al aj aK hk;obtain⟨q,rfl⟩:∃q:Nat,nQ=(q:Int):=⟨nQ.toNat,J⟩;obtain⟨eo,rfl⟩:∃q:Nat,adm=(q:Int):=⟨adm.toNat,by unfold nO at aj;omega⟩;have fN:gw eo:=by unfold nO at aj;unfold gw;omega
 have bs:q<32:=J;rcases hk with ⟨rfl,b1,rfl,eG,h4⟩|⟨rfl,rfl,dJ⟩|⟨rfl,rfl,rfl⟩
 ·obtain rfl:eo=0:=J;have e:iL ⟨1,pa,(q:Int),((0:Nat):Int),[],Tl⟩=df 1++(iK pa++(df q++(df 0++(df Tl.length++Tl.flatMap (λe=>gY (o7 e)))))):=by unfold iL;rw[bc rfl];rfl
  rw[e]at bj l8;exact aot a n cap pa q Tl w bj aq (by rw[l8];simp only[c9];omega) aK bs eG h4
 ·have e:iL ⟨2,pa,(q:Int),(eo:Int),OH,[]⟩=df 2++(iK pa++(df q++(df eo++(gY (Bz OH)++[])))):=by unfold iL;rw[aV (show ¬(2:Int)=1 by decide),bc rfl,nc];rfl
  rw[e]at bj l8;exact aor a n cap pa q eo OH w bj aq Yr aK bs fN dJ
 ·have e:iL ⟨3,pa,(q:Int),(eo:Int),[],[]⟩=df 3++(iK pa++(df q++(df eo++[]))):=by unfold iL;rw[aV (show ¬(3:Int)=1 by decide),aV (show ¬(3:Int)=2 by decide)];rfl
  rw[e]at bj;exact aoq a n cap pa q eo w bj aq aK bs fN
def xW:ax:=⟨0,0,0⟩
def Tm:bb:=⟨0,xW,0,0,[],[]⟩
def sL:bR:=⟨0,xW,0,0,⟨none,0,0⟩,⟨none,0,0⟩⟩
structure e9 where
 k:Int
 n:Nat
 e:bb
 id:ax
def nR(n:Nat):e9:=⟨1,n,Tm,xW⟩
def iA(i:Nat)(d:bb):e9:=⟨2,i,d,xW⟩
def kR(d:bb):e9:=⟨3,0,d,xW⟩
def mU(i:ax):e9:=⟨4,0,Tm,i⟩
def zg(i:ax):e9:=⟨5,0,Tm,i⟩
def xX(r:e9):Prop:=(∃n,r=nR n/\gw n)\/(∃n d,r=iA n d/\gw n/\gZ d)\/(∃d,r=kR d/\gZ d)\/(∃i,r=mU i/\dY i)\/(∃i,r=zg i/\dY i)
def gi(r:e9):List UInt8:=df r.k.toNat++(df r.n++(if r.k=2\/r.k=3 then gY (iL r.e) else if r.k=4\/r.k=5 then iK r.id else []))
def adn(w:aC):aS 195 #[.agg #[av,av,aw,aw,av,aw,aP,aP]] w (cU (.bool true) w):=by
 go_enter func195,ntmps195;go_wp2;go_ret;refine⟨rfl,?_⟩;exact U
def ado(n:Nat)(w:aC):aS 133 #[.agg #[bo 1,ae (n:Int),av,av,aw,aw,av,aw,aP,aP,av,aw,aw]] w (cU (.bool true) w):=by
 go_enter func133,ntmps133;go_wp2_with fail;refine qQ (adn _) λw1 br=>?_;go_wp2;go_ret;refine⟨rfl,?_⟩;exact U
def adp(n:Nat)(x:bR)(d:bb)(w:aC)(a8:hK w x d)(cJ:gZ d):aS 133 #[.agg #[bo 2,ae (n:Int),x.k,x.id.b,ae x.id.l,ae x.id.s,x.c,ae x.u,x.f,x.e,av,aw,aw]] w (cU (.bool true) w):=adq
def adr(x:bR)(d:bb)(w:aC)(a8:hK w x d)(cJ:gZ d):aS 133 #[.agg #[bo 3,aw,x.k,x.id.b,ae x.id.l,ae x.id.s,x.c,ae x.u,x.f,x.e,av,aw,aw]] w (cU (.bool true) w):=adq
def ads(i:ax)(w:aC)(aZ:0<=i.b)(af:i.b<16):aS 133 #[.agg #[bo 4,aw,av,av,aw,aw,av,aw,aP,aP,i.b,ae i.l,ae i.s]] w (cU (.bool true) w):=adt
def adu(i:ax)(w:aC)(aZ:0<=i.b)(af:i.b<16):aS 133 #[.agg #[bo 5,aw,av,av,aw,aw,av,aw,aP,aP,i.b,ae i.l,ae i.s]] w (cU (.bool true) w):=adt
def La(h:gZ d):(iL d).length<=20000:=by
 unfold iL;have af:=hV d.k.toNat;have an:=EI d.id;have aO:=hV d.c.toNat;have bt:=hV d.u.toNat;simp only[c9];rcases h.k with ⟨bH,b1,dJ,eG,h4⟩|⟨bH,b1,dJ⟩|⟨bH,b1,dJ⟩
 ·rw[bc bH,c9];have cC:=hV d.aX.length
  have fV:=S7 (f:=λe=>gY (o7 e)) (m:=1720) d.aX (λe he=>by
   have:=S8 (h4 e he);have:=xP (o7 e).length
   rw[y8];omega)
  omega
 ·rw[aV J,bc bH,y8];have cC:=Ya dJ;have fV:=xP (Bz d.ts).length;omega
 ·rw[aV J,aV J];simp only[pH];omega
def aov(n:Nat)(w:aC)(aq:gw n):aS 134 #[.agg #[bo 1,ae (n:Int),av,av,aw,aw,av,aw,aP,aP,av,aw,aw]] w (xe (gi (nR n)) w):=by
 have EL:=ado n;go_enter func134,ntmps134;go_wp2_with fail;refine(EL _).mono ?_;rintro e w1⟨rfl,br⟩;have dU:w1.cell? (w,0)=some ↑(bo 1):=br.ag (by simp);have cm:w1.cell? (w,1)=some ↑(ae (n:Int)):=br.ag (by simp);change aa _ at br;go_wp2_with fail;go_region_held3 (λw'=>w'.cell? (w,0)=some ↑(bo 1)/\w'.cell? (w,1)=some ↑(ae (n:Int))) (first|(go_split_ands;refine⟨?_,?_⟩<;>exact(Hid.out hy).ag (by assumption))|go_keep) (first|(go_at_call 197;refine(kh none 0 0 [] 1 _ ((a7.nil _ cr.bI)) awr J).mono ?_;rintro e _⟨ch,cF,_,rfl,aM,ad⟩;have kA:cF<=10:=(by have af:=aM.neq;have an:=hV 1;rw[mN]at af;omega);have cd:=I aM;have hy:=I ad;have cn:=I ad)|(go_at_call 197;refine(kh _ _ _ _ n _ ((cd.aF.ext U)) qv J).mono ?_;rintro e _⟨a3,_,_,rfl,aM,ad⟩;have cK:=I aM;have hy:=I ad;have dz:=I ad));replace dU:=dz.ag (cn.ag (show w1.drew.cell? _=_ from dU));go_wp2;go_ret2;refine⟨_,_,_,rfl,?_,U⟩;have h:=cK.mono (aBw:=(w:Nat)) (Z.size U);rw[show gi (nR n)=df 1++(df n++[])from rfl];simp only[mN,ig,nc]at h ⊢;exact h
def aow(n:Nat)(x:bR)(d:bb)(w:aC)(aq:gw n)(a8:hK w x d)(cJ:gZ d):aS 134 #[.agg #[bo 2,ae (n:Int),x.k,x.id.b,ae x.id.l,ae x.id.s,x.c,ae x.u,x.f,x.e,av,aw,aw]] w (xe (gi (iA n d)) w):=by
 change aa _ at a8 cJ;have EL:=λW h=>adp n x d W h cJ;go_enter func134,ntmps134;go_wp2_with fail;refine(EL _ (a8.ext U)).mono ?_;rintro e w1⟨rfl,br⟩;have dU:w1.cell? (w,0)=some ↑(bo 2):=br.ag (by simp);have cm:w1.cell? (w,1)=some ↑(ae (n:Int)):=br.ag (by simp);refine adv ?_;intro g2 g3 g4 g5 g6 g7 g8 g9;change aa _ at br;go_wp2_with fail;go_region_held3 (λw'=>w'.cell? (w,0)=some ↑(bo 2)/\w'.cell? (w,1)=some ↑(ae (n:Int))) (first|(go_split_ands;refine⟨?_,?_⟩<;>exact(Hid.out hy).ag (by assumption))|go_keep) (first|(go_at_call 197;refine(kh none 0 0 [] 2 _ ((a7.nil _ cr.bI)) awr J).mono ?_;rintro e _⟨ch,cF,_,rfl,aM,ad⟩;have kA:cF<=10:=(by have af:=aM.neq;have an:=hV 2;rw[mN]at af;omega);have cd:=I aM;have hy:=I ad;have cn:=I ad)|(go_at_call 197;refine(kh _ _ _ _ n _ ((cd.aF.ext U)) qv J).mono ?_;rintro e _⟨a3,fI,_,rfl,aM,ad⟩;have v8:fI<=20:=(by have af:=aM.neq;have an:=hV n;have aO:=((cd.aF.ext U)).neq;rw[c9]at af;omega);have cK:=I aM;have hy:=I ad;have dz:=I ad));exact adw
def aox(x:bR)(d:bb)(w:aC)(a8:hK w x d)(cJ:gZ d):aS 134 #[.agg #[bo 3,aw,x.k,x.id.b,ae x.id.l,ae x.id.s,x.c,ae x.u,x.f,x.e,av,aw,aw]] w (xe (gi (kR d)) w):=by
 change aa _ at a8 cJ;have EL:=λW h=>adr x d W h cJ;go_enter func134,ntmps134;go_wp2_with fail;refine(EL _ (a8.ext U)).mono ?_;rintro e w1⟨rfl,br⟩;have dU:w1.cell? (w,0)=some ↑(bo 3):=br.ag (by simp);have cm:w1.cell? (w,1)=some ↑(ae (0:Int)):=br.ag (by simp);refine adv ?_;intro g2 g3 g4 g5 g6 g7 g8 g9;change aa _ at br;go_wp2_with fail;go_region_held3 (λw'=>w'.cell? (w,0)=some ↑(bo 3)/\w'.cell? (w,1)=some ↑(ae (0:Int))) (first|(go_split_ands;refine⟨?_,?_⟩<;>exact(Hid.out hy).ag (by assumption))|go_keep) (first|(go_at_call 197;refine(kh none 0 0 [] 3 _ ((a7.nil _ cr.bI)) awr J).mono ?_;rintro e _⟨ch,cF,_,rfl,aM,ad⟩;have kA:cF<=10:=(by have af:=aM.neq;have an:=hV 3;rw[mN]at af;omega);have cd:=I aM;have hy:=I ad;have cn:=I ad)|(go_at_call 197;refine(kh _ _ _ _ 0 _ ((cd.aF.ext U)) qv J).mono ?_;rintro e _⟨a3,fI,_,rfl,aM,ad⟩;have v8:fI<=20:=Ys;have cK:=I aM;have hy:=I ad;have dz:=I ad));exact adw
def aoy(i:ax)(w:aC)(aK:dY i):aS 134 #[.agg #[bo 4,aw,av,av,aw,aw,av,aw,aP,aP,i.b,ae i.l,ae i.s]] w (xe (gi (mU i)) w):=by
 have EL:=λW=>ads i W aK.b.1 aK.b.2;go_enter func134,ntmps134;go_wp2_with fail;refine(EL _).mono ?_;rintro e w1⟨rfl,br⟩;have dU:w1.cell? (w,0)=some ↑(bo 4):=br.ag (by simp);refine adx ?_;intro cm g10 g11 g12;change aa _ at br;go_wp2_with fail;go_region_held3 (λw'=>w'.cell? (w,0)=some ↑(bo 4)/\w'.cell? (w,1)=some ↑(ae (0:Int))) (first|(go_split_ands;refine⟨?_,?_⟩<;>exact(Hid.out hy).ag (by assumption))|go_keep) (first|(go_at_call 197;refine(kh none 0 0 [] 4 _ ((a7.nil _ cr.bI)) awr J).mono ?_;rintro e _⟨ch,cF,_,rfl,aM,ad⟩;have kA:cF<=10:=(by have af:=aM.neq;have an:=hV 4;rw[mN]at af;omega);have cd:=I aM;have hy:=I ad;have cn:=I ad)|(go_at_call 197;refine(kh _ _ _ _ 0 _ ((cd.aF.ext U)) qv J).mono ?_;rintro e _⟨a3,fI,_,rfl,aM,ad⟩;have v8:fI<=20:=Ys;have cK:=I aM;have hy:=I ad;have dz:=I ad));exact ady
def aoz(i:ax)(w:aC)(aK:dY i):aS 134 #[.agg #[bo 5,aw,av,av,aw,aw,av,aw,aP,aP,i.b,ae i.l,ae i.s]] w (xe (gi (zg i)) w):=by
 have EL:=λW=>adu i W aK.b.1 aK.b.2;go_enter func134,ntmps134;go_wp2_with fail;refine(EL _).mono ?_;rintro e w1⟨rfl,br⟩;have dU:w1.cell? (w,0)=some ↑(bo 5):=br.ag (by simp);refine adx ?_;intro cm g10 g11 g12;change aa _ at br;go_wp2_with fail;go_region_held3 (λw'=>w'.cell? (w,0)=some ↑(bo 5)/\w'.cell? (w,1)=some ↑(ae (0:Int))) (first|(go_split_ands;refine⟨?_,?_⟩<;>exact(Hid.out hy).ag (by assumption))|go_keep) (first|(go_at_call 197;refine(kh none 0 0 [] 5 _ ((a7.nil _ cr.bI)) awr J).mono ?_;rintro e _⟨ch,cF,_,rfl,aM,ad⟩;have kA:cF<=10:=(by have af:=aM.neq;have an:=hV 5;rw[mN]at af;omega);have cd:=I aM;have hy:=I ad;have cn:=I ad)|(go_at_call 197;refine(kh _ _ _ _ 0 _ ((cd.aF.ext U)) qv J).mono ?_;rintro e _⟨a3,fI,_,rfl,aM,ad⟩;have v8:fI<=20:=Ys;have cK:=I aM;have hy:=I ad;have dz:=I ad));exact ady
def OM{R:Nat}(h:aI S w w')(bB:S R\/(w:Nat)<=R)(v0 v1 v2 v3 v4 v5 v6 hh jO v9 v10 v11 v12:Value):aI S w (((((((((((((w'.setCell (R,0) v0).setCell (R,1) v1).setCell (R,2) v2).setCell (R,3) v3).setCell (R,4) v4).setCell (R,5) v5).setCell (R,6) v6).setCell (R,7) hh).setCell (R,8) jO).setCell (R,9) v9).setCell (R,10) v10).setCell (R,11) v11).setCell (R,12) v12):=
 (((((BF h bB v0 v1 v2 v3 v4 v5 v6 hh).setCell ⟨R,8,none⟩ bB jO).setCell ⟨R,9,none⟩ bB v9).setCell ⟨R,10,none⟩ bB v10).setCell ⟨R,11,none⟩ bB v11).setCell ⟨R,12,none⟩ bB v12
def aoA{R:Nat}(h:aI S w w')(bB:S R\/(w:Nat)<=R)(v0 v1 v2 v3 v4 v5 v6 hh:Value):aI S w ((((((((w'.setCell (R,2) v0).setCell (R,3) v1).setCell (R,4) v2).setCell (R,5) v3).setCell (R,6) v4).setCell (R,7) v5).setCell (R,8) v6).setCell (R,9) hh):=
 (((((((h.setCell ⟨R,2,none⟩ bB v0).setCell ⟨R,3,none⟩ bB v1).setCell ⟨R,4,none⟩ bB v2).setCell ⟨R,5,none⟩ bB v3).setCell ⟨R,6,none⟩ bB v4).setCell ⟨R,7,none⟩ bB v5).setCell ⟨R,8,none⟩ bB v6).setCell ⟨R,9,none⟩ bB hh
def fU.Ay{B:Nat}{cs:Array Value}{t:TypeId}(h:fU w base x d)(ad:w.heap[B]?=some (.cells cs t fr))(af:154≠t)(an:34≠t)(aO:77≠t)(aj:aI (λx=>x=B) w w'):fU w' base x d:=
 let ⟨ys,q,o,a⟩:=h.e
 ⟨h.k,h.id,h.c,h.u,aj.bS h.f (h.f.eW ad af),ys,q,aj.bS o (o.eW ad an),λy hy=>aj.bS (a y hy) ((a y hy).eW ad aO)⟩
def Lb(r:e9)(w:World)(e:Ending)(w':World):Prop:=∃x:bR,e=.returned (.tuple #[.agg #[r.k,ae (r.n:Int),x.k,x.id.b,ae x.id.l,ae x.id.s,x.c,ae x.u,x.f,x.e,r.id.b,ae r.id.l,ae r.id.s],av])/\fU w' w.heap.size x r.e/\(r.k≠2/\r.k≠3->x=sL)/\Z w w'
def aoB(a:bl)(n cap:Nat)(m:Nat)(w:aC)(ar:a7 w 1 cr a n cap (df 1++(df m++[])))(aq:n<=100000)(hm:gw m):
  aS 77 #[ao a n cap] w (Lb (nR m) w):=by
 change aa _ at ar;refine Yt ?_;intro w1 p nn gp mP br di ks _ _ _ _;refine(BD p 1 6 _ _ di ah ah).mono ?_;refine K8 ?_;intro aN mQ e8 kt
 have hQ:mj w (aN.alloc (.cells #[bo 1,aw,av,av,aw,aw,av,aw,aP,aP,av,aw,aw] 169)) 169 p w (aN:Nat) #[bo 1,aw,av,av,aw,aw,av,aw,aP,aP,av,aw,aw] #[av,aw,av,av,aw,aw,av,aw,aP,aP,av,aw,aw] _:=
  ⟨mQ.ext ((Z.refl aN).alloc _),(((Z.refl aN).alloc _).block _ (bZ kt)).trans kt,mu _ _,(e8.ext (λb ad=>by subst ad;exact lu mP) br).alloc _,lu mP,bJ _,ek br.size e8.size,vc (bZ kt),ah,ah⟩
 change aa _ at hQ;go_wp2_with fail;refine(oI p m _ _ hQ.ht qv).mono ?_;rintro e a6⟨rfl,uu,h8⟩;have mR:=hQ.oK uu h8;obtain⟨cA,cR,cS,du,dw,dx,dB,dy,jH,zh,zi,zj,zk,ff⟩:=rD (show a6.heap[(aN:Nat)]?=some (.cells #[bo 1,aw,av,av,aw,aw,av,aw,aP,aP,av,aw,aw] _ _)from mR.b);have kQ:=mR.jN 1 (ae (m:Int)) rfl;change aa _ at kQ;go_wp2_with fail;refine(Ar p _ kQ.ht).mono ?_;rintro e e1⟨rfl,hP⟩;have kj:=kQ.qw hP;change aa _ at hP;obtain⟨cA,cR,cS,du,dw,dx,dB,dy,jH,zh,zi,zj,zk,ff⟩:=rD (show e1.heap[(aN:Nat)]?=some (.cells #[bo 1,ae (m:Int),av,av,aw,aw,av,aw,aP,aP,av,aw,aw] _ _)from kj.b);change aa _ at kj;go_wp2_with fail;refine(ado m _).mono ?_;rintro e dc⟨rfl,ml⟩;have j6:=kj.qw ml;change aa _ at ml;obtain⟨_,_,_,_,_,_,_,_,_,_,_,_,_,_⟩:=rD (show dc.heap[(aN:Nat)]?=some (.cells #[bo 1,ae (m:Int),av,av,aw,aw,av,aw,aP,aP,av,aw,aw] _ _)from j6.b);refine Yu ?_;intro z0 cZ z2 z3 z4 z5 gx fE Az z9 IJ IK z12 mT dj;change aa _ at j6;go_wp2_with fail;have iz:=OM (S:=λx=>x=w.heap.size) (aI.refl _ dc) (R:=w.heap.size) (.inl rfl) (.int .i64 1) (.int .u64 (m:Int)) (.int .i64 0) (.int .i64 0) (.int .u64 0) (.int .u64 0) (.int .i64 0) (.int .u64 0) (Value.slice none 0 0) (Value.slice none 0 0) (.int .i64 0) (.int .u64 0) (.int .u64 0);refine ke (v:=.tuple #[.agg #[bo 1,ae (m:Int),av,av,aw,aw,av,aw,aP,aP,av,aw,aw],av]) ON rfl ⟨sL,rfl,⟨rfl,rfl,rfl,rfl,aH.nil _ _ _ T.bI,[],rfl,aH.nil _ _ _ eu.bI,λy hy=>by cases hy⟩,λ_=>rfl,iz.ext (λb ad=>by subst ad;exact bJ _) j6.ext⟩
def aoC(a:bl)(n cap:Nat)(i:ax)(w:aC)(ar:a7 w 1 cr a n cap (df 4++(df 0++(iK i++[]))))(aq:n<=100000)(aK:dY i):
  aS 77 #[ao a n cap] w (Lb (mU i) w):=by
 change aa _ at ar;refine Yt ?_;intro w1 p nn gp mP br di ks _ _ _ _;refine(BD p 4 6 _ _ di ah ah).mono ?_;refine K8 ?_;intro aN mQ e8 kt
 have hQ:mj w (aN.alloc (.cells #[bo 4,aw,av,av,aw,aw,av,aw,aP,aP,av,aw,aw] 169)) 169 p w (aN:Nat) #[bo 4,aw,av,av,aw,aw,av,aw,aP,aP,av,aw,aw] #[av,aw,av,av,aw,aw,av,aw,aP,aP,av,aw,aw] _:=
  ⟨mQ.ext ((Z.refl aN).alloc _),(((Z.refl aN).alloc _).block _ (bZ kt)).trans kt,mu _ _,(e8.ext (λb ad=>by subst ad;exact lu mP) br).alloc _,lu mP,bJ _,ek br.size e8.size,vc (bZ kt),ah,ah⟩
 change aa _ at hQ;go_wp2_with fail;refine(oI p 0 _ _ hQ.ht qv).mono ?_;rintro e a6⟨rfl,uu,h8⟩;have mR:=hQ.oK uu h8;obtain⟨cA,cR,cS,du,dw,dx,dB,dy,jH,zh,zi,zj,zk,ff⟩:=rD (show a6.heap[(aN:Nat)]?=some (.cells #[bo 4,aw,av,av,aw,aw,av,aw,aP,aP,av,aw,aw] _ _)from mR.b);have kQ:=mR.jN 1 aw rfl;change aa _ at kQ;go_wp2_with fail;refine(OI p i [] _ kQ.ht aK).mono ?_;rintro e cB⟨rfl,wb,n3⟩;have o9:=kQ.oK wb n3;obtain⟨cA,cR,cS,du,dw,dx,dB,dy,jH,zh,zi,zj,zk,ff⟩:=rD (show cB.heap[(aN:Nat)]?=some (.cells #[bo 4,aw,av,av,aw,aw,av,aw,aP,aP,av,aw,aw] _ _)from o9.b);have k8:=((o9.jN 10 i.b (cs':=#[bo 4,aw,av,av,aw,aw,av,aw,aP,aP,i.b,aw,aw]) rfl).jN 11 (ae i.l) (cs':=#[bo 4,aw,av,av,aw,aw,av,aw,aP,aP,i.b,ae i.l,aw]) rfl).jN 12 (ae i.s) (cs':=#[bo 4,aw,av,av,aw,aw,av,aw,aP,aP,i.b,ae i.l,ae i.s]) rfl;change aa _ at k8;go_wp2_with fail;refine(Ar p _ k8.ht).mono ?_;rintro e e1⟨rfl,hP⟩;have kj:=k8.qw hP;change aa _ at hP;obtain⟨cA,cR,cS,du,dw,dx,dB,dy,jH,zh,zi,zj,zk,ff⟩:=rD (show e1.heap[(aN:Nat)]?=some (.cells #[bo 4,aw,av,av,aw,aw,av,aw,aP,aP,i.b,ae i.l,ae i.s] _ _)from kj.b);change aa _ at kj;go_wp2_with fail;refine(ads i _ aK.b.1 aK.b.2).mono ?_;rintro e dc⟨rfl,ml⟩;have j6:=kj.qw ml;change aa _ at ml;obtain⟨_,_,_,_,_,_,_,_,_,_,_,_,_,_⟩:=rD (show dc.heap[(aN:Nat)]?=some (.cells #[bo 4,aw,av,av,aw,aw,av,aw,aP,aP,i.b,ae i.l,ae i.s] _ _)from j6.b);refine Yu ?_;intro z0 cZ z2 z3 z4 z5 gx fE Az z9 IJ IK z12 mT dj;change aa _ at j6;go_wp2_with fail;have iz:=OM (S:=λx=>x=w.heap.size) (aI.refl _ dc) (R:=w.heap.size) (.inl rfl) (.int .i64 4) (.int .u64 0) (.int .i64 0) (.int .i64 0) (.int .u64 0) (.int .u64 0) (.int .i64 0) (.int .u64 0) (Value.slice none 0 0) (Value.slice none 0 0) (.int .i64 i.b) (.int .u64 i.l) (.int .u64 i.s);refine ke (v:=.tuple #[.agg #[bo 4,aw,av,av,aw,aw,av,aw,aP,aP,i.b,ae i.l,ae i.s],av]) ON rfl ⟨sL,rfl,⟨rfl,rfl,rfl,rfl,aH.nil _ _ _ T.bI,[],rfl,aH.nil _ _ _ eu.bI,λy hy=>by cases hy⟩,λ_=>rfl,iz.ext (λb ad=>by subst ad;exact bJ _) j6.ext⟩
def aoD(a:bl)(n cap:Nat)(i:ax)(w:aC)(ar:a7 w 1 cr a n cap (df 5++(df 0++(iK i++[]))))(aq:n<=100000)(aK:dY i):
  aS 77 #[ao a n cap] w (Lb (zg i) w):=by
 change aa _ at ar;refine Yt ?_;intro w1 p nn gp mP br di ks _ _ _ _;refine(BD p 5 6 _ _ di ah ah).mono ?_;refine K8 ?_;intro aN mQ e8 kt
 have hQ:mj w (aN.alloc (.cells #[bo 5,aw,av,av,aw,aw,av,aw,aP,aP,av,aw,aw] 169)) 169 p w (aN:Nat) #[bo 5,aw,av,av,aw,aw,av,aw,aP,aP,av,aw,aw] #[av,aw,av,av,aw,aw,av,aw,aP,aP,av,aw,aw] _:=
  ⟨mQ.ext ((Z.refl aN).alloc _),(((Z.refl aN).alloc _).block _ (bZ kt)).trans kt,mu _ _,(e8.ext (λb ad=>by subst ad;exact lu mP) br).alloc _,lu mP,bJ _,ek br.size e8.size,vc (bZ kt),ah,ah⟩
 change aa _ at hQ;go_wp2_with fail;refine(oI p 0 _ _ hQ.ht qv).mono ?_;rintro e a6⟨rfl,uu,h8⟩;have mR:=hQ.oK uu h8;obtain⟨cA,cR,cS,du,dw,dx,dB,dy,jH,zh,zi,zj,zk,ff⟩:=rD (show a6.heap[(aN:Nat)]?=some (.cells #[bo 5,aw,av,av,aw,aw,av,aw,aP,aP,av,aw,aw] _ _)from mR.b);have kQ:=mR.jN 1 aw rfl;change aa _ at kQ;go_wp2_with fail;refine(OI p i [] _ kQ.ht aK).mono ?_;rintro e cB⟨rfl,wb,n3⟩;have o9:=kQ.oK wb n3;obtain⟨cA,cR,cS,du,dw,dx,dB,dy,jH,zh,zi,zj,zk,ff⟩:=rD (show cB.heap[(aN:Nat)]?=some (.cells #[bo 5,aw,av,av,aw,aw,av,aw,aP,aP,av,aw,aw] _ _)from o9.b);have k8:=((o9.jN 10 i.b (cs':=#[bo 5,aw,av,av,aw,aw,av,aw,aP,aP,i.b,aw,aw]) rfl).jN 11 (ae i.l) (cs':=#[bo 5,aw,av,av,aw,aw,av,aw,aP,aP,i.b,ae i.l,aw]) rfl).jN 12 (ae i.s) (cs':=#[bo 5,aw,av,av,aw,aw,av,aw,aP,aP,i.b,ae i.l,ae i.s]) rfl;change aa _ at k8;go_wp2_with fail;refine(Ar p _ k8.ht).mono ?_;rintro e e1⟨rfl,hP⟩;have kj:=k8.qw hP;change aa _ at hP;obtain⟨cA,cR,cS,du,dw,dx,dB,dy,jH,zh,zi,zj,zk,ff⟩:=rD (show e1.heap[(aN:Nat)]?=some (.cells #[bo 5,aw,av,av,aw,aw,av,aw,aP,aP,i.b,ae i.l,ae i.s] _ _)from kj.b);change aa _ at kj;go_wp2_with fail;refine(adu i _ aK.b.1 aK.b.2).mono ?_;rintro e dc⟨rfl,ml⟩;have j6:=kj.qw ml;change aa _ at ml;obtain⟨_,_,_,_,_,_,_,_,_,_,_,_,_,_⟩:=rD (show dc.heap[(aN:Nat)]?=some (.cells #[bo 5,aw,av,av,aw,aw,av,aw,aP,aP,i.b,ae i.l,ae i.s] _ _)from j6.b);refine Yu ?_;intro z0 cZ z2 z3 z4 z5 gx fE Az z9 IJ IK z12 mT dj;change aa _ at j6;go_wp2_with fail;have iz:=OM (S:=λx=>x=w.heap.size) (aI.refl _ dc) (R:=w.heap.size) (.inl rfl) (.int .i64 5) (.int .u64 0) (.int .i64 0) (.int .i64 0) (.int .u64 0) (.int .u64 0) (.int .i64 0) (.int .u64 0) (Value.slice none 0 0) (Value.slice none 0 0) (.int .i64 i.b) (.int .u64 i.l) (.int .u64 i.s);refine ke (v:=.tuple #[.agg #[bo 5,aw,av,av,aw,aw,av,aw,aP,aP,i.b,ae i.l,ae i.s],av]) ON rfl ⟨sL,rfl,⟨rfl,rfl,rfl,rfl,aH.nil _ _ _ T.bI,[],rfl,aH.nil _ _ _ eu.bI,λy hy=>by cases hy⟩,λ_=>rfl,iz.ext (λb ad=>by subst ad;exact bJ _) j6.ext⟩
def aoE(a:bl)(n cap:Nat)(m:Nat)(d:bb)(w:aC)(bj:a7 w 1 cr a n cap (df 2++(df m++(gY (iL d)++[]))))(aq:n<=100000)(hm:gw m)(a1:(iL d).length<=n)(aG:gZ d):
  aS 77 #[ao a n cap] w (Lb (iA m d) w):=by
 refine adz ?_;intro ar cJ w1 p nn xT gp mP IL br di ks _ _ _ _;refine(BD p 2 6 _ _ di.out ah ah).mono ?_;rintro e aN⟨rfl,mQ,e8⟩;have kt:=(e8.block _ (bZ ks.out) J).trans ks.out
 have sM:mj w (aN.alloc (.cells #[bo 2,aw,av,av,aw,aw,av,aw,aP,aP,av,aw,aw] 169)) 169 p w (aN:Nat) #[bo 2,aw,av,av,aw,aw,av,aw,aP,aP,av,aw,aw] #[av,aw,av,av,aw,aw,av,aw,aP,aP,av,aw,aw] _:=
  ⟨mQ.ext ((Z.refl aN).alloc _),(((Z.refl aN).alloc _).block _ (bZ kt)).trans kt,mu _ _,(e8.ext (λb ad=>by subst ad;exact lu mP) br.out).alloc _,lu mP,bJ _,ek br.out.size e8.size,vc (bZ kt),ah,ah⟩
 have hQ:=I sM;go_wp2_with fail;refine(oI p m _ _ hQ.out.ht qv).mono ?_;rintro e a6⟨rfl,uu,h8⟩;have mR:=hQ.out.oK uu h8;obtain⟨cA,cR,cS,du,dw,dx,dB,dy,jH,zh,zi,zj,zk,ff⟩:=rD (show a6.heap[(aN:Nat)]?=some (.cells #[bo 2,aw,av,av,aw,aw,av,aw,aP,aP,av,aw,aw] _ _)from mR.b);have Yv:=mR.jN 1 (ae (m:Int)) rfl;have kQ:=I Yv;go_wp2_with fail;refine(EE p (n:Int) (iL d) [] _ kQ.out.ht J J J).mono ?_;rintro e _⟨_,_,rfl,we,wb,n3⟩;have o9:=kQ.out.oK wb n3;have ed:=I we;have k8:=I o9;go_wp2_with fail;refine(Tk _ _ _ d _ ed.out.aF cJ.out J).mono ?_;rintro e bA⟨x,rfl,NR,iy⟩;have mS:=k8.out.qw iy;have adA:=NR.mono (aBw:=(w:Nat)) k8.out.ext.size;have OO:=k8.out.qw iy;obtain⟨cA,cR,cS,du,dw,dx,dB,dy,jH,zh,zi,zj,zk,ff⟩:=rD (show bA.heap[(aN:Nat)]?=some (.cells #[bo 2,ae (m:Int),av,av,aw,aw,av,aw,aP,aP,av,aw,aw] _ _)from OO.b);have Gt:=bZ OO.b;have Yw:=mS.jN 2 x.k (cs':=#[bo 2,ae (m:Int),x.k,av,aw,aw,av,aw,aP,aP,av,aw,aw]) rfl;have Yx:=Yw.jN 3 x.id.b (cs':=#[bo 2,ae (m:Int),x.k,x.id.b,aw,aw,av,aw,aP,aP,av,aw,aw]) rfl;have Yy:=Yx.jN 4 (ae x.id.l) (cs':=#[bo 2,ae (m:Int),x.k,x.id.b,ae x.id.l,aw,av,aw,aP,aP,av,aw,aw]) rfl;have Yz:=Yy.jN 5 (ae x.id.s) (cs':=#[bo 2,ae (m:Int),x.k,x.id.b,ae x.id.l,ae x.id.s,av,aw,aP,aP,av,aw,aw]) rfl;have YA:=Yz.jN 6 x.c (cs':=#[bo 2,ae (m:Int),x.k,x.id.b,ae x.id.l,ae x.id.s,x.c,aw,aP,aP,av,aw,aw]) rfl;have YB:=YA.jN 7 (ae x.u) (cs':=#[bo 2,ae (m:Int),x.k,x.id.b,ae x.id.l,ae x.id.s,x.c,ae x.u,aP,aP,av,aw,aw]) rfl;have YC:=YB.jN 8 x.f (cs':=#[bo 2,ae (m:Int),x.k,x.id.b,ae x.id.l,ae x.id.s,x.c,ae x.u,x.f,aP,av,aw,aw]) rfl;have adB:=YC.jN 9 x.e (cs':=#[bo 2,ae (m:Int),x.k,x.id.b,ae x.id.l,ae x.id.s,x.c,ae x.u,x.f,x.e,av,aw,aw]) rfl;refine adC ?_;intro Gw Tn vd Aw;go_wp2_with fail;refine(Ar p _ vd.out.ht).mono ?_;rintro e e1⟨rfl,uW⟩;have OP:=vd.out.qw uW;have hP:=I uW;obtain⟨cA,cR,cS,du,dw,dx,dB,dy,jH,zh,zi,zj,zk,ff⟩:=rD (show e1.heap[(aN:Nat)]?=some (.cells #[bo 2,ae (m:Int),x.k,x.id.b,ae x.id.l,ae x.id.s,x.c,ae x.u,x.f,x.e,av,aw,aw] _ _)from OP.b);have kj:=I OP;go_wp2_with fail;refine(adp m x d _ (Aw.out.ck.ext hP.out) cJ.out).mono ?_;rintro e dc⟨rfl,tB⟩;have hW:=kj.out.qw tB;have ml:=I tB;obtain⟨_,_,_,_,_,_,_,_,_,_,_,_,_,_⟩:=rD (show dc.heap[(aN:Nat)]?=some (.cells #[bo 2,ae (m:Int),x.k,x.id.b,ae x.id.l,ae x.id.s,x.c,ae x.u,x.f,x.e,av,aw,aw] _ _)from hW.b);obtain⟨z0,cZ,z2,z3,z4,z5,gx,fE,Az,z9,IJ,IK,z12,_⟩:=rD (show dc.heap[(w:Nat)]?=some (.cells #[av,aw,av,av,aw,aw,av,aw,aP,aP,av,aw,aw] _ _)from hW.r);have dj:=hW.fx;have j6:=I hW;go_wp2_with fail;have iz:=OM (S:=λx=>x=(w:Nat)) (aI.refl _ dc) (R:=(w:Nat)) (.inl rfl) (bo 2) (ae (m:Int)) x.k x.id.b (ae x.id.l) (ae x.id.s) x.c (ae x.u) x.f x.e av aw aw;refine ke (v:=.tuple #[.agg #[bo 2,ae (m:Int),x.k,x.id.b,ae x.id.l,ae x.id.s,x.c,ae x.u,x.f,x.e,av,aw,aw],av]) ON rfl ⟨x,rfl,(Aw.out.ext (hP.out.trans ml.out)).Ay j6.out.r ah ah ah iz,λh=>absurd rfl h.1,iz.ext (λb ad=>by subst ad;exact bJ _) j6.out.ext⟩
def aoF(a:bl)(n cap:Nat)(d:bb)(w:aC)(bj:a7 w 1 cr a n cap (df 3++(df 0++(gY (iL d)++[]))))(aq:n<=100000)(a1:(iL d).length<=n)(aG:gZ d):
  aS 77 #[ao a n cap] w (Lb (kR d) w):=by
 refine adz ?_;intro ar cJ w1 p nn xT gp mP IL br di ks _ _ _ _;refine(BD p 3 6 _ _ di.out ah ah).mono ?_;rintro e aN⟨rfl,mQ,e8⟩;have kt:=(e8.block _ (bZ ks.out) J).trans ks.out
 have sM:mj w (aN.alloc (.cells #[bo 3,aw,av,av,aw,aw,av,aw,aP,aP,av,aw,aw] 169)) 169 p w (aN:Nat) #[bo 3,aw,av,av,aw,aw,av,aw,aP,aP,av,aw,aw] #[av,aw,av,av,aw,aw,av,aw,aP,aP,av,aw,aw] _:=
  ⟨mQ.ext ((Z.refl aN).alloc _),(((Z.refl aN).alloc _).block _ (bZ kt)).trans kt,mu _ _,(e8.ext (λb ad=>by subst ad;exact lu mP) br.out).alloc _,lu mP,bJ _,ek br.out.size e8.size,vc (bZ kt),ah,ah⟩
 have hQ:=I sM;go_wp2_with fail;refine(oI p 0 _ _ hQ.out.ht qv).mono ?_;rintro e a6⟨rfl,uu,h8⟩;have mR:=hQ.out.oK uu h8;obtain⟨cA,cR,cS,du,dw,dx,dB,dy,jH,zh,zi,zj,zk,ff⟩:=rD (show a6.heap[(aN:Nat)]?=some (.cells #[bo 3,aw,av,av,aw,aw,av,aw,aP,aP,av,aw,aw] _ _)from mR.b);have Yv:=mR.jN 1 aw rfl;have kQ:=I Yv;go_wp2_with fail;refine(EE p (n:Int) (iL d) [] _ kQ.out.ht J J J).mono ?_;rintro e _⟨_,_,rfl,we,wb,n3⟩;have o9:=kQ.out.oK wb n3;have ed:=I we;have k8:=I o9;go_wp2_with fail;refine(Tk _ _ _ d _ ed.out.aF cJ.out J).mono ?_;rintro e bA⟨x,rfl,NR,iy⟩;have mS:=k8.out.qw iy;have adA:=NR.mono (aBw:=(w:Nat)) k8.out.ext.size;have OO:=k8.out.qw iy;obtain⟨cA,cR,cS,du,dw,dx,dB,dy,jH,zh,zi,zj,zk,ff⟩:=rD (show bA.heap[(aN:Nat)]?=some (.cells #[bo 3,aw,av,av,aw,aw,av,aw,aP,aP,av,aw,aw] _ _)from OO.b);have Gt:=bZ OO.b;have Yw:=mS.jN 2 x.k (cs':=#[bo 3,aw,x.k,av,aw,aw,av,aw,aP,aP,av,aw,aw]) rfl;have Yx:=Yw.jN 3 x.id.b (cs':=#[bo 3,aw,x.k,x.id.b,aw,aw,av,aw,aP,aP,av,aw,aw]) rfl;have Yy:=Yx.jN 4 (ae x.id.l) (cs':=#[bo 3,aw,x.k,x.id.b,ae x.id.l,aw,av,aw,aP,aP,av,aw,aw]) rfl;have Yz:=Yy.jN 5 (ae x.id.s) (cs':=#[bo 3,aw,x.k,x.id.b,ae x.id.l,ae x.id.s,av,aw,aP,aP,av,aw,aw]) rfl;have YA:=Yz.jN 6 x.c (cs':=#[bo 3,aw,x.k,x.id.b,ae x.id.l,ae x.id.s,x.c,aw,aP,aP,av,aw,aw]) rfl;have YB:=YA.jN 7 (ae x.u) (cs':=#[bo 3,aw,x.k,x.id.b,ae x.id.l,ae x.id.s,x.c,ae x.u,aP,aP,av,aw,aw]) rfl;have YC:=YB.jN 8 x.f (cs':=#[bo 3,aw,x.k,x.id.b,ae x.id.l,ae x.id.s,x.c,ae x.u,x.f,aP,av,aw,aw]) rfl;have adB:=YC.jN 9 x.e (cs':=#[bo 3,aw,x.k,x.id.b,ae x.id.l,ae x.id.s,x.c,ae x.u,x.f,x.e,av,aw,aw]) rfl;refine adC ?_;intro Gw Tn vd Aw;go_wp2_with fail;refine(Ar p _ vd.out.ht).mono ?_;rintro e e1⟨rfl,uW⟩;have OP:=vd.out.qw uW;have hP:=I uW;obtain⟨cA,cR,cS,du,dw,dx,dB,dy,jH,zh,zi,zj,zk,ff⟩:=rD (show e1.heap[(aN:Nat)]?=some (.cells #[bo 3,aw,x.k,x.id.b,ae x.id.l,ae x.id.s,x.c,ae x.u,x.f,x.e,av,aw,aw] _ _)from OP.b);have kj:=I OP;go_wp2_with fail;refine(adr x d _ (Aw.out.ck.ext hP.out) cJ.out).mono ?_;rintro e dc⟨rfl,tB⟩;have hW:=kj.out.qw tB;have ml:=I tB;obtain⟨_,_,_,_,_,_,_,_,_,_,_,_,_,_⟩:=rD (show dc.heap[(aN:Nat)]?=some (.cells #[bo 3,aw,x.k,x.id.b,ae x.id.l,ae x.id.s,x.c,ae x.u,x.f,x.e,av,aw,aw] _ _)from hW.b);obtain⟨z0,cZ,z2,z3,z4,z5,gx,fE,Az,z9,IJ,IK,z12,_⟩:=rD (show dc.heap[(w:Nat)]?=some (.cells #[av,aw,av,av,aw,aw,av,aw,aP,aP,av,aw,aw] _ _)from hW.r);have dj:=hW.fx;have j6:=I hW;go_wp2_with fail;have iz:=OM (S:=λx=>x=(w:Nat)) (aI.refl _ dc) (R:=(w:Nat)) (.inl rfl) (bo 3) aw x.k x.id.b (ae x.id.l) (ae x.id.s) x.c (ae x.u) x.f x.e av aw aw;refine ke (v:=.tuple #[.agg #[bo 3,aw,x.k,x.id.b,ae x.id.l,ae x.id.s,x.c,ae x.u,x.f,x.e,av,aw,aw],av]) ON rfl ⟨x,rfl,(Aw.out.ext (hP.out.trans ml.out)).Ay j6.out.r ah ah ah iz,λh=>absurd rfl h.2,iz.ext (λb ad=>by subst ad;exact bJ _) j6.out.ext⟩
def aoG(a:bl)(n cap:Nat)(r:e9)(w:aC)(bj:a7 w 1 cr a n cap (gi r))(az:xX r)(aq:n<=100000):
  aS 77 #[ao a n cap] w (Lb r w):=by
 have l8:=bj.neq;rcases az with ⟨m,rfl,hm⟩|⟨m,d,rfl,hm,aG⟩|⟨d,rfl,aG⟩|⟨i,rfl,aK⟩|⟨i,rfl,aK⟩
 ·exact aoB a n cap m w bj aq hm
 ·have e:gi (iA m d)=df 2++(df m++(gY (iL d)++[])):=by rw[nc];rfl
  rw[e]at bj l8;exact aoE a n cap m d w bj aq hm Yr aG
 ·have e:gi (kR d)=df 3++(df 0++(gY (iL d)++[])):=by rw[nc];rfl
  rw[e]at bj l8;exact aoF a n cap d w bj aq Yr aG
 ·have e:gi (mU i)=df 4++(df 0++(iK i++[])):=by rw[nc];rfl
  rw[e]at bj;exact aoC a n cap i w bj aq aK
 ·have e:gi (zg i)=df 5++(df 0++(iK i++[])):=by rw[nc];rfl
  rw[e]at bj;exact aoD a n cap i w bj aq aK
def YD(x:bR)(r:e9)(w:aC)(eL:hK w x r.e)(bp:r.k≠2/\r.k≠3->x=sL)(az:xX r):
  aS 134 #[.agg #[r.k,ae (r.n:Int),x.k,x.id.b,ae x.id.l,ae x.id.s,x.c,ae x.u,x.f,x.e,r.id.b,ae r.id.l,ae r.id.s]] w (xe (gi r) w):=by
 rcases az with ⟨m,rfl,hm⟩|⟨m,d,rfl,hm,aG⟩|⟨d,rfl,aG⟩|⟨i,rfl,aK⟩|⟨i,rfl,aK⟩
 ·obtain rfl:=bp ⟨show(1:Int)≠2 by decide,show(1:Int)≠3 by decide⟩;exact aov m w hm
 ·exact aow m x d w hm eL aG
 ·exact aox x d w eL aG
 ·obtain rfl:=bp ⟨show(4:Int)≠2 by decide,show(4:Int)≠3 by decide⟩;exact aoy i w aK
 ·obtain rfl:=bp ⟨show(5:Int)≠2 by decide,show(5:Int)≠3 by decide⟩;exact aoz i w aK
def OQ(s:Int):Int:=if bits BinOp.and IntKind.u32 s 1=1 then bits BinOp.xor IntKind.u32 (s / 2) 3945912366 else s / 2
def EM:Nat->Int->Int
 |0,s=>s
 |k+1,s=>OQ (EM k s)
def aoH(s:Int)(c:UInt8):Int:=EM 8 (bits BinOp.xor IntKind.u32 s (c.toNat:Int))
def Lc(l:List UInt8):Int:=l.foldl aoH 4294967295
def BH(l:List UInt8):Int:=bits BinOp.xor IntKind.u32 IntKind.u32.max (Lc l)
def aoI{l:eg}(hk:k<l.length):Lc (l.take (k+1))=EM 8 (bits BinOp.xor IntKind.u32 (Lc (l.take k)) (l[k].toNat:Int)):=by
 unfold Lc;exact CZ
def YE(l:eg):0<=BH l/\BH l<4294967296:=by
 unfold BH bits;have h:=λz:Int=>(show IntKind.u32.wrap z=z % 4294967296 from by simp[IntKind.wrap_u32]);rw[h];omega
def adD(a:bl)(n cap:Nat)(xs:eg)(w:aC)(ar:a7 w 1 cr a n cap xs):
  aS 124 #[ao a n cap] w (cU (.int .u32 (BH xs)) w):=by
 obtain rfl:=ar.neq;refine td ?_;intro hm a1;change aa _ at ar;go_enter func124,ntmps124;go_wp2_with fail;go_loopg [3,9] (xs.length) (λg cf dS wr=>∃k:Nat,g+k=xs.length/\dS=.int .i64 (k:Int)/\cf=.int .u32 (Lc (xs.take k))/\aa (Z w wr));case atStart=>exact⟨0,J,rfl,rfl,U⟩
 case round=>
  obtain⟨k,_,rfl,rfl,X⟩:=hrel;by_cases hk:k<xs.length
  ·obtain⟨b,o,rfl,al⟩:=ar.get k hk;have d0:wr.cell? (b,o+k*1)=some (.int .u8 (xs[k].toNat:Int)):=X.ag (al 0 _ rfl);rw[jd]at d0;clear al;refine jU ?_;intro b0 bf;obtain⟨_,AA⟩:∃v,v=wr:=⟨_,rfl⟩;subst AA;obtain⟨EN,OR⟩:∃v,v=gk:=⟨_,rfl⟩;subst OR;have Gv:((xs[k].toNat:Int)) % 4294967296=(xs[k].toNat:Int):=by have:=xs[k].toNat_lt;omega
   have hR:=I (aoI hk);obtain⟨S,Gx⟩:∃S,S=bits BinOp.xor IntKind.u32 (Lc (xs.take k)) (xs[k].toNat:Int):=⟨_,rfl⟩;change aa _ at Gx;go_wp2_with fail;rw[<-Gx.out];clear Gv;go_loopg [3,17] 8 (λg cf dS wr=>∃j:Nat,g+j=8/\dS=.int .i64 (j:Int)/\cf=.int .u32 (EM j S)/\aa (Z w wr));case atStart=>exact⟨0,rfl,rfl,rfl,U⟩
   case round=>
    obtain⟨j,_,rfl,rfl,_⟩:=hrel;by_cases az5:j<8
    ·have dA:(j:Int)<8:=J;obtain⟨C,cg⟩:∃C,C=EM j S:=⟨_,rfl⟩;rw[<-cg];change aa _ at cg;by_cases adE:bits BinOp.and IntKind.u32 C 1=1
     ·have bn:=I adE;go_wp2;go_roundg (gk - 1);case measure=>omega
      case rel=>exact⟨j+1,J,by go_num,(by rw[show EM (j+1) S=OQ (EM j S)from rfl,<-cg.out];unfold OQ;rw[bc bn.out]),U⟩
     ·have bn:=I adE;go_wp2;go_roundg (gk - 1);case measure=>omega
      case rel=>exact⟨j+1,J,by go_num,(by rw[show EM (j+1) S=OQ (EM j S)from rfl,<-cg.out];unfold OQ;rw[aV bn.out]),U⟩
    ·have dA:¬(j:Int)<8:=J;obtain rfl:j=8:=J;go_wp2;go_roundg (EN - 1);case measure=>omega
     case rel=>exact⟨k+1,J,by go_num,(by rw[hR.out,Gx.out]),U⟩
  ·refine sy ?_;intro cb;go_wp2;go_ret;refine⟨rfl,?_⟩;exact U
def aoJ(W:World)(B:Nat)(ys:List UInt8)(e:Ending)(w':World):Prop:=
 e=.returned (.tuple #[])/\∃aA n c,w'.heap[B]?=some (.cells #[ao aA n c] 107 (0,0))/\aH w' W.heap.size 5 1 cr aA n c ys/\Z W w'/\n<=5000
def aH.lY{B j:Nat}{t:TypeId}{c:α->List Value}{ys:List α}{cs:Array Value}(h:aH w base e sz c aA n cap ys)(ad:w.heap[B]?=some (.cells cs t fr))(dj:e≠t)(v:Value):aH (w.setCell (B,j) v) base e sz c aA n cap ys:=
 (aI.setCell (S:=λx=>x=B) (aI.refl _ w) (B,j) (.inl rfl) v).bS h (h.eW ad dj)
def adF(W:aC)(B L n:Nat)(aA:bl)(m cap:Nat)(ys:eg)(w:aC)(bn:w.heap[B]?=some (.cells #[ao aA m cap] 107 (0,0)))(bx:(W:Nat)<=B)(bu:aH w W 5 1 cr aA m cap ys)(bG:Z W w)(eV:L<=4)(aq:n<4294967296)(hm:m+L<=5000):
  aS 326 #[.int .u32 (n:Int),(L:Int),B] w (aoJ W B (ys++jX n L)):=by
 obtain⟨ct,bO,bL,bM,bP⟩:=fB Iu;change aa _ at bO bL bM bP bn bu bG;go_enter func326,ntmps326;go_wp2_with fail;go_loopg [5] L (λxa dS wr=>∃(j:Nat) (cP:bl) (tv aR:Nat),xa+j=L/\dS=.int .i64 ((L:Int) - 1 - (j:Int))/\tv=m+j/\aa (wr.heap[B]?=some (.cells #[ao cP tv aR] 107 (0,0)))/\aa (aH wr W 5 1 cr cP tv aR (ys++(jX n L).take j))/\aa (Z W wr));case atStart=>exact⟨0,aA,m,cap,J,by simp,rfl,bn,(by rw[EC,nc];exact bu),bG⟩
 case round=>
  obtain⟨j,cP,_,aR,_,rfl,aoK,j7,cd,bq⟩:=hrel;subst aoK;by_cases aD:j<L
  ·have sN:=j7.out;have nL:=aiN sN;have aoL:=lt_of_block sN;obtain⟨q,bs⟩:∃q:Nat,(L:Int) - 1 - (j:Int)=(q:Int):=⟨L - 1 - j,J⟩;have az6:L - 1 - j=q:=J;have Bv:aa (∀ai,cP=some ai->ai.block≠B):=λai ak k=>cd.eW sN ah ai ak k;have aoM:q=0\/q=1\/q=2\/q=3:=J;rcases aoM with rfl|rfl|rfl|rfl
   ·skip;have wg:(L:Int) - 1 - (j:Int)=0:=J;change aa _ at bs;rw[wg];change aa _ at wg;have iZ:IntKind.i64.wrap 0=0:=ah;go_wp2_with fail;go_region_law (first|(refine tq (ys:=ys++(jX n L).take j) rfl (.tmp 12) (.tmp 18) 107 rfl ct _ 1 nK bO bL bM bP rfl ah rfl (cd.ext U) (vZ n 0) _ rfl (by rw[show cr (vZ n 0)= [.int .u8 (IntKind.u8.wrap (n:Int))]from by unfold cr;rw[It];simp[IntKind.wrap_u8]];exact fi rfl) (cr.cQ _) J ah (Z.size (bq.trans U)) ?_;intro g dE a6 gd b2;have cK:=I gd;have o3:=b2.ay (((Z.refl _).alloc _).ay sN) Bv;have Oa:=aiN o3;have Ob:=free_of_one o3;have b9:=I b2;clear gd b2))
    all_goals
     go_wp2
     go_roundg (gk - 1)
     case measure=>omega
     case rel=>
      refine⟨j+1,_,_,_,J,To,rfl,one_setCell o3,?_,(b9.ext (cd.ext U) (bJ _) (bq.trans U)).setCell bx _⟩
      rw[Oo aD,show L - 1 - j=0 from by have:=wg.out;omega,<-ig]
      exact cK.lY o3 ah _
   ·skip;have wg:(L:Int) - 1 - (j:Int)=1:=J;change aa _ at bs;rw[wg];change aa _ at wg;have iZ:IntKind.i64.wrap 8=8:=ah;go_wp2_with fail;go_region_law (first|(refine tq (ys:=ys++(jX n L).take j) rfl (.tmp 12) (.tmp 18) 107 rfl ct _ 1 nK bO bL bM bP rfl ah rfl (cd.ext U) (vZ n 1) _ rfl (by rw[show cr (vZ n 1)= [.int .u8 (IntKind.u8.wrap ((n:Int) / 256))]from by unfold cr;rw[It];simp[IntKind.wrap_u8]];exact fi rfl) (cr.cQ _) J ah (Z.size (bq.trans U)) ?_;intro g dE a6 gd b2;have cK:=I gd;have o3:=b2.ay (((Z.refl _).alloc _).ay sN) Bv;have Oa:=aiN o3;have Ob:=free_of_one o3;have b9:=I b2;clear gd b2))
    all_goals
     go_wp2
     go_roundg (gk - 1)
     case measure=>omega
     case rel=>
      refine⟨j+1,_,_,_,J,To,rfl,one_setCell o3,?_,(b9.ext (cd.ext U) (bJ _) (bq.trans U)).setCell bx _⟩
      rw[Oo aD,show L - 1 - j=1 from by have:=wg.out;omega,<-ig]
      exact cK.lY o3 ah _
   ·skip;have wg:(L:Int) - 1 - (j:Int)=2:=J;change aa _ at bs;rw[wg];change aa _ at wg;have iZ:IntKind.i64.wrap 16=16:=ah;go_wp2_with fail;go_region_law (first|(refine tq (ys:=ys++(jX n L).take j) rfl (.tmp 12) (.tmp 18) 107 rfl ct _ 1 nK bO bL bM bP rfl ah rfl (cd.ext U) (vZ n 2) _ rfl (by rw[show cr (vZ n 2)= [.int .u8 (IntKind.u8.wrap ((n:Int) / 65536))]from by unfold cr;rw[It];simp[IntKind.wrap_u8]];exact fi rfl) (cr.cQ _) J ah (Z.size (bq.trans U)) ?_;intro g dE a6 gd b2;have cK:=I gd;have o3:=b2.ay (((Z.refl _).alloc _).ay sN) Bv;have Oa:=aiN o3;have Ob:=free_of_one o3;have b9:=I b2;clear gd b2))
    all_goals
     go_wp2
     go_roundg (gk - 1)
     case measure=>omega
     case rel=>
      refine⟨j+1,_,_,_,J,To,rfl,one_setCell o3,?_,(b9.ext (cd.ext U) (bJ _) (bq.trans U)).setCell bx _⟩
      rw[Oo aD,show L - 1 - j=2 from by have:=wg.out;omega,<-ig]
      exact cK.lY o3 ah _
   ·skip;have wg:(L:Int) - 1 - (j:Int)=3:=J;change aa _ at bs;rw[wg];change aa _ at wg;have iZ:IntKind.i64.wrap 24=24:=ah;go_wp2_with fail;go_region_law (first|(refine tq (ys:=ys++(jX n L).take j) rfl (.tmp 12) (.tmp 18) 107 rfl ct _ 1 nK bO bL bM bP rfl ah rfl (cd.ext U) (vZ n 3) _ rfl (by rw[show cr (vZ n 3)= [.int .u8 (IntKind.u8.wrap ((n:Int) / 16777216))]from by unfold cr;rw[It];simp[IntKind.wrap_u8]];exact fi rfl) (cr.cQ _) J ah (Z.size (bq.trans U)) ?_;intro g _ _ gd b2;have cK:=I gd;have o3:=b2.ay (((Z.refl _).alloc _).ay sN) Bv;have Oa:=aiN o3;have Ob:=free_of_one o3;have b9:=I b2;clear gd b2))
    all_goals
     go_wp2
     go_roundg (gk - 1)
     case measure=>omega
     case rel=>
      refine⟨j+1,_,_,_,J,To,rfl,one_setCell o3,?_,(b9.ext (cd.ext U) (bJ _) (bq.trans U)).setCell bx _⟩
      rw[Oo aD,show L - 1 - j=3 from by have:=wg.out;omega,<-ig]
      exact cK.lY o3 ah _
  ·go_wp2_with fail;go_end0;have cb:(jX n L).take j=jX n L:=iU (by rw[tu];omega);have h:=cd.out;rw[cb]at h;exact⟨rfl,cP,m+j,aR,j7,h,bq,J⟩
def xY(l:List UInt8):List UInt8:=jX l.length 2++(jX (BH l).toNat 4++l)
def Ld(l:eg):(xY l).length=6+l.length:=by
 unfold xY;rw[c9,c9,tu,tu];omega
def aoN(a:bl)(n cap:Nat)(xs:eg)(w:aC)(ar:a7 w 1 cr a n cap xs)(aZ:1<=n)(bt:n<=4000):
  aS 294 #[ao a n cap] w (xe (xY xs) w):=by
 refine XY ?_;intro ct bO bL bM bP;have qY:=I ar.neq;replace ar:=I ar;have dV:((n:Int)==0)=false:=by simp;omega
 have q1:¬(4000:Int)<(n:Int):=J;go_enter func294,ntmps294;go_wp2_with (refine XX rfl (.const av) (.tmp 16) 107 5 rfl nK bO bL bM (n:=0) (m:=6+n) rfl (by rw[Gp];rfl) J (by rw[bP.out];omega) J ?_)
 have adG:aH (w.alloc (.cells (madeCells #[.int .u8 0] (6+n)) 5)) w 5 1 cr (some (w,0)) 0 (6+n) []:=
  ⟨⟨rfl,.inr ⟨(w:Nat),6+n,_,rfl,bJ _,mu _ _,J,by unfold maxLen;omega,by rw[size_madeCells,jd],rfl⟩⟩,rfl,cr.bI⟩
 have OS:=I (adG.ext ((Z.refl _).alloc (.cells #[.slice (some (w,0)) 0 (6+n)] 107)));clear adG;have ve:((w.alloc (.cells (madeCells #[.int .u8 0] (6+n)) 5)).alloc (.cells #[.slice (some (w,0)) 0 (6+n)] 107)).heap[(w:Nat)+1]?=some (.cells #[.slice (some (w,0)) 0 (6+n)] 107 (0,0)):=by
  have h:=mu (w.alloc (.cells (madeCells #[.int .u8 0] (6+n)) 5)) (.cells #[.slice (some (w,0)) 0 (6+n)] 107);rw[show(w.alloc (.cells (madeCells #[.int .u8 0] (6+n)) 5)).heap.size=(w:Nat)+1 from by simp]at h;exact h
 have az7:IntKind.u32.wrap (n:Int)=(n:Int):=by simp only[IntKind.wrap_u32];omega
 replace ve:=I ve;go_wp2_with fail;refine(adF w (w.heap.size+1) 2 n _ 0 (6+n) [] _ ve J OS U J J J).mono ?_;rintro e _⟨rfl,ch,cF,c2,fW,cd,bq,-⟩;have kA:cF=2:=by rw[cd.neq,mN,tu]
 replace fW:=I fW;replace cd:=I cd;replace bq:=I bq;go_wp2_with fail;refine(adD _ _ _ xs _ (ar.ext bq)).mono ?_;rintro e _⟨rfl,c0⟩;replace c0:=I c0;have az:=YE xs;obtain⟨S,zl⟩:∃S:Nat,BH xs=(S:Int):=⟨(BH xs).toNat,J⟩;rw[zl]at az;rw[zl];replace zl:=I zl;go_wp2_with fail;refine(adF w (w.heap.size+1) 4 S ch cF c2 _ _ (c0.ay fW) J (cd.ext c0) (bq.trans c0) J J J).mono ?_;rintro e _⟨rfl,a4,_,_,q0,ed,eA,_⟩;have bH:=aiN q0;replace ed:=I ed;replace eA:=I eA;clear q0;go_wp2_with (at_builtin;refine tf rfl λoz mx=>?_;refine te (c:=cr) (ys0:= []++jX n 2++jX S 4) (ys:=xs) (.tmp 28) (.tmp 29) 107 5 rfl ct _ 1 nK bO bL bM bP rfl ah rfl w eA ed rfl (ar.ext eA) cr.cQ J ah ?_;intro gh fI cV _ v8 gd dz R6;refine mx _ _ ?_;have cK:=I gd;have hi:=I dz;have Tp:=I v8;clear gd dz R6 v8);go_ret2;refine⟨gh,fI,cV,by first|rfl|(rw[Tp.out];rfl),?_,hi⟩;have h:=cK.out;unfold xY;rw[mN,ig,qY.out]at h;rw[zl.out];exact h
def gj(l:List (List UInt8)):List UInt8:=l.flatMap xY
def aoO(a:bl)(n cap:Nat)(xs:eg)(w:aC)(ar:a7 w 1 cr a n cap xs)(aq:n<=10000000):
  aS 125 #[ao a n cap] w (qp 5 1 cr xs w):=by
 obtain⟨ct,bO,bL,bM,bP⟩:=fB Iu;have l8:=I ar.neq;have a1:=ar.len;have hm:=ar.max;unfold maxLen at hm;change aa _ at ar bO bL bM bP;have W8:=@Lib.run_eql_slice_nil prog;cases a with
 |none=>
  have al:=ar.none rfl;obtain rfl:cap=0:=al;obtain rfl:n=0:=J;have X:xs= []:=Bk l8.symm;subst X;go_enter func125,ntmps125;go_wp2;go_ret;exact⟨none,0,0,rfl,aH.nil _ _ _ cr.bI,U⟩
 |some ai=>
  go_enter func125,ntmps125;exact adH
def OT(a:bl)(n cap:Nat)(xs:eg)(w:aC)(ar:a7 w 1 cr a n cap xs)(aq:n<=10000000):
  aS 74 #[ao a n cap] w (qp 5 1 cr xs w):=by
 obtain⟨ct,bO,bL,bM,bP⟩:=fB Iu;have l8:=I ar.neq;have a1:=ar.len;have hm:=ar.max;unfold maxLen at hm;change aa _ at ar bO bL bM bP;have W8:=@Lib.run_eql_slice_nil prog;cases a with
 |none=>
  have al:=ar.none rfl;obtain rfl:cap=0:=al;obtain rfl:n=0:=J;have X:xs= []:=Bk l8.symm;subst X;go_enter func74,ntmps74;go_wp2;go_ret;exact⟨none,0,0,rfl,aH.nil _ _ _ cr.bI,U⟩
 |some ai=>
  go_enter func74,ntmps74;exact adH
def adI(a:bl)(n cap:Nat)(xs:List ax)(w:aC)(ar:a7 w 3 ax.cs a n cap xs)(aq:n<=10000000):
  aS 73 #[ao a n cap] w (qp 54 3 ax.cs xs w):=by
 obtain⟨ct,bO,bL,bM,bP⟩:=fB yY;have l8:=I ar.neq;have a1:=ar.len;have hm:=ar.max;unfold maxLen at hm;change aa _ at ar bO bL bM bP;have W8:=@Lib.run_eql_slice_nil prog;cases a with
 |none=>
  have al:=ar.none rfl;obtain rfl:cap=0:=al;obtain rfl:n=0:=J;have X:xs= []:=Bk l8.symm;subst X;go_enter func73,ntmps73;go_wp2;go_ret;exact⟨none,0,0,rfl,aH.nil _ _ _ ax.bI,U⟩
 |some ai=>
  go_enter func73,ntmps73;go_wp2_with (at_builtin;refine tf rfl λoz mx=>?_;refine te (c:=ax.cs) (ys0:= []) (ys:=xs) _ _ 31 54 rfl ct _ 24 aiL bO bL bM bP rfl ah rfl w U (aH.empty gA (by simp) ax.bI) rfl (ar.ext U) ax.cQ J ah ?_;intro cP da qR _ hA jc X py;refine mx _ _ ?_;have c7:=I jc;have hy:=I X;have fC:=I hA;clear jc X py hA);go_ret;exact⟨cP,da,qR,rfl,c7,hy⟩
structure gN where
 v:iF
 aB:List UInt8
def gN.cs(x:gN):List Value:= [.slice x.v.a x.v.n x.v.c]
def gN.bI(x:gN):x.cs.length=1:=rfl
def gN.cQ(x:gN):∀u∈x.cs,u.oneCell'=true:=by
 intro u aj;simp only[gN.cs,oy,tb,ue]at aj;rcases aj with rfl;rfl
structure xg (w:World) (a:Option Addr) (n c:Nat) (xs:List gN):Prop where
 aF:a7 w 1 gN.cs a n c xs
 aB:∀x,x∈xs->a7 w 1 cr x.v.a x.v.n x.v.c x.aB
def xg.ext{c:Nat}{xs:List gN}(h:xg w a n c xs)(X:Z w w'):xg w' a n c xs:=⟨h.aF.ext X,λx hm=>(h.aB x hm).ext X⟩
structure sb (w:World) (base:Nat) (a:Option Addr) (n c:Nat) (xs:List gN):Prop where
 cj:aH w base 107 1 gN.cs a n c xs
 aB:∀x,x∈xs->aH w base 5 1 cr x.v.a x.v.n x.v.c x.aB
def sb.v{c:Nat}{xs:List gN}(h:sb w base a n c xs):xg w a n c xs:=⟨h.cj.aF,λx X=>(h.aB x X).aF⟩
def sb.ext{c:Nat}{xs:List gN}(h:sb w base a n c xs)(X:Z w w'):sb w' base a n c xs:=⟨h.cj.ext X,λx hm=>(h.aB x hm).ext X⟩
def sb.nil(w:aC)(base:Nat):sb w base none 0 0 []:=⟨aH.nil _ _ _ gN.bI,λx X=>by cases X⟩
def Tq:(prog.info? 107).map (λi=>(i.zero,i.size,i.bytes))=some (some ↑aP,1,24):=bQ
def aoP{a z:Nat}(bp:z<256)(ak:a*256+z<4294967296):bits BinOp.or IntKind.i64 ((a:Int)*256) (z:Int)=((a*256+z:Nat):Int):=by
 have cm:(a:Int)*256=((a*256:Nat):Int):=J;have dL:(BitVec.ofInt 64 ((a*256:Nat):Int)).toNat=a*256:=by
  rw[BitVec.ofInt_natCast,BitVec.toNat_ofNat];exact Gl (Nat.lt_trans (Om (SU (a*256) z) ak) ah)
 refine acQ ?_;intro Ox;rw[cm];have h:=Nat.two_pow_add_eq_or_of_lt (show z<2 ^ 8 from bp) a;have af:(2:Nat) ^ 8*a=a*256:=J;rw[af]at h;unfold bits;have fo:(BitVec.ofInt IntKind.i64.bits ((a*256:Nat):Int)|||BitVec.ofInt IntKind.i64.bits (z:Int)).toNat=a*256+z:=by
  show(BitVec.ofInt 64 ((a*256:Nat):Int)|||BitVec.ofInt 64 (z:Int)).toNat=a*256+z;rw[BitVec.toNat_or,dL,Ox,h]
 have an:IntKind.i64.wrap ((a*256+z:Nat):Int)=((a*256+z:Nat):Int):=by rw[IntKind.wrap_i64];omega
 simp only[fo,an]
def adJ{P:Program}{ops:Array Oper}{rest:List Oper}{o:Oper}{a:Act}{Q:Exit->Act->aC->Prop}(nz:o.guard=none)(x Ou aK:Operand)(t e:TypeId)(aM:o.op=.slice t x (some Ou) (some aK) none)(bm:P.underlying t=some (.slice e))(fs:(P.info? e).map (·.size)=some 1){b ll l h:Nat}{kk YF:IntKind}(X:a.eval x=.slice (some (b,ll)) n cap)(a1:a.eval Ou=.int kk (l:Int))(c6:a.eval aK=.int YF (h:Int))(az8:l<=h)(hk:h<=cap)(bs:∀Ov,(l<cap->Ov=ll+l)->wpList P ops Q rest (a.put o.dst (.slice (some (b,Ov)) (h - l) (cap - l))) w):wpList P ops Q (o::rest) a w:=by
 refine acO ?_;intro K aE he hs;have mL:=run_slice_lh (P:=P) w t (some (b,ll)) n cap (by rw[he];exact bm) kk YF l h J J J;have j1:=run_sliceAt_slice (P:=P) w t (.slice (some (b,ll)) n cap) (some (.int kk (l:Int))) (some (.int YF (h:Int))) none (by rw[he];exact bm);rw[mL,he,hs]at j1;by_cases pF:cap=l
 ·simp only[Result.andThen,sliced,kN,bc pF]at j1;unfold Oper.wp;simp[execOp,aM,X,a1,c6,j1,Result.andThen];exact aE _ _ (bs ll (λk=>by omega))
 ·simp only[Result.andThen,sliced,kN,aV pF,Gc,jd]at j1;have Ow:((b,ll):Addr).add l=(b,ll+l):=by unfold Addr.add;split<;>simp_all
  rw[Ow]at j1;unfold Oper.wp;simp[execOp,aM,X,a1,c6,j1,Result.andThen];exact aE _ _ (bs (ll+l) (λ_=>rfl))
def adK(R b o n cap f L:Nat)(xs:eg)(w:aC)(ad:w.cell? (R,0)=some (.slice (some (b,o)) n cap))(bj:a7 w 1 cr (some (b,o)) n cap xs)(bk:f+L<=n)(aq:n<=10000000)(eV:L<=4):
  aS 123 #[(f:Int),(L:Int),R] w (cU (.int .i64 (v7 ((xs.drop f).take L):Nat)) w):=by
 have c3:=bj.neq;have aoQ:=bj.len;have cg:∀i (aK:f+i<xs.length),w.cell? (b,o+f+i)=some (.int .u8 (xs[f+i].toNat:Int)):=λi aK=>by rw[Nat.add_assoc];exact SM bj (f+i) aK
 change aa _ at cg;clear bj;go_enter func123,ntmps123;go_wp2_with (refine adJ rfl (.tmp 9) (.tmp 10) (.tmp 13) 107 5 rfl nK EA (l:=f) (h:=f+L) rfl rfl (by rw[Gp];rfl) J J ?_;intro _ p1);have xZ:f+L - f=L:=J;try rw[xZ]
 change aa _ at c3;go_loopg [6,16] L (λg qZ dS wr=>∃i:Nat,g+i=L/\dS=.int .i64 (i:Int)/\qZ=.int .i64 (v7 ((xs.drop f).take i):Nat)/\aa (Z w wr));case atStart=>exact⟨0,J,rfl,rfl,U⟩
 case round=>
  obtain⟨i,_,rfl,rfl,X⟩:=hrel;by_cases aK:i<L
  ·obtain rfl:=p1 J;have fH:f+i<xs.length:=by rw[<-c3.out];omega
   have d0:=X.ag (cg i fH);have b0:(0:Int)<=(i:Int):=J;have bf:(i:Int)<(L:Int):=J;have bV:v7 ((xs.drop f).take (i+1))=v7 ((xs.drop f).take i)*256+xs[f+i].toNat:=by
    rw[iv (by rw[CM];omega),XW,List.getElem_drop]
   have aoR:v7 ((xs.drop f).take (i+1))<256 ^ 4:=fQ (acI _) (Nat.pow_le_pow_right ah (by rw[nF];omega));rw[bV]at aoR;have bp:=xs[f+i].toNat_lt;change aa _ at bV;go_wp2_with fail;rw[aoP bp J,<-bV.out];exact acT
  ·obtain rfl:i=L:=J;go_wp2;go_ret;refine⟨rfl,?_⟩;exact U
def aoS(l r:eg):(xY l++r).take 2=jX l.length 2/\((xY l++r).drop 2).take 4=jX (BH l).toNat 4/\((xY l++r).drop 6).take l.length=l:=by
 unfold xY;refine⟨?_,?_,?_⟩
 ·rw[ig,List.take_left' (tu 2 _)]
 ·rw[ig,List.drop_left' (tu 2 _),ig,List.take_left' (tu 4 _)]
 ·rw[ig,ig,<-ig,List.drop_left' (by rw[c9,tu,tu]),List.take_left]
def aoT{l:List (eg)}(hk:k<l.length):gj l=gj (l.take k)++(xY l[k]++gj (l.drop (k+1))):=by
 unfold gj;rw[<-ny,<-Ab hk,<-vN,NU]
def aoU{l:List (eg)}(hk:k<l.length){m:Nat}(hm:m=(gj (l.take k)).length):
  ((gj l).drop m).take 2=jX l[k].length 2/\((gj l).drop (m+2)).take 4=jX (BH l[k]).toNat 4/\((gj l).drop (m+6)).take l[k].length=l[k]/\(gj l).length=m+(6+l[k].length)+(gj (l.drop (k+1))).length/\(gj (l.take (k+1))).length=m+(6+l[k].length):=by
 obtain⟨af,an,aO⟩:=aoS l[k] (gj (l.drop (k+1)));have e:=aoT hk;have d:∀j,(gj l).drop (m+j)=(xY l[k]++gj (l.drop (k+1))).drop j:=λj=>by
  rw[e,<-OU,List.drop_left' hm.symm]
 refine⟨?_,?_,?_,?_,?_⟩
 ·have:=d 0;rw[uo,List.drop_zero]at this;rw[this];exact af
 ·rw[d 2];exact an
 ·rw[d 6];exact aO
 ·rw[e,c9,c9,Ld,<-hm];omega
 ·unfold gj at hm ⊢;rw[iv hk,vN,Kt,c9,Ld,<-hm]
def aoV(l:List (List UInt8))(z:Nat)(w:World)(e:Ending)(w':World):Prop:=∃a n c ys,e=.returned (.tuple #[ao a n c,(z:Int)])/\sb w' w.heap.size a n c ys/\ys.map (·.aB)=l/\Z w w'
def Le:∀(l:List (eg)),6*l.length<=(gj l).length
 | []=>by simp[gj]
 |x::l=>by
  have h:=Le l
  unfold gj at h ⊢
  rw[ny,c9,Ld,me]
  omega
def aoW(a:bl)(n cap:Nat)(l:List (eg))(w:aC)(ar:a7 w 1 cr a n cap (gj l))(bg:∀x,x∈l->1<=x.length/\x.length<=4000)(aq:n<=1048576):
  aS 75 #[ao a n cap] w (aoV l n w):=by
 obtain⟨dK,eY,e5,e6,e7⟩:=fB Tq;have c3:=ar.neq;have aoQ:=ar.len;replace ar:=I ar;replace bg:=I bg;replace c3:=I c3;replace eY:=I eY;replace e5:=I e5;replace e6:=I e6;replace e7:=I e7;go_enter func75,ntmps75;refine KC ?_;intro _ _;go_loopg [4,5] (l.length) (λg e4 aoX wr=>∃(k M:Nat) (ab:bl) (m c:Nat) (ys:List gN),g+k=l.length/\aoX=.int .i64 (M:Int)/\e4=.slice ab m c/\k=m/\aa (M=(gj (l.take k)).length)/\aa (sb wr (w.heap.size+1) ab m c ys/\ys.map (·.aB)=l.take k)/\aa (Z (w.alloc (.cells #[ao a n cap] 107)) wr));case atStart=>exact⟨0,0,none,0,0,[],J,rfl,rfl,rfl,rfl,⟨sb.nil _ _,rfl⟩,Z.refl _⟩
 case round=>
  obtain⟨k,M,ab,m,c,ys,_,rfl,rfl,ho,fe,aJ,X⟩:=hrel;subst ho;have gn:wr.cell? (w,0)=some ↑(ao a n cap):=X.out.ag (by simp);by_cases hk:k<l.length
  ·obtain⟨kC,sO,YG,f4,YH⟩:=aoU hk fe.out;obtain⟨af,bt⟩:=bg.out l[k] (cT hk);obtain⟨cP,YI,rfl,-⟩:=ar.out.get 0 J;have KH:M+(6+l[k].length)<=n:=by rw[c3.out,f4];omega
   have OV:=ar.out.ext (((Z.refl w).alloc _).trans X.out);have az9:6*k<=M:=by have h:=Le (l.take k);rw[<-fe.out,nF]at h;omega
   replace kC:=I kC;replace sO:=I sO;replace YG:=I YG;replace YH:=I YH;replace OV:=I OV;clear f4;have c1:(6:Int)<(n:Int) - (M:Int):=J;go_wp2_with fail;refine(adK w cP YI n cap M 2 _ _ gn OV.out J J ah).mono ?_;rintro e aN⟨rfl,cn⟩;rw[kC.out,SI,Gl J];obtain⟨L,p2⟩:∃L,L=l[k].length:=⟨_,rfl⟩;rw[<-p2]at KH af bt;rw[<-p2];replace p2:=I p2;have hn:=cn.ag gn;replace cn:=I cn;have c2:((L:Int)==0)=false:=by simp;omega
   have cV:¬(4000:Int)<(L:Int):=J;have dF:¬(n:Int) - ((M:Int)+6)<(L:Int):=J;go_wp2_with (refine adJ rfl (.tmp 35) (.tmp 36) (.tmp 39) 107 5 rfl nK EA (l:=M+6) (h:=M+6+L) rfl (by rw[Gp];rfl) (by rw[Gp,Gp];rfl) J J ?_;intro _ p1);obtain rfl:=p1 J;have Tr:a7 aN 1 cr (some (cP,YI+(M+6))) L (cap - (M+6)) l[k]:=by
    have h:=((OV.out.ext cn.out).abu (M+6) J).take L J;rw[p2.out,YG.out]at h;rw[p2.out];exact h
   replace Tr:=I Tr;clear p1;obtain⟨S,Gx⟩:∃S:Nat,BH l[k]=(S:Int):=⟨(BH l[k]).toNat,by have:=YE l[k];omega⟩;have aoY:S<4294967296:=by have:=YE l[k];omega
   replace Gx:=I Gx;rw[show(M:Int)+2=((M+2:Nat):Int)from by omega];refine(adK w cP YI n cap (M+2) 4 _ _ hn (OV.out.ext cn.out) J J ah).mono ?_;rintro e _⟨rfl,dz⟩;rw[sO.out,SI,Gx.out,kN,Gl aoY];have hL:=dz.ag hn;replace dz:=I dz;have aAa:IntKind.u32.wrap (S:Int)=(S:Int):=by simp only[IntKind.wrap_u32];omega
   go_wp2_with fail;refine(adD _ _ _ l[k] _ (Tr.out.ext dz.out)).mono ?_;rintro e _⟨he,eQ⟩;rw[Gx.out]at he;subst he;have ib:=eQ.ag hL;replace eQ:=I eQ;go_wp2_with fail;refine(aoO _ _ _ l[k] _ (Tr.out.ext (dz.out.trans eQ.out)) J).mono ?_;rintro e bA⟨a5,hM,dH,rfl,x0,iy⟩;have hi:=I ((((Z.refl w).alloc _).trans X.out).trans ((cn.out.trans (dz.out.trans eQ.out)).trans iy));have adL:=I (X.out.trans ((cn.out.trans (dz.out.trans eQ.out)).trans iy));have hq:=I (x0.mono (aBw:=(w:Nat)+1) (by have h:=Z.size (X.out.trans (cn.out.trans (dz.out.trans eQ.out)));simpa using h));have BI:=I (aJ.out.1.ext ((cn.out.trans (dz.out.trans eQ.out)).trans iy));clear x0 iy;go_wp2_with (at_builtin;refine hc (ys:=ys) rfl (.tmp 49) (.tmp 52) 114 rfl dK _ 24 OW eY.out e5.out e6.out e7.out rfl ah rfl (BI.out.cj.ext ((Z.refl _).alloc _)) ⟨⟨a5,hM,dH⟩,l[k]⟩ _ rfl (fi (cs:=gN.cs ⟨⟨a5,hM,dH⟩,l[k]⟩) rfl) (gN.cQ _) J ah (by have h:=Z.size (adL.out.trans ((Z.refl _).alloc (.cells #[ao a5 hM dH] 107)));simpa using h) ?_;intro _ _ _ ha fy);change aa _ at fy ha;go_wp2;go_roundg (gk - 1);case measure=>omega
   case rel=>
    have ru:=BI.out.cj.ext ((Z.refl bA).alloc (.cells #[ao a5 hM dH] 107));refine⟨k+1,M+6+L,_,_,_,ys++[⟨⟨a5,hM,dH⟩,l[k]⟩],J,(by rw[Gp,Gp];rfl),rfl,rfl,(I (by have af:=YH.out;have an:=p2.out;omega)),⟨⟨ha.out,λy hy=>?_⟩,?_⟩,fy.out.ext ru (by simp) (adL.out.trans ((Z.refl _).alloc _))⟩;exact YJ
    ·rw[fT,aJ.out.2,iv hk];rfl
  ·have cb:l.take k=l:=iU J;have n4:=fe.out;have bu:=aJ.out;rw[cb]at n4 bu;rw[<-c3.out]at n4;replace bu:=I bu;clear cb aJ fe;subst n4;have c1:¬(6:Int)<(M:Int) - (M:Int):=J;go_wp2;go_ret2;exact⟨ab,k,c,ys,rfl,⟨bu.out.1.cj.mono (l9 _),λx X=>(bu.out.1.aB x X).mono (l9 _)⟩,bu.out.2,((Z.refl w).alloc _).trans X.out⟩
def adM{c:α->List Value}{ys0 ys:List α}{P:Program}{ops:Array Oper}{rest:List Oper}{o:Oper}{a:Act}{Q:Exit->Act->aC->Prop}(nz:o.guard=none)(s x:Operand)(t e:TypeId)(aM:o.op=.call {callee:=.builtin .append,args:=#[s,x],argTypes:=#[t,t]})(i:TypeInfo)(z:Value)(bytes:Nat)(bm:P.underlying t=some (.slice e))(aK:P.info? e=some i)(bp:i.zero=some z)(yN:i.size=sz)(wS:i.bytes=bytes)(yO:z.cells.size=sz)(fs:0<sz){wW:Nat}(hs:a.eval s=.slice aA n0 wW)(aJ:aH w base e sz c aA n0 wW ys0)(CH:base<=(w:Nat)){sa:bl}(X:a.eval x=.slice sa n cap)(bj:a7 w sz c sa n cap ys)(af:∀y,∀u∈c y,u.oneCell'=true)(aq:(n0+n)*bytes<=140737488355328)(jt:0<bytes)(Es:0<n)(h:∀g dE w',aH w' base e sz c (some (g,0)) (n0+n) dE (ys0++ys)->lL w w' aA g->wpList P ops Q rest (a.put o.dst (.slice (some (g,0)) (n0+n) dE)) w'):wpList P ops Q (o::rest) a w:=by
 have hbound:n0+n<=(n0+n)*bytes:=Ny _ jt;cases sa with
 |none=>have:=bj.none rfl;have:=bj.len;omega
 |some ai=>
  refine wpList_append_lies w nz s x t aM base e i z sz bytes bm aK bp yN wS yO fs (ao aA n0 wW) n0 _ hs aJ.row ai n cap (ys.flatMap c) X bj.W5 (bj.Nx fs) ?_ Es (by simp only[maxLen];omega) aq CH _ rfl ?_;exact R2
  ·intro g dE w' pv b2 j1 _;rw[<-vN]at pv;have hlen:n0+n=(ys0++ys).length:=by rw[c9,<-aJ.neq,<-bj.neq]
   refine h g dE w' ⟨pv,hlen,bj.bI⟩ ⟨b2.os,b2.tape,b2.output,b2.size,λb ad dj=>b2.block b ad (λe=>?_),?_⟩;exact RN;exact RO
structure b4 (w:World) (O O':Nat->Prop):Prop where
 up:∀b,O b->O' b
 new:∀b,O' b->O b\/w.heap.size<=b
def b4.refl(w:aC)(O:eZ):b4 w O O:=⟨λ_ h=>h,λ_ h=>.inl h⟩
def b4.trans{O' Gy:eZ}(h:b4 w O O')(k:b4 w' O' Gy)(hs:(w:Nat)<=(w':Nat)):b4 w O Gy:=
 ⟨λb ad=>k.up b (h.up b ad),λb ad=>(k.new b ad).elim (h.new b) (λq=>.inr (ek hs q))⟩
structure lB (w:World) (O:Nat->Prop) (q:Nat) (aB:List UInt8) (fF room:Nat):Prop where
 ck:∃aA n cap,w.heap[q]?=some (.cells #[ao aA n cap,(fF:Int),(room:Int)] 144 (0,0))/\aH w 0 5 1 cr aA n cap aB/\(∀ai,aA=some ai->O ai.block)
 q:O q
 max:room<=1048576
 p3:aB.length<=room
 b5:∀b,O b->b<w.heap.size
def lB.ag(h:lB w O q aB fF room)(bp:(w:Nat)<=(w':Nat))(ad:∀b,b<(w:Nat)->O b->w'.heap[b]? =w.heap[b]?):lB w' O q aB fF room:=
 let ⟨aA,n,cap,af,an,aO⟩:=h.ck
 ⟨⟨aA,n,cap,(ad q (bZ af) h.q).trans af,an.ag (λai ak=>ad _ (an.lt ai ak).2 (aO ai ak)),aO⟩,h.q,h.max,h.p3,λb ad=>fQ (h.b5 b ad) bp⟩
def lB.ext(h:lB w O q aB fF room)(X:Z w w'):lB w' O q aB fF room:=h.ag X.size λb ad _=>X.block b ad
def lB.ee(h:lB w O q aB fF room)(X:aI S w w')(aG:∀b,O b->¬S b):lB w' O q aB fF room:=h.ag X.size λb ad aM=>X.block b ad (aG b aM)
def adN(room:Nat)(w:aC)(az:room<=1048576):aS 30 #[(room:Int)] w λe w'=>e=.returned (.tuple #[(w:Nat),av])/\lB w' (λb=>b=(w:Nat)) (w:Nat) [] 0 room/\Z w w':=by
 have aZ:¬(room:Int)<0:=J;have af:¬(1048576:Int)<(room:Int):=J;go_enter func30,ntmps30;go_wp2;go_ret2;exact⟨rfl,⟨⟨none,0,0,mu _ _,aH.nil _ _ _ cr.bI,λai ak=>by cases ak⟩,rfl,az,by simp,λb ad=>by subst ad;simp⟩,U⟩
def adO(O:eZ)(q:Nat)(aB:eg)(fF room:Nat)(w:aC)(h:lB w O q aB fF room):aS 42 #[q] w (qp 5 1 cr aB w):=by
 refine YK ?_;intro aA n cap fw mD bu eB bH b1 Dh;have xh:=(h).max;have uv:=(h).p3;have qx:=mD.neq;have Ts:n<=room:=J;change aa _ at fw mD bu qx;go_enter func42,ntmps42;go_wp2_with fail;refine(OT _ _ _ aB _ mD.aF J).mono ?_;rintro e _⟨cE,da,c1,rfl,c7,X⟩;change aa _ at c7 X;go_wp2;go_ret;exact⟨cE,da,c1,rfl,c7,X⟩
def aoZ(O:eZ)(q:Nat)(aB:eg)(fF room:Nat)(w:aC)(h:lB w O q aB fF room):aS 312 #[q] w λe w'=>e=.returned av/\lB w' O q aB aB.length room/\aI O w w':=by
 refine Tt ?_;intro aA n cap fw mD bu eB bH b1 Dh p4 xh uv zm qx;change aa _ at fw mD bu qx;go_enter func312,ntmps312;go_wp2;go_ret;refine⟨rfl,⟨⟨aA,n,cap,?_,mD.lY fw ah _,bu⟩,p4,xh,uv,λb ad=>by have:=zm.out b ad;simpa[World.setCell]using this⟩,(aI.refl _ w).setCell _ (.inl p4) _⟩;rw[<-qx.out];exact en fw 1 _
def adP(O:eZ)(q:Nat)(aB xs:eg)(fF room:Nat)(sa:bl)(kD nS:Nat)(w:aC)(h:lB w O q aB fF room)(ar:a7 w 1 cr sa kD nS xs)(aZ:0<kD)(bk:aB.length+kD<=room):aS 41 #[q,ao sa kD nS] w λe w'=>e=.returned av/\∃O',lB w' O' q (aB++xs) fF room/\aI O w w'/\b4 w O O':=by
 obtain⟨ct,bO,bL,bM,bP⟩:=fB Iu;refine Tt ?_;intro aA n cap fw mD bu eB bH b1 Dh p4 xh uv zm qx;have Ts:n<=room:=J;change aa _ at fw mD bu qx;have Gz:=I ar.neq;have CW:n+kD<=room:=by have:=qx.out;omega
 change aa _ at bO bL bM bP ar;clear h bk;go_enter func41,ntmps41;go_wp2_with fail;go_step3;go_wp2_with fail;go_quiet (fail);go_wp2_with (at_builtin;refine adM (ys0:=aB) (ys:=xs) (c:=cr) rfl (.tmp 24) (.tmp 25) 107 5 rfl ct _ 1 nK bO bL bM bP rfl ah rfl (mD.ext U) (gz _) rfl (ar.ext U) cr.cQ J ah aZ ?_;intro g _ a6 gd y9;have eP:=y9.ay ((show Z w _ from U).ay fw) (λai ak k=>mD.eW fw ah ai ak k);have aAb:a6.cell? (q,0)=some ↑(ao aA n cap):=aL eP rfl;have aAc:∀j,a6.frozen? ⟨q,j,none⟩=false:=(λj=>nM eP));rw[pX];go_ret;have Bj:=gd.lt _ rfl;simp only at Bj;have ao0:=y9.at_;refine⟨rfl,λb=>O b\/b=g,⟨⟨_,_,_,en eP 0 _,gd.lY eP ah _,λai ak=>by cases ak;exact .inr rfl⟩,.inl p4,xh,by rw[c9,<-qx.out,<-Gz.out];omega,λb ad=>by have AB:=y9.size;simp at AB;rcases ad with ad|ad<;>first|(have o5:=zm.out b ad;simp[World.setCell];omega)|(subst ad;simpa[World.setCell]using Bj.2)⟩,?_,⟨λb ad=>.inl ad,λb ad=>?_⟩⟩
 ·refine aI.setCell (S:=O) ?_ (q,0) (.inl p4) _;exact aI.trans (aI.of U) ⟨y9.os,y9.tape,y9.output,y9.size,λb ad nN=>y9.block b ad (λai ak e=>nN (e▸bu.out ai ak))⟩
 ·rcases ad with ad|rfl
  ·exact .inl ad
  ·rcases ao0 with ⟨ai,ak,e⟩|h
   ·exact .inl (e▸bu.out ai ak)
   ·exact .inr (by have:=h;simp at this;omega)
def ao1(O:eZ)(q:Nat)(aB xs:eg)(fF room:Nat)(sa:bl)(kD nS:Nat)(w:aC)(h:lB w O q aB fF room)(bj:a7 w 1 cr sa kD nS xs)(bk:room<aB.length+kD):aS 41 #[q,ao sa kD nS] w (cU (bo 90) w):=by
 refine YK ?_;intro aA n cap fw mD bu eB bH b1 Dh;have xh:=(h).max;have uv:=(h).p3;have qx:=mD.neq;have Ts:n<=room:=J;change aa _ at fw mD bu qx;have hle:(room:Int) - (n:Int)<(kD:Int):=by have:=qx.out;omega
 clear h bj bk;go_enter func41,ntmps41;go_wp2_with fail;refine wp_scope_jumps 0 (λga w'=>Z w w'/\∃u0 u1 u2 u3 u4 u5 u6 u7 u8 u9 u10 u11 u12 u13 u14 u15 u16 u17 u18 u19 u20 u21 u22 u23 u24 u25 u26 u27 u28:Value,ga={tmps:=#[u0,u1,u2,u3,u4,u5,u6,u7,u8,u9,u10,u11,u12,u13,u14,u15,u16,u17,u18,u19,u20,u21,u22,u23,u24,u25,u26,u27,u28],defers:= []}) (λ_ _=>0) rfl ?_ ?_
 ·go_wp2_with fail;go_quiet (fail);go_wp2_with fail;go_step3;refine⟨rfl,?_,_,_,_,_,_,_,_,_,_,_,_,_,_,_,_,_,_,_,_,_,_,_,_,_,_,_,_,_,_,rfl⟩;exact U
 ·rintro _ w'⟨X,_,_,_,_,_,_,_,_,_,_,_,_,_,_,_,_,_,_,_,_,_,_,_,_,_,_,_,_,_,rfl⟩;go_wp2;unfold Exit.jump;go_ret;exact⟨rfl,X⟩
def ao2(O:eZ)(q:Nat)(aB:eg)(fF room:Nat)(w:aC)(h:lB w O q aB fF room):aS 76 #[q,(aB.length:Int)] w λe w'=>e=.returned av/\lB w' O q aB aB.length room/\aI O w w':=by
 refine Tt ?_;intro aA n cap fw mD bu eB bH b1 Dh p4 xh uv zm qx;change aa _ at fw mD bu qx;refine ao3 ?_;intro hv Ih;rw[<-qx.out];clear h;go_enter func76,ntmps76;go_wp2_with (refine acP rfl (.tmp 24) (.tmp 25) 107 5 rfl nK EA (k:=n) rfl rfl J Ih ?_);go_ret;refine⟨rfl,⟨⟨aA,n,cap,?_,(mD.lY fw ah _).lY (en fw 0 _) ah _,bu⟩,p4,xh,uv,λb ad=>by have:=zm.out b ad;simpa[World.setCell]using this⟩,((aI.refl _ w).setCell (q,0) (.inl p4) _).setCell (q,1) (.inl p4) _⟩;exact en (en fw 0 _) 1 _
def ao4(O:eZ)(q:Nat)(aB xs:eg)(fF room:Nat)(sa:bl)(kD nS:Nat)(w:aC)(h:lB w O q aB fF room)(ar:a7 w 1 cr sa kD nS xs)(bk:kD<=room):aS 254 #[q,ao sa kD nS] w λe w'=>e=.returned av/\∃O',lB w' O' q xs xs.length room/\aI O w w'/\b4 w O O':=by
 refine Tt ?_;intro aA n cap fw mD bu eB bH b1 Dh p4 xh uv zm qx;have Ts:n<=room:=J;change aa _ at fw mD bu qx;have Gz:=I ar.neq;have hle:¬(room:Int)<(kD:Int):=J;change aa _ at ar;clear h;go_enter func254,ntmps254;go_wp2_with fail;go_step3;go_wp2_with fail;refine(OT _ _ _ xs _ (ar.ext U) J).mono ?_;rintro e w1⟨cE,da,c1,rfl,aM,ad⟩;have hX:=ad.ay ((show Z w _ from U).ay fw);have k4:w1.cell? (q,0)=some ↑(ao aA n cap):=aL hX rfl;have Ah:w1.cell? (q,1)=some ↑(fF:Int):=aL hX rfl;have adQ:∀j,w1.frozen? ⟨q,j,none⟩=false:=λj=>nM hX;have bE:Z w w1:=Z.trans U ad;have c7:=I (aM.mono (aBw:=(w:Nat)) (Z.size U));change aa _ at bE hX;clear aM ad;go_wp2_with fail;rw[pX];go_ret;refine⟨rfl,λb=>O b\/∃ai,cE=some ai/\ai.block=b,⟨⟨cE,da,c1,?_,((c7.mono (gz _)).lY hX ah _).lY (en hX 0 _) ah _,λai ak=>.inr ⟨ai,ak,rfl⟩⟩,.inl p4,xh,by rw[<-Gz.out];omega,λb ad=>by have cZ:=bE.size;rcases ad with ad|⟨ai,ak,ad⟩<;>first|(have:=zm.out b ad;simp[World.setCell];omega)|(subst ad;have:=(c7.lt ai ak).2;simpa[World.setCell]using this)⟩,((aI.of bE).setCell (q,0) (.inl p4) _).setCell (q,1) (.inl p4) _,⟨λb ad=>.inl ad,λb ad=>?_⟩⟩
 ·rw[<-Gz.out];exact en (en hX 0 _) 1 _
 ·rcases ad with ad|⟨ai,ak,rfl⟩
  ·exact .inl ad
  ·exact .inr (c7.lt ai ak).1
def ao5{P:Program}(t e:TypeId)(bm:P.underlying t=some (.slice e)){sz:Nat}(fs:(P.info? e).map (·.size)=some sz){sa:Option Addr}{n cap k:Nat}{kk:IntKind}(hk:k<=cap)(X2:∀ai,sa=some ai->ai.spot=none)(w:World):
  (Instr.slice t (ao sa n cap) none (some (.int kk (k:Int))) none).run P w=.ok (ao sa k cap) w:=by
 have he:P.elem t=e:=by simp[Program.elem,bm]
 have hs:(sizeOf e).run P w=.ok sz w:=by
  cases bs:P.info? e with
  |none=>simp[bs]at fs
  |some i=>
        have:i.size=sz:=by simpa[bs]using fs
        simp[sizeOf,typeInfo,bs,this]
 have mL:=run_slice_h (P:=P) w t sa n cap (by rw[he];exact bm) kk k J J
 rw[he,hs]at mL
 have bp:(if cap=0 then sa else sa.map (·.add (0*sz)))=sa:=by
  split
  ·rfl
  ·cases sa with
   |none=>rfl
   |some ai=>
    obtain⟨b,o,q⟩:=ai
    have:=X2 _ rfl
    simp only at this
    subst this
    simp[Addr.add]
 simp only[Result.andThen,sliced,Int.toNat_natCast,Nat.sub_zero,bp]at mL
 exact mL
theorem ao6 (O:Nat->Prop) (q:Nat) (aB:List UInt8) (fF room:Nat) (ag:Int) (w:World) (h:lB w O q aB fF room) (a1:fF=aB.length):aS 46 #[q,ag] w λe w'=>e=.returned (.tuple #[])/\lB w' O q aB aB.length room/\aI O w w':=by
 obtain⟨aA,n,cap,fw,mD,bu⟩:=(h).ck
 obtain⟨eB,bH,b1,Dh⟩:=qu (show w.heap[q]?=some (.cells #[ao aA n cap,(fF:Int),(room:Int)] _ _)from fw)
 have p4:=(h).q
 have xh:=(h).max
 have uv:=(h).p3
 have zm:=I (h).b5
 have qx:=mD.neq
 have Ts:n<=room:=J
 change Hid _ at fw mD bu qx
 have hv:=mD.aF.len
 have Ih:∀ai,aA=some ai->ai.spot=none:=by
  intro ai ak
  subst ak
  rcases mD.row.2 with ⟨bw,_⟩|⟨g,aR,cur,bw,_⟩
  ·cases bw
  ·simp only[Value.slice.injEq,Option.some.injEq]at bw
   rw[bw.1]
 obtain rfl:fF=n:=a1.trans qx.symm
 clear h
 clear a1
 have IM:fF<=cap:=hv
 have X5:=λW=>ao5 (P:=prog) 107 5 underlying107 EA (sa:=aA) (n:=fF) (cap:=cap) (k:=fF) (kk:=.i64) IM Ih W
 have n0:(0:Int)<=(fF:Int):=J
 have da:(fF:Int)<=(cap:Int):=J
 rcases Int.lt_trichotomy ag 0 with hk|hk|hk
 ·have m0:(if ag<0 then (0:Int) else ag)=0:=if_pos hk
  have m1:max ag 0=0:=J
  have m3:min (0:Int) 0=0:=rfl
  go_enter func46,ntmps46
  go_wp2_with fail
  go_quiet (fail)
  go_wp2_with fail
  go_region_law (fail)
  all_goals
   go_end0
   have cm:=((Z.refl w).drewN nq).ay fw
   have cq:=((Z.refl ((w.drewN nq).setCell (q,1) (fF:Int))).drew).ay (en cm 1 (fF:Int))
   have o2:=((mD.ext ((Z.refl w).drewN nq)).lY cm ah (j:=1) (fF:Int)).ext ((Z.refl _).drew)
   refine⟨rfl,⟨⟨aA,fF,cap,?_,o2.lY cq ah _,bu⟩,p4,xh,uv,λb ad=>by have:=zm.out b ad;simpa[World.setCell]using this⟩,((((aI.refl O w).drewN nq).setCell ⟨q,1,none⟩ (.inl p4) (.int .i64 (fF:Int))).drew).setCell ⟨q,0,none⟩ (.inl p4) _⟩
   rw[<-qx.out]
   exact en cq 0 _
 ·subst hk
  go_enter func46,ntmps46
  go_wp2_with fail
  go_quiet (fail)
  go_wp2_with fail
  go_region_law (fail)
  all_goals
   go_end0
   have cm:=((Z.refl w).drewN nq).ay fw
   have cq:=((Z.refl ((w.drewN nq).setCell (q,1) (fF:Int))).drew).ay (en cm 1 (fF:Int))
   have o2:=((mD.ext ((Z.refl w).drewN nq)).lY cm ah (j:=1) (fF:Int)).ext ((Z.refl _).drew)
   refine⟨rfl,⟨⟨aA,fF,cap,?_,o2.lY cq ah _,bu⟩,p4,xh,uv,λb ad=>by have:=zm.out b ad;simpa[World.setCell]using this⟩,((((aI.refl O w).drewN nq).setCell ⟨q,1,none⟩ (.inl p4) (.int .i64 (fF:Int))).drew).setCell ⟨q,0,none⟩ (.inl p4) _⟩
   rw[<-qx.out]
   exact en cq 0 _
 ·have m0:(if ag<0 then (0:Int) else ag)=ag:=if_neg J
  have m1:max ag 0=ag:=J
  have m3:min ag 0=0:=J
  go_enter func46,ntmps46
  go_wp2_with fail
  go_quiet (fail)
  go_wp2_with fail
  go_region_law (fail)
  all_goals
   go_end0
   have cm:=((Z.refl w).drewN nq).ay fw
   have cq:=((Z.refl ((w.drewN nq).setCell (q,1) (fF:Int))).drew).ay (en cm 1 (fF:Int))
   have o2:=((mD.ext ((Z.refl w).drewN nq)).lY cm ah (j:=1) (fF:Int)).ext ((Z.refl _).drew)
   refine⟨rfl,⟨⟨aA,fF,cap,?_,o2.lY cq ah _,bu⟩,p4,xh,uv,λb ad=>by have:=zm.out b ad;simpa[World.setCell]using this⟩,((((aI.refl O w).drewN nq).setCell ⟨q,1,none⟩ (.inl p4) (.int .i64 (fF:Int))).drew).setCell ⟨q,0,none⟩ (.inl p4) _⟩
   rw[<-qx.out]
   exact en cq 0 _
def adR(l:List (List UInt8))(w:World)(e:Ending)(w':World):Prop:=∃a n c ys,e=.returned (.slice a n c)/\sb w' w.heap.size a n c ys/\ys.map (·.aB)=l/\Z w w'
def YL(a:bl)(n cap:Nat)(xs:List gN)(w:aC)(ar:xg w a n cap xs)(aq:n<=200000)(bg:∀x,x∈xs->x.aB.length<=4000):
  aS 79 #[ao a n cap] w (adR (xs.map (·.aB)) w):=by
 obtain⟨dK,eY,e5,e6,e7⟩:=fB Tq;obtain rfl:=ar.aF.neq;have aAd:xs.length<=2 ^ 63 - 1:=J;replace eY:=I eY;replace e5:=I e5;replace e6:=I e6;replace e7:=I e7;replace ar:=I ar;replace bg:=I bg;go_enter func79,ntmps79;go_wp2_with (refine XX rfl (.const av) (.tmp 7) 114 107 rfl OW eY.out e5.out e6.out (n:=0) (m:=xs.length) rfl rfl J (by rw[e7.out];omega) J ?_)
 have OS:aH (w.alloc (.cells (madeCells #[aP] xs.length) 107)) w 107 1 gN.cs (some (w,0)) 0 xs.length []:=
  ⟨⟨rfl,.inr ⟨(w:Nat),xs.length,_,rfl,bJ _,mu _ _,J,by unfold maxLen;omega,by rw[size_madeCells,jd],rfl⟩⟩,rfl,gN.bI⟩
 replace OS:=I OS;go_loopg [3,11] (xs.length) (λg e4 dS wr=>∃(k:Nat) (ab:bl) (m c:Nat) (ys:List gN),g+k=xs.length/\dS=.int .i64 (k:Int)/\e4=.slice ab m c/\k=m/\aa (sb wr w ab m c ys/\ys.map (·.aB)=(xs.take k).map (·.aB))/\aa (Z w wr));case atStart=>exact⟨0,_,0,_,[],J,rfl,rfl,rfl,⟨⟨OS.out,λy hy=>by cases hy⟩,rfl⟩,U⟩
 case round=>
  obtain⟨k,ab,m,c,ys,_,rfl,rfl,ho,aJ,X⟩:=hrel;subst ho;by_cases hk:k<xs.length
  ·obtain⟨b,o,rfl,al⟩:=ar.out.aF.get k hk;have d0:wr.cell? (b,o+k*1)=some ↑xs[k].v:=X.out.ag (al 0 _ rfl);rw[jd]at d0;have iB:=(ar.out.aB xs[k] (cT hk)).ext X.out;have Bp:=bg.out xs[k] (cT hk);have hA:xs[k].v.n<=4000:=by rw[iB.neq];exact Bp
   replace iB:=I iB;clear al Bp;refine jU ?_;intro b0 bf;go_wp2_with fail;refine(OT _ _ _ xs[k].aB _ iB.out J).mono ?_;rintro e bA⟨a5,hM,dH,rfl,x0,hi⟩;have hq:=I (x0.mono (aBw:=(w:Nat)) X.out.size);have BI:=I (aJ.out.1.ext hi);replace hi:=I hi;clear x0;go_wp2_with (at_builtin;refine hc (ys:=ys) rfl (.tmp 15) (.tmp 18) 114 rfl dK _ 24 OW eY.out e5.out e6.out e7.out rfl ah rfl (BI.out.cj.ext ((Z.refl _).alloc _)) ⟨⟨a5,hM,dH⟩,xs[k].aB⟩ _ rfl (fi (cs:=gN.cs ⟨⟨a5,hM,dH⟩,xs[k].aB⟩) rfl) (gN.cQ _) J ah (Z.size U) ?_;intro _ _ _ ha fy);change aa _ at fy ha;go_wp2;go_roundg (gk - 1);case measure=>omega
   case rel=>
    have ru:=BI.out.cj.ext ((Z.refl bA).alloc (.cells #[ao a5 hM dH] 107));refine⟨k+1,_,_,_,ys++[⟨⟨a5,hM,dH⟩,xs[k].aB⟩],J,by go_num,rfl,rfl,⟨⟨ha.out,λy hy=>?_⟩,?_⟩,fy.out.ext ru (bJ _) (X.out.trans (hi.out.trans ((Z.refl _).alloc _)))⟩;exact YJ
    ·rw[fT,aJ.out.2,iv hk,fT];rfl
  ·refine sy ?_;intro cb;rw[cb]at aJ;clear cb;go_wp2;go_ret;exact⟨ab,k,c,ys,rfl,aJ.out.1,aJ.out.2,X.out⟩
def ao7(W:World)(B:Nat)(ys:List UInt8)(e:Ending)(w':World):Prop:=
 e=.returned (.int .i64 0)/\∃aA n c,w'.heap[B]?=some (.cells #[ao aA n c] 107 (0,0))/\aH w' W.heap.size 5 1 cr aA n c ys/\Z W w'
def ao8(W:aC)(B:Nat)(aA:bl)(m cap:Nat)(ys:eg)(a:bl)(n c:Nat)(xs:eg)(w:aC)(bn:w.heap[B]?=some (.cells #[ao aA m cap] 107 (0,0)))(bx:(W:Nat)<=B)(bu:aH w W 5 1 cr aA m cap ys)(bG:Z W w)(ar:a7 w 1 cr a n c xs)(aZ:1<=n)(bt:n<=4000)(hm:m<=1000000000):
  aS 293 #[ao a n c,B] w (ao7 W B (ys++xY xs)):=by
 refine XY ?_;intro ct bO bL bM bP;replace bn:=I bn;replace bu:=I bu;replace bG:=I bG;have qY:=I ar.neq;replace ar:=I ar;go_enter func293,ntmps293;go_wp2_with fail;refine(aoN _ _ _ xs _ ar aZ bt).mono ?_;rintro e w1⟨cE,da,_,rfl,c7,bz⟩;have hA:0<da/\da<=4006:=by rw[c7.neq,Ld,<-qY.out];omega
 have hX:=bz.ay bn;have bH:=aiN hX;replace hX:=I hX;replace c7:=I c7;replace bz:=I bz;have Es:0<da:=J;have iV:(W:Nat)<=(w1:Nat):=(bG.trans bz).size;go_wp2_with (at_builtin;refine adM (ys0:=ys) (ys:=xY xs) (c:=cr) rfl (.tmp 11) (.tmp 12) 107 5 rfl ct _ 1 nK bO bL bM bP rfl ah rfl (bu.ext bz) iV rfl c7.aF cr.cQ J ah Es ?_;intro g _ _ gd y9;have eP:=y9.ay hX (λai ak k=>(bu.ext bz).eW hX ah ai ak k);have dJ:=aiN eP;have eG:=free_of_one eP);go_ret;have b7:=y9.ext (bu.ext bz) (bJ _) (bG.trans bz);exact⟨rfl,_,_,_,en eP 0 _,gd.lY eP ah _,b7.setCell bx _⟩
def ao9(l:List (eg))(x:eg):gj (l++[x])=gj l++xY x:=by unfold gj;rw[vN,Kt]
def YM(a:bl)(n cap:Nat)(xs:List gN)(w:aC)(ar:xg w a n cap xs)(aq:n<=200000)(bg:∀x,x∈xs->1<=x.aB.length/\x.aB.length<=4000):
  aS 253 #[ao a n cap] w (xe (gj (xs.map (·.aB))) w):=by
 obtain rfl:=ar.aF.neq;change aa _ at ar bg;go_enter func253,ntmps253;go_wp2_with fail;go_loopg [12] (xs.length) (λg dS wr=>∃(k:Nat) (ab:bl) (m c:Nat),g+k=xs.length/\dS=.int .i64 (k:Int)/\m<=4006*k/\aa (wr.heap[(w:Nat)]?=some (.cells #[ao ab m c] 107 (0,0)))/\aa (aH wr w 5 1 cr ab m c (gj ((xs.take k).map (·.aB))))/\aa (Z w wr));case atStart=>exact⟨0,none,0,0,J,rfl,J,mu _ _,aH.nil _ _ _ cr.bI,U⟩
 case round=>
  obtain⟨k,ab,m,c,_,rfl,hm,j7,aJ,X⟩:=hrel;have bH:=aiN j7;by_cases hk:k<xs.length
  ·obtain⟨b,o,rfl,al⟩:=ar.aF.get k hk;have d0:wr.cell? (b,o+k*1)=some ↑xs[k].v:=X.ag (al 0 _ rfl);rw[jd]at d0;have iB:=(ar.aB xs[k] (cT hk)).ext X;obtain⟨af,bt⟩:=bg xs[k] (cT hk);rw[<-iB.neq]at af bt;change aa _ at iB;clear al;refine jU ?_;intro b0 bf;go_wp2_with fail;refine(ao8 w w ab m c _ _ _ _ xs[k].aB _ j7 (bJ _) aJ X iB af bt J).mono ?_;rintro e _⟨rfl,ch,cF,c2,iX,p1,cn⟩;have kA:cF<=4006*(k+1):=by
    have cm:=p1.neq;rw[c9,<-aJ.neq,Ld,<-iB.neq]at cm;omega
   go_wp2;go_roundg (gk - 1);case measure=>omega
   case rel=>exact⟨k+1,ch,cF,c2,J,by go_num,kA,iX,(by rw[iv hk,fT,List.map_singleton,ao9];exact p1),cn⟩
  ·refine sy ?_;intro cb;rw[cb]at aJ;clear cb;go_wp2;go_ret2;exact⟨ab,m,c,rfl,aJ,X⟩
section
def cv(M:Nat->Prop)(w:World)(P:World->Prop):Prop:=∀w',aI M w w'->P w'
section
variable {M M' O O':Nat->Prop}{w w':World}{P Q:World->Prop}
def cv.c8(h:cv M w P):P w:=h w (aI.refl _ _)
def cv.step(h:cv M w P)(aj:aI M w w')(bk:b4 w M M'):cv M' w' P:=λey hk=>
 h ey ⟨hk.os.trans aj.os,hk.tape.trans aj.tape,hk.output.trans aj.output,ek aj.size hk.size,λb ad aq=>
  (hk.block b (fQ ad aj.size) (λm=>(bk.new b m).elim aq (λq=>by omega))).trans (aj.block b ad aq)⟩
def cv.mono(h:cv M w P)(k:∀w,P w->Q w):cv M w Q:=λw' aj=>k w' (h w' aj)
def cv.and(h:cv M w P)(k:cv M w Q):cv M w (λw=>P w/\Q w):=λw' aj=>⟨h w' aj,k w' aj⟩
def aH.kS{c:α->List Value}{ys:List α}(h:aH w base e sz c aA n cap ys)(aq:∀ai,aA=some ai->¬M ai.block):cv M w (λw=>aH w base e sz c aA n cap ys):=λ_ aj=>aj.bS h aq
def k9(M O:Nat->Prop):Nat->Prop:=λb=>M b\/O b
def aI.sub(h:aI O w w')(dX:∀b,O b->M b):aI M w w':=h.mono λb _ ad=>dX b ad
end
end
def IN(jn:List (List UInt8)):Prop:=∀x,x∈jn->1<=x.length/\x.length<=4000
structure qy (w:World) (M D L:Nat->Prop) (p q:Nat) (jn:List (List UInt8)) (fF room:Nat):Prop where
 AE:lB w D q (gj jn) fF room
 ck:∃hD h5 j3 ys,w.heap[p]?=some (.cells #[q,ao hD h5 j3] 167 (0,0))/\aH w 0 107 1 gN.cs hD h5 j3 ys/\(∀ai,hD=some ai->L ai.block)/\ys.map (·.aB)=jn/\cv M w (λw=>∀y,y∈ys->aH w 0 5 1 cr y.v.a y.v.n y.v.c y.aB)
 p:L p
 sub:∀b,D b\/L b->M b
 b5:∀b,M b->b<w.heap.size
 gL:∀b,D b->¬L b
 ok:IN jn
def n5(D L:Nat->Prop):Nat->Prop:=λb=>D b\/L b
def qy.step{M M' D L:eZ}{p:Nat}{jn:List (eg)}(h:qy w M D L p q jn fF room)(aj:aI S w w')(bj:∀b,S b->M b)(aG:∀b,D b\/L b->¬S b)(bk:b4 w M M')(gW:∀b,M' b->b<(w':Nat)):qy w' M' D L p q jn fF room:=by
 obtain⟨hD,h5,j3,ys,af,an,aO,bt,cC⟩:=h.ck;exact⟨h.AE.ee aj (λb ad=>aG b (.inl ad)),⟨hD,h5,j3,ys,(aj.block _ (bZ af) (aG _ (.inr h.p))).trans af,aj.bS an (λai ak=>aG _ (.inr (aO ai ak))),aO,bt,cC.step (aj.sub bj) bk⟩,h.p,λb ad=>bk.up b (h.sub b ad),gW,h.gL,h.ok⟩
def sb.ee{c:Nat}{xs:List gN}(h:sb w base a n c xs)(aj:aI S w w')(bj:∀b,S b->b<base):sb w' base a n c xs:=
 ⟨aj.bS h.cj (λai ak k=>by have:=(h.cj.lt ai ak).1;have:=bj _ k;omega),λx X=>aj.bS (h.aB x X) (λai ak k=>by have:=((h.aB x X).lt ai ak).1;have:=bj _ k;omega)⟩
def sb.kS{M:eZ}{c:Nat}{xs:List gN}(h:sb w base a n c xs)(fe:∀b,M b->b<base\/(∃ai,a=some ai/\ai.block=b)\/(∃cs t fr,w.heap[b]?=some (.cells cs t fr)/\5≠t)):cv M w (λw=>∀y,y∈xs->aH w 0 5 1 cr y.v.a y.v.n y.v.c y.aB):=by
 intro w' aj y hy;refine aj.bS ((h.aB y hy).mono (gz _)) (λai ak k=>?_);rcases fe _ k with q|⟨nJ,p5,q⟩|⟨cs,t,fr,ad,dj⟩
 ·have:=((h.aB y hy).lt ai ak).1;omega
 ·exact(h.aB y hy).gT h.cj ah ai nJ ak p5 q.symm
 ·exact(h.aB y hy).eW ad dj ai ak rfl
def adS(M D L:eZ)(p q:Nat)(jn:List (eg))(fF room:Nat)(w:aC)(h:qy w M D L p q jn fF room):aS 45 #[p] w (adR jn w):=by
 obtain⟨hD,h5,j3,ys,af,an,aO,gC,cC⟩:=h.ck;have bH:w.cell? (p,1)=some ↑(ao hD h5 j3):=aL af rfl;have bV:xg w hD h5 j3 ys:=⟨an.aF,λx X=>(cC.c8 x X).aF⟩;have bg:h5=jn.length:=by rw[an.neq,<-gC,cx]
 have az:jn.length<=200000:=by have:=Le jn;have:=h.AE.p3;have:=h.AE.max;omega
 have e3:=h.ok;change aa _ at bV gC bg;clear h af an aO cC;go_enter func45,ntmps45;go_wp2_with fail;refine(YL _ _ _ ys _ bV (by rw[bg.out];exact az) (λx X=>(e3 x.aB (by rw[<-gC.out];exact nH X)).2)).mono ?_;rintro e _⟨cE,da,c1,cz,rfl,bu,ec,bn⟩;rw[gC.out]at ec;change aa _ at bu ec bn;go_wp2;go_ret;exact⟨cE,da,c1,cz,rfl,bu,ec,bn⟩
def adT(M O:eZ)(q:Nat)(jn:List (eg))(fF room:Nat)(w:aC)(H:lB w O q (gj jn) fF room)(e3:IN jn)(mM:∀b,O b->M b)(gW:∀b,M b->b<(w:Nat)):
  aS 43 #[.pointer (some (q,0))] w λe w'=>∃p,e=.returned (.tuple #[.pointer (some (p,0)),.int .i64 0])/\(w:Nat)<=p/\∃la,qy w' (k9 M la) O la p q jn (gj jn).length room/\aI O w w'/\(∀b,la b->(w:Nat)<=b):=by
 have YN:=H.max;have uv:=H.p3;replace H:=I H;go_enter func43,ntmps43;go_wp2_with fail;refine(adO O q _ _ _ _ H).mono ?_;rintro e w1⟨cE,_,_,rfl,c7,bE⟩;have fC:=c7.neq;replace c7:=I c7;replace bE:=I bE;replace fC:=I fC;go_wp2_with fail;refine(aoW _ _ _ jn _ c7.aF e3 (by rw[fC.out];omega)).mono ?_;rintro e _⟨ch,cF,c2,ys,rfl,cd,BJ,iX⟩;replace cd:=I cd;replace BJ:=I BJ;have fW:=I (bE.trans iX);clear iX;rw[fC.out];go_wp2_with fail;refine(ao2 O q _ _ _ _ (H.ext fW)).mono ?_;rintro e a6⟨rfl,kQ,iY⟩;replace kQ:=I kQ;replace iY:=I iY;go_wp2;go_ret2;have cZ:=bE.size;have z2:=fW.size;have z3:=iY.size;have adU:∀b,O b->b<(w:Nat):=λb ad=>gW b (mM b ad);have Tx:sb a6 w1 ch cF c2 ys:=cd.ee iY (λb ad=>by have:=adU b ad;omega);have Ty:=Tx.ext ((Z.refl a6).alloc (.cells #[q,ao ch cF c2] 167));have p6:∀ai,ch=some ai->(w1:Nat)<=ai.block/\ai.block<(a6:Nat):=λai ak=>Tx.cj.lt ai ak;refine⟨a6.heap.size,rfl,J,λb=>b=a6.heap.size\/∃ai,ch=some ai/\ai.block=b,⟨kQ.ext ((Z.refl _).alloc _),⟨ch,cF,c2,ys,mu _ _,Ty.cj.mono (gz _),λai ak=>.inr ⟨ai,ak,rfl⟩,BJ,Ty.kS (λb ad=>?_)⟩,.inl rfl,λb ad=>ad.elim (λk=>.inl (mM b k)) .inr,λb ad=>?_,λb ad a1=>?_,e3⟩,((aI.of fW).trans iY).alloc _,λb ad=>?_⟩
 ·rcases ad with ad|rfl|⟨ai,ak,rfl⟩
  ·have:=gW b ad;exact .inl J
  ·exact .inr (.inr ⟨_,_,_,mu _ _,ah⟩)
  ·exact .inr (.inl ⟨ai,ak,rfl⟩)
 ·have bp:(a6.alloc (.cells #[q,ao ch cF c2] 167)).heap.size=(a6:Nat)+1:=by simp
  rw[bp];rcases ad with ad|rfl|⟨ai,ak,rfl⟩
  ·have:=gW b ad;omega
  ·omega
  ·have:=p6 ai ak;omega
 ·have:=adU b ad;rcases a1 with rfl|⟨ai,ak,rfl⟩
  ·omega
  ·have:=p6 ai ak;omega
 ·rcases ad with rfl|⟨ai,ak,rfl⟩
  ·omega
  ·have:=p6 ai ak;omega
end Go.Proofs.YtfiiblnenhdlhaaGreat
